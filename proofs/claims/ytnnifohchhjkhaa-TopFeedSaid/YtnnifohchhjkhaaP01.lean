/-
 What the beasts of a pound have lU by their pens is what they are charged for, and those who stand in the pens are those who are inside: at every input, without any condition.
-/
import Derived.Below
import Derived.CallsIn
import Derived.DeepKeys
import Derived.Great.BuildSlice
import Derived.Laws.OwnMore
import Derived.Laws.Rows
import Derived.OwnWalkIn
namespace Go.Sx
open Go Go.RowKit
inductive CV where
 | val (v:Value)
 | row (k:Nat) (es:List (List CV))
 | ref (cs:List CV)
 | fn (f:FuncId) (caps:List CV)
mutual
def CV.holds (w:World) (S:Nat→Prop):CV→Value→Prop
 | .val x,v=>v=x∧x.oneCell'=true
 | .row k es,v=>∃ (a:Option Addr) (cap:Nat),v=.slice a es.length cap∧es.length≤cap∧cap≤maxLen ∧
   (es=[]∨∃ b o,a=some ⟨b,o,none⟩∧S b∧CV.rows w S k es b o)
 | .ref cs,v=>∃ b o,v=.pointer (some ⟨b,o,none⟩)∧S b∧CV.cells w S cs b o
 | .fn f caps,v=>∃ vs,v=.func (.func f) #[] vs∧CV.vals w S caps vs.toList
def CV.cells (w:World) (S:Nat→Prop):List CV→Nat→Nat→Prop
 | [],_,_=>True
 | c::cs,b,o=>(∃ x,w.cell? ⟨b,o,none⟩=some x∧CV.holds w S c x)∧CV.cells w S cs b (o+1)
def CV.rows (w:World) (S:Nat→Prop) (k:Nat):List (List CV)→Nat→Nat→Prop
 | [],_,_=>True
 | e::es,b,o=>e.length=k∧CV.cells w S e b o∧CV.rows w S k es b (o+k)
def CV.vals (w:World) (S:Nat→Prop):List CV→List Value→Prop
 | [],[]=>True
 | c::cs,v::vs=>CV.holds w S c v∧CV.vals w S cs vs
 | _,_=>False
end
structure RO (w:World) (S:Nat→Prop) (w':World) (S':Nat→Prop):Prop where
 sub:∀ b,S b→S' b
 same:∀ b,S b→w'.heap[b]? = w.heap[b]?
theorem RO.refl (w:World) (S:Nat→Prop):RO w S w S:=⟨fun _ h=>h,fun _ _=>rfl⟩
theorem RO.trans {w w' w'':World} {S S' S'':Nat→Prop} (h:RO w S w' S') (h':RO w' S' w'' S''):RO w S w'' S'':=
 ⟨fun b hb=>h'.sub b (h.sub b hb),fun b hb=>(h'.same b (h.sub b hb)).trans (h.same b hb)⟩
theorem RO.cell {w w':World} {S S':Nat→Prop} (h:RO w S w' S') {b o:Nat} (hb:S b):w'.cell? ⟨b,o,none⟩=w.cell? ⟨b,o,none⟩:=by
 simp [World.cell?,h.same b hb]
mutual
theorem CV.holds.mono {w w':World} {S S':Nat→Prop} (h:RO w S w' S'):∀ (c:CV) (v:Value),CV.holds w S c v→CV.holds w' S' c v
 | .val _,_,hv=>by simpa [CV.holds] using hv
 | .row k es,v,hv=>by
  simp only [CV.holds] at hv ⊢
  obtain ⟨a,cap,h1,h2,h3,h4⟩:=hv
  refine ⟨a,cap,h1,h2,h3,?_⟩
  rcases h4 with h4 | ⟨b,o,h4,h5,h6⟩
  ·exact .inl h4
  ·exact .inr ⟨b,o,h4,h.sub b h5,CV.rows.mono h k es b o h5 h6⟩
 | .ref cs,v,hv=>by
  simp only [CV.holds] at hv ⊢
  obtain ⟨b,o,h1,h2,h3⟩:=hv
  exact ⟨b,o,h1,h.sub b h2,CV.cells.mono h cs b o h2 h3⟩
 | .fn f caps,v,hv=>by
  simp only [CV.holds] at hv ⊢
  obtain ⟨vs,h1,h2⟩:=hv
  exact ⟨vs,h1,CV.vals.mono h caps _ h2⟩
theorem CV.cells.mono {w w':World} {S S':Nat→Prop} (h:RO w S w' S'):∀ (cs:List CV) (b o:Nat),S b→CV.cells w S cs b o→CV.cells w' S' cs b o
 | [],_,_,_,_=>by simp [CV.cells]
 | c::cs,b,o,hb,hv=>by
  simp only [CV.cells] at hv ⊢
  obtain ⟨⟨x,h1,h2⟩,h3⟩:=hv
  exact ⟨⟨x,(h.cell hb).trans h1,CV.holds.mono h c x h2⟩,CV.cells.mono h cs b (o+1) hb h3⟩
theorem CV.rows.mono {w w':World} {S S':Nat→Prop} (h:RO w S w' S') (k:Nat):∀ (es:List (List CV)) (b o:Nat),S b→CV.rows w S k es b o→CV.rows w' S' k es b o
 | [],_,_,_,_=>by simp [CV.rows]
 | e::es,b,o,hb,hv=>by
  simp only [CV.rows] at hv ⊢
  obtain ⟨h1,h2,h3⟩:=hv
  exact ⟨h1,CV.cells.mono h e b o hb h2,CV.rows.mono h k es b (o+k) hb h3⟩
theorem CV.vals.mono {w w':World} {S S':Nat→Prop} (h:RO w S w' S'):∀ (cs:List CV) (vs:List Value),CV.vals w S cs vs→CV.vals w' S' cs vs
 | [],[],_=>by simp [CV.vals]
 | c::cs,v::vs,hv=>by
  simp only [CV.vals] at hv ⊢
  exact ⟨CV.holds.mono h c v hv.1,CV.vals.mono h cs vs hv.2⟩
 | [],_::_,hv=>by simp [CV.vals] at hv
 | _::_,[],hv=>by simp [CV.vals] at hv
end
theorem CV.rows.get {w:World} {S:Nat→Prop} {k:Nat}:∀ {es:List (List CV)} {b o:Nat},CV.rows w S k es b o→∀ (i:Nat) (h:i<es.length),es[i].length=k∧CV.cells w S es[i] b (o+i*k)
 | [],_,_,_,i,h=>by simp at h
 | e::es,b,o,hv,0,h=>by
  simp only [CV.rows] at hv
  simpa using ⟨hv.1,hv.2.1⟩
 | e::es,b,o,hv,i+1,h=>by
  simp only [CV.rows] at hv
  have:=CV.rows.get hv.2.2 i (by simpa using h)
  rw [show o+k+i*k=o+(i+1)*k by rw [Nat.add_mul];omega] at this
  simpa using this
theorem CV.cells.drop {w:World} {S:Nat→Prop}:∀ {cs:List CV} {b o:Nat},CV.cells w S cs b o→∀ (j:Nat),CV.cells w S (cs.drop j) b (o+j)
 | cs,b,o,hv,0=>by simpa using hv
 | [],b,o,hv,j+1=>by simp [CV.cells]
 | c::cs,b,o,hv,j+1=>by
  simp only [CV.cells] at hv
  have:=CV.cells.drop hv.2 j
  rw [show o+1+j=o+(j+1) by omega] at this
  simpa using this
theorem CV.cells.take {w:World} {S:Nat→Prop}:∀ {cs:List CV} {b o:Nat},CV.cells w S cs b o→∀ (j:Nat),CV.cells w S (cs.take j) b o
 | cs,b,o,hv,0=>by simp [CV.cells]
 | [],b,o,hv,j+1=>by simp [CV.cells]
 | c::cs,b,o,hv,j+1=>by
  simp only [CV.cells] at hv
  simp only [List.take_succ_cons,CV.cells]
  exact ⟨hv.1,CV.cells.take hv.2 j⟩
theorem CV.cells.vals {w:World} {S:Nat→Prop}:∀ {cs:List CV} {b o:Nat},CV.cells w S cs b o→∃ vs:List Value,CV.vals w S cs vs∧vs.length=cs.length∧∀ j v,vs[j]? = some v→w.cell? ⟨b,o+j,none⟩=some v
 | [],_,_,_=>⟨[],by simp [CV.vals],rfl,by simp⟩
 | c::cs,b,o,hv=>by
  simp only [CV.cells] at hv
  obtain ⟨⟨x,h1,h2⟩,h3⟩:=hv
  obtain ⟨vs,h4,h5,h6⟩:=CV.cells.vals h3
  refine ⟨x::vs,by simpa [CV.vals] using ⟨h2,h4⟩,by simp [h5],?_⟩
  intro j v hj
  cases j with
  | zero=>simpa [h1] using hj
  | succ j =>
   have:=h6 j v (by simpa using hj)
   rw [show o+(j+1)=o+1+j by omega]
   exact this
theorem CV.vals.length {w:World} {S:Nat→Prop}:∀ {cs:List CV} {vs:List Value},CV.vals w S cs vs→vs.length=cs.length
 | [],[],_=>rfl
 | _::_,_::_,h=>by simp only [CV.vals] at h;simp [CV.vals.length h.2]
 | [],_::_,h=>by simp [CV.vals] at h
 | _::_,[],h=>by simp [CV.vals] at h
theorem CV.vals.append {w:World} {S:Nat→Prop}:∀ {cs cs':List CV} {vs vs':List Value},CV.vals w S cs vs→CV.vals w S cs' vs'→CV.vals w S (cs++cs') (vs++vs')
 | [],_,[],_,_,h'=>by simpa using h'
 | _::_,_,_::_,_,h,h'=>by
  simp only [CV.vals] at h
  simpa [CV.vals] using ⟨h.1,CV.vals.append h.2 h'⟩
 | [],_,_::_,_,h,_=>by simp [CV.vals] at h
 | _::_,_,[],_,h,_=>by simp [CV.vals] at h
theorem CV.cells.of_vals {w:World} {S:Nat→Prop} {b:Nat}:∀ {cs:List CV} {vs:List Value} {o:Nat},CV.vals w S cs vs→(∀ j v,vs[j]? = some v→w.cell? ⟨b,o+j,none⟩=some v)→CV.cells w S cs b o
 | [],_,_,_,_=>by simp [CV.cells]
 | c::cs,v::vs,o,h,hc=>by
  simp only [CV.vals] at h
  simp only [CV.cells]
  refine ⟨⟨v,by simpa using hc 0 v rfl,h.1⟩,CV.cells.of_vals h.2 fun j v hj=>?_⟩
  have:=hc (j+1) v (by simpa using hj)
  rwa [show o+(j+1)=o+1+j by omega] at this
 | _::_,[],_,h,_=>by simp [CV.vals] at h
theorem CV.rows.of_vals {w:World} {S:Nat→Prop} {b k:Nat}:∀ {es:List (List CV)} {vs:List Value} {o:Nat},(∀ e∈es,e.length=k)→CV.vals w S es.flatten vs→(∀ j v,vs[j]? = some v→w.cell? ⟨b,o+j,none⟩=some v)→CV.rows w S k es b o
 | [],_,_,_,_,_=>by simp [CV.rows]
 | e::es,vs,o,hk,h,hc=>by
  have hsplit:∀ {cs cs':List CV} {vs:List Value},CV.vals w S (cs++cs') vs→CV.vals w S cs (vs.take cs.length)∧CV.vals w S cs' (vs.drop cs.length):=by
   intro cs
   induction cs with
   | nil=>intro cs' vs h;exact ⟨by simp [CV.vals],by simpa using h⟩
   | cons c cs ih =>
    intro cs' vs h
    cases vs with
    | nil=>simp [CV.vals] at h
    | cons v vs =>
     simp only [List.cons_append,CV.vals] at h
     have:=ih h.2
     simp only [List.length_cons,List.take_succ_cons,List.drop_succ_cons,CV.vals]
     exact ⟨⟨h.1,this.1⟩,this.2⟩
  simp only [List.flatten_cons] at h
  have hs:=hsplit h
  have hek:=hk e (by simp)
  simp only [CV.rows]
  refine ⟨hek,CV.cells.of_vals hs.1 fun j v hj=>hc j v ?_,CV.rows.of_vals (fun e he=>hk e (by simp [he])) hs.2 fun j v hj=>?_⟩
  ·rw [List.getElem?_take] at hj
   split at hj
   ·exact hj
   ·cases hj
  ·rw [List.getElem?_drop] at hj
   have:=hc _ v hj
   rwa [hek,show o+(k+j)=o+k+j by omega] at this
theorem CV.holds.one {w:World} {S:Nat→Prop}:∀ {c:CV} {v:Value},CV.holds w S c v→v.oneCell'=true
 | .val x,v,h=>by simp only [CV.holds] at h;rw [h.1];exact h.2
 | .row k es,v,h=>by simp only [CV.holds] at h;obtain ⟨a,cap,rfl,_⟩:=h;rfl
 | .ref cs,v,h=>by simp only [CV.holds] at h;obtain ⟨b,o,rfl,_⟩:=h;rfl
 | .fn f caps,v,h=>by simp only [CV.holds] at h;obtain ⟨vs,rfl,_⟩:=h;rfl
theorem CV.vals.one {w:World} {S:Nat→Prop}:∀ {cs:List CV} {vs:List Value},CV.vals w S cs vs→∀ v∈vs,v.oneCell'=true
 | [],[],_,v,h=>by simp at h
 | _::_,_::_,h,v,hv=>by
  simp only [CV.vals] at h
  rcases List.mem_cons.1 hv with rfl | hv
  ·exact h.1.one
  ·exact CV.vals.one h.2 v hv
 | [],_::_,h,_,_=>by simp [CV.vals] at h
 | _::_,[],h,_,_=>by simp [CV.vals] at h
end Go.Sx
namespace Go.Sx
open Go Go.RowKit
inductive AV where
 | any
 | cv (c:CV)
 | ptr (i off:Nat)
 | own (i ver:Nat)
 | opt (i ver el o:Nat)
 | agg (cs:List AV)
 | tup (vs:List AV)
 | fn (f:FuncId) (caps:List AV)
 | gd (L:List Bool) (x:AV)
structure Env where
 ρ:Nat→Nat
 hdr:Nat→Nat→Value
 S:Nat→Prop
 base:Nat
 H:Nat→Option (Obj×Bool)
 y:Bool
structure Box where
 live:Bool
 T:TypeId
 cs:List AV
structure Vec where
 live:Bool
 T:TypeId
 k:Nat
 ver:Nat
 es:List (List CV)
def aX:Value→Option Nat
 | .slice (some a) _ (_+1)=>some a.block
 | .map (some b)=>some b
 | _=>none
def OwnsS (w:World) (n0:Nat) (T:TypeId) (k:Nat) (v:Value) (n:Nat) (xs:List Value):Prop:=
 (∃ a,v=.slice a 0 0∧n=0∧xs=[])∨(w.ownsRow n0 T k v n xs∧∃ g,aX v=some g∧v.ownBlock=some g)
theorem OwnsS.one {w:World} {n0:Nat} {T:TypeId} {k:Nat} {v:Value} {n:Nat} {xs:List Value} (h:OwnsS w n0 T k v n xs):v.oneCell'=true:=by
 rcases h with ⟨a,rfl,_⟩ | ⟨h,_⟩
 ·rfl
 ·rcases h.2 with ⟨rfl,_⟩ | ⟨g,cap,cur,rfl,_⟩ <;> rfl
theorem OwnsS.slice {w:World} {n0:Nat} {T:TypeId} {k:Nat} {v:Value} {n:Nat} {xs:List Value} (h:OwnsS w n0 T k v n xs):∃ a c,v=.slice a n c∧n≤c∧c≤maxLen:=by
 rcases h with ⟨a,rfl,rfl,_⟩ | ⟨h,_⟩
 ·exact ⟨a,0,rfl,Nat.le_refl _,Nat.zero_le _⟩
 ·rcases h.2 with ⟨rfl,rfl⟩ | ⟨g,cap,cur,rfl,_,_,h1,h2,_⟩
  ·exact ⟨_,_,rfl,Nat.le_refl _,Nat.zero_le _⟩
  ·exact ⟨_,_,rfl,h1,h2⟩
theorem OwnsS.len {w:World} {n0:Nat} {T:TypeId} {k:Nat} {v:Value} {n:Nat} {xs:List Value} (h:OwnsS w n0 T k v n xs):xs.length=n*k:=by
 rcases h with ⟨a,rfl,rfl,rfl⟩ | ⟨h,_⟩
 ·simp
 ·exact h.1
theorem OwnsS.of_row {w:World} {n0:Nat} {T:TypeId} {k:Nat} {v:Value} {n:Nat} {xs:List Value} (h:w.ownsRow n0 T k v n xs):OwnsS w n0 T k v n xs:=by
 rcases h.2 with ⟨rfl,rfl⟩ | ⟨g,cap,cur,rfl,a1,a2,a3,a4⟩
 ·exact .inl ⟨none,rfl,rfl,by simpa using h.1⟩
 ·cases cap with
  | zero =>
   obtain rfl:n=0:=by omega
   exact .inl ⟨_,rfl,rfl,by simpa using h.1⟩
  | succ cap=>exact .inr ⟨h,g,rfl,rfl⟩
theorem OwnsS.lt {w:World} {n0:Nat} {T:TypeId} {k:Nat} {v:Value} {n:Nat} {xs:List Value} (h:OwnsS w n0 T k v n xs):∀ g,aX v=some g→n0≤g∧g<w.heap.size:=by
 intro g hg
 rcases h with ⟨a,rfl,_⟩ | ⟨h,g',h1,h2⟩
 ·cases a <;> simp [aX] at hg
 ·rw [hg] at h1;cases h1;exact h.lt g h2
theorem OwnsS.keep {w w':World} {n0:Nat} {T:TypeId} {k:Nat} {v:Value} {n:Nat} {xs:List Value} (h:OwnsS w n0 T k v n xs) (hk:∀ g,aX v=some g→w'.heap[g]? = w.heap[g]?):OwnsS w' n0 T k v n xs:=by
 rcases h with h | ⟨⟨h0,h1⟩,g',h3,h4⟩
 ·exact .inl h
 ·refine .inr ⟨⟨h0,?_⟩,g',h3,h4⟩
  rcases h1 with h1 | ⟨g,cap,cur,a1,a2,a3,a4⟩
  ·exact .inl h1
  ·refine .inr ⟨g,cap,cur,a1,a2,(hk g ?_).trans a3,a4⟩
   rw [h3];rw [a1] at h4;simp [Value.ownBlock] at h4;rw [h4]
theorem OwnsS.cells {w:World} {n0:Nat} {T:TypeId} {k:Nat} {v:Value} {n:Nat} {xs:List Value} (h:OwnsS w n0 T k v n xs) {g:Nat} (hg:aX v=some g):∀ j u,xs[j]? = some u→w.cell? ((⟨g,0,none⟩:Addr).add j)=some u:=by
 rcases h with ⟨a,rfl,_⟩ | ⟨h,g',h1,h2⟩
 ·cases a <;> simp [aX] at hg
 ·rw [hg] at h1;cases h1;exact h.cells h2
def aI:Nat:=1048576
def Vec.sl (v:Vec):Bool:=v.live&&decide (v.T<aI)
theorem Vec.sl_live {v:Vec} (h:v.sl=true):v.live=true:=by unfold Vec.sl at h;rw [Bool.and_eq_true] at h;exact h.1
theorem Vec.sl_T {v:Vec} (h:v.sl=true):v.T<aI:=by unfold Vec.sl at h;rw [Bool.and_eq_true] at h;exact of_decide_eq_true h.2
theorem Vec.sl_mk {v:Vec} (h:v.sl=true) (k ver:Nat) (es:List (List CV)):Vec.sl ⟨v.live,v.T,k,ver,es⟩=true:=h
def mkV:List Value→Value
 | [x]=>x
 | xs=>.agg xs.toArray
def OwnsM (w:World) (n0:Nat) (T:TypeId) (k:Nat) (v:Value) (n:Nat) (xs:List Value):Prop:=
 aI<T∧∃ (b:Nat) (arr:Array MapEntry),v=.map (some b)∧n0≤b∧w.heap[b]? = some (.map arr n)∧arr.size=n∧xs.length=n*k ∧
  ∀ i,i<n→arr[i]? = some { key:=mkV ((xs.drop (i*k)).take (T / aI - 1)),val:=mkV (((xs.drop (i*k)).take k).drop (T / aI - 1)),born:=i }
def OwnsV (w:World) (n0:Nat) (T:TypeId) (k:Nat) (v:Value) (n:Nat) (xs:List Value):Prop:=
 (T<aI∧OwnsS w n0 T k v n xs)∨OwnsM w n0 T k v n xs
section
variable {w w':World} {n0:Nat} {T:TypeId} {k:Nat} {v:Value} {n:Nat} {xs:List Value}
theorem OwnsV.s (h:OwnsV w n0 T k v n xs) (hT:T<aI):OwnsS w n0 T k v n xs:=by
 rcases h with h | h
 ·exact h.2
 ·exact absurd hT (Nat.not_lt.2 (Nat.le_of_lt h.1))
theorem OwnsV.ne (h:OwnsV w n0 T k v n xs):T≠aI:=by
 rcases h with h | h
 ·exact Nat.ne_of_lt h.1
 ·exact Nat.ne_of_gt h.1
theorem OwnsV.one (h:OwnsV w n0 T k v n xs):v.oneCell'=true:=by
 rcases h with ⟨_,h⟩ | ⟨_,b,arr,rfl,_⟩
 ·exact h.one
 ·rfl
theorem OwnsV.of_row (hT:T<aI) (h:w.ownsRow n0 T k v n xs):OwnsV w n0 T k v n xs:=.inl ⟨hT,OwnsS.of_row h⟩
theorem OwnsV.m (h:OwnsV w n0 T k v n xs) (hT:aI≤T):OwnsM w n0 T k v n xs:=by
 rcases h with h | h
 ·exact absurd h.1 (Nat.not_lt.2 hT)
 ·exact h
theorem OwnsV.lt (h:OwnsV w n0 T k v n xs):∀ g,aX v=some g→n0≤g∧g<w.heap.size:=by
 rcases h with ⟨_,h⟩ | ⟨_,b,arr,rfl,h1,h2,_⟩
 ·exact h.lt
 ·intro g hg
  simp only [aX,Option.some.injEq] at hg
  subst hg
  exact ⟨h1,(Array.getElem?_eq_some_iff.1 h2).1⟩
theorem OwnsV.keep (h:OwnsV w n0 T k v n xs) (hk:∀ g,aX v=some g→w'.heap[g]? = w.heap[g]?):OwnsV w' n0 T k v n xs:=by
 rcases h with ⟨hT,h⟩ | ⟨h0,b,arr,rfl,h1,h2,h3⟩
 ·exact .inl ⟨hT,h.keep hk⟩
 ·exact .inr ⟨h0,b,arr,rfl,h1,(hk b rfl).trans h2,h3⟩
end
def gQ:List AV→Bool
 | .gd [false] .any::_=>true
 | _=>false
def aCk (n:Nat):Value→Value
 | .pointer (some a)=>.slice (some a) n n
 | _=>.slice none 0 0
def fnV (f:FuncId) (b:Bool) (vs:Array Value):Value:=match b with
 | false=>.func (.func f) #[] vs
 | true=>if vs.size=3 then aCk f (vs.getD 2 undef) else .func (.func f) (vs.extract 1 vs.size) #[]
theorem LO (f:FuncId) {b:Array Value} (hb:b.size=1):fnV f true (#[undef]++b)=.func (.func f) b #[]:=by
 have:((#[undef]++b).extract 1 (#[undef]++b).size)=b:=by
  apply Array.ext'
  simp
 have hs:¬(#[undef]++b).size=3:=by simp [hb]
 simp only [fnV,this,hs,if_false]
theorem ZU (n:Nat) (v:Value):(aCk n v).oneCell'=true:=by unfold aCk;split <;> rfl
theorem aCl (f:FuncId) (b:Bool) (vs:Array Value):(fnV f b vs).oneCell'=true:=by
 cases b with
 | false=>rfl
 | true =>
  simp only [fnV]
  split
  ·exact ZU _ _
  ·rfl
mutual
def AV.holds (e:Env) (w:World) (ks:List Nat):AV→Value→Prop
 | .any,_=>True
 | .cv c,v=>CV.holds w e.S c v
 | .ptr i off,v=>v=.pointer (some ⟨e.ρ i,off,none⟩)
 | .own i ver,v=>v=e.hdr i ver∧v.oneCell'=true
 | .opt i ver el o,v=>∃ b,aX (e.hdr i ver)=some b∧v=.pointer (some ⟨b,el*ks.getD i 0+o,none⟩)
 | .agg cs,v=>∃ vs,v=.agg vs∧AV.all e w ks cs vs.toList
 | .tup cs,v=>∃ vs,v=.tuple vs∧AV.all e w ks cs vs.toList
 | .fn f caps,v=>∃ vs,v=fnV f (gQ caps) vs∧AV.all e w ks caps vs.toList
 | .gd L x,v=>((∀ b∈L,b=true)→AV.holds e w ks x v)∧((¬∀ b∈L,b=true)→v=undef)
def AV.all (e:Env) (w:World) (ks:List Nat):List AV→List Value→Prop
 | [],[]=>True
 | c::cs,v::vs=>AV.holds e w ks c v∧AV.all e w ks cs vs
 | _,_=>False
end
def AV.slb (n i off:Nat):AV:=.fn n [.gd [false] .any,.any,.ptr i off]
theorem AV.slb_holds {e:Env} {w:World} {ks:List Nat} {n i off:Nat} {v:Value}:AV.holds e w ks (AV.slb n i off) v↔v=.slice (some ⟨e.ρ i,off,none⟩) n n:=by
 unfold AV.slb
 simp only [AV.holds,gQ]
 constructor
 ·rintro ⟨vs,rfl,h⟩
  match hv:vs.toList,h with
  | [a,b,c],h =>
   simp only [AV.all,AV.holds,and_true] at h
   have hs:vs.size=3:=by rw [← Array.length_toList,hv];rfl
   have hc:vs.getD 2 undef=c:=by
    have:vs=#[a,b,c]:=by apply Array.ext';rw [hv]
    rw [this];rfl
   simp only [fnV,hs,if_true,hc,h.2.2,aCk]
  | [],h=>simp [AV.all] at h
  | [_],h=>simp [AV.all] at h
  | [_,_],h=>simp [AV.all] at h
  | _::_::_::_::_,h=>simp [AV.all] at h
 ·rintro rfl
  refine ⟨#[undef,undef,.pointer (some ⟨e.ρ i,off,none⟩)],rfl,?_⟩
  simp [AV.all,AV.holds]
mutual
def AV.sco (nB:Nat) (vers:List Nat):AV→Prop
 | .any=>True
 | .cv _=>True
 | .ptr i _=>i<nB
 | .own i u=>i<vers.length∧u≤vers.getD i 0
 | .opt i u _ _=>i<vers.length∧u≤vers.getD i 0
 | .agg cs=>AV.scos nB vers cs
 | .tup cs=>AV.scos nB vers cs
 | .fn _ cs=>AV.scos nB vers cs
 | .gd _ x=>AV.sco nB vers x
def AV.scos (nB:Nat) (vers:List Nat):List AV→Prop
 | []=>True
 | c::cs=>AV.sco nB vers c∧AV.scos nB vers cs
end
structure Ext (e:Env) (w:World) (nB:Nat) (vers ks:List Nat) (e':Env) (w':World) (nB':Nat) (vers' ks':List Nat):Prop where
 ro:RO w e.S w' e'.S
 ρ:∀ i,i<nB→e'.ρ i=e.ρ i
 hdr:∀ i u,i<vers.length→u≤vers.getD i 0→e'.hdr i u=e.hdr i u
 nB:nB≤nB'
 nV:vers.length≤vers'.length
 verle:∀ i,i<vers.length→vers.getD i 0≤vers'.getD i 0
 kseq:∀ i,i<vers.length→ks'.getD i 0=ks.getD i 0
 sz:w.heap.size≤w'.heap.size
 snew:∀ b,e'.S b→e.S b∨e.base≤b
 be:e'.base=e.base
 he:e.y=false→e'.H=e.H
 ye:e'.y=e.y
theorem Ext.refl (e:Env) (w:World) (nB:Nat) (vers ks:List Nat):Ext e w nB vers ks e w nB vers ks:=
 ⟨RO.refl _ _,fun _ _=>rfl,fun _ _ _ _=>rfl,Nat.le_refl _,Nat.le_refl _,fun _ _=>Nat.le_refl _,fun _ _=>rfl,Nat.le_refl _,fun _ h=>.inl h,rfl,fun _=>rfl,rfl⟩
theorem Ext.trans {e e' e'':Env} {w w' w'':World} {n n' n'':Nat} {vs vs' vs'' ks ks' ks'':List Nat}
  (h:Ext e w n vs ks e' w' n' vs' ks') (h':Ext e' w' n' vs' ks' e'' w'' n'' vs'' ks''):Ext e w n vs ks e'' w'' n'' vs'' ks'':=
 ⟨h.ro.trans h'.ro,fun i hi=>(h'.ρ i (Nat.lt_of_lt_of_le hi h.nB)).trans (h.ρ i hi),
  fun i u hi hu=>(h'.hdr i u (Nat.lt_of_lt_of_le hi h.nV) (Nat.le_trans hu (h.verle i hi))).trans (h.hdr i u hi hu),
  Nat.le_trans h.nB h'.nB,Nat.le_trans h.nV h'.nV,fun i hi=>Nat.le_trans (h.verle i hi) (h'.verle i (Nat.lt_of_lt_of_le hi h.nV)),
  fun i hi=>(h'.kseq i (Nat.lt_of_lt_of_le hi h.nV)).trans (h.kseq i hi),Nat.le_trans h.sz h'.sz,fun b hb=>(h'.snew b hb).elim (h.snew b) fun hl=>.inr (h.be▸hl),h'.be.trans h.be,fun hy=>(h'.he (h.ye.trans hy)).trans (h.he hy),h'.ye.trans h.ye⟩
section
variable {e e':Env} {w w':World} {nB nB':Nat} {vers vers' ks ks':List Nat}
mutual
theorem AV.holds.mono (h:Ext e w nB vers ks e' w' nB' vers' ks'):∀ (x:AV) (v:Value),AV.sco nB vers x→AV.holds e w ks x v→AV.holds e' w' ks' x v
 | .any,_,_,_=>by simp [AV.holds]
 | .cv c,v,_,hv=>by simp only [AV.holds] at hv ⊢;exact CV.holds.mono h.ro c v hv
 | .ptr i off,v,hs,hv=>by simp only [AV.holds,AV.sco] at hv hs ⊢;rw [h.ρ i hs];exact hv
 | .own i u,v,hs,hv=>by simp only [AV.holds,AV.sco] at hv hs ⊢;rw [h.hdr i u hs.1 hs.2];exact hv
 | .opt i u el o,v,hs,hv=>by
  simp only [AV.holds,AV.sco] at hv hs ⊢;rw [h.hdr i u hs.1 hs.2,h.kseq i hs.1];exact hv
 | .agg cs,v,hs,hv=>by
  simp only [AV.holds,AV.sco] at hv hs ⊢
  obtain ⟨vs,h1,h2⟩:=hv
  exact ⟨vs,h1,AV.all.mono h cs _ hs h2⟩
 | .tup cs,v,hs,hv=>by
  simp only [AV.holds,AV.sco] at hv hs ⊢
  obtain ⟨vs,h1,h2⟩:=hv
  exact ⟨vs,h1,AV.all.mono h cs _ hs h2⟩
 | .fn f cs,v,hs,hv=>by
  simp only [AV.holds,AV.sco] at hv hs ⊢
  obtain ⟨vs,h1,h2⟩:=hv
  exact ⟨vs,h1,AV.all.mono h cs _ hs h2⟩
 | .gd L x,v,hs,hv=>by
  simp only [AV.holds,AV.sco] at hv hs ⊢
  exact ⟨fun hb=>AV.holds.mono h x v hs (hv.1 hb),hv.2⟩
theorem AV.all.mono (h:Ext e w nB vers ks e' w' nB' vers' ks'):∀ (xs:List AV) (vs:List Value),AV.scos nB vers xs→AV.all e w ks xs vs→AV.all e' w' ks' xs vs
 | [],[],_,_=>by simp [AV.all]
 | x::xs,v::vs,hs,hv=>by
  simp only [AV.all,AV.scos] at hv hs ⊢
  exact ⟨AV.holds.mono h x v hs.1 hv.1,AV.all.mono h xs vs hs.2 hv.2⟩
 | [],_::_,_,hv=>by simp [AV.all] at hv
 | _::_,[],_,hv=>by simp [AV.all] at hv
end
mutual
theorem AV.sco.mono (h1:nB≤nB') (h2:vers.length≤vers'.length) (h3:∀ i,i<vers.length→vers.getD i 0≤vers'.getD i 0):∀ (x:AV),AV.sco nB vers x→AV.sco nB' vers' x
 | .any,_=>by simp [AV.sco]
 | .cv _,_=>by simp [AV.sco]
 | .ptr i _,hs=>by simp only [AV.sco] at hs ⊢;omega
 | .own i u,hs=>by simp only [AV.sco] at hs ⊢;have:=h3 i hs.1;omega
 | .opt i u _ _,hs=>by simp only [AV.sco] at hs ⊢;have:=h3 i hs.1;omega
 | .agg cs,hs=>by simp only [AV.sco] at hs ⊢;exact AV.scos.mono h1 h2 h3 cs hs
 | .tup cs,hs=>by simp only [AV.sco] at hs ⊢;exact AV.scos.mono h1 h2 h3 cs hs
 | .fn _ cs,hs=>by simp only [AV.sco] at hs ⊢;exact AV.scos.mono h1 h2 h3 cs hs
 | .gd _ x,hs=>by simp only [AV.sco] at hs ⊢;exact AV.sco.mono h1 h2 h3 x hs
theorem AV.scos.mono (h1:nB≤nB') (h2:vers.length≤vers'.length) (h3:∀ i,i<vers.length→vers.getD i 0≤vers'.getD i 0):∀ (xs:List AV),AV.scos nB vers xs→AV.scos nB' vers' xs
 | [],_=>by simp [AV.scos]
 | x::xs,hs=>by
  simp only [AV.scos] at hs ⊢
  exact ⟨AV.sco.mono h1 h2 h3 x hs.1,AV.scos.mono h1 h2 h3 xs hs.2⟩
end
theorem Ext.scos (h:Ext e w nB vers ks e' w' nB' vers' ks') {x:List AV} (hs:AV.scos nB vers x):AV.scos nB' vers' x:=AV.scos.mono h.nB h.nV h.verle x hs
end
theorem AV.all.length {e:Env} {w:World} {ks:List Nat}:∀ {xs:List AV} {vs:List Value},AV.all e w ks xs vs→vs.length=xs.length
 | [],[],_=>rfl
 | _::_,_::_,h=>by simp only [AV.all] at h;simp [AV.all.length h.2]
 | [],_::_,h=>by simp [AV.all] at h
 | _::_,[],h=>by simp [AV.all] at h
theorem AV.all.get {e:Env} {w:World} {ks:List Nat}:∀ {xs:List AV} {vs:List Value},AV.all e w ks xs vs→∀ {i:Nat} {x:AV},xs[i]? = some x→∃ v,vs[i]? = some v∧AV.holds e w ks x v
 | [],[],_,i,x,h=>by simp at h
 | c::cs,v::vs,hv,0,x,h=>by
  simp only [AV.all] at hv
  simp at h;subst h
  exact ⟨v,rfl,hv.1⟩
 | c::cs,v::vs,hv,i+1,x,h=>by
  simp only [AV.all] at hv
  exact AV.all.get hv.2 (by simpa using h)
 | [],_::_,h,_,_,_=>by simp [AV.all] at h
 | _::_,[],h,_,_,_=>by simp [AV.all] at h
theorem AV.all.set {e:Env} {w:World} {ks:List Nat}:∀ {xs:List AV} {vs:List Value},AV.all e w ks xs vs→∀ (i:Nat) {x:AV} {v:Value},AV.holds e w ks x v→AV.all e w ks (xs.set i x) (vs.set i v)
 | [],[],_,i,x,v,_=>by simp [AV.all]
 | c::cs,u::vs,hv,0,x,v,h=>by
  simp only [AV.all] at hv
  simpa [AV.all] using ⟨h,hv.2⟩
 | c::cs,u::vs,hv,i+1,x,v,h=>by
  simp only [AV.all] at hv
  simpa [AV.all] using ⟨hv.1,AV.all.set hv.2 i h⟩
 | [],_::_,h,_,_,_,_=>by simp [AV.all] at h
 | _::_,[],h,_,_,_,_=>by simp [AV.all] at h
theorem AV.all.append {e:Env} {w:World} {ks:List Nat}:∀ {xs ys:List AV} {vs us:List Value},AV.all e w ks xs vs→AV.all e w ks ys us→AV.all e w ks (xs++ys) (vs++us)
 | [],_,[],_,_,h'=>by simpa using h'
 | _::_,_,_::_,_,h,h'=>by
  simp only [AV.all] at h
  simpa [AV.all] using ⟨h.1,AV.all.append h.2 h'⟩
 | [],_,_::_,_,h,_=>by simp [AV.all] at h
 | _::_,_,[],_,h,_=>by simp [AV.all] at h
theorem AV.all.drop {e:Env} {w:World} {ks:List Nat}:∀ {xs:List AV} {vs:List Value},AV.all e w ks xs vs→∀ (n:Nat),AV.all e w ks (xs.drop n) (vs.drop n)
 | xs,vs,h,0=>by simpa using h
 | [],[],_,n+1=>by simp [AV.all]
 | _::_,_::_,h,n+1=>by
  simp only [AV.all] at h
  simpa using AV.all.drop h.2 n
 | [],_::_,h,_=>by simp [AV.all] at h
 | _::_,[],h,_=>by simp [AV.all] at h
theorem AV.all.take {e:Env} {w:World} {ks:List Nat}:∀ {xs:List AV} {vs:List Value},AV.all e w ks xs vs→∀ (n:Nat),AV.all e w ks (xs.take n) (vs.take n)
 | xs,vs,h,0=>by simp [AV.all]
 | [],[],_,n+1=>by simp [AV.all]
 | _::_,_::_,h,n+1=>by
  simp only [AV.all] at h
  simpa [AV.all] using ⟨h.1,AV.all.take h.2 n⟩
 | [],_::_,h,_=>by simp [AV.all] at h
 | _::_,[],h,_=>by simp [AV.all] at h
theorem AV.all.of_vals {e:Env} {w:World} {ks:List Nat}:∀ {cs:List CV} {vs:List Value},CV.vals w e.S cs vs→AV.all e w ks (cs.map .cv) vs
 | [],[],_=>by simp [AV.all]
 | _::_,_::_,h=>by
  simp only [CV.vals] at h
  simpa [AV.all,AV.holds] using ⟨h.1,AV.all.of_vals h.2⟩
 | [],_::_,h=>by simp [CV.vals] at h
 | _::_,[],h=>by simp [CV.vals] at h
theorem AV.scos_get {nB:Nat} {vers:List Nat}:∀ {xs:List AV},AV.scos nB vers xs→∀ {i:Nat} {x:AV},xs[i]? = some x→AV.sco nB vers x
 | [],_,i,x,h=>by simp at h
 | c::cs,hs,0,x,h=>by simp only [AV.scos] at hs;simp at h;subst h;exact hs.1
 | c::cs,hs,i+1,x,h=>by simp only [AV.scos] at hs;exact AV.scos_get hs.2 (by simpa using h)
theorem AV.scos_iff {nB:Nat} {vers:List Nat}:∀ {xs:List AV},AV.scos nB vers xs↔∀ x∈xs,AV.sco nB vers x
 | []=>by simp [AV.scos]
 | c::cs=>by simp [AV.scos,AV.scos_iff (xs:=cs)]
theorem AV.scos_cv (nB:Nat) (vers:List Nat) (cs:List CV):AV.scos nB vers (cs.map .cv):=by
 rw [AV.scos_iff];intro x hx;obtain ⟨c,_,rfl⟩:=List.mem_map.1 hx;simp [AV.sco]
end Go.Sx
namespace Go.Sx
open Go Go.RowKit
abbrev vers (V:List Vec):List Nat:=V.map (·.ver)
abbrev kss (V:List Vec):List Nat:=V.map (·.k)
abbrev ghT:Nat:=aI
class Ghost where
 J:List (List CV)→(Nat→Option (Obj×Bool))→Prop
 lo:Nat
 w:World
def Env.nb (e:Env) (n0:Nat):Nat:=if e.y=true then 0 else n0
theorem Env.nb_le (e:Env) (n0:Nat):e.nb n0≤n0:=by unfold Env.nb;split <;> omega
theorem Env.nb_false {e:Env} (h:e.y=false) (n0:Nat):e.nb n0=n0:=by unfold Env.nb;rw [h];simp
section
variable [G:Ghost]
def GW (w:World):Prop:=w.os=G.w.os∧w.tape=G.w.tape∧w.output=G.w.output
structure Hid (e:Env) (B:List Box) (V:List Vec) (w:World):Prop where
 obj:∀ (b:Nat) (o:Obj) (f:Bool),e.H b=some (o,f)→w.heap[b]? = some o
 box:∀ (i:Nat) (b:Box),B[i]? = some b→b.live=true→e.H (e.ρ i)=none
 vec:∀ (i:Nat) (x:Vec) (g:Nat),V[i]? = some x→x.live=true→aX (e.hdr i x.ver)=some g→e.H g=none
 gh:∀ (i:Nat) (x:Vec),V[i]? = some x→x.T=ghT→i=0∧e.y=true∧G.J x.es e.H∧G.lo≤e.base
 own:∀ (b:Nat) (o:Obj),e.S b→e.H b≠some (o,true)
structure Mem (n0:Nat) (w0:World) (e:Env) (B:List Box) (V:List Vec) (w:World):Prop where
 box:∀ (i:Nat) (b:Box),B[i]? = some b→b.live=true→∃ vs:Array Value,w.heap[e.ρ i]? = some (.cells vs b.T (0,0))∧AV.all e w (kss V) b.cs vs.toList
 boxsc:∀ (i:Nat) (b:Box),B[i]? = some b→AV.scos B.length (vers V) b.cs
 boxlo:∀ (i:Nat) (b:Box),B[i]? = some b→b.live=true→n0≤e.ρ i∧¬e.S (e.ρ i)
 boxinj:∀ (i j:Nat) (b b':Box),B[i]? = some b→B[j]? = some b'→b.live=true→b'.live=true→e.ρ i=e.ρ j→i=j
 vec:∀ (i:Nat) (x:Vec),V[i]? = some x→x.live=true→∃ xs,OwnsV w n0 x.T x.k (e.hdr i x.ver) x.es.length xs∧CV.vals w e.S x.es.flatten xs∧∀ l∈x.es,l.length=x.k
 vecS:∀ (i:Nat) (x:Vec) (g:Nat),V[i]? = some x→x.live=true→aX (e.hdr i x.ver)=some g→¬e.S g
 vecbox:∀ (i:Nat) (x:Vec) (j:Nat) (b:Box) (g:Nat),V[i]? = some x→x.live=true→B[j]? = some b→b.live=true→aX (e.hdr i x.ver)=some g→e.ρ j≠g
 vecinj:∀ (i:Nat) (x:Vec) (j:Nat) (y:Vec) (g:Nat),V[i]? = some x→x.live=true→V[j]? = some y→y.live=true→aX (e.hdr i x.ver)=some g→aX (e.hdr j y.ver)=some g→i=j
 ro:∀ b:Nat,e.S b→b<w.heap.size
 below:Below (e.nb n0) w0 w
 base:n0≤w.heap.size
 bl:e.base≤n0∧(e.y=true→GW w0)
 hid:Hid e B V w
theorem Mem.nbase {n0:Nat} {w0:World} {e:Env} {B:List Box} {V:List Vec} {w:World} (h:Mem n0 w0 e B V w):e.nb n0≤w.heap.size:=Nat.le_trans (e.nb_le n0) h.base
theorem Mem.liveT {n0:Nat} {w0:World} {e:Env} {B:List Box} {V:List Vec} {w:World} (h:Mem n0 w0 e B V w) {i:Nat} {x:Vec} (hi:V[i]? = some x) (hl:x.live=true):x.T≠ghT:=by
 obtain ⟨xs,h1,_⟩:=h.vec i x hi hl
 exact h1.ne
def SameG (V V':List Vec):Prop:=∀ (i:Nat) (x:Vec),V'[i]? = some x→x.T=ghT→∃ x0,V[i]? = some x0∧x0.T=ghT∧x0.es=x.es
theorem SameG.refl (V:List Vec):SameG V V:=have _:=G;fun _ x h1 h2=>⟨x,h1,h2,rfl⟩
theorem SameG.set {V:List Vec} {i:Nat} {y:Vec} (h:y.T≠ghT):SameG V (V.set i y):=by
 have _:=G
 intro j x hx hT
 rw [List.getElem?_set] at hx
 split at hx
 ·split at hx
  ·cases hx;exact absurd hT h
  ·cases hx
 ·exact ⟨x,hx,hT,rfl⟩
theorem SameG.app {V ds:List Vec} (h:∀ y∈ds,y.T≠ghT):SameG V (V++ds):=by
 have _:=G
 intro j x hx hT
 rw [List.getElem?_append] at hx
 split at hx
 ·exact ⟨x,hx,hT,rfl⟩
 ·exact absurd hT (h x (List.mem_of_getElem? hx))
section
variable {e e':Env} {B B':List Box} {V V':List Vec} {w w':World}
theorem Hid.new (h:Hid e B V w) {b:Nat} (hb:w.heap.size≤b):e.H b=none:=by
 cases ho:e.H b with
 | none=>rfl
 | some o =>
  have:=(Array.getElem?_eq_some_iff.1 (h.obj b o.1 o.2 ho)).1
  omega
theorem Hid.of (h:Hid e B V w) (hH:e'.H=e.H) (hy:e'.y=e.y∧e'.base=e.base) (hS:∀ b,e'.S b→e.S b∨e.H b=none) (hG:SameG V V') (hobj:∀ b,b<w.heap.size→e.H b≠none→w'.heap[b]? = w.heap[b]?)
  (hB:∀ (i:Nat) (b:Box),B'[i]? = some b→b.live=true→(∃ i' b',B[i']? = some b'∧b'.live=true∧e'.ρ i=e.ρ i')∨w.heap.size≤e'.ρ i)
  (hV:∀ (i:Nat) (x:Vec) (g:Nat),V'[i]? = some x→x.live=true→aX (e'.hdr i x.ver)=some g→(∃ i' x',V[i']? = some x'∧x'.live=true∧aX (e.hdr i' x'.ver)=some g)∨w.heap.size≤g):Hid e' B' V' w':=by
 refine ⟨fun b o f ho=>?_,fun i b hb hl=>?_,fun i x g hx hl hg=>?_,fun i x hx hT=>?_,fun b o hb=>?_⟩
 ·rw [hH] at ho
  have h1:=h.obj b o f ho
  rw [hobj b (Array.getElem?_eq_some_iff.1 h1).1 (by rw [ho];simp)]
  exact h1
 ·rw [hH]
  rcases hB i b hb hl with ⟨i',b',h1,h2,h3⟩ | h1
  ·rw [h3];exact h.box i' b' h1 h2
  ·exact h.new h1
 ·rw [hH]
  rcases hV i x g hx hl hg with ⟨i',x',h1,h2,h3⟩ | h1
  ·exact h.vec i' x' g h1 h2 h3
  ·exact h.new h1
 ·obtain ⟨x0,h1,h2,h3⟩:=hG i x hx hT
  rw [hy.1,hy.2,hH,← h3]
  exact h.gh i x0 h1 h2
 ·rw [hH]
  rcases hS b hb with h1 | h1
  ·exact h.own b o h1
  ·rw [h1];simp
theorem Hid.keep (h:Hid e B V w) (hk:∀ b,b<w.heap.size→w'.heap[b]? = w.heap[b]?):Hid e B V w':=
 h.of rfl ⟨rfl,rfl⟩ (fun _ h=>.inl h) (SameG.refl V) (fun b hb _=>hk b hb) (fun i b hb hl=>.inl ⟨i,b,hb,hl,rfl⟩) (fun i x _ hx hl hg=>.inl ⟨i,x,hx,hl,hg⟩)
end
theorem LP {e:Env} {w w':World} {B:List Box} {V:List Vec} (h:∀ b,e.S b→w'.heap[b]? = w.heap[b]?) (hs:w.heap.size≤w'.heap.size) :
  Ext e w B.length (vers V) (kss V) e w' B.length (vers V) (kss V):=have _:=G;
 ⟨⟨fun _ hb=>hb,h⟩,fun _ _=>rfl,fun _ _ _ _=>rfl,Nat.le_refl _,Nat.le_refl _,fun _ _=>Nat.le_refl _,fun _ _=>rfl,hs,fun _ h=>.inl h,rfl,fun _=>rfl,rfl⟩
section
variable {n0:Nat} {w0:World} {e:Env} {B:List Box} {V:List Vec} {w w':World}
theorem Mem.lt_box (h:Mem n0 w0 e B V w) {i:Nat} {b:Box} (hb:B[i]? = some b) (hl:b.live=true):e.ρ i<w.heap.size:=by
 obtain ⟨vs,h1,_⟩:=h.box i b hb hl
 exact (Array.getElem?_eq_some_iff.1 h1).1
theorem Mem.keep (h:Mem n0 w0 e B V w) (hk:∀ b,b<w.heap.size→w'.heap[b]? = w.heap[b]?) (hs:w.heap.size≤w'.heap.size) (hb:Below (e.nb n0) w0 w'):Mem n0 w0 e B V w':=by
 have hx:Ext e w B.length (vers V) (kss V) e w' B.length (vers V) (kss V):=LP (fun b hb=>hk b (h.ro b hb)) hs
 refine ⟨fun i b hi hl=>?_,h.boxsc,h.boxlo,h.boxinj,fun i x hi hl=>?_,h.vecS,h.vecbox,h.vecinj,fun b hb=>Nat.lt_of_lt_of_le (h.ro b hb) hs,hb,Nat.le_trans h.base hs,h.bl,h.hid.keep hk⟩
 ·obtain ⟨vs,h1,h2⟩:=h.box i b hi hl
  exact ⟨vs,(hk _ (Array.getElem?_eq_some_iff.1 h1).1).trans h1,AV.all.mono hx _ _ (h.boxsc i b hi) h2⟩
 ·obtain ⟨xs,h1,h2,h3⟩:=h.vec i x hi hl
  exact ⟨xs,h1.keep fun g hg=>hk g (h1.lt g hg).2,CV.vals.mono hx.ro _ _ h2,h3⟩
theorem Mem.drew (h:Mem n0 w0 e B V w):Mem n0 w0 e B V w.drew:=h.keep (fun _ _=>rfl) (Nat.le_refl _) h.below.drew
theorem ZV:Ext e w B.length (vers V) (kss V) e w.drew B.length (vers V) (kss V):=LP (fun _ _=>rfl) (Nat.le_refl _)
theorem Mem.newBox (h:Mem n0 w0 e B V w) (T:TypeId) (cs:List AV) (vs:Array Value) (hsc:AV.scos B.length (vers V) cs) (hv:AV.all e w (kss V) cs vs.toList) :
  ∃ e',Mem n0 w0 e' (B++[Box.mk true T cs]) V (w.alloc (.cells vs T)) ∧
   Ext e w B.length (vers V) (kss V) e' (w.alloc (.cells vs T)) (B++[Box.mk true T cs]).length (vers V) (kss V)∧e'.ρ B.length=w.heap.size∧e'.S=e.S∧e'.hdr=e.hdr:=by
 let e':Env:={ e with ρ:=fun i=>if i=B.length then w.heap.size else e.ρ i }
 have hρ:∀ i,i<B.length→e'.ρ i=e.ρ i:=fun i hi=>by simp [e',Nat.ne_of_lt hi]
 have hx:Ext e w B.length (vers V) (kss V) e' (w.alloc (.cells vs T)) (B++[Box.mk true T cs]).length (vers V) (kss V):=
  ⟨⟨fun _ hb=>hb,fun b hb=>heap_alloc_old w _ b (h.ro b hb)⟩,hρ,fun _ _ _ _=>rfl,by simp,Nat.le_refl _,fun _ _=>Nat.le_refl _,fun _ _=>rfl,by simp,fun _ h=>.inl h,rfl,fun _=>rfl,rfl⟩
 have hnew:e'.ρ B.length=w.heap.size:=by simp [e']
 have hget:∀ (i:Nat) (b:Box),(B++[Box.mk true T cs])[i]? = some b→(i<B.length∧B[i]? = some b)∨(i=B.length∧b=Box.mk true T cs):=by
  intro i b hb
  rw [List.getElem?_append] at hb
  split at hb
  ·exact .inl ⟨‹_›,hb⟩
  ·rename_i hi
   have:i=B.length:=by
    cases hk:i - B.length with
    | zero=>omega
    | succ k=>rw [hk] at hb;simp at hb
   subst this
   simp at hb
   exact .inr ⟨rfl,hb.symm⟩
 refine ⟨e',⟨?_,?_,?_,?_,?_,?_,?_,?_,?_,?_,?_,h.bl,h.hid.of rfl ⟨rfl,rfl⟩ (fun _ h=>.inl h) (SameG.refl V) (fun b hb _=>heap_alloc_old w _ b hb) (fun i b hb hl=>?_) (fun i x g hi hl hg=>.inl ⟨i,x,hi,hl,hg⟩)⟩,hx,hnew,rfl,rfl⟩
 rotate_left 11
 ·rcases hget i b hb with ⟨hi,hb⟩ | ⟨rfl,rfl⟩
  ·exact .inl ⟨i,b,hb,hl,hρ i hi⟩
  ·exact .inr (by rw [hnew];exact Nat.le_refl _)
 ·intro i b hb hl
  rcases hget i b hb with ⟨hi,hb⟩ | ⟨rfl,rfl⟩
  ·obtain ⟨us,h1,h2⟩:=h.box i b hb hl
   refine ⟨us,?_,AV.all.mono hx _ _ (h.boxsc i b hb) h2⟩
   rw [hρ i hi,heap_alloc_old w _ _ (Array.getElem?_eq_some_iff.1 h1).1]
   exact h1
  ·exact ⟨vs,by rw [hnew];exact heap_alloc_new w _,AV.all.mono hx _ _ hsc hv⟩
 ·intro i b hb
  rcases hget i b hb with ⟨hi,hb⟩ | ⟨rfl,rfl⟩
  ·exact hx.scos (h.boxsc i b hb)
  ·exact hx.scos hsc
 ·intro i b hb hl
  rcases hget i b hb with ⟨hi,hb⟩ | ⟨rfl,rfl⟩
  ·rw [hρ i hi];exact h.boxlo i b hb hl
  ·rw [hnew];exact ⟨h.base,fun hc=>Nat.lt_irrefl _ (h.ro _ hc)⟩
 ·intro i j b b' hb hb' hl hl' heq
  rcases hget i b hb with ⟨hi,hb⟩ | ⟨rfl,rfl⟩ <;> rcases hget j b' hb' with ⟨hj,hb'⟩ | ⟨rfl,rfl⟩
  ·rw [hρ i hi,hρ j hj] at heq;exact h.boxinj i j b b' hb hb' hl hl' heq
  ·rw [hρ i hi,hnew] at heq;have:=h.lt_box hb hl;omega
  ·rw [hρ j hj,hnew] at heq;have:=h.lt_box hb' hl';omega
  ·rfl
 ·intro i x hi hl
  obtain ⟨xs,h1,h2,h3⟩:=h.vec i x hi hl
  exact ⟨xs,h1.keep fun g hg=>heap_alloc_old w _ g (h1.lt g hg).2,CV.vals.mono hx.ro _ _ h2,h3⟩
 ·exact h.vecS
 ·intro i x j b g hi hl hb hlb hg
  rcases hget j b hb with ⟨hj,hb⟩ | ⟨rfl,rfl⟩
  ·rw [hρ j hj];exact h.vecbox i x j b g hi hl hb hlb hg
  ·rw [hnew]
   obtain ⟨xs,h1,h2,h3⟩:=h.vec i x hi hl
   have:=(h1.lt g hg).2
   omega
 ·exact h.vecinj
 ·intro b hb;have:=h.ro b hb;simp;omega
 ·exact h.below.alloc h.nbase _
 ·have:=h.base;simp;omega
theorem Mem.setBox (h:Mem n0 w0 e B V w) {i:Nat} {b:Box} (hb:B[i]? = some b) (hl:b.live=true) (cs':List AV) (vs':Array Value)
  (hsc:AV.scos B.length (vers V) cs') (hv:AV.all e w (kss V) cs' vs'.toList) :
  Mem n0 w0 e (B.set i { b with cs:=cs' }) V (w.setRow (e.ρ i) vs') ∧
   Ext e w B.length (vers V) (kss V) e (w.setRow (e.ρ i) vs') (B.set i { b with cs:=cs' }).length (vers V) (kss V):=by
 obtain ⟨us,hu1,hu2⟩:=h.box i b hb hl
 have hlt:=h.lt_box hb hl
 have hi:i<B.length:=(List.getElem?_eq_some_iff.1 hb).1
 have hother:∀ k,k≠e.ρ i→(w.setRow (e.ρ i) vs').heap[k]? = w.heap[k]?:=by
  intro k hk
  simp only [World.setRow,Array.getElem?_modify]
  rw [if_neg (by omega)]
 have hthis:(w.setRow (e.ρ i) vs').heap[e.ρ i]? = some (.cells vs' b.T (0,0)):=by
  simp [World.setRow,Array.getElem?_modify,hu1]
 have hsize:(w.setRow (e.ρ i) vs').heap.size=w.heap.size:=by simp [World.setRow]
 have hx:Ext e w B.length (vers V) (kss V) e (w.setRow (e.ρ i) vs') (B.set i { b with cs:=cs' }).length (vers V) (kss V):=
  ⟨⟨fun _ hb=>hb,fun k hk=>hother k fun hc=>(h.boxlo i b hb hl).2 (hc▸hk)⟩,fun _ _=>rfl,fun _ _ _ _=>rfl,by simp,Nat.le_refl _,fun _ _=>Nat.le_refl _,fun _ _=>rfl,by rw [hsize];exact Nat.le_refl _,fun _ h=>.inl h,rfl,fun _=>rfl,rfl⟩
 have hget:∀ (j:Nat) (c:Box),(B.set i { b with cs:=cs' })[j]? = some c→(j≠i∧B[j]? = some c)∨(j=i∧c={ b with cs:=cs' }):=by
  intro j c hc
  rw [List.getElem?_set] at hc
  split at hc
  ·rename_i hij
   subst hij
   simp at hc
   exact .inr ⟨rfl,hc.symm⟩
  ·rename_i hij
   exact .inl ⟨fun h=>hij h.symm,hc⟩
 have hget':∀ (j:Nat) (c:Box),(B.set i { b with cs:=cs' })[j]? = some c→∃ c0:Box,B[j]? = some c0∧c0.live=c.live:=by
  intro j c hc
  rcases hget j c hc with ⟨_,hc⟩ | ⟨rfl,rfl⟩
  ·exact ⟨c,hc,rfl⟩
  ·exact ⟨b,hb,rfl⟩
 refine ⟨⟨?_,?_,?_,?_,?_,?_,?_,?_,?_,?_,?_,h.bl,h.hid.of rfl ⟨rfl,rfl⟩ (fun _ h=>.inl h) (SameG.refl V) (fun k _ hk=>hother k fun hc=>hk (hc▸h.hid.box i b hb hl)) (fun j c hc hl=>?_) (fun j x g hj hl hg=>.inl ⟨j,x,hj,hl,hg⟩)⟩,hx⟩
 rotate_left 11
 ·obtain ⟨c0,h1,h2⟩:=hget' j c hc
  exact .inl ⟨j,c0,h1,h2.trans hl,rfl⟩
 ·intro j c hc hcl
  rcases hget j c hc with ⟨hne,hc⟩ | ⟨rfl,rfl⟩
  ·obtain ⟨ys,h1,h2⟩:=h.box j c hc hcl
   refine ⟨ys,?_,AV.all.mono hx _ _ (h.boxsc j c hc) h2⟩
   rw [hother _ fun hc'=>hne (h.boxinj j i c b hc hb hcl hl hc')]
   exact h1
  ·exact ⟨vs',hthis,AV.all.mono hx _ _ hsc hv⟩
 ·intro j c hc
  rcases hget j c hc with ⟨hne,hc⟩ | ⟨rfl,rfl⟩
  ·exact hx.scos (h.boxsc j c hc)
  ·exact hx.scos hsc
 ·intro j c hc hcl
  obtain ⟨c0,h1,h2⟩:=hget' j c hc
  exact h.boxlo j c0 h1 (h2.trans hcl)
 ·intro j k c d hc hd hcl hdl heq
  obtain ⟨c0,h1,h2⟩:=hget' j c hc
  obtain ⟨d0,h3,h4⟩:=hget' k d hd
  exact h.boxinj j k c0 d0 h1 h3 (h2.trans hcl) (h4.trans hdl) heq
 ·intro j x hj hxl
  obtain ⟨xs,h1,h2,h3⟩:=h.vec j x hj hxl
  exact ⟨xs,h1.keep fun g hg=>hother g fun hc=>h.vecbox j x i b g hj hxl hb hl hg hc.symm,CV.vals.mono hx.ro _ _ h2,h3⟩
 ·exact h.vecS
 ·intro j x k c g hj hxl hc hcl hg
  obtain ⟨c0,h1,h2⟩:=hget' k c hc
  exact h.vecbox j x k c0 g hj hxl h1 (h2.trans hcl) hg
 ·exact h.vecinj
 ·intro k hk;rw [hsize];exact h.ro k hk
 ·refine h.below.trans ⟨rfl,rfl,rfl,by rw [hsize];exact Nat.le_refl _,fun k hk=>hother k ?_⟩
  have:=(h.boxlo i b hb hl).1
  have:=e.nb_le n0
  omega
 ·rw [hsize];exact h.base
end
end
end Go.Sx
namespace Go.Sx
open Go Go.RowKit
variable [G:Ghost]
section
variable {P:Program}
theorem OwnsV.base {w:World} {b b':Nat} {e:TypeId} {k:Nat} {v:Value} {n:Nat} {xs:List Value} (h:OwnsV w b e k v n xs) (hb:b'≤b):OwnsV w b' e k v n xs:=by
 have _:=G
 rcases h with ⟨hT,h | ⟨h,g,h1,h2⟩⟩ | ⟨h0,g,arr,h1,h2,h3⟩
 ·exact .inl ⟨hT,.inl h⟩
 ·refine .inl ⟨hT,.inr ⟨⟨h.1,?_⟩,g,h1,h2⟩⟩
  rcases h.2 with h | ⟨g,cap,cur,h1,h2,h3⟩
  ·exact .inl h
  ·exact .inr ⟨g,cap,cur,h1,Nat.le_trans hb h2,h3⟩
 ·exact .inr ⟨h0,g,arr,h1,Nat.le_trans hb h2,h3⟩
theorem QB (w:World) (base:Nat) (t ty e:TypeId) (i:TypeInfo) (z:Value) (size bytes:Nat) (ht:P.underlying t=some (.slice e)) (hi:P.info? e=some i) (hz:i.zero=some z)
  (hsize:i.size=size) (hby:i.bytes=bytes) (hzs:z.cells.size=size) (hsz:0<size)
  (v:Value) (n:Nat) (xs:List Value) (hown:OwnsS w base e size v n xs) (hT:e<aI)
  (ao:Option Addr) (m c:Nat) (news:List Value) (hl:news.length=m*size) (hao:ao=none→m=0) (hnews:∀ a,ao=some a→∀ j u,news[j]? = some u→w.cell? (a.add j)=some u) (h1:∀ u∈news,u.oneCell'=true)
  (h63:n+m≤maxLen) (hbytes:(n+m)*bytes≤140737488355328) (hbase:base≤w.heap.size) :
  ∃ v' w',(Builtin.append_ #[t,t] ty #[v,.slice ao m c]).run P w=.ok v' w'∧OwnsV w' base e size v' (n+m) (xs++news)∧w.grownBy w' (aX v) ∧
   (aX v'=aX v∨∀ g,aX v'=some g→w.heap.size≤g):=by
 have _:=G
 by_cases hm:m=0
 ·subst hm
  have hn:news=[]:=by simpa using hl
  subst hn
  obtain ⟨a,cp,rfl,hle,_⟩:=hown.slice
  refine ⟨.slice a n cp,w,?_,by simpa [OwnsV] using (Or.inl ⟨hT,hown⟩:(e<aI∧OwnsS w base e size (.slice a n cp) n xs)∨OwnsM w base e size (.slice a n cp) n xs),⟨rfl,rfl,rfl,Nat.le_refl _,fun _ _ _=>rfl⟩,.inl rfl⟩
  cases ao <;> cases a <;> simp [Builtin.append_,run_underlying ht,sizeOf,typeInfo,hi,Builtin.lenOf,Builtin.firstCells,hle,storeCells,loadCells,loadCellsFrom]
 ·obtain ⟨a,rfl⟩:∃ a,ao=some a:=by
   cases ao with
   | none=>exact absurd (hao rfl) hm
   | some a=>exact ⟨a,rfl⟩
  have hnews:=hnews a rfl
  have fresh:∀ (cp:Nat) (olds:List Value),xs=olds→n+m≤maxLen→cp<n+m→olds.length=n*i.size →
    OwnsV (w.drew.alloc (.cells (olds.toArray++news.toArray++Builtin.zeroCells z.cells (grownCap w (n+m) cp e - (n+m))) e)) base e size (.slice (some ⟨w.heap.size,0,none⟩) (n+m) (grownCap w (n+m) cp e)) (n+m) (xs++news):=by
   intro cp olds hx h63 hcp holds
   subst hx
   subst hsize
   have hge:=grownCap_ge w (n+m) cp e
   have hcm:grownCap w (n+m) cp e≤maxLen:=grownCap_le_maxLen w (n+m) cp e h63
   refine OwnsV.of_row hT ⟨by rw [List.length_append,holds,hl,Nat.add_mul],.inr ⟨w.heap.size,_,_,rfl,hbase,heap_alloc_new w.drew _,hge,hcm,?_,?_⟩⟩
   ·simp only [Array.size_append,List.size_toArray,size_zeroCells,hzs,holds,hl,← Nat.add_mul]
    congr 1
    omega
   ·simp only [Array.toList_append,List.append_assoc]
    rw [← List.append_assoc,show (n+m)*i.size=(xs++news).length by rw [List.length_append,holds,hl,Nat.add_mul]]
    exact List.take_left
  have hgrown:∀ (o:Obj) (row:Option Nat),w.grownBy (w.drew.alloc o) row:=fun o row=>⟨rfl,rfl,rfl,by simp,fun k hk _=>heap_alloc_old w.drew _ k hk⟩
  have hlast:∀ (nn:Nat) (cc:Nat) (g:Nat),aX (.slice (some ⟨w.heap.size,0,none⟩) nn cc)=some g→w.heap.size≤g:=by
   intro nn cc g hg
   cases cc <;> simp [aX] at hg
   omega
  rcases hown with ⟨a0,rfl,rfl,rfl⟩ | ⟨hown,g,hg1,hg2⟩
  ·cases a0 with
   | none =>
    have hr:=run_append_nil (P:=P) w t ty e i z ht hi hz a m c news (by rw [hsize];exact hl) hnews (by omega) (by simp only [maxLen] at h63;omega) (by rw [hby];simp only [Nat.zero_add] at hbytes;omega)
    have hf:=fresh 0 [] rfl h63 (by omega) (by simp)
    simp only [Nat.zero_add,Array.empty_append] at hf ⊢
    exact ⟨_,_,hr,by simpa using hf,hgrown _ _,.inr (hlast _ _)⟩
   | some b0 =>
    have hr:=run_append_grow (P:=P) w t ty e i z ht hi hz b0 0 0 [] (by simp) (by simp) a m c news (by rw [hsize];exact hl) hnews (by omega) (by simp only [maxLen] at h63;omega) (by rw [hby];exact growslice_fits (by omega) hbytes)
    exact ⟨_,_,hr,fresh 0 [] rfl h63 (by omega) (by simp),hgrown _ _,.inr (hlast _ _)⟩
  ·rcases hown.2 with ⟨rfl,rfl⟩ | ⟨g',cap,cur,rfl,hbg,hg,hnc,hcm,hcs,htake⟩
   ·simp [aX] at hg1
   ·obtain rfl:g'=g:=by simpa [Value.ownBlock] using hg2
    by_cases hroom:n+m≤cap
    ·obtain ⟨w',hr,ho,hgr⟩:=run_append_fits (P:=P) w base t ty e i size ht hi hsize g' n cap xs hown a m c news hl hnews h1 hroom
     have hob:aX (.slice (some ⟨g',0,none⟩) (n+m) cap)=some g':=by cases cap <;> simp_all [aX]
     exact ⟨_,w',hr,.inl ⟨hT,.inr ⟨ho,g',hob,rfl⟩⟩,by rw [hg1];exact hgr,.inl (by rw [hob,hg1])⟩
    ·have holds:∀ j u,xs[j]? = some u→w.cell? ((⟨g',0,none⟩:Addr).add j)=some u:=hown.cells (g:=g') rfl
     have hr:=run_append_grow (P:=P) w t ty e i z ht hi hz ⟨g',0,none⟩ n cap xs (by rw [hsize];exact hown.1) holds a m c news (by rw [hsize];exact hl) hnews (by omega) (by simp only [maxLen] at h63;omega) (by rw [hby];exact growslice_fits (by omega) hbytes)
     exact ⟨_,_,hr,fresh cap xs rfl h63 (by omega) (by rw [hsize];exact hown.1),hgrown _ _,.inr (hlast _ _)⟩
end
section
variable {n0:Nat} {w0:World} {e:Env} {B:List Box} {V:List Vec} {w w':World}
end
end Go.Sx
namespace Go.Sx
open Go Go.RowKit
variable [G:Ghost]
section
variable {n0:Nat} {w0:World} {e:Env} {B:List Box} {V:List Vec} {w w':World}
theorem WH {V:List Vec} {i:Nat} {x:Vec} (h:V[i]? = some x):(vers V).getD i 0=x.ver:=by have _:=G;simp [vers,List.getD,h]
theorem BV {V:List Vec} {i:Nat} {x:Vec} (h:V[i]? = some x):(kss V).getD i 0=x.k:=by have _:=G;simp [kss,List.getD,h]
theorem Mem.vecStep (h:Mem n0 w0 e B V w) {i:Nat} {x:Vec} (hi:V[i]? = some x) (hl:x.live=true) (v':Value) (es':List (List CV)) (xs':List Value)
  (hown:OwnsV w' n0 x.T x.k v' es'.length xs') (hvals:CV.vals w e.S es'.flatten xs') (hk:∀ l∈es',l.length=x.k)
  (hg:w.grownBy w' (aX (e.hdr i x.ver))) (hblk:aX v'=aX (e.hdr i x.ver)∨∀ g,aX v'=some g→w.heap.size≤g) :
  ∃ e',Mem n0 w0 e' B (V.set i { x with ver:=x.ver+1,es:=es' }) w' ∧
   Ext e w B.length (vers V) (kss V) e' w' B.length (vers (V.set i { x with ver:=x.ver+1,es:=es' })) (kss (V.set i { x with ver:=x.ver+1,es:=es' })) ∧
   e'.hdr i (x.ver+1)=v'∧e'.ρ=e.ρ∧e'.S=e.S:=by
 let e':Env:={ e with hdr:=fun j u=>if j=i∧u=x.ver+1 then v' else e.hdr j u }
 have hlt:i<V.length:=(List.getElem?_eq_some_iff.1 hi).1
 have hVi:V[i]=x:=(List.getElem?_eq_some_iff.1 hi).2
 have hhdr:∀ j u,(j≠i∨u≠x.ver+1)→e'.hdr j u=e.hdr j u:=by
  intro j u hju
  show (if j=i∧u=x.ver+1 then v' else e.hdr j u)=_
  rw [if_neg (by rintro ⟨rfl,rfl⟩;simp at hju)]
 have hnew:e'.hdr i (x.ver+1)=v':=by show (if _ then v' else _)=_;simp
 have hkeepS:∀ b,e.S b→w'.heap[b]? = w.heap[b]?:=fun b hb=>hg.block b (h.ro b hb) fun hc=>h.vecS i x b hi hl hc.symm hb
 have hget:∀ (j:Nat) (y:Vec),(V.set i { x with ver:=x.ver+1,es:=es' })[j]? = some y→(j≠i∧V[j]? = some y)∨(j=i∧y={ x with ver:=x.ver+1,es:=es' }):=by
  intro j y hy
  rw [List.getElem?_set] at hy
  split at hy
  ·rename_i hij
   subst hij
   simp at hy
   exact .inr ⟨rfl,hy.symm⟩
  ·rename_i hij
   exact .inl ⟨fun h=>hij h.symm,hy⟩
 have hx:Ext e w B.length (vers V) (kss V) e' w' B.length (vers (V.set i { x with ver:=x.ver+1,es:=es' })) (kss (V.set i { x with ver:=x.ver+1,es:=es' })):=by
  refine ⟨⟨fun _ hb=>hb,hkeepS⟩,fun _ _=>rfl,fun j u hj hu=>?_,Nat.le_refl _,by simp,fun j hj=>?_,fun j hj=>?_,hg.size,fun _ h=>.inl h,rfl,fun _=>rfl,rfl⟩
  ·apply hhdr
   by_cases hji:j=i
   ·subst hji
    rw [WH hi] at hu
    omega
   ·exact .inl hji
  ·simp only [vers,List.getD,List.getElem?_map,List.getElem?_set]
   split
   ·rename_i hij;subst hij
    simp [hlt,hVi]
   ·exact Nat.le_refl _
  ·simp only [kss,List.getD,List.getElem?_map,List.getElem?_set]
   split
   ·rename_i hij;subst hij
    simp [hlt,hVi]
   ·rfl
 have hlive:∀ (j:Nat) (y:Vec),(V.set i { x with ver:=x.ver+1,es:=es' })[j]? = some y→y.live=true →
   (j≠i∧V[j]? = some y∧e'.hdr j y.ver=e.hdr j y.ver)∨(j=i∧y={ x with ver:=x.ver+1,es:=es' }∧e'.hdr j y.ver=v'):=by
  intro j y hy _
  rcases hget j y hy with ⟨hne,hy⟩ | ⟨rfl,rfl⟩
  ·exact .inl ⟨hne,hy,hhdr j _ (.inl hne)⟩
  ·exact .inr ⟨rfl,rfl,hnew⟩
 refine ⟨e',⟨?_,?_,?_,?_,?_,?_,?_,?_,?_,?_,?_,h.bl,h.hid.of rfl ⟨rfl,rfl⟩ (fun _ h=>.inl h) (SameG.set (show x.T≠ghT from h.liveT hi hl)) (fun b hb' hk'=>hg.block b hb' fun hc=>hk' (h.hid.vec i x b hi hl hc.symm)) (fun i b hb hl=>.inl ⟨i,b,hb,hl,rfl⟩) (fun j y g hj hyl hgy=>?_)⟩,hx,hnew,rfl,rfl⟩
 rotate_left 11
 ·rcases hlive j y hj hyl with ⟨hne,hy,he⟩ | ⟨rfl,rfl,he⟩
  ·rw [he] at hgy;exact .inl ⟨j,y,hy,hyl,hgy⟩
  ·rw [he] at hgy
   rcases hblk with hblk | hblk
   ·rw [hblk] at hgy;exact .inl ⟨j,x,hi,hl,hgy⟩
   ·exact .inr (hblk g hgy)
 ·intro j b hb hbl
  obtain ⟨vs,a1,a2⟩:=h.box j b hb hbl
  refine ⟨vs,(hg.block _ (Array.getElem?_eq_some_iff.1 a1).1 fun hc=>?_).trans a1,AV.all.mono hx _ _ (h.boxsc j b hb) a2⟩
  exact h.vecbox i x j b _ hi hl hb hbl hc.symm rfl
 ·intro j b hb;exact hx.scos (h.boxsc j b hb)
 ·exact h.boxlo
 ·exact h.boxinj
 ·intro j y hy hyl
  rcases hlive j y hy hyl with ⟨hne,hy,he⟩ | ⟨rfl,rfl,he⟩
  ·obtain ⟨ys,a1,a2,a3⟩:=h.vec j y hy hyl
   refine ⟨ys,?_,CV.vals.mono hx.ro _ _ a2,a3⟩
   rw [he]
   exact a1.keep fun g hob=>hg.block g (a1.lt g hob).2 fun hc=>hne (h.vecinj j y i x g hy hyl hi hl hob hc.symm)
  ·exact ⟨xs',by rw [he];exact hown,CV.vals.mono hx.ro _ _ hvals,hk⟩
 ·intro j y g hy hyl hgy
  rcases hlive j y hy hyl with ⟨hne,hy,he⟩ | ⟨rfl,rfl,he⟩
  ·rw [he] at hgy;exact h.vecS j y g hy hyl hgy
  ·rw [he] at hgy
   intro hc
   rcases hblk with hblk | hblk
   ·rw [hblk] at hgy;exact h.vecS j x g hi hl hgy hc
   ·have:=hblk g hgy;have:=h.ro g hc;omega
 ·intro j y k b g hy hyl hb hbl hgy
  rcases hlive j y hy hyl with ⟨hne,hy,he⟩ | ⟨rfl,rfl,he⟩
  ·rw [he] at hgy;exact h.vecbox j y k b g hy hyl hb hbl hgy
  ·rw [he] at hgy
   rcases hblk with hblk | hblk
   ·rw [hblk] at hgy;exact h.vecbox j x k b g hi hl hb hbl hgy
   ·have:=hblk g hgy;have:=h.lt_box hb hbl
    intro hc
    have hc':e.ρ k=g:=hc
    omega
 ·intro j y k z g hy hyl hz hzl hgy hgz
  have fresh:∀ (j:Nat) (y:Vec),V[j]? = some y→y.live=true→∀ g,aX (e.hdr j y.ver)=some g→g<w.heap.size:=by
   intro j y hy hyl g hg'
   obtain ⟨ys,a1,_⟩:=h.vec j y hy hyl
   exact (a1.lt g hg').2
  rcases hlive j y hy hyl with ⟨hne,hy1,he⟩ | ⟨hji,hyx,he⟩ <;> rcases hlive k z hz hzl with ⟨hne',hz1,he'⟩ | ⟨hki,hzx,he'⟩
  ·rw [he] at hgy;rw [he'] at hgz;exact h.vecinj j y k z g hy1 hyl hz1 hzl hgy hgz
  ·rw [he] at hgy;rw [he'] at hgz
   rcases hblk with hblk | hblk
   ·rw [hblk] at hgz;exact (hne (h.vecinj j y i x g hy1 hyl hi hl hgy hgz)).elim
   ·have:=hblk g hgz;have:=fresh j y hy1 hyl g hgy;omega
  ·rw [he] at hgy;rw [he'] at hgz
   rcases hblk with hblk | hblk
   ·rw [hblk] at hgy;exact (hne' (h.vecinj k z i x g hz1 hzl hi hl hgz hgy)).elim
   ·have:=hblk g hgy;have:=fresh k z hz1 hzl g hgz;omega
  ·rw [hji,hki]
 ·intro b hb;exact Nat.lt_of_lt_of_le (h.ro b hb) hg.size
 ·refine h.below.grown hg h.nbase fun k hk=>?_
  obtain ⟨ys,a1,_⟩:=h.vec i x hi hl
  exact Nat.le_trans (e.nb_le n0) (a1.lt k hk).1
 ·exact Nat.le_trans h.base hg.size
theorem Mem.newVec (h:Mem n0 w0 e B V w) (T:TypeId) (k:Nat) (v':Value) (es':List (List CV)) (xs':List Value)
  (hown:OwnsV w' n0 T k v' es'.length xs') (hvals:CV.vals w e.S es'.flatten xs') (hk:∀ l∈es',l.length=k)
  (hg:w.grownBy w' none) (hblk:∀ g,aX v'=some g→w.heap.size≤g) :
  ∃ e',Mem n0 w0 e' B (V++[Vec.mk true T k 0 es']) w' ∧
   Ext e w B.length (vers V) (kss V) e' w' B.length (vers (V++[Vec.mk true T k 0 es'])) (kss (V++[Vec.mk true T k 0 es'])) ∧
   e'.hdr V.length 0=v'∧e'.ρ=e.ρ∧e'.S=e.S:=by
 let e':Env:={ e with hdr:=fun j u=>if j=V.length then v' else e.hdr j u }
 have hhdr:∀ j u,j<V.length→e'.hdr j u=e.hdr j u:=by
  intro j u hju
  show (if j=V.length then v' else e.hdr j u)=_
  rw [if_neg (by omega)]
 have hnew:∀ u,e'.hdr V.length u=v':=by intro u;show (if _ then v' else _)=_;simp
 have hkeep:∀ b,b<w.heap.size→w'.heap[b]? = w.heap[b]?:=fun b hb=>hg.block b hb (by simp)
 have hget:∀ (j:Nat) (y:Vec),(V++[Vec.mk true T k 0 es'])[j]? = some y→(j<V.length∧V[j]? = some y∧e'.hdr j y.ver=e.hdr j y.ver)∨(j=V.length∧y=Vec.mk true T k 0 es'∧e'.hdr j y.ver=v'):=by
  intro j y hy
  rw [List.getElem?_append] at hy
  split at hy
  ·exact .inl ⟨‹_›,hy,hhdr j _ ‹_›⟩
  ·rename_i hj
   have:j=V.length:=by
    cases hk:j - V.length with
    | zero=>omega
    | succ k=>rw [hk] at hy;simp at hy
   subst this
   simp at hy
   exact .inr ⟨rfl,hy.symm,hnew _⟩
 have hx:Ext e w B.length (vers V) (kss V) e' w' B.length (vers (V++[Vec.mk true T k 0 es'])) (kss (V++[Vec.mk true T k 0 es'])):=by
  refine ⟨⟨fun _ hb=>hb,fun b hb=>hkeep b (h.ro b hb)⟩,fun _ _=>rfl,fun j u hj hu=>hhdr j u (by simpa using hj),Nat.le_refl _,by simp,fun j hj=>?_,fun j hj=>?_,hg.size,fun _ h=>.inl h,rfl,fun _=>rfl,rfl⟩
  ·simp only [vers,List.length_map] at hj ⊢
   simp [List.getD,List.getElem?_append,hj]
  ·simp only [vers,kss,List.length_map] at hj ⊢
   simp [List.getD,List.getElem?_append,hj]
 have hlo:∀ (j:Nat) (y:Vec),V[j]? = some y→y.live=true→∀ g,aX (e.hdr j y.ver)=some g→g<w.heap.size:=by
  intro j y hy hyl g hg'
  obtain ⟨ys,a1,_⟩:=h.vec j y hy hyl
  exact (a1.lt g hg').2
 refine ⟨e',⟨?_,?_,h.boxlo,h.boxinj,?_,?_,?_,?_,?_,?_,?_,h.bl,h.hid.of rfl ⟨rfl,rfl⟩ (fun _ h=>.inl h) (SameG.app (by simp only [List.mem_singleton];rintro y rfl;exact hown.ne)) (fun b hb' _=>hkeep b hb') (fun i b hb hl=>.inl ⟨i,b,hb,hl,rfl⟩) (fun j y g hj hyl hgy=>?_)⟩,hx,hnew 0,rfl,rfl⟩
 rotate_left 9
 ·rcases hget j y hj with ⟨hj,hy,he⟩ | ⟨rfl,rfl,he⟩
  ·rw [he] at hgy;exact .inl ⟨j,y,hy,hyl,hgy⟩
  ·rw [he] at hgy;exact .inr (hblk g hgy)
 ·intro j b hb hbl
  obtain ⟨vs,a1,a2⟩:=h.box j b hb hbl
  exact ⟨vs,(hkeep _ (Array.getElem?_eq_some_iff.1 a1).1).trans a1,AV.all.mono hx _ _ (h.boxsc j b hb) a2⟩
 ·intro j b hb;exact hx.scos (h.boxsc j b hb)
 ·intro j y hy hyl
  rcases hget j y hy with ⟨hj,hy,he⟩ | ⟨rfl,rfl,he⟩
  ·obtain ⟨ys,a1,a2,a3⟩:=h.vec j y hy hyl
   refine ⟨ys,?_,CV.vals.mono hx.ro _ _ a2,a3⟩
   rw [he]
   exact a1.keep fun g hob=>hkeep g (a1.lt g hob).2
  ·exact ⟨xs',by rw [he];exact hown,CV.vals.mono hx.ro _ _ hvals,hk⟩
 ·intro j y g hy hyl hgy
  rcases hget j y hy with ⟨hj,hy,he⟩ | ⟨rfl,rfl,he⟩
  ·rw [he] at hgy;exact h.vecS j y g hy hyl hgy
  ·rw [he] at hgy
   intro hc
   have:=hblk g hgy;have:=h.ro g hc;omega
 ·intro j y l b g hy hyl hb hbl hgy
  rcases hget j y hy with ⟨hj,hy,he⟩ | ⟨rfl,rfl,he⟩
  ·rw [he] at hgy;exact h.vecbox j y l b g hy hyl hb hbl hgy
  ·rw [he] at hgy
   have:=hblk g hgy;have:=h.lt_box hb hbl
   intro hc
   have hc':e.ρ l=g:=hc
   omega
 ·intro j y l z g hy hyl hz hzl hgy hgz
  rcases hget j y hy with ⟨hne,hy,he⟩ | ⟨rfl,rfl,he⟩ <;> rcases hget l z hz with ⟨hne',hz,he'⟩ | ⟨rfl,rfl,he'⟩
  ·rw [he] at hgy;rw [he'] at hgz;exact h.vecinj j y l z g hy hyl hz hzl hgy hgz
  ·rw [he] at hgy;rw [he'] at hgz
   have:=hblk g hgz;have:=hlo j y hy hyl g hgy;omega
  ·rw [he] at hgy;rw [he'] at hgz
   have:=hblk g hgy;have:=hlo l z hz hzl g hgz;omega
  ·rfl
 ·intro b hb;exact Nat.lt_of_lt_of_le (h.ro b hb) hg.size
 ·exact h.below.grown hg h.nbase fun k hk=>by cases hk
 ·exact Nat.le_trans h.base hg.size
end
end Go.Sx
namespace Go.Sx
open Go Go.RowKit
variable [G:Ghost]
inductive TK where
 | strct (fs:List (Nat×Nat))
 | arr (n e k:Nat)
 | slc (e k bytes:Nat)
 | bool
 | int (k:IntKind)
 | ptr (e:Nat)
 | other
structure TI where
 size:Nat
 zero:List Value
 kind:TK
def aFi:TypeDesc→Bool
 | .slice e=>decide (e<aI)
 | _=>true
def bM (P:Program) (T:TypeId):Option TI:=
 match P.info? T,P.underlying T with
 | some i,some d=>if aFi d=true then some (TI.mk i.size (match i.zero with | some z=>z.cells.toList | none=>[])
   (match d with
    | .struct fs=>.strct (fs.toList.map fun f=>(f.offset,P.cellsOf f.type))
    | .array n e=>.arr n e (P.cellsOf e)
    | .slice e=>.slc e (P.cellsOf e) (P.bytesOf e)
    | .bool=>.bool
    | .int k=>.int k
    | .pointer e=>.ptr e
    | _=>.other)) else none
 | _,_=>none
def TK.agg:TK→Bool
 | .strct _=>true
 | .arr _ _ _=>true
 | _=>false
structure St where
 t:List AV
 B:List Box
 V:List Vec
def rJ (v:Value):AV:=if v.oneCell' then .cv (.val v) else .any
def St.ev (st:St):Operand→AV
 | .tmp t=>st.t.getD t .any
 | .const v=>rJ v
 | .global _=>.any
 | .func f=>.cv (.fn f [])
def St.put (st:St) (dst:Option Nat) (x:AV) (B:List Box) (V:List Vec):St:=
 ⟨match dst with | some d=>st.t.set d x | none=>st.t,B,V⟩
structure Rel (n0:Nat) (w0:World) (e:Env) (st:St) (a:Act) (w:World):Prop where
 tm:AV.all e w (kss st.V) st.t a.tmps.toList
 sc:AV.scos st.B.length (vers st.V) st.t
 mem:Mem n0 w0 e st.B st.V w
abbrev ExtS (e:Env) (st:St) (w:World) (e':Env) (B':List Box) (V':List Vec) (w':World):Prop:=
 Ext e w st.B.length (vers st.V) (kss st.V) e' w' B'.length (vers V') (kss V')
theorem Rel.ev {n0:Nat} {w0:World} {e:Env} {st:St} {a:Act} {w:World} (h:Rel n0 w0 e st a w) (x:Operand) :
  AV.holds e w (kss st.V) (st.ev x) (a.eval x)∧AV.sco st.B.length (vers st.V) (st.ev x):=by
 cases x with
 | tmp t =>
  simp only [St.ev,Act.eval,List.getD]
  cases hx:st.t[t]? with
  | none=>simp [AV.holds,AV.sco]
  | some x =>
   obtain ⟨v,h1,h2⟩:=h.tm.get hx
   have h1':a.tmps[t]? = some v:=by simpa using h1
   simp only [Option.getD_some]
   refine ⟨?_,AV.scos_get h.sc hx⟩
   have:a.tmps.getD t undef=v:=by simp [h1']
   rw [this];exact h2
 | const v =>
  simp only [St.ev,Act.eval,rJ]
  split
  ·simp_all [AV.holds,AV.sco,CV.holds]
  ·simp [AV.holds,AV.sco]
 | global g=>simp [St.ev,AV.holds,AV.sco]
 | func f=>simp [St.ev,Act.eval,AV.holds,AV.sco,CV.holds,CV.vals]
theorem Rel.put {n0:Nat} {w0:World} {e e':Env} {st:St} {a:Act} {w w':World} (h:Rel n0 w0 e st a w) {B':List Box} {V':List Vec} {x:AV} {v:Value}
  (hm:Mem n0 w0 e' B' V' w') (hx:ExtS e st w e' B' V' w') (hv:AV.holds e' w' (kss V') x v) (hs:AV.sco B'.length (vers V') x) (dst:Option Nat) :
  Rel n0 w0 e' (st.put dst x B' V') (a.put dst v) w':=by
 have h1:=AV.all.mono hx _ _ h.sc h.tm
 have h2:=hx.scos h.sc
 cases dst with
 | none=>exact ⟨h1,h2,hm⟩
 | some d =>
  refine ⟨?_,?_,hm⟩
  ·simp only [St.put,Act.put,Array.toList_setIfInBounds]
   exact h1.set d hv
  ·simp only [St.put]
   rw [AV.scos_iff] at h2 ⊢
   intro y hy
   rcases List.mem_or_eq_of_mem_set hy with hy | rfl
   ·exact h2 y hy
   ·exact hs
def Step (P:Program) (o:Oper) (st:St) (av:AV) (B':List Box) (V':List Vec):Prop:=
 ∀ n0 w0 e a w,Rel n0 w0 e st a w→∃ nx v w' e',(execOp a.eval o).run P w=.ok nx w'∧(nx=.value v∨(nx=.skip∧v=undef)) ∧
  Mem n0 w0 e' B' V' w'∧ExtS e st w e' B' V' w'∧AV.holds e' w' (kss V') av v∧AV.sco B'.length (vers V') av
theorem Step.pure {P:Program} {o:Oper} {st:St} {av:AV} (h:∀ n0 w0 e a w,Rel n0 w0 e st a w→∃ v,(execOp a.eval o).run P w=.ok (.value v) w∧AV.holds e w (kss st.V) av v∧AV.sco st.B.length (vers st.V) av) :
  Step P o st av st.B st.V:=fun n0 w0 e a w hr =>
 let ⟨v,h1,h2,h3⟩:=h n0 w0 e a w hr
 ⟨_,v,w,e,h1,.inl rfl,hr.mem,Ext.refl _ _ _ _ _,h2,h3⟩
section
variable {P:Program}
theorem fA {T:TypeId} {ti:TI} (h:bM P T=some ti):∃ i d,P.info? T=some i∧P.underlying T=some d∧i.size=ti.size ∧
  ti.zero=(match i.zero with | some z=>z.cells.toList | none=>[])∧ti.kind=(match d with
    | .struct fs=>TK.strct (fs.toList.map fun f=>(f.offset,P.cellsOf f.type))
    | .array n e=>.arr n e (P.cellsOf e)
    | .slice e=>.slc e (P.cellsOf e) (P.bytesOf e)
    | .bool=>.bool
    | .int k=>.int k
    | .pointer e=>.ptr e
    | _=>.other):=by
 have _:=G
 unfold bM at h
 split at h
 ·rename_i i d h1 h2
  split at h
  ·injection h with h
   subst h
   exact ⟨i,d,h1,h2,rfl,rfl,rfl⟩
  ·cases h
 ·cases h
theorem aCm {T e:TypeId} {ti:TI} (h:bM P T=some ti) (hu:P.underlying T=some (.slice e)):e<aI:=by
 have _:=G
 unfold bM at h
 rw [hu] at h
 split at h
 ·rename_i i d h1 h2
  cases h2
  split at h
  ·rename_i hc;exact of_decide_eq_true hc
  ·cases h
 ·cases h
theorem run_sizeOf {T:TypeId} {ti:TI} (h:bM P T=some ti) (w:World):(sizeOf T).run P w=.ok ti.size w:=by
 obtain ⟨i,d,h1,h2,h3,_⟩:=fA h
 simp [sizeOf,typeInfo,h1,h3]
theorem nC {T:TypeId} {ti:TI} (h:bM P T=some ti) (w:World):(isAgg T).run P w=.ok ti.kind.agg w:=by
 obtain ⟨i,d,h1,h2,_,_,h5⟩:=fA h
 unfold isAgg
 rw [Sem.run_bind,run_underlying h2,h5]
 cases d <;> simp [TK.agg]
theorem LQ {T:TypeId} {ti:TI} (h:bM P T=some ti) (hz:ti.zero≠[]) (w:World):∃ z,(zeroValue T).run P w=.ok z w∧z.cells.toList=ti.zero:=by
 obtain ⟨i,d,h1,h2,_,h4,_⟩:=fA h
 cases hi:i.zero with
 | none=>rw [hi] at h4;exact absurd h4 hz
 | some z=>exact ⟨z,by simp [zeroValue,typeInfo,h1,hi],by rw [h4,hi]⟩
end
def AV.cells:AV→Option (List AV)
 | .agg cs=>some cs
 | .cv c=>some [.cv c]
 | .ptr i o=>some [.ptr i o]
 | .own i u=>some [.own i u]
 | .fn f cs=>some [.fn f cs]
 | _=>none
def AV.one:AV→Bool
 | .cv _=>true
 | .ptr _ _=>true
 | .own _ _=>true
 | .fn _ _=>true
 | _=>false
end Go.Sx
namespace Go.Sx
open Go Go.RowKit
variable [G:Ghost]
section
variable {P:Program}
def bZ (P:Program) (st:St) (T:TypeId) (x:AV):Option AV:=
 match bM P T with
 | none=>none
 | some ti =>
  match x with
  | .ptr i off =>
   match st.B[i]? with
   | some b=>if b.live then (if ti.kind.agg then (if off+ti.size≤b.cs.length then some (.agg ((b.cs.drop off).take ti.size)) else none) else b.cs[off]?) else none
   | none=>none
  | .cv (.ref cs)=>if ti.kind.agg then (if ti.size≤cs.length then some (.agg ((cs.take ti.size).map .cv)) else none) else (cs[0]?).map .cv
  | .opt i u el o =>
   match st.V[i]? with
   | some v=>if v.sl&&v.ver == u then (match v.es[el]? with
     | some l=>if ti.kind.agg then (if o+ti.size≤l.length then some (.agg (((l.drop o).take ti.size).map .cv)) else none) else (l[o]?).map .cv
     | none=>none) else none
   | none=>none
  | _=>none
theorem addr_add (b o n:Nat):(⟨b,o,none⟩:Addr).add n=⟨b,o+n,none⟩:=by have _:=G;unfold Addr.add;split <;> simp_all
theorem iI {T:TypeId} {ti:TI} (hti:bM P T=some ti) (w:World) (b o:Nat) (vs:List Value) (hc:∀ j v,vs[j]? = some v→w.cell? ⟨b,o+j,none⟩=some v) :
  (ti.kind.agg=true→ti.size≤vs.length→(loadVar T ⟨b,o,none⟩).run P w=.ok (.agg (vs.take ti.size).toArray) w) ∧
  (ti.kind.agg=false→∀ v,vs[0]? = some v→(loadVar T ⟨b,o,none⟩).run P w=.ok v w):=by
 constructor
 ·intro ha hs
  have hl:=run_loadCells_list (P:=P) w ⟨b,o,none⟩ (vs.take ti.size) (fun j v hj=>by
   rw [addr_add]
   apply hc
   rw [List.getElem?_take] at hj
   split at hj
   ·exact hj
   ·cases hj)
  rw [List.length_take,Nat.min_eq_left hs] at hl
  simp [loadVar,Sem.run_bind,nC hti,ha,run_sizeOf hti,hl]
 ·intro ha v hv
  have:=hc 0 v hv
  simp only [Nat.add_zero] at this
  simp [loadVar,Sem.run_bind,nC hti,ha,this]
theorem uM {st:St} {T:TypeId} {x av:AV} (h:bZ P st T x=some av) {n0:Nat} {w0:World} {e:Env} {a:Act} {w:World} (hr:Rel n0 w0 e st a w)
  {u:Value} (hu:AV.holds e w (kss st.V) x u):∃ v,(Instr.loadAt T u).run P w=.ok v w∧AV.holds e w (kss st.V) av v∧AV.sco st.B.length (vers st.V) av:=by
 unfold bZ at h
 cases hti:bM P T with
 | none=>simp [hti] at h
 | some ti =>
  simp only [hti] at h
  split at h
  ·rename_i i off
   split at h
   ·rename_i b hb
    split at h
    ·rename_i hl
     obtain ⟨vs,h1,h2⟩:=hr.mem.box i b hb hl
     simp only [AV.holds] at hu
     subst hu
     have hc:∀ j v,(vs.toList.drop off)[j]? = some v→w.cell? ⟨e.ρ i,off+j,none⟩=some v:=by
      intro j v hj
      rw [List.getElem?_drop] at hj
      rw [cell_of_row w _ _ vs b.T (0,0) h1]
      simpa using hj
     have hrun:=iI hti w (e.ρ i) off _ hc
     split at h
     ·rename_i hagg
      split at h
      ·rename_i hsz
       injection h with h;subst h
       have hlen:=h2.length
       have:=hrun.1 hagg (by simp at hlen ⊢;omega)
       refine ⟨_,by simpa [Instr.loadAt,Instr.sureAddr] using this,?_,?_⟩
       ·simp only [AV.holds]
        exact ⟨_,rfl,by simpa using (h2.drop off).take ti.size⟩
       ·simp only [AV.sco,AV.scos_iff]
        intro y hy
        exact (AV.scos_iff.1 (hr.mem.boxsc i b hb)) y (List.mem_of_mem_drop (List.mem_of_mem_take hy))
      ·cases h
     ·rename_i hagg
      obtain ⟨v,h3,h4⟩:=h2.get h
      have:=hrun.2 (by simpa using hagg) v (by simpa using h3)
      exact ⟨v,by simpa [Instr.loadAt,Instr.sureAddr] using this,h4,AV.scos_get (hr.mem.boxsc i b hb) h⟩
    ·cases h
   ·cases h
  ·rename_i cs
   simp only [AV.holds,CV.holds] at hu
   obtain ⟨b,o,rfl,hS,hcs⟩:=hu
   obtain ⟨vs,h1,h2,h3⟩:=hcs.vals
   have hrun:=iI hti w b o vs h3
   split at h
   ·rename_i hagg
    split at h
    ·rename_i hsz
     injection h with h;subst h
     have:=hrun.1 hagg (by omega)
     refine ⟨_,by simpa [Instr.loadAt,Instr.sureAddr] using this,?_,AV.scos_cv _ _ _⟩
     simp only [AV.holds]
     refine ⟨_,rfl,?_⟩
     have:=(AV.all.of_vals (ks:=kss st.V) h1).take ti.size
     simpa [List.map_take] using this
    ·cases h
   ·rename_i hagg
    cases hcs0:cs[0]? with
    | none=>simp [hcs0] at h
    | some c =>
     simp only [hcs0,Option.map_some,Option.some.injEq] at h
     subst h
     have hall:=AV.all.of_vals (ks:=kss st.V) h1
     obtain ⟨v,h4,h5⟩:=hall.get (i:=0) (x:=.cv c) (by simp [hcs0])
     have:=hrun.2 (by simpa using hagg) v h4
     exact ⟨v,by simpa [Instr.loadAt,Instr.sureAddr] using this,h5,by simp [AV.sco]⟩
  ·rename_i i u' el o
   split at h
   ·rename_i x hx
    split at h
    ·rename_i hlv
     simp only [Bool.and_eq_true,beq_iff_eq] at hlv
     obtain ⟨hlive,rfl⟩:=hlv
     have hsT:=Vec.sl_T hlive
     replace hlive:=Vec.sl_live hlive
     split at h
     ·rename_i l hl
      obtain ⟨xs,a1,a2,a3⟩:=hr.mem.vec i x hx hlive
      simp only [AV.holds] at hu
      obtain ⟨g,hg,rfl⟩:=hu
      have hk:(kss st.V).getD i 0=x.k:=BV hx
      have hell:el<x.es.length:=(List.getElem?_eq_some_iff.1 hl).1
      have helx:x.es[el]=l:=(List.getElem?_eq_some_iff.1 hl).2
      have hcells:=(a1.s hsT).cells hg
      have hrows:=CV.rows.of_vals (b:=g) (o:=0) a3 a2 (fun j v hj=>by simpa [addr_add] using hcells j v hj)
      have hrow:=(hrows.get el hell).2
      rw [helx] at hrow
      have hlk:l.length=x.k:=by rw [← helx];exact (hrows.get el hell).1
      obtain ⟨vs,h1,h2,h3⟩:=(hrow.drop o).vals
      have h3':∀ j v,vs[j]? = some v→w.cell? ⟨g,el*(kss st.V).getD i 0+o+j,none⟩=some v:=by
       intro j v hj
       have:=h3 j v hj
       rw [hk]
       simpa using this
      have hrun:=iI hti w g (el*(kss st.V).getD i 0+o) vs h3'
      split at h
      ·rename_i hagg
       split at h
       ·rename_i hsz
        injection h with h;subst h
        have:=hrun.1 hagg (by simp at h2;omega)
        refine ⟨_,by simpa [Instr.loadAt,Instr.sureAddr] using this,?_,AV.scos_cv _ _ _⟩
        simp only [AV.holds]
        refine ⟨_,rfl,?_⟩
        have:=(AV.all.of_vals (ks:=kss st.V) h1).take ti.size
        simpa [List.map_take] using this
       ·cases h
      ·rename_i hagg
       cases hcs0:l[o]? with
       | none=>simp [hcs0] at h
       | some c =>
        simp only [hcs0,Option.map_some,Option.some.injEq] at h
        subst h
        have hall:=AV.all.of_vals (ks:=kss st.V) h1
        obtain ⟨v,h4,h5⟩:=hall.get (i:=0) (x:=.cv c) (by simp [hcs0])
        have:=hrun.2 (by simpa using hagg) v h4
        exact ⟨v,by simpa [Instr.loadAt,Instr.sureAddr] using this,h5,by simp [AV.sco]⟩
     ·cases h
    ·cases h
   ·cases h
  ·cases h
def splice (l:List AV) (off:Nat) (new:List AV):List AV:=l.take off++new++l.drop (off+new.length)
def eP (P:Program) (st:St) (T:TypeId) (x y:AV):Option (List Box×List Vec):=
 match bM P T,x,y.cells with
 | some ti,.ptr i off,some new =>
  match st.B[i]? with
  | some b=>if b.live&&new.length == ti.size&&decide (off+new.length≤b.cs.length)&&new.all AV.one then some (st.B.set i { b with cs:=splice b.cs off new },st.V) else none
  | none=>none
 | _,_,_=>none
theorem AV.one_holds {e:Env} {w:World} {ks:List Nat}:∀ {x:AV} {v:Value},AV.one x=true→AV.holds e w ks x v→v.oneCell'=true
 | .cv c,v,_,h=>by have _:=G;simp only [AV.holds] at h;exact h.one
 | .ptr _ _,v,_,h=>by simp only [AV.holds] at h;subst h;rfl
 | .own i u,v,_,h=>by simp only [AV.holds] at h;exact h.2
 | .fn _ _,v,_,h=>by simp only [AV.holds] at h;obtain ⟨vs,rfl,_⟩:=h;exact aCl _ _ _
 | .any,_,h,_=>by simp [AV.one] at h
 | .opt _ _ _ _,_,h,_=>by simp [AV.one] at h
 | .agg _,_,h,_=>by simp [AV.one] at h
 | .tup _,_,h,_=>by simp [AV.one] at h
 | .gd _ _,_,h,_=>by simp [AV.one] at h
theorem AV.all_one {e:Env} {w:World} {ks:List Nat}:∀ {xs:List AV} {vs:List Value},xs.all AV.one=true→AV.all e w ks xs vs→∀ v∈vs,v.oneCell'=true
 | [],[],_,_,v,hv=>by simp at hv
 | x::xs,v::vs,ho,h,u,hu=>by
  simp only [List.all_cons,Bool.and_eq_true] at ho
  simp only [AV.all] at h
  rcases List.mem_cons.1 hu with rfl | hu
  ·exact AV.one_holds ho.1 h.1
  ·exact AV.all_one ho.2 h.2 u hu
 | [],_::_,_,h,_,_=>by simp [AV.all] at h
 | _::_,[],_,h,_,_=>by simp [AV.all] at h
theorem AV.cells_holds {e:Env} {w:World} {ks:List Nat} {x:AV} {v:Value} {new:List AV} (hc:x.cells=some new) (h:AV.holds e w ks x v) (ho:new.all AV.one=true) :
  AV.all e w ks new v.cells.toList:=by
 cases x <;> simp only [AV.cells,Option.some.injEq,reduceCtorEq] at hc <;> subst hc
 case agg cs =>
  simp only [AV.holds] at h
  obtain ⟨vs,rfl,h⟩:=h
  simpa [Value.cells] using h
 all_goals
  have h1:v.oneCell'=true:=AV.one_holds (by simpa using ho) h
  have h2:v.cells.toList=[v]:=by cases v <;> simp_all [Value.oneCell',Value.cells]
  rw [h2]
  simpa [AV.all] using h
theorem AV.cells_scoped {nB:Nat} {vs:List Nat} {x:AV} {new:List AV} (hc:x.cells=some new) (h:AV.sco nB vs x):AV.scos nB vs new:=by
 have _:=G
 cases x <;> simp only [AV.cells,Option.some.injEq,reduceCtorEq] at hc <;> subst hc
 case agg cs=>simpa [AV.sco] using h
 all_goals simpa [AV.scos] using h
theorem AV.all.splice {e:Env} {w:World} {ks:List Nat} {cs new:List AV} {vs us:List Value} (h:AV.all e w ks cs vs) (h':AV.all e w ks new us) (off:Nat) :
  AV.all e w ks (splice cs off new) (vs.take off++us++vs.drop (off+us.length)):=by
 have _:=G
 have hl:=h'.length
 unfold Go.Sx.splice
 rw [hl]
 exact ((h.take off).append h').append (h.drop _)
theorem EY {st:St} {T:TypeId} {x y:AV} {B':List Box} {V':List Vec} (h:eP P st T x y=some (B',V')) {n0:Nat} {w0:World} {e:Env} {a:Act} {w:World} (hr:Rel n0 w0 e st a w)
  {u v:Value} (hu:AV.holds e w (kss st.V) x u) (hv:AV.holds e w (kss st.V) y v) (hs:AV.sco st.B.length (vers st.V) y) :
  ∃ w' e',(Instr.storeAt T u v).run P w=.ok () w'∧Mem n0 w0 e' B' V' w'∧ExtS e st w e' B' V' w':=by
 unfold eP at h
 split at h
 ·rename_i ti i off new hti hnew
  split at h
  ·rename_i b hb
   split at h
   ·rename_i hc
    simp only [Bool.and_eq_true,beq_iff_eq,decide_eq_true_eq] at hc
    obtain ⟨⟨⟨hl,hsz⟩,hle⟩,hone⟩:=hc
    simp only [Option.some.injEq,Prod.mk.injEq] at h
    obtain ⟨rfl,rfl⟩:=h
    obtain ⟨vs,h1,h2⟩:=hr.mem.box i b hb hl
    simp only [AV.holds] at hu
    subst hu
    have hcells:=AV.cells_holds hnew hv hone
    have hlen:=hcells.length
    have hlen2:=h2.length
    have h1c:=AV.all_one hone hcells
    have hrun:=run_storeCells_at P (e.ρ i) off b.T v.cells.toList 0 vs w h1 (by simp at hlen hlen2 ⊢;omega) h1c
    have hm:=hr.mem.setBox hb hl (splice b.cs off new) (vs.toList.take off++v.cells.toList++vs.toList.drop (off+v.cells.toList.length)).toArray
     (by
      rw [AV.scos_iff]
      have hs1:=AV.scos_iff.1 (hr.mem.boxsc i b hb)
      have hs2:=AV.scos_iff.1 (AV.cells_scoped hnew hs)
      intro y hy
      simp only [splice,List.mem_append] at hy
      rcases hy with (hy | hy) | hy
      ·exact hs1 y (List.mem_of_mem_take hy)
      ·exact hs2 y hy
      ·exact hs1 y (List.mem_of_mem_drop hy))
     (h2.splice hcells off)
    refine ⟨_,e,?_,hm.1,hm.2⟩
    have hsz':v.cells.size=ti.size:=by rw [← hsz,← hlen];simp
    simp only [Nat.add_zero] at hrun
    simp [Instr.storeAt,Instr.sureAddr,storeVar,run_sizeOf hti,hsz',hrun]
   ·cases h
  ·cases h
 ·cases h
end
end Go.Sx
namespace Go.Sx
open Go Go.RowKit
variable [G:Ghost]
inductive LK where
 | int (k:IntKind)
 | bool
 deriving DecidableEq
def kOf:Value→Option LK
 | .int k _=>some (.int k)
 | .bool _=>some .bool
 | _=>none
def vEq:Value→Value→Bool
 | .int _ a,.int _ b=>a == b
 | .bool a,.bool b=>a == b
 | _,_=>true
def eqB:List Value→List Value→Bool
 | x::xs,y::ys=>vEq x y&&eqB xs ys
 | _,_=>true
theorem tD:∀ {a b c d:List Value},a.length=b.length→eqB (a++c) (b++d)=(eqB a b&&eqB c d)
 | [],[],_,_,_=>by have _:=G;simp [eqB]
 | x::xs,y::ys,c,d,h=>by
  simp only [List.cons_append,eqB,tD (a:=xs) (b:=ys) (c:=c) (d:=d) (by simpa using h),Bool.and_assoc]
 | [],_::_,_,_,h=>by simp at h
 | _::_,[],_,_,h=>by simp at h
def QC (P:Program) (g:TypeId→Option (List LK)):Nat→List Field→Option (List LK)
 | _,[]=>some []
 | off,f::fs =>
  if f.name ≠ "_" ∧ f.offset=off then
   match g f.type with
   | some l=>if l.length=P.cellsOf f.type∧l.length≠0 then (QC P g (off+l.length) fs).map (l++·) else none
   | none=>none
  else none
def eqK (P:Program):Nat→TypeId→Option (List LK)
 | 0,_=>none
 | d+1,T =>
  match P.underlying T with
  | some .bool=>some [.bool]
  | some (.int k)=>some [.int k]
  | some (.array n e)=>match eqK P d e with
   | some l=>if l.length=P.cellsOf e∧l.length≠0 then some (List.replicate n l).flatten else none
   | none=>none
  | some (.struct fs)=>if P.stoodInHeld T then none else QC P (eqK P d) 0 fs.toList
  | _=>none
def eqT (P:Program) (T:TypeId):Option (List LK):=if P.eqGuardType P.depth T then none else
 match P.underlying T with
 | some (.struct _)=>eqK P 100 T
 | some (.array _ _)=>eqK P 100 T
 | _=>none
section
variable {P:Program}
def shp (P:Program) (T:TypeId) (x:Value):Prop:=
 match P.underlying T with
 | some (.struct _)=>∃ a,x=.agg a
 | some (.array _ _)=>∃ a,x=.agg a
 | _=>x.cells.toList=[x]
def EqK (P:Program) (D:Nat) (T:TypeId) (l:List LK):Prop:=
 ∀ (w:World) (x y:Value),shp P T x→shp P T y→x.cells.toList.map kOf=l.map some→y.cells.toList.map kOf=l.map some→(Op.equalIn D T x y).run P w=.ok (eqB x.cells.toList y.cells.toList) w
theorem mI {T:TypeId} (h:P.cellsOf T≠0) (w:World):(sizeOf T).run P w=.ok (P.cellsOf T) w:=by
 have _:=G
 unfold Program.cellsOf at *
 cases hi:P.info? T with
 | none=>simp [hi] at h
 | some i=>simp [sizeOf,typeInfo,hi]
theorem jD {T:TypeId} {d:Nat} {l:List LK} (hk:eqK P d T=some l) (hlen:l.length=P.cellsOf T) (hne:l.length≠0) {xs:Array Value} {off:Nat} (h:((xs.toList.drop off).take l.length).map kOf=l.map some) (w:World) :
  ∃ a,(part T xs off).run P w=.ok a w∧shp P T a∧a.cells.toList=(xs.toList.drop off).take l.length:=by
 cases d with
 | zero=>simp [eqK] at hk
 | succ d =>
 unfold eqK at hk
 cases hu:P.underlying T with
 | none=>simp [hu] at hk
 | some k =>
  have hsz:=mI (P:=P) (T:=T) (by omega) w
  have hagg:(∃ fs,k=.struct fs)∨(∃ n e,k=.array n e)→∃ a,(part T xs off).run P w=.ok a w∧shp P T a∧a.cells.toList=(xs.toList.drop off).take l.length:=by
   intro hk'
   have hia:(isAgg T).run P w=.ok true w:=by
    unfold isAgg
    rw [Sem.run_bind,run_underlying hu]
    rcases hk' with ⟨fs,rfl⟩ | ⟨n,e,rfl⟩ <;> simp
   refine ⟨.agg (xs.extract off (off+P.cellsOf T)),by simp [part,Sem.run_bind,hia,hsz],?_,?_⟩
   ·unfold shp;rw [hu]
    rcases hk' with ⟨fs,rfl⟩ | ⟨n,e,rfl⟩ <;> exact ⟨_,rfl⟩
   ·simp [Value.cells,hlen,List.extract_eq_take_drop]
  have hone:(∀ w,(isAgg T).run P w=.ok false w)→l.length=1→(∀ a,shp P T a↔a.cells.toList=[a])→∃ a,(part T xs off).run P w=.ok a w∧shp P T a∧a.cells.toList=(xs.toList.drop off).take l.length:=by
   intro hia hl hs
   rw [hl] at h
   cases hd:xs.toList.drop off with
   | nil=>rw [hd] at h;simp at h;subst h;cases hl
   | cons v rest =>
    have hv:xs[off]? = some v:=by
     have:xs.toList[off]? = some v:=by rw [← List.head?_drop,hd];rfl
     simpa using this
    have hcells:v.cells.toList=[v]:=by
     rw [hd] at h
     cases l with
     | nil=>simp at hl
     | cons q l =>
      simp at h
      obtain ⟨h1,_⟩:=h
      cases v <;> simp [kOf] at h1 <;> rfl
    exact ⟨v,by simp [part,Sem.run_bind,hia w,hv],(hs v).2 hcells,by rw [hl,hcells];simp⟩
  cases k <;> simp only [hu,reduceCtorEq,Option.some.injEq] at hk
  case bool =>
   subst hk
   refine hone (fun w=>?_) rfl (fun a=>by unfold shp;rw [hu])
   unfold isAgg;rw [Sem.run_bind,run_underlying hu];simp
  case int q =>
   subst hk
   refine hone (fun w=>?_) rfl (fun a=>by unfold shp;rw [hu])
   unfold isAgg;rw [Sem.run_bind,run_underlying hu];simp
  case array n e=>exact hagg (.inr ⟨n,e,rfl⟩)
  case struct fs=>exact hagg (.inl ⟨fs,rfl⟩)
theorem fJ {α:Type} (xs:List α) (off a b:Nat):(xs.drop off).take (a+b)=(xs.drop off).take a++(xs.drop (off+a)).take b:=by
 have _:=G
 rw [List.take_add,List.drop_drop]
theorem pW {D d:Nat} (IH:∀ T l,eqK P d T=some l→EqK P D T l) (xs ys:Array Value):∀ (fs:List Field) (off:Nat) (l:List LK),QC P (eqK P d) off fs=some l →
  ((xs.toList.drop off).take l.length).map kOf=l.map some→((ys.toList.drop off).take l.length).map kOf=l.map some→∀ w,
  (Op.eqFields D xs ys fs).run P w=.ok (eqB ((xs.toList.drop off).take l.length) ((ys.toList.drop off).take l.length)) w
 | [],off,l,h,_,_,w=>by
  simp [QC] at h;subst h;simp [Op.eqFields,eqB]
 | f::fs,off,l,h,hx,hy,w=>by
  simp only [QC] at h
  split at h
  ·rename_i hf
   obtain ⟨hn,rfl⟩:=hf
   split at h
   ·rename_i l1 hl1
    split at h
    ·rename_i hc
     simp only [Option.map_eq_some_iff] at h
     obtain ⟨l2,hl2,rfl⟩:=h
     rw [List.length_append,fJ,List.map_append,List.map_append] at hx hy
     have hlx:(((xs.toList.drop f.offset).take l1.length).map kOf).length=l1.length:=by
      have h1:=congrArg List.length hx
      simp only [List.length_append,List.length_map,List.length_take,List.length_drop] at h1 ⊢
      omega
     have hly:(((ys.toList.drop f.offset).take l1.length).map kOf).length=l1.length:=by
      have h1:=congrArg List.length hy
      simp only [List.length_append,List.length_map,List.length_take,List.length_drop] at h1 ⊢
      omega
     obtain ⟨hx1,hx2⟩:=List.append_inj hx (by rw [hlx];simp)
     obtain ⟨hy1,hy2⟩:=List.append_inj hy (by rw [hly];simp)
     obtain ⟨a,pa,sa,ca⟩:=jD hl1 hc.1 hc.2 hx1 w
     obtain ⟨b,pb,sb,cb⟩:=jD hl1 hc.1 hc.2 hy1 w
     have h3:=IH _ _ hl1 w a b sa sb (by rw [ca];exact hx1) (by rw [cb];exact hy1)
     have h4:=pW IH xs ys fs _ l2 hl2 hx2 hy2 w
     rw [ca,cb] at h3
     simp only [Op.eqFields,hn,ne_eq,not_false_eq_true,if_true,Sem.run_bind,pa,pb,h3,Result.andThen_ok]
     rw [List.length_append,fJ,fJ]
     have hlen:((xs.toList.drop f.offset).take l1.length).length=((ys.toList.drop f.offset).take l1.length).length:=by
      simpa using hlx.trans hly.symm
     rw [tD hlen]
     cases he:eqB ((xs.toList.drop f.offset).take l1.length) ((ys.toList.drop f.offset).take l1.length)
     ·simp
     ·simp [h4]
    ·cases h
   ·cases h
  ·cases h
theorem sI {D d:Nat} {e:TypeId} {l:List LK} (IH:EqK P D e l) (hk:eqK P d e=some l) (hc:l.length=P.cellsOf e) (hne:l.length≠0) (xs ys:Array Value):∀ (n i:Nat),
  ((xs.toList.drop (i*l.length)).take (n*l.length)).map kOf=((List.replicate n l).flatten).map some→((ys.toList.drop (i*l.length)).take (n*l.length)).map kOf=((List.replicate n l).flatten).map some→∀ w,
  (Op.eqItems D e (P.cellsOf e) xs ys (List.range' i n)).run P w=.ok (eqB ((xs.toList.drop (i*l.length)).take (n*l.length)) ((ys.toList.drop (i*l.length)).take (n*l.length))) w
 | 0,i,_,_,w=>by simp [Op.eqItems,eqB]
 | n+1,i,hx,hy,w=>by
  have hmul:(n+1)*l.length=l.length+n*l.length:=by rw [Nat.add_mul,Nat.one_mul,Nat.add_comm]
  rw [hmul,fJ,List.replicate_succ,List.flatten_cons,List.map_append,List.map_append] at hx hy
  have hnext:i*l.length+l.length=(i+1)*l.length:=by rw [Nat.add_mul,Nat.one_mul]
  rw [hnext] at hx hy
  have hlf:((List.replicate n l).flatten).length=n*l.length:=by simp
  have hlx:(((xs.toList.drop (i*l.length)).take l.length).map kOf).length=l.length:=by
   have h1:=congrArg List.length hx
   simp only [List.length_append,List.length_map,hlf] at h1
   simp only [List.length_map,List.length_take,List.length_drop] at h1 ⊢
   omega
  have hly:(((ys.toList.drop (i*l.length)).take l.length).map kOf).length=l.length:=by
   have h1:=congrArg List.length hy
   simp only [List.length_append,List.length_map,hlf] at h1
   simp only [List.length_map,List.length_take,List.length_drop] at h1 ⊢
   omega
  obtain ⟨hx1,hx2⟩:=List.append_inj hx (by rw [hlx];simp)
  obtain ⟨hy1,hy2⟩:=List.append_inj hy (by rw [hly];simp)
  obtain ⟨a,pa,sa,ca⟩:=jD hk hc hne hx1 w
  obtain ⟨b,pb,sb,cb⟩:=jD hk hc hne hy1 w
  have h3:=IH w a b sa sb (by rw [ca];exact hx1) (by rw [cb];exact hy1)
  have h4:=sI IH hk hc hne xs ys n (i+1) hx2 hy2 w
  rw [ca,cb] at h3
  rw [hc] at pa pb h3 h4 hx hy hnext hmul
  simp only [List.range'_succ,Op.eqItems,Sem.run_bind]
  have pa':(part e xs (i*P.cellsOf e)).run P w=.ok a w:=pa
  have pb':(part e ys (i*P.cellsOf e)).run P w=.ok b w:=pb
  rw [pa',Result.andThen_ok,pb',Result.andThen_ok,h3,Result.andThen_ok]
  rw [hc,hmul,fJ,fJ,hnext]
  have hlen:((xs.toList.drop (i*P.cellsOf e)).take (P.cellsOf e)).length=((ys.toList.drop (i*P.cellsOf e)).take (P.cellsOf e)).length:=by
   rw [← hc];simpa using hlx.trans hly.symm
  rw [tD hlen]
  cases he:eqB ((xs.toList.drop (i*P.cellsOf e)).take (P.cellsOf e)) ((ys.toList.drop (i*P.cellsOf e)).take (P.cellsOf e))
  ·simp
  ·simp [h4]
theorem rK:∀ (d k:Nat) (T:TypeId) (l:List LK),eqK P d T=some l→EqK P (k+d) T l
 | 0,k,T,l,h=>by simp [eqK] at h
 | d+1,k,T,l,h=>by
  intro w x y sx sy hx hy
  unfold eqK at h
  unfold shp at sx sy
  cases hu:P.underlying T with
  | none=>simp [hu] at h
  | some kd =>
   rw [hu] at sx sy
   cases kd <;> simp only [hu,reduceCtorEq,Option.some.injEq] at h
   case bool =>
    subst h
    simp only at sx sy
    rw [sx] at hx;rw [sy] at hy
    cases x <;> simp [kOf] at hx
    cases y <;> simp [kOf] at hy
    rename_i a b
    rw [show k+(d+1)=(k+d)+1 from rfl,run_equalIn_bool w (k+d) T a b hu]
    simp [Value.cells,eqB,vEq]
   case int q =>
    subst h
    simp only at sx sy
    rw [sx] at hx;rw [sy] at hy
    cases x <;> simp [kOf] at hx
    cases y <;> simp [kOf] at hy
    subst hx;subst hy
    rw [show k+(d+1)=(k+d)+1 from rfl,run_equalIn_int w (k+d) T _ _ _ _ hu]
    simp [Value.cells,eqB,vEq]
   case array n e =>
    obtain ⟨xs,rfl⟩:=sx
    obtain ⟨ys,rfl⟩:=sy
    split at h
    ·rename_i l1 hl1
     split at h
     ·rename_i hc
      injection h with h
      subst h
      have hinfo:∃ i,P.info? e=some i:=by
       cases d with
       | zero=>simp [eqK] at hl1
       | succ d =>
        unfold eqK at hl1
        cases hue:P.underlying e with
        | none=>simp [hue] at hl1
        | some ke=>exact info_of_underlying hue
      obtain ⟨i,hi⟩:=hinfo
      rw [show k+(d+1)=(k+d)+1 from rfl,run_equalIn_array w (k+d) xs ys hu hi]
      simp only [Value.cells] at hx hy ⊢
      have hlf:((List.replicate n l1).flatten).length=n*l1.length:=by simp
      have hlx:xs.toList.length=n*l1.length:=by have:=congrArg List.length hx;simpa [hlf] using this
      have hly:ys.toList.length=n*l1.length:=by have:=congrArg List.length hy;simpa [hlf] using this
      have tx:(xs.toList.drop (0*l1.length)).take (n*l1.length)=xs.toList:=by rw [Nat.zero_mul,List.drop_zero,← hlx,List.take_length]
      have ty:(ys.toList.drop (0*l1.length)).take (n*l1.length)=ys.toList:=by rw [Nat.zero_mul,List.drop_zero,← hly,List.take_length]
      have:=sI (D:=k+d) (rK d k e l1 hl1) hl1 hc.1 hc.2 xs ys n 0 (by rw [tx];exact hx) (by rw [ty];exact hy) w
      rw [tx,ty] at this
      rw [List.range_eq_range']
      exact this
     ·cases h
    ·cases h
   case struct fs =>
    obtain ⟨xs,rfl⟩:=sx
    obtain ⟨ys,rfl⟩:=sy
    split at h
    ·cases h
    ·rename_i hs
     have hfs:P.fieldsOf T=fs:=by simp [Program.fieldsOf,hu]
     rw [show k+(d+1)=(k+d)+1 from rfl,run_equalIn_struct w (k+d) T xs ys (by rw [hfs];exact hu) (by simpa using hs),hfs]
     simp only [Value.cells] at hx hy ⊢
     have hlx:xs.toList.length=l.length:=by have:=congrArg List.length hx;simpa using this
     have hly:ys.toList.length=l.length:=by have:=congrArg List.length hy;simpa using this
     have tx:(xs.toList.drop 0).take l.length=xs.toList:=by rw [List.drop_zero,← hlx,List.take_length]
     have ty:(ys.toList.drop 0).take l.length=ys.toList:=by rw [List.drop_zero,← hly,List.take_length]
     have:=pW (D:=k+d) (fun T l h=>rK d k T l h) xs ys fs.toList 0 l h (by rw [tx];exact hx) (by rw [ty];exact hy) w
     rw [tx,ty] at this
     exact this
theorem aCn {T:TypeId} {l:List LK} (h:eqT P T=some l) (w:World) {xs ys:Array Value} (hx:xs.toList.map kOf=l.map some) (hy:ys.toList.map kOf=l.map some) (xo yo:Operand) :
  ((do eqGuard .eql T xo yo (.agg xs) (.agg ys);binOp .eql T (.agg xs) (.agg ys)):Sem Value).run P w=.ok (.bool (eqB xs.toList ys.toList)) w ∧
  ((do eqGuard .neq T xo yo (.agg xs) (.agg ys);binOp .neq T (.agg xs) (.agg ys)):Sem Value).run P w=.ok (.bool (!eqB xs.toList ys.toList)) w:=by
 unfold eqT at h
 split at h
 ·cases h
 ·rename_i hg
  have hE:(Op.equal T (.agg xs) (.agg ys)).run P w=.ok (eqB xs.toList ys.toList) w:=by
   have hk:eqK P 100 T=some l∧(∀ a,shp P T (.agg a)):=by
    split at h
    ·rename_i hu;exact ⟨h,fun a=>by unfold shp;rw [hu];exact ⟨a,rfl⟩⟩
    ·rename_i hu;exact ⟨h,fun a=>by unfold shp;rw [hu];exact ⟨a,rfl⟩⟩
    ·cases h
   have:=rK 100 9900 T l hk.1 w (.agg xs) (.agg ys) (hk.2 xs) (hk.2 ys) (by simpa [Value.cells] using hx) (by simpa [Value.cells] using hy)
   simpa [Value.cells,Op.equal,Op.maxDepth] using this
  have hgd:∀ op,(eqGuard op T xo yo (.agg xs) (.agg ys)).run P w=.ok () w:=by
   intro op
   have hg':P.eqGuardType P.depth T=false:=by simpa using hg
   cases op <;> simp [eqGuard,hg']
  constructor
  ·simp [hgd,binOp,hE]
  ·simp [hgd,binOp,hE]
def TR (k:LK) (x y:AV):Option Bool:=
 match k,x,y with
 | .int k,.cv (.val (.int k1 a)),.cv (.val (.int k2 b))=>if k1=k∧k2=k then some (a == b) else none
 | .bool,.cv (.val (.bool a)),.cv (.val (.bool b))=>some (a == b)
 | _,_,_=>none
def iX:List LK→List AV→List AV→Option Bool
 | [],[],[]=>some true
 | k::l,x::xs,y::ys=>match TR k x y,iX l xs ys with
  | some a,some b=>some (a&&b)
  | _,_=>none
 | _,_,_=>none
theorem LR {k:LK} {x y:AV} {b:Bool} {e:Env} {w:World} {ks:List Nat} {u v:Value} (h:TR k x y=some b) (hu:AV.holds e w ks x u) (hv:AV.holds e w ks y v) :
  kOf u=some k∧kOf v=some k∧vEq u v=b:=by
 have _:=G
 unfold TR at h
 split at h
 ·split at h
  ·rename_i hk
   obtain ⟨rfl,rfl⟩:=hk
   injection h with h
   simp only [AV.holds,CV.holds] at hu hv
   obtain ⟨rfl,_⟩:=hu
   obtain ⟨rfl,_⟩:=hv
   exact ⟨rfl,rfl,h⟩
  ·cases h
 ·injection h with h
  simp only [AV.holds,CV.holds] at hu hv
  obtain ⟨rfl,_⟩:=hu
  obtain ⟨rfl,_⟩:=hv
  exact ⟨rfl,rfl,h⟩
 ·cases h
theorem yR {e:Env} {w:World} {ks:List Nat}:∀ {l:List LK} {xs ys:List AV} {b:Bool} {us vs:List Value},iX l xs ys=some b→AV.all e w ks xs us→AV.all e w ks ys vs →
  us.map kOf=l.map some∧vs.map kOf=l.map some∧eqB us vs=b
 | [],[],[],b,us,vs,h,hu,hv=>by
  cases us <;> simp [AV.all] at hu
  cases vs <;> simp [AV.all] at hv
  simp [iX] at h
  subst h
  exact ⟨rfl,rfl,rfl⟩
 | k::l,x::xs,y::ys,b,us,vs,h,hu,hv=>by
  cases us with
  | nil=>simp [AV.all] at hu
  | cons u us =>
  cases vs with
  | nil=>simp [AV.all] at hv
  | cons v vs =>
  simp only [AV.all] at hu hv
  simp only [iX] at h
  split at h
  ·rename_i a r h1 h2
   injection h with h
   subst h
   obtain ⟨g1,g2,g3⟩:=LR h1 hu.1 hv.1
   obtain ⟨f1,f2,f3⟩:=yR h2 hu.2 hv.2
   exact ⟨by simp [g1,f1],by simp [g2,f2],by simp [eqB,g3,f3]⟩
  ·cases h
 | [],_::_,_,_,_,_,h,_,_=>by simp [iX] at h
 | [],[],_::_,_,_,_,h,_,_=>by simp [iX] at h
 | k::l,[],_,_,_,_,h,_,_=>by simp [iX] at h
 | k::l,_::_,[],_,_,_,h,_,_=>by simp [iX] at h
end
end Go.Sx
namespace Go.Sx
open Go Go.RowKit
variable [G:Ghost]
section
variable {P:Program}
def BW (op:BinOp) (k:IntKind) (a b:Int):Option AV:=
 match op with
 | .add=>some (.cv (.val (.int k (k.wrap (a+b)))))
 | .sub=>some (.cv (.val (.int k (k.wrap (a - b)))))
 | .mul=>some (.cv (.val (.int k (k.wrap (a*b)))))
 | .quo=>if b=0 then none else some (.cv (.val (.int k (k.wrap (a.tdiv b)))))
 | .rem=>if b=0 then none else some (.cv (.val (.int k (a.tmod b))))
 | .eql=>some (.cv (.val (.bool (a == b))))
 | .neq=>some (.cv (.val (.bool (a != b))))
 | .lss=>some (.cv (.val (.bool (decide (a<b)))))
 | .leq=>some (.cv (.val (.bool (decide (a≤b)))))
 | .gtr=>some (.cv (.val (.bool (decide (a > b)))))
 | .geq=>some (.cv (.val (.bool (decide (a≥b)))))
 | .and=>some (.cv (.val (.int k (k.wrap (BitVec.ofInt k.bits a &&& BitVec.ofInt k.bits b).toNat))))
 | .or=>some (.cv (.val (.int k (k.wrap (BitVec.ofInt k.bits a ||| BitVec.ofInt k.bits b).toNat))))
 | _=>none
def rL (op:BinOp) (k:IntKind) (a b:Int):Option AV:=
 if b<0 then none else
 match op with
 | .shl=>some (.cv (.val (.int k (k.wrap (a*2 ^ (min b.toNat k.bits))))))
 | .shr=>some (.cv (.val (.int k (a.fdiv (2 ^ (min b.toNat k.bits))))))
 | _=>none
def mJ (P:Program) (op:BinOp) (T:TypeId) (x y:AV):Option AV:=
 match x,y with
 | .cv (.val (.int k a)),.cv (.val (.int k' b))=>if op=.shl∨op=.shr then rL op k a b else if k=k' then BW op k a b else none
 | .cv (.val (.bool a)),.cv (.val (.bool b))=>(match bM P T with | some ⟨_,_,.bool⟩=>(match op with | .eql=>some (.cv (.val (.bool (a == b)))) | .neq=>some (.cv (.val (.bool (a != b)))) | _=>none) | _=>none)
 | .agg xs,.agg ys=>match eqT P T with
  | some l=>match iX l xs ys with
   | some b=>(match op with | .eql=>some (.cv (.val (.bool b))) | .neq=>some (.cv (.val (.bool (!b)))) | _=>none)
   | none=>none
  | none=>none
 | _,_=>none
theorem pX {op:BinOp} {k:IntKind} {a b:Int} {av:AV} (h:BW op k a b=some av) (hs:¬(op=.shl∨op=.shr)) (T:TypeId) (xo yo:Operand) (w:World) :
  ∃ v,av=.cv (.val v)∧v.oneCell'=true∧((do eqGuard op T xo yo (.int k a) (.int k b);binOp op T (.int k a) (.int k b)):Sem Value).run P w=.ok v w:=by
 have _:=G
 have hguard:∀ op:BinOp,(eqGuard op T xo yo (.int k a) (.int k b)).run P w=.ok () w:=by
  intro op;cases op <;> simp [eqGuard]
 cases op <;> simp only [BW,Option.some.injEq,reduceCtorEq] at h
 case quo =>
  split at h
  ·cases h
  ·rename_i hb
   injection h with h
   exact ⟨_,h.symm,rfl,by simp [hguard,binOp,Op.intDiv,hb]⟩
 case rem =>
  split at h
  ·cases h
  ·rename_i hb
   injection h with h
   exact ⟨_,h.symm,rfl,by simp [hguard,binOp,Op.intDiv,hb]⟩
 all_goals exact ⟨_,h.symm,rfl,by simp [hguard,binOp,Op.intArith,Op.intCmp,Op.intBits]⟩
theorem sJ {op:BinOp} {k k':IntKind} {a b:Int} {av:AV} (h:rL op k a b=some av) (T:TypeId) (xo yo:Operand) (w:World) :
  ∃ v,av=.cv (.val v)∧v.oneCell'=true∧((do eqGuard op T xo yo (.int k a) (.int k' b);binOp op T (.int k a) (.int k' b)):Sem Value).run P w=.ok v w:=by
 have _:=G
 unfold rL at h
 split at h
 ·cases h
 ·rename_i hb
  cases op <;> simp only [Option.some.injEq,reduceCtorEq] at h
  ·exact ⟨_,h.symm,rfl,by simp [eqGuard,binOp,Op.shift,hb]⟩
  ·exact ⟨_,h.symm,rfl,by simp [eqGuard,binOp,Op.shift,hb]⟩
theorem LS {op:BinOp} {T:TypeId} {x y av:AV} (h:mJ P op T x y=some av) {e:Env} {w:World} {ks:List Nat} {u v:Value} (hu:AV.holds e w ks x u) (hv:AV.holds e w ks y v) (xo yo:Operand) :
  ∃ r,((do eqGuard op T xo yo u v;binOp op T u v):Sem Value).run P w=.ok r w∧AV.holds e w ks av r∧∀ n vs,AV.sco n vs av:=by
 unfold mJ at h
 split at h
 ·rename_i k a k' b
  simp only [AV.holds,CV.holds] at hu hv
  obtain ⟨rfl,_⟩:=hu
  obtain ⟨rfl,_⟩:=hv
  split at h
  ·rename_i hs
   obtain ⟨r,rfl,h1,h2⟩:=sJ (P:=P) (k':=k') h T xo yo w
   exact ⟨r,h2,by simp [AV.holds,CV.holds,h1],by simp [AV.sco]⟩
  ·rename_i hs
   split at h
   ·rename_i hk
    subst hk
    obtain ⟨r,rfl,h1,h2⟩:=pX (P:=P) h hs T xo yo w
    exact ⟨r,h2,by simp [AV.holds,CV.holds,h1],by simp [AV.sco]⟩
   ·cases h
 ·rename_i a b
  simp only [AV.holds,CV.holds] at hu hv
  obtain ⟨rfl,_⟩:=hu
  obtain ⟨rfl,_⟩:=hv
  split at h
  ·rename_i s z hti
   have hT:P.underlying T=some .bool:=by
    obtain ⟨i,d,h1,h2,h3,h4,h5⟩:=fA hti
    cases d <;> simp at h5
    exact h2
   have heq:(Op.equal T (.bool a) (.bool b)).run P w=.ok (a == b) w:=by
    unfold Op.equal Op.maxDepth
    rw [Op.equalIn,Sem.run_bind,run_underlying hT]
    rfl
   cases op <;> simp only [Option.some.injEq,reduceCtorEq] at h
   ·subst h
    exact ⟨_,by simp [eqGuard,binOp,heq];rfl,by simp [AV.holds,CV.holds,Value.oneCell'],by simp [AV.sco]⟩
   ·subst h
    exact ⟨_,by simp [eqGuard,binOp,heq];rfl,by cases a <;> cases b <;> simp [AV.holds,CV.holds,Value.oneCell'],by simp [AV.sco]⟩
  ·cases h
 ·rename_i xs ys
  simp only [AV.holds] at hu hv
  obtain ⟨us,rfl,hu⟩:=hu
  obtain ⟨vs,rfl,hv⟩:=hv
  split at h
  ·rename_i l hl
   split at h
   ·rename_i b hb
    obtain ⟨h1,h2,h3⟩:=yR hb hu hv
    obtain ⟨r1,r2⟩:=aCn hl w h1 h2 xo yo
    rw [h3] at r1 r2
    cases op <;> simp only [Option.some.injEq,reduceCtorEq] at h
    ·subst h;exact ⟨_,r1,by simp [AV.holds,CV.holds,Value.oneCell'],by simp [AV.sco]⟩
    ·subst h;exact ⟨_,r2,by simp [AV.holds,CV.holds,Value.oneCell'],by simp [AV.sco]⟩
   ·cases h
  ·cases h
 ·cases h
def EZ (op:UnOp) (x:AV):Option AV:=
 match op,x with
 | .not,.cv (.val (.bool b))=>some (.cv (.val (.bool (!b))))
 | .neg,.cv (.val (.int k n))=>some (.cv (.val (.int k (k.wrap (0 - n)))))
 | _,_=>none
theorem QD {op:UnOp} {x av:AV} (h:EZ op x=some av) {e:Env} {w:World} {ks:List Nat} {u:Value} (hu:AV.holds e w ks x u) :
  ∃ r,(Op.unary op u).run P w=.ok r w∧AV.holds e w ks av r∧∀ n vs,AV.sco n vs av:=by
 have _:=G
 unfold EZ at h
 split at h
 ·injection h with h;subst h
  simp only [AV.holds,CV.holds] at hu
  obtain ⟨rfl,_⟩:=hu
  exact ⟨.bool (!_),by simp only [Op.unary];rfl,by simp [AV.holds,CV.holds,Value.oneCell'],by simp [AV.sco]⟩
 ·injection h with h;subst h
  simp only [AV.holds,CV.holds] at hu
  obtain ⟨rfl,_⟩:=hu
  exact ⟨.int _ _,by simp only [Op.unary,Op.intArith];rfl,by simp [AV.holds,CV.holds,Value.oneCell'],by simp [AV.sco]⟩
 ·cases h
def cP (P:Program) (T:TypeId) (x:AV) (f:Nat):Option AV:=
 match bM P T with
 | some ⟨_,_,.strct fs⟩ =>
  match fs[f]? with
  | some (o,s) =>
   if s=0 then none else
   match x with
   | .ptr i off=>some (.ptr i (off+o))
   | .opt i u el off=>some (.opt i u el (off+o))
   | .cv (.ref cs)=>some (.cv (.ref (cs.drop o)))
   | _=>none
  | none=>none
 | _=>none
theorem QE {T:TypeId} {s:Nat} {z:List Value} {fs:List (Nat×Nat)} (h:bM P T=some ⟨s,z,.strct fs⟩):∃ ff,P.underlying T=some (.struct ff)∧fs=ff.toList.map fun f=>(f.offset,P.cellsOf f.type):=by
 obtain ⟨i,d,h1,h2,h3,h4,h5⟩:=fA h
 cases d <;> simp at h5
 exact ⟨_,h2,h5⟩
theorem uN {T:TypeId} {s:Nat} {z:List Value} {n e k:Nat} (h:bM P T=some ⟨s,z,.arr n e k⟩):P.underlying T=some (.array n e)∧k=P.cellsOf e:=by
 obtain ⟨i,d,h1,h2,h3,h4,h5⟩:=fA h
 cases d <;> simp at h5
 obtain ⟨rfl,rfl,rfl⟩:=h5
 exact ⟨h2,rfl⟩
theorem dI {T:TypeId} {s:Nat} {z:List Value} {e k by_:Nat} (h:bM P T=some ⟨s,z,.slc e k by_⟩):P.underlying T=some (.slice e)∧k=P.cellsOf e∧by_=P.bytesOf e:=by
 obtain ⟨i,d,h1,h2,h3,h4,h5⟩:=fA h
 cases d <;> simp at h5
 obtain ⟨rfl,rfl,rfl⟩:=h5
 exact ⟨h2,rfl,rfl⟩
theorem eK {T:TypeId} {s:Nat} {z:List Value} {e k by_:Nat} (h:bM P T=some ⟨s,z,.slc e k by_⟩):e<aI:=aCm h (dI h).1
theorem aM {T:TypeId} (h:P.cellsOf T≠0) (w:World):(sizeOf T).run P w=.ok (P.cellsOf T) w:=by
 have _:=G
 unfold Program.cellsOf at *
 cases hi:P.info? T with
 | none=>simp [hi] at h
 | some i=>simp [sizeOf,typeInfo,hi]
theorem uO {T:TypeId} {x av:AV} {f:Nat} (h:cP P T x f=some av) {e:Env} {w:World} {ks:List Nat} {u:Value} (hu:AV.holds e w ks x u) :
  ∃ r,(Instr.fieldAt T u f).run P w=.ok r w∧AV.holds e w ks av r∧∀ n vs,AV.sco n vs x→AV.sco n vs av:=by
 unfold cP at h
 split at h
 ·rename_i s z fs hti
  obtain ⟨ff,hT,hfs⟩:=QE hti
  split at h
  ·rename_i o sz hf
   split at h
   ·cases h
   ·rename_i hsz
    subst hfs
    simp only [List.getElem?_map] at hf
    cases hfd:ff.toList[f]? with
    | none=>simp [hfd] at hf
    | some fd =>
     simp only [hfd,Option.map_some,Option.some.injEq,Prod.mk.injEq] at hf
     obtain ⟨rfl,rfl⟩:=hf
     have hfd':ff[f]? = some fd:=by simpa using hfd
     have hplace:∀ b off,(fieldPlace ⟨b,off,none⟩ fd).run P w=.ok ⟨b,off+fd.offset,none⟩ w:=by
      intro b off
      simp [fieldPlace,aM hsz,hsz,addr_add]
     split at h
     ·injection h with h;subst h
      simp only [AV.holds] at hu
      subst hu
      exact ⟨_,by simp [Instr.fieldAt,run_underlying hT,hfd',Instr.sureAddr,hplace];rfl,by simp [AV.holds],by simp [AV.sco]⟩
     ·injection h with h;subst h
      simp only [AV.holds] at hu
      obtain ⟨b,hb,rfl⟩:=hu
      exact ⟨_,by simp [Instr.fieldAt,run_underlying hT,hfd',Instr.sureAddr,hplace];rfl,by simp [AV.holds,hb,Nat.add_assoc],by simp [AV.sco]⟩
     ·injection h with h;subst h
      simp only [AV.holds,CV.holds] at hu
      obtain ⟨b,o,rfl,hS,hcs⟩:=hu
      exact ⟨_,by simp [Instr.fieldAt,run_underlying hT,hfd',Instr.sureAddr,hplace];rfl,by simp only [AV.holds,CV.holds];exact ⟨b,_,rfl,hS,hcs.drop _⟩,by simp [AV.sco]⟩
     ·cases h
  ·cases h
 ·cases h
def dA (P:Program) (st:St) (T:TypeId) (x i:AV):Option AV:=
 match i with
 | .cv (.val (.int _ n)) =>
  match bM P T with
  | some ⟨_,_,.arr len _ k⟩ =>
   if k=0 then none else
   if 0≤n∧n<len then
    match x with
    | .ptr i off=>some (.ptr i (off+n.toNat*k))
    | .cv (.ref cs)=>some (.cv (.ref (cs.drop (n.toNat*k))))
    | .opt i u el off=>some (.opt i u el (off+n.toNat*k))
    | _=>none
   else none
  | some ⟨_,_,.slc _ k _⟩ =>
   if k=0 then none else
   match x with
   | .cv (.row k' es)=>if k'=k then (if 0≤n∧n<es.length then some (.cv (.ref (es.getD n.toNat []))) else none) else none
   | .own j u =>
    match st.V[j]? with
    | some v=>if v.sl&&v.ver == u&&v.k == k then (if 0≤n∧n<v.es.length then some (.opt j u n.toNat 0) else none) else none
    | none=>none
   | .fn len [.gd [false] .any,.any,.ptr i off]=>if 0≤n∧n<(len:Nat) then some (.ptr i (off+n.toNat*k)) else none
   | _=>none
  | _=>none
 | _=>none
theorem uP {st:St} {T:TypeId} {x i av:AV} (h:dA P st T x i=some av) {n0:Nat} {w0:World} {e:Env} {a:Act} {w:World} (hr:Rel n0 w0 e st a w)
  {u v:Value} (hu:AV.holds e w (kss st.V) x u) (hv:AV.holds e w (kss st.V) i v) (hs:AV.sco st.B.length (vers st.V) x) :
  ∃ r,(Instr.indexAt T u v).run P w=.ok r w∧AV.holds e w (kss st.V) av r∧AV.sco st.B.length (vers st.V) av:=by
 unfold dA at h
 split at h
 ·rename_i q n
  simp only [AV.holds,CV.holds] at hv
  obtain ⟨rfl,_⟩:=hv
  split at h
  ·rename_i s z len et k hti
   obtain ⟨hT,rfl⟩:=uN hti
   split at h
   ·cases h
   ·rename_i hk
    split at h
    ·rename_i hn
     have hrun:∀ b off,(Instr.indexAt T (.pointer (some ⟨b,off,none⟩)) (.int q n)).run P w=.ok (.pointer (some ⟨b,off+n.toNat*P.cellsOf et,none⟩)) w:=by
      intro b off
      simp [Instr.indexAt,asIntOf,run_underlying hT,Instr.sureAddr,hn,aM hk,addr_add]
     split at h
     ·injection h with h;subst h
      simp only [AV.holds] at hu
      subst hu
      exact ⟨_,hrun _ _,by simp [AV.holds],by simpa [AV.sco] using hs⟩
     ·injection h with h;subst h
      simp only [AV.holds,CV.holds] at hu
      obtain ⟨b,o,rfl,hS,hcs⟩:=hu
      exact ⟨_,hrun _ _,by simp only [AV.holds,CV.holds];exact ⟨b,_,rfl,hS,hcs.drop _⟩,by simp [AV.sco]⟩
     ·injection h with h;subst h
      simp only [AV.holds] at hu
      obtain ⟨b,hb,rfl⟩:=hu
      exact ⟨_,hrun _ _,by simp [AV.holds,hb,Nat.add_assoc],by simpa [AV.sco] using hs⟩
     ·cases h
    ·cases h
  ·rename_i s z et k by_ hti
   obtain ⟨hT,rfl,rfl⟩:=dI hti
   split at h
   ·cases h
   ·rename_i hk
    split at h
    ·rename_i k' es
     split at h
     ·rename_i hkk
      subst hkk
      split at h
      ·rename_i hn
       injection h with h;subst h
       simp only [AV.holds,CV.holds] at hu
       obtain ⟨ao,cap,rfl,hle,hcm,hes⟩:=hu
       have hlt:n.toNat<es.length:=by omega
       rcases hes with rfl | ⟨b,o,rfl,hS,hrows⟩
       ·simp at hlt
       ·have hrow:=hrows.get n.toNat hlt
        refine ⟨.pointer (some ⟨b,o+n.toNat*P.cellsOf et,none⟩),?_,?_,by simp [AV.sco]⟩
        ·simp [Instr.indexAt,asIntOf,run_underlying hT,hn,aM hk,addr_add]
        ·simp only [AV.holds,CV.holds]
         refine ⟨b,_,rfl,hS,?_⟩
         simpa [List.getD,hlt] using hrow.2
      ·cases h
     ·cases h
    ·rename_i j u'
     split at h
     ·rename_i x hx
      split at h
      ·rename_i hc
       simp only [Bool.and_eq_true,beq_iff_eq] at hc
       obtain ⟨⟨hl,rfl⟩,hkk⟩:=hc
       have hsT:=Vec.sl_T hl
       replace hl:=Vec.sl_live hl
       split at h
       ·rename_i hn
        injection h with h;subst h
        simp only [AV.holds] at hu
        obtain ⟨rfl,_⟩:=hu
        obtain ⟨xs,a1,a2,a3⟩:=hr.mem.vec j x hx hl
        rcases a1.s hsT with ⟨_,_,h0,_⟩ | ⟨a1,g,hob,hob'⟩
        ·omega
        ·obtain ⟨cap,hg⟩:∃ cap,e.hdr j x.ver=.slice (some ⟨g,0,none⟩) x.es.length cap:=by
          rcases a1.2 with ⟨h0,_⟩ | ⟨g',cap,cur,hg,_⟩
          ·rw [h0] at hob;simp [aX] at hob
          ·rw [hg] at hob';simp [Value.ownBlock] at hob';subst hob';exact ⟨cap,hg⟩
         refine ⟨.pointer (some ⟨g,n.toNat*P.cellsOf et,none⟩),?_,?_,by simpa [AV.sco] using hs⟩
         ·rw [hg]
          simp [Instr.indexAt,asIntOf,run_underlying hT,hn,aM hk,addr_add]
         ·simp only [AV.holds]
          refine ⟨g,hob,?_⟩
          rw [BV hx,hkk];rfl
       ·cases h
      ·cases h
     ·cases h
    ·rename_i len i off
     split at h
     ·rename_i hn
      injection h with h;subst h
      have hu':=AV.slb_holds.1 hu
      subst hu'
      refine ⟨.pointer (some ⟨e.ρ i,off+n.toNat*P.cellsOf et,none⟩),?_,?_,?_⟩
      ·simp [Instr.indexAt,asIntOf,run_underlying hT,hn,aM hk,addr_add]
      ·simp only [AV.holds]
      ·simp only [AV.sco,AV.scos,true_and,and_true] at hs ⊢;exact hs
     ·cases h
    ·cases h
  ·cases h
 ·cases h
end
end Go.Sx
namespace Go.Sx
open Go Go.RowKit
variable [G:Ghost]
section
variable {P:Program}
def dJ (place:Nat→Option (Nat×Nat)) (cells:List AV):List (Nat×AV)→Option (List AV)
 | []=>some cells
 | (i,x)::rest =>
  match place i,x.cells with
  | some (o,s),some new=>if new.length == s&&decide (o+s≤cells.length)&&new.all AV.one then dJ place (splice cells o new) rest else none
  | _,_=>none
theorem FZ (off:Nat):∀ (vs:List Value) (k:Nat) (cur:Array Value),off+k+vs.length≤cur.size →
  ((vs.zipIdx k).foldl (fun cs (x:Value×Nat)=>cs.setIfInBounds (off+x.2) x.1) cur)=(cur.toList.take (off+k)++vs++cur.toList.drop (off+k+vs.length)).toArray
 | [],k,cur,_=>by have _:=G;simp
 | v::vs,k,cur,h=>by
  simp only [List.zipIdx_cons,List.foldl_cons]
  rw [FZ off vs (k+1) (cur.setIfInBounds (off+k) v) (by simp at h ⊢;omega)]
  congr 1
  have e:=list_seg_step cur.toList (off+k) v vs (by simp at h ⊢;omega)
  simpa [Array.toList_setIfInBounds,Nat.add_assoc] using e
theorem iJ {place:Nat→Option (Nat×Nat)} {e:Env} {w:World} {ks:List Nat}:∀ {parts:List (Nat×AV)} {vparts:List (Nat×Value)} {cells:List AV} {vcells:Array Value} {out:List AV},
  dJ place cells parts=some out→AV.all e w ks cells vcells.toList→(parts.map (·.1)=vparts.map (·.1))→AV.all e w ks (parts.map (·.2)) (vparts.map (·.2)) →
  ∃ vout,Instr.fill place vcells vparts=some vout∧AV.all e w ks out vout.toList∧out.length=cells.length
 | [],[],cells,vcells,out,h,hc,_,_=>by
  simp only [dJ,Option.some.injEq] at h
  subst h
  exact ⟨vcells,by simp [Instr.fill],hc,rfl⟩
 | (i,x)::rest,(j,v)::vrest,cells,vcells,out,h,hc,hi,hv=>by
  simp only [List.map_cons,List.cons.injEq] at hi
  obtain ⟨rfl,hi⟩:=hi
  simp only [List.map_cons,AV.all] at hv
  simp only [dJ] at h
  split at h
  ·rename_i o s new hp hnew
   split at h
   ·rename_i hcond
    simp only [Bool.and_eq_true,beq_iff_eq,decide_eq_true_eq] at hcond
    obtain ⟨⟨hs,hle⟩,hone⟩:=hcond
    have hcells:=AV.cells_holds hnew hv.1 hone
    have hlen:=hcells.length
    have hlen2:=hc.length
    have hfl:=FZ o v.cells.toList 0 vcells (by simp at hlen hlen2 ⊢;omega)
    have hsp:=hc.splice hcells o
    obtain ⟨vout,h1,h2,h3⟩:=iJ (vcells:=(vcells.toList.take o++v.cells.toList++vcells.toList.drop (o+v.cells.toList.length)).toArray) h (by simpa using hsp) hi hv.2
    refine ⟨vout,?_,h2,?_⟩
    ·simp only [Instr.fill,hp]
     rw [if_neg (by simp at hlen hlen2 ⊢;omega)]
     rw [← h1]
     congr 1
     rw [← Array.foldl_toList,Array.toList_zipIdx]
     simpa using hfl
    ·rw [h3];simp [splice];omega
   ·cases h
  ·cases h
 | [],_::_,_,_,_,_,_,hi,_=>by simp at hi
 | _::_,[],_,_,_,_,_,hi,_=>by simp at hi
theorem jM {place:Nat→Option (Nat×Nat)} {nB:Nat} {vs:List Nat}:∀ {parts:List (Nat×AV)} {cells out:List AV},
  dJ place cells parts=some out→AV.scos nB vs cells→AV.scos nB vs (parts.map (·.2))→AV.scos nB vs out
 | [],cells,out,h,hc,_=>by
  simp only [dJ,Option.some.injEq] at h
  subst h;exact hc
 | (i,x)::rest,cells,out,h,hc,hp=>by
  simp only [List.map_cons,AV.scos] at hp
  simp only [dJ] at h
  split at h
  ·rename_i o s new hpl hnew
   split at h
   ·refine jM h ?_ hp.2
    have hn:=AV.scos_iff.1 (AV.cells_scoped hnew hp.1)
    rw [AV.scos_iff] at hc ⊢
    intro y hy
    simp only [splice,List.mem_append] at hy
    rcases hy with (hy | hy) | hy
    ·exact hc y (List.mem_of_mem_take hy)
    ·exact hn y hy
    ·exact hc y (List.mem_of_mem_drop hy)
   ·cases h
  ·cases h
def cW (z:List Value):List AV:=z.map fun v=>.cv (.val v)
theorem jE {e:Env} {w:World} {ks:List Nat}:∀ {z:List Value},z.all Value.oneCell'=true→AV.all e w ks (cW z) z
 | [],_=>by have _:=G;simp [cW,AV.all]
 | v::z,h=>by
  simp only [List.all_cons,Bool.and_eq_true] at h
  have:=jE (e:=e) (w:=w) (ks:=ks) h.2
  simp only [cW,List.map_cons,AV.all,AV.holds,CV.holds]
  exact ⟨⟨trivial,h.1⟩,this⟩
theorem jN (nB:Nat) (vs:List Nat) (z:List Value):AV.scos nB vs (cW z):=by
 have _:=G
 rw [AV.scos_iff];intro x hx;obtain ⟨c,_,rfl⟩:=List.mem_map.1 hx;simp [AV.sco]
def jO (P:Program) (T:TypeId) (parts:List (Nat×AV)):Option AV:=
 match bM P T with
 | some ti =>
  if ti.zero≠[]∧ti.zero.all Value.oneCell'=true then
   match ti.kind with
   | .strct fs=>if fs.all (fun f=>f.2 != 0) then (dJ (fs[·]?) (cW ti.zero) parts).map .agg else none
   | .arr _ _ k=>if k=0 then none else (dJ (fun i=>some (i*k,k)) (cW ti.zero) parts).map .agg
   | _=>none
  else none
 | none=>none
theorem WI (fs:List Field) (h:∀ f∈fs,P.cellsOf f.type≠0):fs.mapM (fun f=>(P.info? f.type).map fun i=>(f.offset,i.size))=some (fs.map fun f=>(f.offset,P.cellsOf f.type)):=by
 have _:=G
 induction fs with
 | nil=>simp
 | cons f fs ih =>
  have h1:=h f (by simp)
  unfold Program.cellsOf at h1
  cases hi:P.info? f.type with
  | none=>simp [hi] at h1
  | some i =>
   simp only [List.mapM_cons,hi,Option.map_some,ih (fun g hg=>h g (by simp [hg]))]
   simp [Program.cellsOf,hi]
theorem FA {T:TypeId} {parts:List (Nat×AV)} {av:AV} (h:jO P T parts=some av) {e:Env} {w:World} {ks:List Nat} {vparts:Array (Nat×Value)}
  (hi:parts.map (·.1)=vparts.toList.map (·.1)) (hv:AV.all e w ks (parts.map (·.2)) (vparts.toList.map (·.2))) :
  ∃ r,(Instr.build T vparts).run P w=.ok r w∧AV.holds e w ks av r∧∀ n vs,AV.scos n vs (parts.map (·.2))→AV.sco n vs av:=by
 unfold jO at h
 split at h
 ·rename_i ti hti
  split at h
  ·rename_i hz
   obtain ⟨it,d,h1,h2,h3,h4,h5⟩:=fA hti
   have hz1:∃ z,it.zero=some z∧z.cells.toList=ti.zero:=by
    cases hi:it.zero with
    | none=>rw [hi] at h4;exact absurd h4 hz.1
    | some z=>exact ⟨z,rfl,by rw [h4,hi]⟩
   obtain ⟨z,hz2,hz3⟩:=hz1
   split at h
   ·rename_i fs hk
    split at h
    ·rename_i hall
     cases hf:dJ (fs[·]?) (cW ti.zero) parts with
     | none=>simp [hf] at h
     | some out =>
      simp only [hf,Option.map_some,Option.some.injEq] at h
      subst h
      cases d <;> simp [hk] at h5
      rename_i ff
      have hpl:=WI (P:=P) ff.toList (by
       intro f hf'
       have:=List.all_eq_true.1 hall (f.offset,P.cellsOf f.type) (by rw [h5];exact List.mem_map.2 ⟨f,hf',rfl⟩)
       simpa using this)
      obtain ⟨vout,a1,a2,a3⟩:=iJ (vcells:=z.cells) hf (by rw [hz3];exact jE hz.2) hi hv
      refine ⟨.agg vout,run_build w T vparts vout ?_,by simp only [AV.holds];exact ⟨_,rfl,a2⟩,fun n vs hs=>by simp only [AV.sco];exact jM hf (jN _ _ _) hs⟩
      simp only [Program.built,h1,h2,hz2,hpl]
      rw [← a1,h5]
      simp
    ·cases h
   ·rename_i n et0 k hk
    split at h
    ·cases h
    ·rename_i hk0
     cases hf:dJ (fun i=>some (i*k,k)) (cW ti.zero) parts with
     | none=>simp [hf] at h
     | some out =>
      simp only [hf,Option.map_some,Option.some.injEq] at h
      subst h
      cases d <;> simp [hk] at h5
      rename_i n' et'
      obtain ⟨rfl,rfl,rfl⟩:=h5
      obtain ⟨vout,a1,a2,a3⟩:=iJ (vcells:=z.cells) hf (by rw [hz3];exact jE hz.2) hi hv
      refine ⟨.agg vout,run_build w T vparts vout ?_,by simp only [AV.holds];exact ⟨_,rfl,a2⟩,fun n vs hs=>by simp only [AV.sco];exact jM hf (jN _ _ _) hs⟩
      unfold Program.cellsOf at hk0 a1
      cases hie:P.info? et0 with
      | none=>simp [hie] at hk0
      | some ie =>
       simp only [hie,Option.map_some,Option.getD_some] at a1
       simp only [Program.built,h1,h2,hz2,hie]
       exact a1
   ·cases h
  ·cases h
 ·cases h
end
end Go.Sx
namespace Go.Sx
open Go Go.RowKit
variable [G:Ghost]
section
variable {P:Program}
def wT (c a b:AV):Option AV:=
 match c with
 | .cv (.val (.bool x)) =>
  match a,b with
  | .cv (.val (.bool p)),.cv (.val (.bool q))=>some (.cv (.val (.bool (if x then p else q))))
  | a,b=>if x then some a else some b
 | _=>none
theorem IT {c a b av:AV} (h:wT c a b=some av) {e:Env} {w:World} {ks:List Nat} {vc va vb:Value} (hc:AV.holds e w ks c vc) (ha:AV.holds e w ks a va) (hb:AV.holds e w ks b vb) :
  ∃ x:Bool,vc=.bool x∧AV.holds e w ks av (if x then va else vb)∧∀ n vs,AV.sco n vs a→AV.sco n vs b→AV.sco n vs av:=by
 have _:=G
 unfold wT at h
 split at h
 ·rename_i x
  simp only [AV.holds,CV.holds] at hc
  refine ⟨x,hc.1,?_⟩
  split at h
  ·injection h with h;subst h
   simp only [AV.holds,CV.holds] at ha hb
   obtain ⟨rfl,_⟩:=ha
   obtain ⟨rfl,_⟩:=hb
   cases x <;> simp [AV.holds,CV.holds,Value.oneCell',AV.sco]
  ·cases x <;> simp at h <;> subst h
   ·exact ⟨by simpa using hb,fun n vs _ h2=>h2⟩
   ·exact ⟨by simpa using ha,fun n vs h1 _=>h1⟩
 ·cases h
def fS (x:AV) (i:Nat):Option AV:=
 match x with
 | .tup vs=>vs[i]?
 | _=>none
theorem AE {x av:AV} {i:Nat} (h:fS x i=some av) {e:Env} {w:World} {ks:List Nat} {u:Value} (hu:AV.holds e w ks x u) :
  ∃ r,(Instr.extract u i).run P w=.ok r w∧AV.holds e w ks av r∧∀ n vs,AV.sco n vs x→AV.sco n vs av:=by
 have _:=G
 unfold fS at h
 split at h
 ·rename_i vs
  simp only [AV.holds] at hu
  obtain ⟨us,rfl,hus⟩:=hu
  obtain ⟨v,h1,h2⟩:=hus.get h
  exact ⟨v,by simp [Instr.extract,show us[i]? = some v by simpa using h1],h2,fun n ws hs=>by simp only [AV.sco] at hs;exact AV.scos_get hs h⟩
 ·cases h
def kN (P:Program) (st:St) (T:TypeId) (x:AV):Option AV:=
 match bM P T with
 | some ⟨_,_,.slc _ _ _⟩ =>
  match x with
  | .cv (.row _ es)=>some (.cv (.val (.int .i64 es.length)))
  | .cv (.val (.slice none 0 0))=>some (.cv (.val (.int .i64 0)))
  | .own i u=>match st.V[i]? with
   | some v=>if v.sl&&v.ver == u then some (.cv (.val (.int .i64 v.es.length))) else none
   | none=>none
  | _=>none
 | some ⟨_,_,.arr n _ _⟩=>some (.cv (.val (.int .i64 n)))
 | _=>none
theorem LU {st:St} {T:TypeId} {x av:AV} (h:kN P st T x=some av) {n0:Nat} {w0:World} {e:Env} {a:Act} {w:World} (hr:Rel n0 w0 e st a w)
  {u:Value} (hu:AV.holds e w (kss st.V) x u) (T':TypeId) :
  ∃ r,(Builtin.len_ #[T] T' #[u]).run P w=.ok r w∧AV.holds e w (kss st.V) av r∧∀ n vs,AV.sco n vs av:=by
 unfold kN at h
 split at h
 ·rename_i s z et k by_ hti
  obtain ⟨hT,_,_⟩:=dI hti
  split at h
  ·injection h with h;subst h
   simp only [AV.holds,CV.holds] at hu
   obtain ⟨ao,cap,rfl,_⟩:=hu
   exact ⟨_,by simp [Builtin.len_,run_underlying hT];rfl,by simp [AV.holds,CV.holds,Value.oneCell',goInt],by simp [AV.sco]⟩
  ·injection h with h;subst h
   simp only [AV.holds,CV.holds] at hu
   obtain ⟨rfl,_⟩:=hu
   exact ⟨_,by simp [Builtin.len_,run_underlying hT];rfl,by simp [AV.holds,CV.holds,Value.oneCell',goInt],by simp [AV.sco]⟩
  ·split at h
   ·rename_i v hv
    split at h
    ·rename_i hc
     simp only [Bool.and_eq_true,beq_iff_eq] at hc
     obtain ⟨hl,rfl⟩:=hc
     injection h with h;subst h
     simp only [AV.holds] at hu
     obtain ⟨rfl,_⟩:=hu
     obtain ⟨xs,a1,a2,a3⟩:=hr.mem.vec _ v hv (Vec.sl_live hl)
     obtain ⟨ao,c,hs,_⟩:=(a1.s (Vec.sl_T hl)).slice
     exact ⟨_,by rw [hs];simp [Builtin.len_,run_underlying hT];rfl,by simp [AV.holds,CV.holds,Value.oneCell',goInt],by simp [AV.sco]⟩
    ·cases h
   ·cases h
  ·cases h
 ·rename_i s z n et k hti
  obtain ⟨hT,_⟩:=uN hti
  injection h with h;subst h
  exact ⟨_,by simp [Builtin.len_,run_underlying hT];rfl,by simp [AV.holds,CV.holds,Value.oneCell',goInt],by simp [AV.sco]⟩
 ·cases h
def BX (mx:Bool) (args:List AV):Option AV:=
 match args with
 | [.cv (.val (.int k a)),.cv (.val (.int k' b))]=>if k=k' then some (.cv (.val (.int k (if mx then (if b > a then b else a) else (if b<a then b else a))))) else none
 | _=>none
def tE (P:Program) (src dst:TypeId) (x:AV):Option AV:=
 match P.underlying src,P.underlying dst with
 | some (.int _),some (.int k)=>match x with
  | .cv (.val (.int _ n))=>some (.cv (.val (.int k (k.wrap n))))
  | _=>none
 | _,_=>none
theorem IU {src dst:TypeId} {x av:AV} (h:tE P src dst x=some av) {e:Env} {w:World} {ks:List Nat} {u:Value} (hu:AV.holds e w ks x u) :
  ∃ r,(convert src dst u).run P w=.ok r w∧AV.holds e w ks av r∧∀ n vs,AV.sco n vs av:=by
 have _:=G
 unfold tE at h
 split at h
 ·rename_i k0 k h1 h2
  split at h
  ·rename_i k1 n
   injection h with h;subst h
   simp only [AV.holds,CV.holds] at hu
   obtain ⟨rfl,_⟩:=hu
   exact ⟨.int k (k.wrap n),by simp [convert,Sem.run_bind,run_underlying h1,run_underlying h2,Conv.intToInt],by simp [AV.holds,CV.holds,Value.oneCell'],by simp [AV.sco]⟩
  ·cases h
 ·cases h
def uQ (P:Program) (T:TypeId) (x:AV) (f:Nat):Option AV:=
 match P.underlying T with
 | some (.struct fs)=>match fs[f]? with
  | some fd=>match bM P fd.type,x with
   | some te,.agg cs=>if te.kind.agg=true then (if fd.offset+te.size≤cs.length then some (.agg ((cs.drop fd.offset).take te.size)) else none) else cs[fd.offset]?
   | _,_=>none
  | none=>none
 | _=>none
theorem LV {T:TypeId} {x av:AV} {f:Nat} (h:uQ P T x f=some av) {e:Env} {w:World} {ks:List Nat} {u:Value} (hu:AV.holds e w ks x u) :
  ∃ r,(Instr.field T u f).run P w=.ok r w∧AV.holds e w ks av r∧∀ n vs,AV.sco n vs x→AV.sco n vs av:=by
 unfold uQ at h
 split at h
 ·rename_i fs hT
  split at h
  ·rename_i fd hfd
   split at h
   ·rename_i te cs hte
    simp only [AV.holds] at hu
    obtain ⟨us,rfl,hus⟩:=hu
    split at h
    ·rename_i hagg
     split at h
     ·rename_i hlen
      injection h with h;subst h
      refine ⟨.agg (us.extract fd.offset (fd.offset+te.size)),by simp [Instr.field,Sem.run_bind,run_underlying hT,hfd,asAgg,part,nC hte,hagg,run_sizeOf hte],?_,?_⟩
      ·simp only [AV.holds]
       refine ⟨_,rfl,?_⟩
       have:=(hus.drop fd.offset).take te.size
       simpa [List.extract_eq_take_drop] using this
      ·intro n vs hs
       simp only [AV.sco,AV.scos_iff] at hs ⊢
       exact fun y hy=>hs y (List.mem_of_mem_drop (List.mem_of_mem_take hy))
     ·cases h
    ·rename_i hagg
     obtain ⟨v,h1,h2⟩:=hus.get h
     have h1':us[fd.offset]? = some v:=by simpa using h1
     refine ⟨v,by simp [Instr.field,Sem.run_bind,run_underlying hT,hfd,asAgg,part,nC hte,hagg,h1'],h2,fun n ws hs=>by simp only [AV.sco] at hs;exact AV.scos_get hs h⟩
   ·cases h
  ·cases h
 ·cases h
def GA (P:Program) (T:TypeId) (x i:AV):Option AV:=
 match bM P T,x,i with
 | some ⟨_,_,.arr n et 1⟩,.agg cs,.cv (.val (.int _ j)) =>
  match bM P et with
  | some te=>if te.kind.agg then none else if 0≤j∧j<n then cs[j.toNat]? else none
  | none=>none
 | _,_,_=>none
def aS (k:Nat):Nat→List CV→List (List CV)
 | 0,_=>[]
 | n+1,l=>l.take k::aS k n (l.drop k)
theorem tF (k:Nat):∀ (n:Nat) (l:List CV),l.length=n*k→(aS k n l).flatten=l∧(∀ e∈aS k n l,e.length=k)∧(aS k n l).length=n
 | 0,l,h=>by have _:=G;simp at h;subst h;simp [aS]
 | n+1,l,h=>by
  have:=tF k n (l.drop k) (by simp [h,Nat.add_mul])
  refine ⟨by simp [aS,this.1],?_,by simp [aS,this.2.2]⟩
  intro e he
  simp only [aS,List.mem_cons] at he
  rcases he with rfl | he
  ·simp [h,Nat.add_mul]
  ·exact this.2.1 e he
def kR (P:Program) (T:TypeId) (x:AV) (lo hi:Option AV):Option AV:=
 match bM P T with
 | some ⟨_,_,.slc _ k _⟩ =>
  if k=0 then none else
  match x with
  | .cv (.row k' es) =>
   if k'=k then
    match (match lo with | none=>some (0:Int) | some (.cv (.val (.int _ n)))=>some n | _=>none),(match hi with | none=>some (es.length:Int) | some (.cv (.val (.int _ n)))=>some n | _=>none) with
    | some l,some h=>if 0≤l∧l≤h∧h≤es.length then some (.cv (.row k ((es.take h.toNat).drop l.toNat))) else none
    | _,_=>none
   else none
  | _=>none
 | some ⟨_,_,.arr n _ k⟩ =>
  match x,lo,hi with
  | .cv (.ref cs),none,none=>if k≠0∧n*k≤cs.length∧n≤maxLen then some (.cv (.row k (aS k n (cs.take (n*k))))) else none
  | _,_,_=>none
 | _=>none
theorem wU {w:World} {S:Nat→Prop} {k:Nat}:∀ {es:List (List CV)} {b o:Nat},CV.rows w S k es b o→∀ n,CV.rows w S k (es.take n) b o
 | es,b,o,h,0=>by have _:=G;simp [CV.rows]
 | [],b,o,h,n+1=>by simp [CV.rows]
 | e::es,b,o,h,n+1=>by
  simp only [CV.rows] at h
  simp only [List.take_succ_cons,CV.rows]
  exact ⟨h.1,h.2.1,wU h.2.2 n⟩
theorem wV {w:World} {S:Nat→Prop} {k:Nat}:∀ {es:List (List CV)} {b o:Nat},CV.rows w S k es b o→∀ n,CV.rows w S k (es.drop n) b (o+n*k)
 | es,b,o,h,0=>by have _:=G;simpa using h
 | [],b,o,h,n+1=>by simp [CV.rows]
 | e::es,b,o,h,n+1=>by
  simp only [CV.rows] at h
  have:=wV h.2.2 n
  rw [show o+k+n*k=o+(n+1)*k by rw [Nat.add_mul];omega] at this
  simpa using this
theorem run_sliceBound (w:World) {v:Value} {k:IntKind} {n:Int} (hv:v=.int k n) (y:Nat) (h0:0≤n) (h1:n≤y) (code:BoundsCode):(Instr.sliceBound v y code).run P w=.ok n.toNat w:=by
 have _:=G
 subst hv
 simp [Instr.sliceBound,asIntOf,h0,h1]
theorem tG (w:World) (n cap:Nat) (vlo vhi:Option Value) (l h:Int) (hlo:(vlo=none∧l=0)∨∃ k,vlo=some (.int k l)) (hhi:(vhi=none∧h=n)∨∃ k,vhi=some (.int k h))
  (h0:0≤l) (h1:l≤h) (h2:h≤n) (hn:n≤cap):(Instr.sliceBounds true n cap vlo vhi none).run P w=.ok (l.toNat,h.toNat,cap) w:=by
 have hb1:∀ k code,(Instr.sliceBound (.int k h) cap code).run P w=.ok h.toNat w:=fun k code=>run_sliceBound w rfl cap (by omega) (by omega) code
 have hb2:∀ k code,(Instr.sliceBound (.int k l) h.toNat code).run P w=.ok l.toNat w:=fun k code=>run_sliceBound w rfl _ (by omega) (by omega) code
 rcases hlo with ⟨rfl,rfl⟩ | ⟨k,rfl⟩ <;> rcases hhi with ⟨rfl,rfl⟩ | ⟨k',rfl⟩
 ·simp [Instr.sliceBounds]
 ·simp [Instr.sliceBounds,hb1]
 ·simp only [Int.toNat_natCast] at hb2
  simp [Instr.sliceBounds,hb2]
 ·simp [Instr.sliceBounds,hb1,hb2]
theorem FB {T:TypeId} {x av:AV} {lo hi:Option AV} (h:kR P T x lo hi=some av) {e:Env} {w:World} {ks:List Nat} {u:Value} {vlo vhi:Option Value} (hu:AV.holds e w ks x u)
  (hlo:∀ y,lo=some y→∃ v,vlo=some v∧AV.holds e w ks y v) (hlo':lo=none→vlo=none) (hhi:∀ y,hi=some y→∃ v,vhi=some v∧AV.holds e w ks y v) (hhi':hi=none→vhi=none) :
  ∃ r,(Instr.sliceAt T u vlo vhi none).run P w=.ok r w∧AV.holds e w ks av r∧∀ n vs,AV.sco n vs av:=by
 unfold kR at h
 split at h
 ·rename_i s z et k by_ hti
  obtain ⟨hT,rfl,rfl⟩:=dI hti
  split at h
  ·cases h
  ·rename_i hk
   split at h
   ·rename_i k' es
    split at h
    ·rename_i hkk
     subst hkk
     split at h
     ·rename_i l hh hl hhh
      split at h
      ·rename_i hc
       injection h with h;subst h
       simp only [AV.holds,CV.holds] at hu
       obtain ⟨ao,cap,rfl,hle,hcm,hes⟩:=hu
       have hH:(vhi=none∧hh=es.length)∨∃ k,vhi=some (.int k hh):=by
        cases hi with
        | none=>exact .inl ⟨hhi' rfl,by simpa using hhh.symm⟩
        | some y =>
         obtain ⟨v,rfl,hv⟩:=hhi y rfl
         split at hhh <;> simp_all
         simp only [AV.holds,CV.holds] at hv
         exact ⟨_,hv.1⟩
       have hL:(vlo=none∧l=0)∨∃ k,vlo=some (.int k l):=by
        cases lo with
        | none=>exact .inl ⟨hlo' rfl,by simpa using hl.symm⟩
        | some y =>
         obtain ⟨v,rfl,hv⟩:=hlo y rfl
         split at hl <;> simp_all
         simp only [AV.holds,CV.holds] at hv
         exact ⟨_,hv.1⟩
       have hB:=tG (P:=P) w es.length cap vlo vhi l hh hL hH hc.1 hc.2.1 hc.2.2 hle
       have hlen:((es.take hh.toNat).drop l.toNat).length=hh.toNat - l.toNat:=by simp;omega
       refine ⟨_,by simp only [Instr.sliceAt,Instr.slice,Sem.run_bind,run_underlying hT,Result.andThen_ok,hB,aM hk,Sem.run_pure];rfl,?_,by simp [AV.sco]⟩
       simp only [AV.holds,CV.holds]
       refine ⟨_,cap - l.toNat,by rw [hlen],by rw [hlen];omega,by omega,?_⟩
       by_cases hemp:(es.take hh.toNat).drop l.toNat=[]
       ·exact .inl hemp
       ·right
        rcases hes with rfl | ⟨b,o,rfl,hS,hrows⟩
        ·simp at hemp
        ·have hne:cap≠l.toNat:=by
          intro hcl
          apply hemp
          apply List.eq_nil_of_length_eq_zero
          rw [hlen];omega
         rw [if_neg hne]
         simp only [Option.map_some,addr_add]
         exact ⟨b,_,rfl,hS,wV (wU hrows _) _⟩
      ·cases h
     ·cases h
    ·cases h
   ·cases h
 ·rename_i s z n et k hti
  obtain ⟨hT,hk⟩:=uN hti
  split at h
  ·rename_i cs
   split at h
   ·rename_i hc
    injection h with h;subst h
    obtain ⟨hk0,hle,hmx⟩:=hc
    simp only [AV.holds,CV.holds] at hu
    obtain ⟨b,o,rfl,hS,hcs⟩:=hu
    have hlo2:=hlo' rfl
    have hhi2:=hhi' rfl
    subst hlo2;subst hhi2
    have hsz:=aM (P:=P) (T:=et) (by omega) w
    have hadd:(⟨b,o,none⟩:Addr).add 0=⟨b,o,none⟩:=by rw [addr_add];rfl
    have hl:(cs.take (n*k)).length=n*k:=by simp [hle]
    obtain ⟨c1,c2,c3⟩:=tF k n (cs.take (n*k)) hl
    obtain ⟨vs,h1,h2,h3⟩:=(hcs.take (n*k)).vals
    refine ⟨.slice (some ⟨b,o,none⟩) n n,?_,?_,by simp [AV.sco]⟩
    ·simp [Instr.sliceAt,run_underlying hT,Instr.sureAddr,Instr.sliceBounds,hsz,hadd]
    ·simp only [AV.holds,CV.holds]
     refine ⟨some ⟨b,o,none⟩,n,by rw [c3],by rw [c3];exact Nat.le_refl _,hmx,.inr ⟨b,o,rfl,hS,?_⟩⟩
     exact CV.rows.of_vals c2 (by rw [c1];exact h1) h3
   ·cases h
  ·cases h
 ·cases h
def pY (P:Program) (T:TypeId) (x:AV) (lo:Option AV) (hi mx:AV):Option AV:=
 match hi,mx with
 | .cv (.val (.int k n)),.cv (.val (.int _ m))=>if n=m then (match x with
  | .cv (.row k' es)=>kR P T (.cv (.row k' es)) lo (some (.cv (.val (.int k n))))
  | _=>none) else none
 | _,_=>none
theorem LW (w:World) (n cap:Nat) (vlo:Option Value) (l h:Int) (k1 k2:IntKind) (hlo:(vlo=none∧l=0)∨∃ k,vlo=some (.int k l))
  (h0:0≤l) (h1:l≤h) (h2:h≤n) (hn:n≤cap):(Instr.sliceBounds true n cap vlo (some (.int k1 h)) (some (.int k2 h))).run P w=.ok (l.toNat,h.toNat,h.toNat) w:=by
 have hb1:∀ k code,(Instr.sliceBound (.int k h) cap code).run P w=.ok h.toNat w:=fun k code=>run_sliceBound w rfl cap (by omega) (by omega) code
 have hb3:∀ k code,(Instr.sliceBound (.int k h) h.toNat code).run P w=.ok h.toNat w:=fun k code=>run_sliceBound w rfl _ (by omega) (by omega) code
 have hb2:∀ k code,(Instr.sliceBound (.int k l) h.toNat code).run P w=.ok l.toNat w:=fun k code=>run_sliceBound w rfl _ (by omega) (by omega) code
 rcases hlo with ⟨rfl,rfl⟩ | ⟨k,rfl⟩
 ·simp [Instr.sliceBounds,hb1,hb3]
 ·simp [Instr.sliceBounds,hb1,hb2,hb3]
theorem BY {T:TypeId} {x av hi mx:AV} {lo:Option AV} (h:pY P T x lo hi mx=some av) {e:Env} {w:World} {ks:List Nat} {u:Value} {vlo:Option Value} {vhi vmx:Value} (hu:AV.holds e w ks x u)
  (hlo:∀ y,lo=some y→∃ v,vlo=some v∧AV.holds e w ks y v) (hlo':lo=none→vlo=none) (hhi:AV.holds e w ks hi vhi) (hmx:AV.holds e w ks mx vmx) :
  ∃ r,(Instr.sliceAt T u vlo (some vhi) (some vmx)).run P w=.ok r w∧AV.holds e w ks av r∧∀ n vs,AV.sco n vs av:=by
 unfold pY at h
 split at h
 case h_2=>cases h
 rename_i q nn q' mm
 split at h
 case isFalse=>cases h
 rename_i hnm
 subst hnm
 split at h
 case h_2=>cases h
 rename_i k' es
 simp only [AV.holds,CV.holds] at hhi hmx
 obtain ⟨rfl,_⟩:=hhi
 obtain ⟨rfl,_⟩:=hmx
 unfold kR at h
 split at h
 ·rename_i s z et k by_ hti
  obtain ⟨hT,rfl,rfl⟩:=dI hti
  split at h
  ·cases h
  ·rename_i hk
   simp only at h
   split at h
   ·rename_i hkk
    subst hkk
    split at h
    ·rename_i l hh hl hhh
     split at h
     ·rename_i hc
      injection h with h;subst h
      simp only [Option.some.injEq] at hhh
      subst hhh
      simp only [AV.holds,CV.holds] at hu
      obtain ⟨ao,cap,rfl,hle,hcm,hes⟩:=hu
      have hL:(vlo=none∧l=0)∨∃ k,vlo=some (.int k l):=by
       cases lo with
       | none=>exact .inl ⟨hlo' rfl,by simpa using hl.symm⟩
       | some y =>
        obtain ⟨v,rfl,hv⟩:=hlo y rfl
        split at hl <;> simp_all
        simp only [AV.holds,CV.holds] at hv
        exact ⟨_,hv.1⟩
      have hB:=LW (P:=P) w es.length cap vlo l nn q q' hL hc.1 hc.2.1 hc.2.2 hle
      have hlen:((es.take nn.toNat).drop l.toNat).length=nn.toNat - l.toNat:=by simp;omega
      refine ⟨_,by simp only [Instr.sliceAt,Instr.slice,Sem.run_bind,run_underlying hT,Result.andThen_ok,hB,aM hk,Sem.run_pure];rfl,?_,by simp [AV.sco]⟩
      simp only [AV.holds,CV.holds]
      refine ⟨_,nn.toNat - l.toNat,by rw [hlen],by rw [hlen];omega,by omega,?_⟩
      by_cases hemp:(es.take nn.toNat).drop l.toNat=[]
      ·exact .inl hemp
      ·right
       rcases hes with rfl | ⟨b,o,rfl,hS,hrows⟩
       ·simp at hemp
       ·have hne:nn.toNat≠l.toNat:=by
         intro hcl
         apply hemp
         apply List.eq_nil_of_length_eq_zero
         rw [hlen];omega
        rw [if_neg hne]
        simp only [Option.map_some,addr_add]
        exact ⟨b,_,rfl,hS,wV (wU hrows _) _⟩
     ·cases h
    ·cases h
   ·cases h
 ·rename_i hti;simp only at h;cases h
 ·cases h
end
end Go.Sx
