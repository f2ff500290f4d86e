/-
 The laws of the stints of a common hold at every input, without any condition.
-/
import Derived.Below
import Derived.CallsIn
import Derived.DeepKeys
import Derived.Great.BuildSlice
import Derived.Laws.OwnMore
import Derived.Laws.Rows
import Derived.MapKept
import Derived.OwnWalkIn
namespace Go.Sx
open Go Go.RowKit
inductive CV where
 | val (v:Value)
 | row (k:Nat) (es:List (List CV))
 | ref (cs:List CV)
 | fn (f:FuncId) (caps:List CV)
 | mp (kn:Nat) (es:List (List CV))
def mkV:List Value->Value
 | [x]=>x
 | xs=>.agg xs.toArray
mutual
def CV.holds (w:World) (S:Nat->Prop):CV->Value->Prop
 | .val x,v=>v=x/\x.oneCell'=true
 | .row k es,v=>∃ (a:Option Addr) (cap:Nat),v=.slice a es.length cap/\es.length<=cap/\cap<=maxLen /\
   (es=[]\/∃ b o,a=some ⟨b,o,none⟩/\S b/\CV.rows w S k es b o)
 | .ref cs,v=>∃ b o,v=.pointer (some ⟨b,o,none⟩)/\S b/\CV.cells w S cs b o
 | .fn f caps,v=>∃ vs,v=.func (.func f) #[] vs/\CV.vals w S caps vs.toList
 | .mp kn es,v=>∃ (b:Nat) (arr:Array MapEntry) (c:Nat) (ps:List (Value×Value)),v=.map (some b)/\S b/\w.heap[b]? = some (.map arr c)/\MapKept.Stamped arr c/\(arr.toList.map fun e=>(e.key,e.val)).Perm ps/\CV.ents w S kn es ps
def CV.cells (w:World) (S:Nat->Prop):List CV->Nat->Nat->Prop
 | [],_,_=>True
 | c::cs,b,o=>(∃ x,w.cell? ⟨b,o,none⟩=some x/\CV.holds w S c x)/\CV.cells w S cs b (o+1)
def CV.rows (w:World) (S:Nat->Prop) (k:Nat):List (List CV)->Nat->Nat->Prop
 | [],_,_=>True
 | e::es,b,o=>e.length=k/\CV.cells w S e b o/\CV.rows w S k es b (o+k)
def CV.vals (w:World) (S:Nat->Prop):List CV->List Value->Prop
 | [],[]=>True
 | c::cs,v::vs=>CV.holds w S c v/\CV.vals w S cs vs
 | _,_=>False
def CV.ents (w:World) (S:Nat->Prop) (kn:Nat):List (List CV)->List (Value×Value)->Prop
 | [],[]=>True
 | e::es,p::ps=>(∃ vs,CV.vals w S e vs/\e.length=kn+1/\p=(mkV (vs.take kn),mkV (vs.drop kn)))/\CV.ents w S kn es ps
 | _,_=>False
end
structure RO (w:World) (S:Nat->Prop) (w':World) (S':Nat->Prop):Prop where
 sub:∀ b,S b->S' b
 same:∀ b,S b->w'.heap[b]? = w.heap[b]?
theorem RO.refl (w:World) (S:Nat->Prop):RO w S w S:=⟨fun _ h=>h,fun _ _=>rfl⟩
theorem RO.trans {w w' w'':World} {S S' S'':Nat->Prop} (h:RO w S w' S') (h':RO w' S' w'' S''):RO w S w'' S'':=
 ⟨fun b hb=>h'.sub b (h.sub b hb),fun b hb=>(h'.same b (h.sub b hb)).trans (h.same b hb)⟩
theorem RO.cell {w w':World} {S S':Nat->Prop} (h:RO w S w' S') {b o:Nat} (hb:S b):w'.cell? ⟨b,o,none⟩=w.cell? ⟨b,o,none⟩:=by
 simp [World.cell?,h.same b hb]
mutual
theorem CV.holds.mono {w w':World} {S S':Nat->Prop} (h:RO w S w' S'):∀ (c:CV) (v:Value),CV.holds w S c v->CV.holds w' S' c v
 | .val _,_,hv=>by grind [CV.holds]
 | .row k es,v,hv=>by
  obtain ⟨a,cap,h1,h2,h3,h4⟩:=hv;refine ⟨a,cap,h1,h2,h3,?_⟩;rcases h4 with h4 | ⟨b,o,h4,h5,h6⟩
  ·grind
  ·exact .inr ⟨b,o,h4,h.sub b h5,CV.rows.mono h k es b o h5 h6⟩
 | .ref cs,v,hv=>by
  obtain ⟨b,o,h1,h2,h3⟩:=hv;exact ⟨b,o,h1,h.sub b h2,CV.cells.mono h cs b o h2 h3⟩
 | .fn f caps,v,hv=>by
  obtain ⟨vs,h1,h2⟩:=hv;exact ⟨vs,h1,CV.vals.mono h caps _ h2⟩
 | .mp kn es,v,hv=>by
  obtain ⟨b,arr,c,ps,h1,h2,h3,h4,h5,h6⟩:=hv;exact ⟨b,arr,c,ps,h1,h.sub b h2,(h.same b h2).trans h3,h4,h5,CV.ents.mono h kn es ps h6⟩
theorem CV.cells.mono {w w':World} {S S':Nat->Prop} (h:RO w S w' S'):∀ (cs:List CV) (b o:Nat),S b->CV.cells w S cs b o->CV.cells w' S' cs b o
 | [],_,_,_,_=>by simp [CV.cells]
 | c::cs,b,o,hb,hv=>by
  obtain ⟨⟨x,h1,h2⟩,h3⟩:=hv;exact ⟨⟨x,(h.cell hb).trans h1,CV.holds.mono h c x h2⟩,CV.cells.mono h cs b (o+1) hb h3⟩
theorem CV.rows.mono {w w':World} {S S':Nat->Prop} (h:RO w S w' S') (k:Nat):∀ (es:List (List CV)) (b o:Nat),S b->CV.rows w S k es b o->CV.rows w' S' k es b o
 | [],_,_,_,_=>by simp [CV.rows]
 | e::es,b,o,hb,hv=>by
  obtain ⟨h1,h2,h3⟩:=hv;exact ⟨h1,CV.cells.mono h e b o hb h2,CV.rows.mono h k es b (o+k) hb h3⟩
theorem CV.vals.mono {w w':World} {S S':Nat->Prop} (h:RO w S w' S'):∀ (cs:List CV) (vs:List Value),CV.vals w S cs vs->CV.vals w' S' cs vs
 | [],[],_=>by simp [CV.vals]
 | c::cs,v::vs,hv=>by
  exact ⟨CV.holds.mono h c v hv.1,CV.vals.mono h cs vs hv.2⟩
 | [],_::_,hv=>by grind [CV.vals]
 | _::_,[],hv=>by grind [CV.vals]
theorem CV.ents.mono {w w':World} {S S':Nat->Prop} (h:RO w S w' S') (kn:Nat):∀ (es:List (List CV)) (ps:List (Value×Value)),CV.ents w S kn es ps->CV.ents w' S' kn es ps
 | [],[],_=>by simp [CV.ents]
 | e::es,p::ps,hv=>by
  obtain ⟨⟨vs,h1,h2⟩,h3⟩:=hv;exact ⟨⟨vs,CV.vals.mono h e vs h1,h2⟩,CV.ents.mono h kn es ps h3⟩
 | [],_::_,hv=>by grind [CV.ents]
 | _::_,[],hv=>by grind [CV.ents]
end
theorem CV.rows.get {w:World} {S:Nat->Prop} {k:Nat}:∀ {es:List (List CV)} {b o:Nat},CV.rows w S k es b o->∀ (i:Nat) (h:i<es.length),es[i].length=k/\CV.cells w S es[i] b (o+i*k)
 | [],_,_,_,i,h=>by grind
 | e::es,b,o,hv,0,h=>by
  grind [CV.rows]
 | e::es,b,o,hv,i+1,h=>by
  have:=CV.rows.get hv.2.2 i (by grind)
  grind
theorem CV.cells.drop {w:World} {S:Nat->Prop}:∀ {cs:List CV} {b o:Nat},CV.cells w S cs b o->∀ (j:Nat),CV.cells w S (cs.drop j) b (o+j)
 | cs,b,o,hv,0=>by grind
 | [],b,o,hv,j+1=>by simp [CV.cells]
 | c::cs,b,o,hv,j+1=>by
  have:=CV.cells.drop hv.2 j;grind
theorem CV.cells.take {w:World} {S:Nat->Prop}:∀ {cs:List CV} {b o:Nat},CV.cells w S cs b o->∀ (j:Nat),CV.cells w S (cs.take j) b o
 | cs,b,o,hv,0=>by simp [CV.cells]
 | [],b,o,hv,j+1=>by grind
 | c::cs,b,o,hv,j+1=>by
  exact ⟨hv.1,CV.cells.take hv.2 j⟩
theorem CV.cells.vals {w:World} {S:Nat->Prop}:∀ {cs:List CV} {b o:Nat},CV.cells w S cs b o->∃ vs:List Value,CV.vals w S cs vs/\vs.length=cs.length/\∀ j v,vs[j]? = some v->w.cell? ⟨b,o+j,none⟩=some v
 | [],_,_,_=>⟨[],by simp [CV.vals],rfl,by simp⟩
 | c::cs,b,o,hv=>by
  obtain ⟨⟨x,h1,h2⟩,h3⟩:=hv;obtain ⟨vs,h4,h5,h6⟩:=CV.cells.vals h3;refine ⟨x::vs,by grind [CV.vals],by grind,?_⟩
  grind
theorem CV.vals.length {w:World} {S:Nat->Prop}:∀ {cs:List CV} {vs:List Value},CV.vals w S cs vs->vs.length=cs.length
 | [],[],_=>rfl
 | _::_,_::_,h=>by simp only [CV.vals] at h;simp [CV.vals.length h.2]
 | [],_::_,h=>by grind [CV.vals]
 | _::_,[],h=>by grind [CV.vals]
theorem CV.vals.append {w:World} {S:Nat->Prop}:∀ {cs cs':List CV} {vs vs':List Value},CV.vals w S cs vs->CV.vals w S cs' vs'->CV.vals w S (cs++cs') (vs++vs')
 | [],_,[],_,_,h'=>by grind
 | _::_,_,_::_,_,h,h'=>by
  simpa using ⟨h.1,CV.vals.append h.2 h'⟩
 | [],_,_::_,_,h,_=>by grind [CV.vals]
 | _::_,_,[],_,h,_=>by grind [CV.vals]
theorem eG {w:World} {S:Nat->Prop}:∀ {cs cs':List CV} {vs:List Value},CV.vals w S (cs++cs') vs->CV.vals w S cs (vs.take cs.length)/\CV.vals w S cs' (vs.drop cs.length)
 | [],cs',vs,h=>⟨by simp [CV.vals],by grind⟩
 | c::cs,cs',[],h=>by grind [CV.vals]
 | c::cs,cs',v::vs,h=>by
  have:=eG h.2;grind [CV.vals]
def PA (kn k n:Nat) (xs:List Value):List (Value×Value):=(List.range n).map fun i=>(mkV ((xs.drop (i*k)).take kn),mkV (((xs.drop (i*k)).take k).drop kn))
theorem CC {w:World} {S:Nat->Prop} {kn:Nat}:∀ {es:List (List CV)} {xs:List Value},CV.vals w S es.flatten xs->(∀ l∈es,l.length=kn+1)->CV.ents w S kn es (PA kn (kn+1) es.length xs)
 | [],xs,_,_=>by simp [PA,CV.ents]
 | e::es,xs,h,hl=>by
  obtain ⟨h1,h2⟩:=eG h;have he:=hl e (by simp)
  rw [he] at h1 h2;have ih:=CC h2 fun l hm=>hl l (by grind)
  simp [PA,List.range_succ_eq_map];refine ⟨⟨xs.take (kn+1),h1,he,?_⟩,?_⟩
  ·grind
  ·have hf:((fun i=>(mkV ((xs.drop (i*(kn+1))).take kn),mkV (((xs.drop (i*(kn+1))).take (kn+1)).drop kn)))∘Nat.succ)=fun i=>(mkV (((xs.drop (kn+1)).drop (i*(kn+1))).take kn),mkV ((((xs.drop (kn+1)).drop (i*(kn+1))).take (kn+1)).drop kn)):=by
    funext i;simp [Nat.succ_mul,Nat.add_comm]
   rw [hf];exact ih
theorem CV.cells.of_vals {w:World} {S:Nat->Prop} {b:Nat}:∀ {cs:List CV} {vs:List Value} {o:Nat},CV.vals w S cs vs->(∀ j v,vs[j]? = some v->w.cell? ⟨b,o+j,none⟩=some v)->CV.cells w S cs b o
 | [],_,_,_,_=>by simp [CV.cells]
 | c::cs,v::vs,o,h,hc=>by
  refine ⟨⟨v,by simpa using hc 0 v rfl,h.1⟩,CV.cells.of_vals h.2 fun j v hj=>?_⟩
  have:=hc (j+1) v (by grind)
  grind
 | _::_,[],_,h,_=>by grind [CV.vals]
theorem CV.rows.of_vals {w:World} {S:Nat->Prop} {b k:Nat}:∀ {es:List (List CV)} {vs:List Value} {o:Nat},(∀ e∈es,e.length=k)->CV.vals w S es.flatten vs->(∀ j v,vs[j]? = some v->w.cell? ⟨b,o+j,none⟩=some v)->CV.rows w S k es b o
 | [],_,_,_,_,_=>by simp [CV.rows]
 | e::es,vs,o,hk,h,hc=>by
  have md:∀ {cs cs':List CV} {vs:List Value},CV.vals w S (cs++cs') vs->CV.vals w S cs (vs.take cs.length)/\CV.vals w S cs' (vs.drop cs.length):=by
   intro cs
   induction cs with
   | nil=>grind [CV.vals]
   | cons c cs ih =>
    intro cs' vs h;cases vs with
    | nil=>grind [CV.vals]
    | cons v vs =>
     grind [CV.vals]
  have hs:=md h;have Eg:=hk e (by simp)
  refine ⟨Eg,CV.cells.of_vals hs.1 fun j v hj=>hc j v ?_,CV.rows.of_vals (fun e he=>hk e (by grind)) hs.2 fun j v hj=>?_⟩
  ·grind
  grind
theorem CV.holds.one {w:World} {S:Nat->Prop}:∀ {c:CV} {v:Value},CV.holds w S c v->v.oneCell'=true
 | .val x,v,h=>by grind [CV.holds]
 | .row k es,v,h=>by obtain ⟨a,cap,rfl,_⟩:=h;rfl
 | .ref cs,v,h=>by obtain ⟨b,o,rfl,_⟩:=h;rfl
 | .fn f caps,v,h=>by obtain ⟨vs,rfl,_⟩:=h;rfl
 | .mp kn es,v,h=>by obtain ⟨b,_,_,_,rfl,_⟩:=h;rfl
theorem CV.vals.one {w:World} {S:Nat->Prop}:∀ {cs:List CV} {vs:List Value},CV.vals w S cs vs->∀ v∈vs,v.oneCell'=true
 | [],[],_,v,h=>by grind
 | _::_,_::_,h,v,hv=>by
  rcases List.mem_cons.1 hv with rfl | hv
  ·exact h.1.one
  ·exact CV.vals.one h.2 v hv
 | [],_::_,h,_,_=>by grind [CV.vals]
 | _::_,[],h,_,_=>by grind
inductive AV where
 | any
 | cv (c:CV)
 | ptr (i off:Nat)
 | own (i ver:Nat)
 | opt (i ver el o:Nat)
 | agg (cs:List AV)
 | tup (vs:List AV)
 | fn (f:FuncId) (caps:List AV)
 | gd (L:List Bool) (x:AV)
structure Env where
 ρ:Nat->Nat
 hdr:Nat->Nat->Value
 S:Nat->Prop
 base:Nat
 H:Nat->Option (Obj×Bool)
 y:Bool
structure Box where
 live:Bool
 T:TypeId
 cs:List AV
structure Vec where
 live:Bool
 T:TypeId
 k:Nat
 ver:Nat
 es:List (List CV)
def bM:Value->Option Nat
 | .slice (some a) _ (_+1)=>some a.block
 | .map (some b)=>some b
 | _=>none
def OwnsS (w:World) (n0:Nat) (T:TypeId) (k:Nat) (v:Value) (n:Nat) (xs:List Value):Prop:=
 (∃ a,v=.slice a 0 0/\n=0/\xs=[])\/(w.ownsRow n0 T k v n xs/\∃ g,bM v=some g/\v.ownBlock=some g)
theorem OwnsS.one {w:World} {n0:Nat} {T:TypeId} {k:Nat} {v:Value} {n:Nat} {xs:List Value} (h:OwnsS w n0 T k v n xs):v.oneCell'=true:=by
 rcases h with ⟨a,rfl,_⟩ | ⟨h,_⟩
 ·rfl
 ·rcases h.2 with ⟨rfl,_⟩ | ⟨g,cap,cur,rfl,_⟩ <;> rfl
theorem OwnsS.slice {w:World} {n0:Nat} {T:TypeId} {k:Nat} {v:Value} {n:Nat} {xs:List Value} (h:OwnsS w n0 T k v n xs):∃ a c,v=.slice a n c/\n<=c/\c<=maxLen:=by
 rcases h with ⟨a,rfl,rfl,_⟩ | ⟨h,_⟩
 ·grind
 ·rcases h.2 with ⟨rfl,rfl⟩ | ⟨g,cap,cur,rfl,_,_,h1,h2,_⟩
  ·grind
  grind
theorem OwnsS.len {w:World} {n0:Nat} {T:TypeId} {k:Nat} {v:Value} {n:Nat} {xs:List Value} (h:OwnsS w n0 T k v n xs):xs.length=n*k:=by
 rcases h with ⟨a,rfl,rfl,rfl⟩ | ⟨h,_⟩
 ·simp
 ·exact h.1
theorem OwnsS.of_row {w:World} {n0:Nat} {T:TypeId} {k:Nat} {v:Value} {n:Nat} {xs:List Value} (h:w.ownsRow n0 T k v n xs):OwnsS w n0 T k v n xs:=by
 rcases h.2 with ⟨rfl,rfl⟩ | ⟨g,cap,cur,rfl,a1,a2,a3,a4⟩
 ·exact .inl ⟨none,rfl,rfl,by simpa using h.1⟩
 ·cases cap with
  | zero =>
   obtain rfl:n=0:=by omega
   exact .inl ⟨_,rfl,rfl,by grind⟩
  | succ cap=>exact .inr ⟨h,g,rfl,rfl⟩
theorem OwnsS.lt {w:World} {n0:Nat} {T:TypeId} {k:Nat} {v:Value} {n:Nat} {xs:List Value} (h:OwnsS w n0 T k v n xs):∀ g,bM v=some g->n0<=g/\g<w.heap.size:=by
 intro g hg;rcases h with ⟨a,rfl,_⟩ | ⟨h,g',h1,h2⟩
 ·simp_all [bM]
 ·rw [hg] at h1;cases h1;exact h.lt g h2
theorem OwnsS.keep {w w':World} {n0:Nat} {T:TypeId} {k:Nat} {v:Value} {n:Nat} {xs:List Value} (h:OwnsS w n0 T k v n xs) (hk:∀ g,bM v=some g->w'.heap[g]? = w.heap[g]?):OwnsS w' n0 T k v n xs:=by
 rcases h with h | ⟨⟨h0,h1⟩,g',h3,h4⟩
 ·exact .inl h
 ·refine .inr ⟨⟨h0,?_⟩,g',h3,h4⟩
  rcases h1 with h1 | ⟨g,cap,cur,a1,a2,a3,a4⟩
  ·grind
  ·refine .inr ⟨g,cap,cur,a1,a2,(hk g ?_).trans a3,a4⟩
   grind [Value.ownBlock]
theorem OwnsS.cells {w:World} {n0:Nat} {T:TypeId} {k:Nat} {v:Value} {n:Nat} {xs:List Value} (h:OwnsS w n0 T k v n xs) {g:Nat} (hg:bM v=some g):∀ j u,xs[j]? = some u->w.cell? ((⟨g,0,none⟩:Addr).add j)=some u:=by
 rcases h with ⟨a,rfl,_⟩ | ⟨h,g',h1,h2⟩
 ·grind
 ·rw [hg] at h1;cases h1;exact h.cells h2
def bQ:Nat:=1048576
def Vec.sl (v:Vec):Bool:=v.live&&decide (v.T<bQ)
theorem Vec.sl_live {v:Vec} (h:v.sl=true):v.live=true:=by unfold Vec.sl at h;grind
theorem Vec.sl_T {v:Vec} (h:v.sl=true):v.T<bQ:=by unfold Vec.sl at h;grind
theorem Vec.sl_mk {v:Vec} (h:v.sl=true) (k ver:Nat) (es:List (List CV)):Vec.sl ⟨v.live,v.T,k,ver,es⟩=true:=h
def OwnsM (w:World) (n0:Nat) (T:TypeId) (k:Nat) (v:Value) (n:Nat) (xs:List Value):Prop:=
 bQ<T/\∃ (b:Nat) (arr:Array MapEntry) (c:Nat),v=.map (some b)/\n0<=b/\w.heap[b]? = some (.map arr c)/\xs.length=n*k /\
  MapKept.Stamped arr c/\(arr.toList.map fun e=>(e.key,e.val)).Perm (PA (T / bQ - 1) k n xs)
def OwnsV (w:World) (n0:Nat) (T:TypeId) (k:Nat) (v:Value) (n:Nat) (xs:List Value):Prop:=
 (T<bQ/\OwnsS w n0 T k v n xs)\/OwnsM w n0 T k v n xs
section
variable {w w':World} {n0:Nat} {T:TypeId} {k:Nat} {v:Value} {n:Nat} {xs:List Value}
theorem OwnsV.s (h:OwnsV w n0 T k v n xs) (hT:T<bQ):OwnsS w n0 T k v n xs:=by
 rcases h with h | h
 ·grind
 ·exact absurd hT (Nat.not_lt.2 (Nat.le_of_lt h.1))
theorem OwnsV.ne (h:OwnsV w n0 T k v n xs):T≠bQ:=by
 rcases h with h | h
 ·grind
 ·exact Nat.ne_of_gt h.1
theorem OwnsV.one (h:OwnsV w n0 T k v n xs):v.oneCell'=true:=by
 rcases h with ⟨_,h⟩ | ⟨_,b,arr,c,rfl,_⟩
 ·exact h.one
 ·rfl
theorem OwnsV.of_row (hT:T<bQ) (h:w.ownsRow n0 T k v n xs):OwnsV w n0 T k v n xs:=.inl ⟨hT,OwnsS.of_row h⟩
theorem OwnsV.m (h:OwnsV w n0 T k v n xs) (hT:bQ<=T):OwnsM w n0 T k v n xs:=by
 rcases h with h | h
 ·grind
 omega
theorem OwnsV.lt (h:OwnsV w n0 T k v n xs):∀ g,bM v=some g->n0<=g/\g<w.heap.size:=by
 rcases h with ⟨_,h⟩ | ⟨_,b,arr,c,rfl,h1,h2,_⟩
 ·exact h.lt
 grind [bM]
theorem OwnsV.keep (h:OwnsV w n0 T k v n xs) (hk:∀ g,bM v=some g->w'.heap[g]? = w.heap[g]?):OwnsV w' n0 T k v n xs:=by
 rcases h with ⟨hT,h⟩ | ⟨h0,b,arr,c,rfl,h1,h2,h3⟩
 ·exact .inl ⟨hT,h.keep hk⟩
 ·exact .inr ⟨h0,b,arr,c,rfl,h1,(hk b rfl).trans h2,h3⟩
end
def sN:List AV->Bool
 | .gd [false] .any::_=>true
 | _=>false
def aGu (n:Nat):Value->Value
 | .pointer (some a)=>.slice (some a) n n
 | _=>.slice none 0 0
def fnV (f:FuncId) (b:Bool) (vs:Array Value):Value:=match b with
 | false=>.func (.func f) #[] vs
 | true=>if vs.size=3 then aGu f (vs.getD 2 undef) else .func (.func f) (vs.extract 1 vs.size) #[]
theorem UU (f:FuncId) {b:Array Value} (hb:b.size=1):fnV f true (#[undef]++b)=.func (.func f) b #[]:=by
 simp_all [fnV]
theorem aDt (n:Nat) (v:Value):(aGu n v).oneCell'=true:=by unfold aGu;split <;> rfl
theorem aGv (f:FuncId) (b:Bool) (vs:Array Value):(fnV f b vs).oneCell'=true:=by
 cases b with
 | false=>rfl
 | true =>
  simp [fnV];split
  ·exact aDt _ _
  ·rfl
mutual
def AV.holds (e:Env) (w:World) (ks:List Nat):AV->Value->Prop
 | .any,_=>True
 | .cv c,v=>CV.holds w e.S c v
 | .ptr i off,v=>v=.pointer (some ⟨e.ρ i,off,none⟩)
 | .own i ver,v=>v=e.hdr i ver/\v.oneCell'=true
 | .opt i ver el o,v=>∃ b,bM (e.hdr i ver)=some b/\v=.pointer (some ⟨b,el*ks.getD i 0+o,none⟩)
 | .agg cs,v=>∃ vs,v=.agg vs/\AV.all e w ks cs vs.toList
 | .tup cs,v=>∃ vs,v=.tuple vs/\AV.all e w ks cs vs.toList
 | .fn f caps,v=>∃ vs,v=fnV f (sN caps) vs/\AV.all e w ks caps vs.toList
 | .gd L x,v=>((∀ b∈L,b=true)->AV.holds e w ks x v)/\((¬∀ b∈L,b=true)->v=undef)
def AV.all (e:Env) (w:World) (ks:List Nat):List AV->List Value->Prop
 | [],[]=>True
 | c::cs,v::vs=>AV.holds e w ks c v/\AV.all e w ks cs vs
 | _,_=>False
end
def AV.slb (n i off:Nat):AV:=.fn n [.gd [false] .any,.any,.ptr i off]
theorem AV.slb_holds {e:Env} {w:World} {ks:List Nat} {n i off:Nat} {v:Value}:AV.holds e w ks (AV.slb n i off) v↔v=.slice (some ⟨e.ρ i,off,none⟩) n n:=by
 unfold AV.slb;simp [AV.holds,sN];constructor
 ·rintro ⟨vs,rfl,h⟩
  match hv:vs.toList,h with
  | [a,b,c],h =>
   simp [AV.all,AV.holds] at h;have hs:vs.size=3:=by grind [Array.length_toList]
   have hc:vs.getD 2 undef=c:=by
    have:vs=#[a,b,c]:=by grind
    simp_all
   simp_all [fnV,aGu]
  | [],h=>grind [AV.all]
  | [_],h=>grind [AV.all]
  | [_,_],h=>grind [AV.all]
  | _::_::_::_::_,h=>grind [AV.all]
 ·rintro rfl
  refine ⟨#[undef,undef,.pointer (some ⟨e.ρ i,off,none⟩)],rfl,?_⟩;simp [AV.all,AV.holds]
mutual
def AV.sco (nB:Nat) (vers:List Nat):AV->Prop
 | .any=>True
 | .cv _=>True
 | .ptr i _=>i<nB
 | .own i u=>i<vers.length/\u<=vers.getD i 0
 | .opt i u _ _=>i<vers.length/\u<=vers.getD i 0
 | .agg cs=>AV.scos nB vers cs
 | .tup cs=>AV.scos nB vers cs
 | .fn _ cs=>AV.scos nB vers cs
 | .gd _ x=>AV.sco nB vers x
def AV.scos (nB:Nat) (vers:List Nat):List AV->Prop
 | []=>True
 | c::cs=>AV.sco nB vers c/\AV.scos nB vers cs
end
structure Ext (e:Env) (w:World) (nB:Nat) (vers ks:List Nat) (e':Env) (w':World) (nB':Nat) (vers' ks':List Nat):Prop where
 ro:RO w e.S w' e'.S
 ρ:∀ i,i<nB->e'.ρ i=e.ρ i
 hdr:∀ i u,i<vers.length->u<=vers.getD i 0->e'.hdr i u=e.hdr i u
 nB:nB<=nB'
 nV:vers.length<=vers'.length
 verle:∀ i,i<vers.length->vers.getD i 0<=vers'.getD i 0
 kseq:∀ i,i<vers.length->ks'.getD i 0=ks.getD i 0
 sz:w.heap.size<=w'.heap.size
 snew:∀ b,e'.S b->e.S b\/e.base<=b
 be:e'.base=e.base
 he:e.y=false->e'.H=e.H
 ye:e'.y=e.y
theorem Ext.refl (e:Env) (w:World) (nB:Nat) (vers ks:List Nat):Ext e w nB vers ks e w nB vers ks:=
 ⟨RO.refl _ _,fun _ _=>rfl,fun _ _ _ _=>rfl,Nat.le_refl _,Nat.le_refl _,fun _ _=>Nat.le_refl _,fun _ _=>rfl,Nat.le_refl _,fun _ h=>.inl h,rfl,fun _=>rfl,rfl⟩
theorem Ext.trans {e e' e'':Env} {w w' w'':World} {n n' n'':Nat} {vs vs' vs'' ks ks' ks'':List Nat}
  (h:Ext e w n vs ks e' w' n' vs' ks') (h':Ext e' w' n' vs' ks' e'' w'' n'' vs'' ks''):Ext e w n vs ks e'' w'' n'' vs'' ks'':=
 ⟨h.ro.trans h'.ro,fun i hi=>(h'.ρ i (Nat.lt_of_lt_of_le hi h.nB)).trans (h.ρ i hi),
  fun i u hi hu=>(h'.hdr i u (Nat.lt_of_lt_of_le hi h.nV) (Nat.le_trans hu (h.verle i hi))).trans (h.hdr i u hi hu),
  Nat.le_trans h.nB h'.nB,Nat.le_trans h.nV h'.nV,fun i hi=>Nat.le_trans (h.verle i hi) (h'.verle i (Nat.lt_of_lt_of_le hi h.nV)),
  fun i hi=>(h'.kseq i (Nat.lt_of_lt_of_le hi h.nV)).trans (h.kseq i hi),Nat.le_trans h.sz h'.sz,fun b hb=>(h'.snew b hb).elim (h.snew b) fun hl=>.inr (h.be▸hl),h'.be.trans h.be,fun hy=>(h'.he (h.ye.trans hy)).trans (h.he hy),h'.ye.trans h.ye⟩
section
variable {e e':Env} {w w':World} {nB nB':Nat} {vers vers' ks ks':List Nat}
mutual
theorem AV.holds.mono (h:Ext e w nB vers ks e' w' nB' vers' ks'):∀ (x:AV) (v:Value),AV.sco nB vers x->AV.holds e w ks x v->AV.holds e' w' ks' x v
 | .any,_,_,_=>by simp [AV.holds]
 | .cv c,v,_,hv=>by exact CV.holds.mono h.ro c v hv
 | .ptr i off,v,hs,hv=>by simp [AV.holds] at hv hs ⊢;rw [h.ρ i hs];exact hv
 | .own i u,v,hs,hv=>by simp [AV.holds] at hv hs ⊢;rw [h.hdr i u hs.1 hs.2];exact hv
 | .opt i u el o,v,hs,hv=>by
  simp only [AV.holds] at hv hs ⊢;rw [h.hdr i u hs.1 hs.2,h.kseq i hs.1];exact hv
 | .agg cs,v,hs,hv=>by
  obtain ⟨vs,h1,h2⟩:=hv;exact ⟨vs,h1,AV.all.mono h cs _ hs h2⟩
 | .tup cs,v,hs,hv=>by
  obtain ⟨vs,h1,h2⟩:=hv;exact ⟨vs,h1,AV.all.mono h cs _ hs h2⟩
 | .fn f cs,v,hs,hv=>by
  obtain ⟨vs,h1,h2⟩:=hv;exact ⟨vs,h1,AV.all.mono h cs _ hs h2⟩
 | .gd L x,v,hs,hv=>by
  exact ⟨fun hb=>AV.holds.mono h x v hs (hv.1 hb),hv.2⟩
theorem AV.all.mono (h:Ext e w nB vers ks e' w' nB' vers' ks'):∀ (xs:List AV) (vs:List Value),AV.scos nB vers xs->AV.all e w ks xs vs->AV.all e' w' ks' xs vs
 | [],[],_,_=>by simp [AV.all]
 | x::xs,v::vs,hs,hv=>by
  exact ⟨AV.holds.mono h x v hs.1 hv.1,AV.all.mono h xs vs hs.2 hv.2⟩
 | [],_::_,_,hv=>by grind [AV.all]
 | _::_,[],_,hv=>by grind [AV.all]
end
mutual
theorem AV.sco.mono (h1:nB<=nB') (h2:vers.length<=vers'.length) (h3:∀ i,i<vers.length->vers.getD i 0<=vers'.getD i 0):∀ (x:AV),AV.sco nB vers x->AV.sco nB' vers' x
 | .any,_=>by simp [AV.sco]
 | .cv _,_=>by simp [AV.sco]
 | .ptr i _,hs=>by grind [AV.sco]
 | .own i u,hs=>by grind [AV.sco]
 | .opt i u _ _,hs=>by grind [AV.sco]
 | .agg cs,hs=>by exact AV.scos.mono h1 h2 h3 cs hs
 | .tup cs,hs=>by exact AV.scos.mono h1 h2 h3 cs hs
 | .fn _ cs,hs=>by exact AV.scos.mono h1 h2 h3 cs hs
 | .gd _ x,hs=>by exact AV.sco.mono h1 h2 h3 x hs
theorem AV.scos.mono (h1:nB<=nB') (h2:vers.length<=vers'.length) (h3:∀ i,i<vers.length->vers.getD i 0<=vers'.getD i 0):∀ (xs:List AV),AV.scos nB vers xs->AV.scos nB' vers' xs
 | [],_=>by simp [AV.scos]
 | x::xs,hs=>by
  exact ⟨AV.sco.mono h1 h2 h3 x hs.1,AV.scos.mono h1 h2 h3 xs hs.2⟩
end
theorem Ext.scos (h:Ext e w nB vers ks e' w' nB' vers' ks') {x:List AV} (hs:AV.scos nB vers x):AV.scos nB' vers' x:=AV.scos.mono h.nB h.nV h.verle x hs
end
theorem AV.all.length {e:Env} {w:World} {ks:List Nat}:∀ {xs:List AV} {vs:List Value},AV.all e w ks xs vs->vs.length=xs.length
 | [],[],_=>rfl
 | _::_,_::_,h=>by simp only [AV.all] at h;simp [AV.all.length h.2]
 | [],_::_,h=>by grind [AV.all]
 | _::_,[],h=>by grind [AV.all]
theorem AV.all.get {e:Env} {w:World} {ks:List Nat}:∀ {xs:List AV} {vs:List Value},AV.all e w ks xs vs->∀ {i:Nat} {x:AV},xs[i]? = some x->∃ v,vs[i]? = some v/\AV.holds e w ks x v
 | [],[],_,i,x,h=>by grind
 | c::cs,v::vs,hv,0,x,h=>by
  grind [AV.all]
 | c::cs,v::vs,hv,i+1,x,h=>by
  exact AV.all.get hv.2 (by grind)
 | [],_::_,h,_,_,_=>by grind
 | _::_,[],h,_,_,_=>by grind [AV.all]
theorem AV.all.set {e:Env} {w:World} {ks:List Nat}:∀ {xs:List AV} {vs:List Value},AV.all e w ks xs vs->∀ (i:Nat) {x:AV} {v:Value},AV.holds e w ks x v->AV.all e w ks (xs.set i x) (vs.set i v)
 | [],[],_,i,x,v,_=>by grind
 | c::cs,u::vs,hv,0,x,v,h=>by
  grind [AV.all]
 | c::cs,u::vs,hv,i+1,x,v,h=>by
  simpa using ⟨hv.1,AV.all.set hv.2 i h⟩
 | [],_::_,h,_,_,_,_=>by grind [AV.all]
 | _::_,[],h,_,_,_,_=>by grind [AV.all]
theorem AV.all.append {e:Env} {w:World} {ks:List Nat}:∀ {xs ys:List AV} {vs us:List Value},AV.all e w ks xs vs->AV.all e w ks ys us->AV.all e w ks (xs++ys) (vs++us)
 | [],_,[],_,_,h'=>by grind
 | _::_,_,_::_,_,h,h'=>by
  simpa using ⟨h.1,AV.all.append h.2 h'⟩
 | [],_,_::_,_,h,_=>by grind [AV.all]
 | _::_,_,[],_,h,_=>by grind [AV.all]
theorem AV.all.drop {e:Env} {w:World} {ks:List Nat}:∀ {xs:List AV} {vs:List Value},AV.all e w ks xs vs->∀ (n:Nat),AV.all e w ks (xs.drop n) (vs.drop n)
 | xs,vs,h,0=>by grind
 | [],[],_,n+1=>by grind
 | _::_,_::_,h,n+1=>by
  simpa using AV.all.drop h.2 n
 | [],_::_,h,_=>by grind [AV.all]
 | _::_,[],h,_=>by grind [AV.all]
theorem AV.all.take {e:Env} {w:World} {ks:List Nat}:∀ {xs:List AV} {vs:List Value},AV.all e w ks xs vs->∀ (n:Nat),AV.all e w ks (xs.take n) (vs.take n)
 | xs,vs,h,0=>by simp [AV.all]
 | [],[],_,n+1=>by grind
 | _::_,_::_,h,n+1=>by
  simpa using ⟨h.1,AV.all.take h.2 n⟩
 | [],_::_,h,_=>by grind [AV.all]
 | _::_,[],h,_=>by grind [AV.all]
theorem AV.all.of_vals {e:Env} {w:World} {ks:List Nat}:∀ {cs:List CV} {vs:List Value},CV.vals w e.S cs vs->AV.all e w ks (cs.map .cv) vs
 | [],[],_=>by simp [AV.all]
 | _::_,_::_,h=>by
  simpa using ⟨h.1,AV.all.of_vals h.2⟩
 | [],_::_,h=>by grind [CV.vals]
 | _::_,[],h=>by grind [CV.vals]
theorem AV.scos_get {nB:Nat} {vers:List Nat}:∀ {xs:List AV},AV.scos nB vers xs->∀ {i:Nat} {x:AV},xs[i]? = some x->AV.sco nB vers x
 | [],_,i,x,h=>by grind
 | c::cs,hs,0,x,h=>by grind [AV.scos]
 | c::cs,hs,i+1,x,h=>by exact AV.scos_get hs.2 (by simpa using h)
theorem AV.scos_iff {nB:Nat} {vers:List Nat}:∀ {xs:List AV},AV.scos nB vers xs↔∀ x∈xs,AV.sco nB vers x
 | []=>by simp [AV.scos]
 | c::cs=>by simp [AV.scos,AV.scos_iff (xs:=cs)]
theorem AV.scos_cv (nB:Nat) (vers:List Nat) (cs:List CV):AV.scos nB vers (cs.map .cv):=by
 grind [AV.scos_iff,AV.sco]
abbrev vers (V:List Vec):List Nat:=V.map (·.ver)
abbrev kss (V:List Vec):List Nat:=V.map (·.k)
abbrev ghT:Nat:=bQ
class Ghost where
 J:List (List CV)->(Nat->Option (Obj×Bool))->Prop
 lo:Nat
 w:World
 yy:Bool
def Env.nb (e:Env) (n0:Nat):Nat:=if e.y=true then 0 else n0
theorem Env.nb_le (e:Env) (n0:Nat):e.nb n0<=n0:=by unfold Env.nb;grind
theorem Env.nb_false {e:Env} (h:e.y=false) (n0:Nat):e.nb n0=n0:=by unfold Env.nb;grind
section
variable [G:Ghost]
def GW (w:World):Prop:=w.os=G.w.os/\w.tape=G.w.tape/\w.output=G.w.output/\G.yy=true
structure Hid (e:Env) (B:List Box) (V:List Vec) (w:World):Prop where
 obj:∀ (b:Nat) (o:Obj) (f:Bool),e.H b=some (o,f)->w.heap[b]? = some o
 box:∀ (i:Nat) (b:Box),B[i]? = some b->b.live=true->e.H (e.ρ i)=none
 vec:∀ (i:Nat) (x:Vec) (g:Nat),V[i]? = some x->x.live=true->bM (e.hdr i x.ver)=some g->e.H g=none
 gh:∀ (i:Nat) (x:Vec),V[i]? = some x->x.T=ghT->i=0/\e.y=true/\G.J x.es e.H/\G.lo<=e.base
 own:∀ (b:Nat) (o:Obj),e.S b->e.H b≠some (o,true)
structure Mem (n0:Nat) (w0:World) (e:Env) (B:List Box) (V:List Vec) (w:World):Prop where
 box:∀ (i:Nat) (b:Box),B[i]? = some b->b.live=true->∃ vs:Array Value,w.heap[e.ρ i]? = some (.cells vs b.T (0,0))/\AV.all e w (kss V) b.cs vs.toList
 boxsc:∀ (i:Nat) (b:Box),B[i]? = some b->AV.scos B.length (vers V) b.cs
 boxlo:∀ (i:Nat) (b:Box),B[i]? = some b->b.live=true->n0<=e.ρ i/\¬e.S (e.ρ i)
 boxinj:∀ (i j:Nat) (b b':Box),B[i]? = some b->B[j]? = some b'->b.live=true->b'.live=true->e.ρ i=e.ρ j->i=j
 vec:∀ (i:Nat) (x:Vec),V[i]? = some x->x.live=true->∃ xs,OwnsV w n0 x.T x.k (e.hdr i x.ver) x.es.length xs/\CV.vals w e.S x.es.flatten xs/\∀ l∈x.es,l.length=x.k
 vecS:∀ (i:Nat) (x:Vec) (g:Nat),V[i]? = some x->x.live=true->bM (e.hdr i x.ver)=some g->¬e.S g
 vecbox:∀ (i:Nat) (x:Vec) (j:Nat) (b:Box) (g:Nat),V[i]? = some x->x.live=true->B[j]? = some b->b.live=true->bM (e.hdr i x.ver)=some g->e.ρ j≠g
 vecinj:∀ (i:Nat) (x:Vec) (j:Nat) (y:Vec) (g:Nat),V[i]? = some x->x.live=true->V[j]? = some y->y.live=true->bM (e.hdr i x.ver)=some g->bM (e.hdr j y.ver)=some g->i=j
 ro:∀ b:Nat,e.S b->b<w.heap.size
 below:Below (e.nb n0) w0 w
 base:n0<=w.heap.size
 bl:e.base<=n0/\(e.y=true->GW w0)
 hid:Hid e B V w
theorem Mem.nbase {n0:Nat} {w0:World} {e:Env} {B:List Box} {V:List Vec} {w:World} (h:Mem n0 w0 e B V w):e.nb n0<=w.heap.size:=Nat.le_trans (e.nb_le n0) h.base
theorem Mem.liveT {n0:Nat} {w0:World} {e:Env} {B:List Box} {V:List Vec} {w:World} (h:Mem n0 w0 e B V w) {i:Nat} {x:Vec} (hi:V[i]? = some x) (hl:x.live=true):x.T≠ghT:=by
 obtain ⟨xs,h1,_⟩:=h.vec i x hi hl;exact h1.ne
def SameG (V V':List Vec):Prop:=∀ (i:Nat) (x:Vec),V'[i]? = some x->x.T=ghT->∃ x0,V[i]? = some x0/\x0.T=ghT/\x0.es=x.es
theorem SameG.refl (V:List Vec):SameG V V:=have _:=G;fun _ x h1 h2=>⟨x,h1,h2,rfl⟩
theorem SameG.set {V:List Vec} {i:Nat} {y:Vec} (h:y.T≠ghT):SameG V (V.set i y):=by
 have _:=G;intro j x hx hT;grind
theorem SameG.app {V ds:List Vec} (h:∀ y∈ds,y.T≠ghT):SameG V (V++ds):=by
 have _:=G;intro j x hx hT;grind
section
variable {e e':Env} {B B':List Box} {V V':List Vec} {w w':World}
theorem Hid.new (h:Hid e B V w) {b:Nat} (hb:w.heap.size<=b):e.H b=none:=by
 cases ho:e.H b with
 | none=>rfl
 | some o =>
  have:=(Array.getElem?_eq_some_iff.1 (h.obj b o.1 o.2 ho)).1;omega
theorem Hid.of (h:Hid e B V w) (hH:e'.H=e.H) (hy:e'.y=e.y/\e'.base=e.base) (hS:∀ b,e'.S b->e.S b\/e.H b=none) (hG:SameG V V') (z9:∀ b,b<w.heap.size->e.H b≠none->w'.heap[b]? = w.heap[b]?)
  (hB:∀ (i:Nat) (b:Box),B'[i]? = some b->b.live=true->(∃ i' b',B[i']? = some b'/\b'.live=true/\e'.ρ i=e.ρ i')\/w.heap.size<=e'.ρ i)
  (hV:∀ (i:Nat) (x:Vec) (g:Nat),V'[i]? = some x->x.live=true->bM (e'.hdr i x.ver)=some g->(∃ i' x',V[i']? = some x'/\x'.live=true/\bM (e.hdr i' x'.ver)=some g)\/w.heap.size<=g):Hid e' B' V' w':=by
 refine ⟨fun b o f ho=>?_,fun i b hb hl=>?_,fun i x g hx hl hg=>?_,fun i x hx hT=>?_,fun b o hb=>?_⟩
 ·rw [hH] at ho
  have h1:=h.obj b o f ho;grind
 ·rw [hH]
  rcases hB i b hb hl with ⟨i',b',h1,h2,h3⟩ | h1
  ·rw [h3];exact h.box i' b' h1 h2
  ·exact h.new h1
 ·rw [hH]
  rcases hV i x g hx hl hg with ⟨i',x',h1,h2,h3⟩ | h1
  ·exact h.vec i' x' g h1 h2 h3
  ·exact h.new h1
 ·obtain ⟨x0,h1,h2,h3⟩:=hG i x hx hT
  rw [hy.1,hy.2,hH,<- h3];exact h.gh i x0 h1 h2
 ·rw [hH]
  rcases hS b hb with h1 | h1
  ·exact h.own b o h1
  grind
theorem Hid.keep (h:Hid e B V w) (hk:∀ b,b<w.heap.size->w'.heap[b]? = w.heap[b]?):Hid e B V w':=
 h.of rfl ⟨rfl,rfl⟩ (fun _ h=>.inl h) (SameG.refl V) (fun b hb _=>hk b hb) (fun i b hb hl=>.inl ⟨i,b,hb,hl,rfl⟩) (fun i x _ hx hl hg=>.inl ⟨i,x,hx,hl,hg⟩)
end
theorem JO {e:Env} {w w':World} {B:List Box} {V:List Vec} (h:∀ b,e.S b->w'.heap[b]? = w.heap[b]?) (hs:w.heap.size<=w'.heap.size) :
  Ext e w B.length (vers V) (kss V) e w' B.length (vers V) (kss V):=have _:=G;
 ⟨⟨fun _ hb=>hb,h⟩,fun _ _=>rfl,fun _ _ _ _=>rfl,Nat.le_refl _,Nat.le_refl _,fun _ _=>Nat.le_refl _,fun _ _=>rfl,hs,fun _ h=>.inl h,rfl,fun _=>rfl,rfl⟩
section
variable {n0:Nat} {w0:World} {e:Env} {B:List Box} {V:List Vec} {w w':World}
theorem Mem.lt_box (h:Mem n0 w0 e B V w) {i:Nat} {b:Box} (hb:B[i]? = some b) (hl:b.live=true):e.ρ i<w.heap.size:=by
 obtain ⟨vs,h1,_⟩:=h.box i b hb hl;grind
theorem Mem.keep (h:Mem n0 w0 e B V w) (hk:∀ b,b<w.heap.size->w'.heap[b]? = w.heap[b]?) (hs:w.heap.size<=w'.heap.size) (hb:Below (e.nb n0) w0 w'):Mem n0 w0 e B V w':=by
 have hx:Ext e w B.length (vers V) (kss V) e w' B.length (vers V) (kss V):=JO (fun b hb=>hk b (h.ro b hb)) hs
 refine ⟨fun i b hi hl=>?_,h.boxsc,h.boxlo,h.boxinj,fun i x hi hl=>?_,h.vecS,h.vecbox,h.vecinj,fun b hb=>Nat.lt_of_lt_of_le (h.ro b hb) hs,hb,Nat.le_trans h.base hs,h.bl,h.hid.keep hk⟩
 ·obtain ⟨vs,h1,h2⟩:=h.box i b hi hl
  exact ⟨vs,(hk _ (Array.getElem?_eq_some_iff.1 h1).1).trans h1,AV.all.mono hx _ _ (h.boxsc i b hi) h2⟩
 ·obtain ⟨xs,h1,h2,h3⟩:=h.vec i x hi hl
  exact ⟨xs,h1.keep fun g hg=>hk g (h1.lt g hg).2,CV.vals.mono hx.ro _ _ h2,h3⟩
theorem Mem.drew (h:Mem n0 w0 e B V w):Mem n0 w0 e B V w.drew:=h.keep (fun _ _=>rfl) (Nat.le_refl _) h.below.drew
theorem UV:Ext e w B.length (vers V) (kss V) e w.drew B.length (vers V) (kss V):=JO (fun _ _=>rfl) (Nat.le_refl _)
theorem Mem.alloc (h:Mem n0 w0 e B V w) (o:Obj):Mem n0 w0 e B V (w.alloc o):=
 h.keep (fun b hb=>heap_alloc_old w o b hb) (by simp) (h.below.alloc h.nbase o)
theorem Mem.ext_alloc (h:Mem n0 w0 e B V w) (o:Obj):Ext e w B.length (vers V) (kss V) e (w.alloc o) B.length (vers V) (kss V):=
 JO (fun b hb=>heap_alloc_old w o b (h.ro b hb)) (by simp)
theorem Mem.newBox (h:Mem n0 w0 e B V w) (T:TypeId) (cs:List AV) (vs:Array Value) (dz:AV.scos B.length (vers V) cs) (hv:AV.all e w (kss V) cs vs.toList) :
  ∃ e',Mem n0 w0 e' (B++[Box.mk true T cs]) V (w.alloc (.cells vs T)) /\
   Ext e w B.length (vers V) (kss V) e' (w.alloc (.cells vs T)) (B++[Box.mk true T cs]).length (vers V) (kss V)/\e'.ρ B.length=w.heap.size/\e'.S=e.S/\e'.hdr=e.hdr:=by
 let e':Env:={ e with ρ:=fun i=>if i=B.length then w.heap.size else e.ρ i }
 have hρ:∀ i,i<B.length->e'.ρ i=e.ρ i:=fun i hi=>by grind
 have hx:Ext e w B.length (vers V) (kss V) e' (w.alloc (.cells vs T)) (B++[Box.mk true T cs]).length (vers V) (kss V):=
  ⟨⟨fun _ hb=>hb,fun b hb=>heap_alloc_old w _ b (h.ro b hb)⟩,hρ,fun _ _ _ _=>rfl,by simp,Nat.le_refl _,fun _ _=>Nat.le_refl _,fun _ _=>rfl,by simp,fun _ h=>.inl h,rfl,fun _=>rfl,rfl⟩
 have am:e'.ρ B.length=w.heap.size:=by grind
 have ag:∀ (i:Nat) (b:Box),(B++[Box.mk true T cs])[i]? = some b->(i<B.length/\B[i]? = some b)\/(i=B.length/\b=Box.mk true T cs):=by
  grind
 refine ⟨e',⟨?_,?_,?_,?_,?_,?_,?_,?_,?_,?_,?_,h.bl,h.hid.of rfl ⟨rfl,rfl⟩ (fun _ h=>.inl h) (SameG.refl V) (fun b hb _=>heap_alloc_old w _ b hb) (fun i b hb hl=>?_) (fun i x g hi hl hg=>.inl ⟨i,x,hi,hl,hg⟩)⟩,hx,am,rfl,rfl⟩
 rotate_left 11
 ·grind
 ·intro i b hb hl
  rcases ag i b hb with ⟨hi,hb⟩ | ⟨rfl,rfl⟩
  ·obtain ⟨us,h1,h2⟩:=h.box i b hb hl
   refine ⟨us,?_,AV.all.mono hx _ _ (h.boxsc i b hb) h2⟩;grind [heap_alloc_old]
  ·exact ⟨vs,by rw [am];exact heap_alloc_new w _,AV.all.mono hx _ _ dz hv⟩
 ·intro i b hb
  rcases ag i b hb with ⟨hi,hb⟩ | ⟨rfl,rfl⟩
  ·exact hx.scos (h.boxsc i b hb)
  ·exact hx.scos dz
 ·intro i b hb hl
  rcases ag i b hb with ⟨hi,hb⟩ | ⟨rfl,rfl⟩
  ·rw [hρ i hi];exact h.boxlo i b hb hl
  ·rw [am];exact ⟨h.base,fun hc=>Nat.lt_irrefl _ (h.ro _ hc)⟩
 ·intro i j b b' hb cd hl ij ft
  rcases ag i b hb with ⟨hi,hb⟩ | ⟨rfl,rfl⟩ <;> rcases ag j b' cd with ⟨hj,cd⟩ | ⟨rfl,rfl⟩
  ·rw [hρ i hi,hρ j hj] at ft;exact h.boxinj i j b b' hb cd hl ij ft
  ·rw [hρ i hi,am] at ft;have:=h.lt_box hb hl;omega
  ·rw [hρ j hj,am] at ft;have:=h.lt_box cd ij;omega
  ·rfl
 ·intro i x hi hl
  obtain ⟨xs,h1,h2,h3⟩:=h.vec i x hi hl;exact ⟨xs,h1.keep fun g hg=>heap_alloc_old w _ g (h1.lt g hg).2,CV.vals.mono hx.ro _ _ h2,h3⟩
 ·exact h.vecS
 ·intro i x j b g hi hl hb ko hg
  rcases ag j b hb with ⟨hj,hb⟩ | ⟨rfl,rfl⟩
  ·rw [hρ j hj];exact h.vecbox i x j b g hi hl hb ko hg
  ·obtain ⟨xs,h1,h2,h3⟩:=h.vec i x hi hl
   have:=(h1.lt g hg).2;omega
 ·exact h.vecinj
 ·intro b hb;have:=h.ro b hb;simp;omega
 ·exact h.below.alloc h.nbase _
 ·have:=h.base;simp;omega
theorem Mem.setBox (h:Mem n0 w0 e B V w) {i:Nat} {b:Box} (hb:B[i]? = some b) (hl:b.live=true) (cs':List AV) (vs':Array Value)
  (dz:AV.scos B.length (vers V) cs') (hv:AV.all e w (kss V) cs' vs'.toList) :
  Mem n0 w0 e (B.set i { b with cs:=cs' }) V (w.setRow (e.ρ i) vs') /\
   Ext e w B.length (vers V) (kss V) e (w.setRow (e.ρ i) vs') (B.set i { b with cs:=cs' }).length (vers V) (kss V):=by
 obtain ⟨us,Aa,Kb⟩:=h.box i b hb hl
 have iv:∀ k,k≠e.ρ i->(w.setRow (e.ρ i) vs').heap[k]? = w.heap[k]?:=by
  grind [World.setRow]
 have Ab:(w.setRow (e.ρ i) vs').heap[e.ρ i]? = some (.cells vs' b.T (0,0)):=by
  grind [World.setRow]
 have iw:(w.setRow (e.ρ i) vs').heap.size=w.heap.size:=by simp
 have hx:Ext e w B.length (vers V) (kss V) e (w.setRow (e.ρ i) vs') (B.set i { b with cs:=cs' }).length (vers V) (kss V):=
  ⟨⟨fun _ hb=>hb,fun k hk=>iv k fun hc=>(h.boxlo i b hb hl).2 (hc▸hk)⟩,fun _ _=>rfl,fun _ _ _ _=>rfl,by simp,Nat.le_refl _,fun _ _=>Nat.le_refl _,fun _ _=>rfl,by omega,fun _ h=>.inl h,rfl,fun _=>rfl,rfl⟩
 have ag:∀ (j:Nat) (c:Box),(B.set i { b with cs:=cs' })[j]? = some c->(j≠i/\B[j]? = some c)\/(j=i/\c={ b with cs:=cs' }):=by
  grind
 have dm:∀ (j:Nat) (c:Box),(B.set i { b with cs:=cs' })[j]? = some c->∃ c0:Box,B[j]? = some c0/\c0.live=c.live:=by
  grind
 refine ⟨⟨?_,?_,?_,?_,?_,?_,?_,?_,?_,?_,?_,h.bl,h.hid.of rfl ⟨rfl,rfl⟩ (fun _ h=>.inl h) (SameG.refl V) (fun k _ hk=>iv k fun hc=>hk (hc▸h.hid.box i b hb hl)) (fun j c hc hl=>?_) (fun j x g hj hl hg=>.inl ⟨j,x,hj,hl,hg⟩)⟩,hx⟩
 rotate_left 11
 ·grind
 ·intro j c hc bz
  rcases ag j c hc with ⟨ax,hc⟩ | ⟨rfl,rfl⟩
  ·obtain ⟨ys,h1,h2⟩:=h.box j c hc bz
   refine ⟨ys,?_,AV.all.mono hx _ _ (h.boxsc j c hc) h2⟩;rw [iv _ fun gq=>ax (h.boxinj j i c b hc hb bz hl gq)]
   exact h1
  ·exact ⟨vs',Ab,AV.all.mono hx _ _ dz hv⟩
 ·intro j c hc
  rcases ag j c hc with ⟨ax,hc⟩ | ⟨rfl,rfl⟩
  ·exact hx.scos (h.boxsc j c hc)
  grind
 ·intro j c hc bz
  obtain ⟨c0,h1,h2⟩:=dm j c hc;exact h.boxlo j c0 h1 (h2.trans bz)
 ·intro j k c d hc hd bz ja ft
  obtain ⟨c0,h1,h2⟩:=dm j c hc;obtain ⟨d0,h3,h4⟩:=dm k d hd;exact h.boxinj j k c0 d0 h1 h3 (h2.trans bz) (h4.trans ja) ft
 ·intro j x hj iy
  obtain ⟨xs,h1,h2,h3⟩:=h.vec j x hj iy;exact ⟨xs,h1.keep fun g hg=>iv g fun hc=>h.vecbox j x i b g hj iy hb hl hg hc.symm,CV.vals.mono hx.ro _ _ h2,h3⟩
 ·exact h.vecS
 ·intro j x k c g hj iy hc bz hg
  obtain ⟨c0,h1,h2⟩:=dm k c hc;exact h.vecbox j x k c0 g hj iy h1 (h2.trans bz) hg
 ·exact h.vecinj
 ·intro k hk;rw [iw];exact h.ro k hk
 ·refine h.below.trans ⟨rfl,rfl,rfl,by omega,fun k hk=>iv k ?_⟩
  have:=(h.boxlo i b hb hl).1;have:=e.nb_le n0;omega
 ·rw [iw];exact h.base
end
end
end Go.Sx
namespace Go.Sx
open Go Go.RowKit
variable [G:Ghost]
section
variable {P:Program}
theorem OwnsV.base {w:World} {b b':Nat} {e:TypeId} {k:Nat} {v:Value} {n:Nat} {xs:List Value} (h:OwnsV w b e k v n xs) (hb:b'<=b):OwnsV w b' e k v n xs:=by
 have _:=G;rcases h with ⟨hT,h | ⟨h,g,h1,h2⟩⟩ | ⟨h0,g,arr,c,h1,h2,h3⟩
 ·exact .inl ⟨hT,.inl h⟩
 ·refine .inl ⟨hT,.inr ⟨⟨h.1,?_⟩,g,h1,h2⟩⟩
  rcases h.2 with h | ⟨g,cap,cur,h1,h2,h3⟩
  ·grind
  ·exact .inr ⟨g,cap,cur,h1,Nat.le_trans hb h2,h3⟩
 ·exact .inr ⟨h0,g,arr,c,h1,Nat.le_trans hb h2,h3⟩
theorem JP (w:World) (base:Nat) (t ty e:TypeId) (i:TypeInfo) (z:Value) (size bytes:Nat) (ht:P.underlying t=some (.slice e)) (hi:P.info? e=some i) (hz:i.zero=some z)
  (iw:i.size=size) (Ac:i.bytes=bytes) (tk:z.cells.size=size) (di:0<size)
  (v:Value) (n:Nat) (xs:List Value) (ap:OwnsS w base e size v n xs) (hT:e<bQ)
  (ao:Option Addr) (m c:Nat) (news:List Value) (hl:news.length=m*size) (Kc:ao=none->m=0) (jg:∀ a,ao=some a->∀ j u,news[j]? = some u->w.cell? (a.add j)=some u) (h1:∀ u∈news,u.oneCell'=true)
  (Eh:n+m<=maxLen) (me:(n+m)*bytes<=140737488355328) (fg:base<=w.heap.size) :
  ∃ v' w',(Builtin.append_ #[t,t] ty #[v,.slice ao m c]).run P w=.ok v' w'/\OwnsV w' base e size v' (n+m) (xs++news)/\w.grownBy w' (bM v) /\
   (bM v'=bM v\/∀ g,bM v'=some g->w.heap.size<=g):=by
 have _:=G
 by_cases hm:m=0
 ·subst hm
  have hn:news=[]:=by grind
  obtain ⟨a,cp,rfl,bq,_⟩:=ap.slice;refine ⟨.slice a n cp,w,?_,by grind [OwnsV],⟨rfl,rfl,rfl,Nat.le_refl _,fun _ _ _=>rfl⟩,.inl rfl⟩
  cases ao <;> cases a <;> simp [Builtin.append_,run_underlying ht,sizeOf,typeInfo,hi,Builtin.lenOf,Builtin.firstCells,bq,storeCells,loadCells,loadCellsFrom]
 ·obtain ⟨a,rfl⟩:∃ a,ao=some a:=by
   cases ao with
   | none=>grind
   | some a=>simp
  have jg:=jg a rfl
  have fresh:∀ (cp:Nat) (olds:List Value),xs=olds->n+m<=maxLen->cp<n+m->olds.length=n*i.size ->
    OwnsV (w.drew.alloc (.cells (olds.toArray++news.toArray++Builtin.zeroCells z.cells (grownCap w (n+m) cp e - (n+m))) e)) base e size (.slice (some ⟨w.heap.size,0,none⟩) (n+m) (grownCap w (n+m) cp e)) (n+m) (xs++news):=by
   intro cp olds hx Eh Oi holds;subst iw;have Ad:=grownCap_ge w (n+m) cp e;have gt:grownCap w (n+m) cp e<=maxLen:=grownCap_le_maxLen w (n+m) cp e Eh;refine OwnsV.of_row hT ⟨by grind,.inr ⟨w.heap.size,_,_,rfl,fg,heap_alloc_new w.drew _,Ad,gt,?_,?_⟩⟩
   ·simp [size_zeroCells,tk,holds,hl,<- Nat.add_mul]
    grind
   grind [Nat.add_mul]
  have wu:∀ (o:Obj) (row:Option Nat),w.grownBy (w.drew.alloc o) row:=fun o row=>⟨rfl,rfl,rfl,by simp,fun k hk _=>heap_alloc_old w.drew _ k hk⟩
  have qc:∀ (nn:Nat) (cc:Nat) (g:Nat),bM (.slice (some ⟨w.heap.size,0,none⟩) nn cc)=some g->w.heap.size<=g:=by
   intro nn cc g hg;cases cc <;> simp [bM] at hg;omega
  rcases ap with ⟨a0,rfl,rfl,rfl⟩ | ⟨ap,g,Kd,uu⟩
  ·cases a0 with
   | none =>
    have hr:=run_append_nil (P:=P) w t ty e i z ht hi hz a m c news (by grind) jg (by omega) (by grind [maxLen]) (by grind)
    grind
   | some b0 =>
    have hr:=run_append_grow (P:=P) w t ty e i z ht hi hz b0 0 0 [] (by simp) (by simp) a m c news (by grind) jg (by omega) (by grind [maxLen]) (by rw [Ac];exact growslice_fits (by omega) me)
    grind
  ·rcases ap.2 with ⟨rfl,rfl⟩ | ⟨g',cap,cur,rfl,sj,hg,Ij,gt,aT,kp⟩
   ·grind [bM]
   ·obtain rfl:g'=g:=by grind [Value.ownBlock]
    by_cases kq:n+m<=cap
    ·obtain ⟨w',hr,ho,qd⟩:=run_append_fits (P:=P) w base t ty e i size ht hi iw g' n cap xs ap a m c news hl jg h1 kq
     have jh:bM (.slice (some ⟨g',0,none⟩) (n+m) cap)=some g':=by cases cap <;> simp_all [bM]
     exact ⟨_,w',hr,.inl ⟨hT,.inr ⟨ho,g',jh,rfl⟩⟩,by grind,.inl (by grind)⟩
    ·have holds:∀ j u,xs[j]? = some u->w.cell? ((⟨g',0,none⟩:Addr).add j)=some u:=ap.cells (g:=g') rfl
     have hr:=run_append_grow (P:=P) w t ty e i z ht hi hz ⟨g',0,none⟩ n cap xs (by rw [iw];exact ap.1) holds a m c news (by grind) jg (by omega) (by grind [maxLen]) (by rw [Ac];exact growslice_fits (by omega) me)
     exact ⟨_,_,hr,fresh cap xs rfl Eh (by omega) (by rw [iw];exact ap.1),wu _ _,.inr (qc _ _)⟩
end
section
variable {n0:Nat} {w0:World} {e:Env} {B:List Box} {V:List Vec} {w w':World}
end
section
variable {n0:Nat} {w0:World} {e:Env} {B:List Box} {V:List Vec} {w w':World}
variable {i:Nat} {x:Vec}
theorem aJI {V:List Vec} (h:V[i]? = some x):(vers V).getD i 0=x.ver:=by have _:=G;grind
theorem aDu {V:List Vec} (h:V[i]? = some x):(kss V).getD i 0=x.k:=by have _:=G;grind
theorem Mem.vecStep (h:Mem n0 w0 e B V w) (hi:V[i]? = some x) (hl:x.live=true) (v':Value) (es':List (List CV)) (xs':List Value)
  (ap:OwnsV w' n0 x.T x.k v' es'.length xs') (au:CV.vals w e.S es'.flatten xs') (hk:∀ l∈es',l.length=x.k)
  (hg:w.grownBy w' (bM (e.hdr i x.ver))) (dj:bM v'=bM (e.hdr i x.ver)\/∀ g,bM v'=some g->w.heap.size<=g) :
  ∃ e',Mem n0 w0 e' B (V.set i { x with ver:=x.ver+1,es:=es' }) w' /\
   Ext e w B.length (vers V) (kss V) e' w' B.length (vers (V.set i { x with ver:=x.ver+1,es:=es' })) (kss (V.set i { x with ver:=x.ver+1,es:=es' })) /\
   e'.hdr i (x.ver+1)=v'/\e'.ρ=e.ρ/\e'.S=e.S:=by
 let e':Env:={ e with hdr:=fun j u=>if j=i/\u=x.ver+1 then v' else e.hdr j u }
 have am:e'.hdr i (x.ver+1)=v':=by grind
 have mf:∀ b,e.S b->w'.heap[b]? = w.heap[b]?:=fun b hb=>hg.block b (h.ro b hb) fun hc=>h.vecS i x b hi hl hc.symm hb
 have hx:Ext e w B.length (vers V) (kss V) e' w' B.length (vers (V.set i { x with ver:=x.ver+1,es:=es' })) (kss (V.set i { x with ver:=x.ver+1,es:=es' })):=by
  refine ⟨⟨fun _ hb=>hb,mf⟩,fun _ _=>rfl,fun j u hj hu=>?_,Nat.le_refl _,by simp,fun j hj=>?_,fun j hj=>?_,hg.size,fun _ h=>.inl h,rfl,fun _=>rfl,rfl⟩
  ·grind
  ·grind
  grind
 have cx:∀ (j:Nat) (y:Vec),(V.set i { x with ver:=x.ver+1,es:=es' })[j]? = some y->y.live=true ->
   (j≠i/\V[j]? = some y/\e'.hdr j y.ver=e.hdr j y.ver)\/(j=i/\y={ x with ver:=x.ver+1,es:=es' }/\e'.hdr j y.ver=v'):=by
  grind
 refine ⟨e',⟨?_,?_,?_,?_,?_,?_,?_,?_,?_,?_,?_,h.bl,h.hid.of rfl ⟨rfl,rfl⟩ (fun _ h=>.inl h) (SameG.set (show x.T≠ghT from h.liveT hi hl)) (fun b cd jp=>hg.block b cd fun hc=>jp (h.hid.vec i x b hi hl hc.symm)) (fun i b hb hl=>.inl ⟨i,b,hb,hl,rfl⟩) (fun j y g hj ay co=>?_)⟩,hx,am,rfl,rfl⟩
 rotate_left 11
 ·grind
 ·intro j b hb bg
  obtain ⟨vs,a1,a2⟩:=h.box j b hb bg;refine ⟨vs,(hg.block _ (Array.getElem?_eq_some_iff.1 a1).1 fun hc=>?_).trans a1,AV.all.mono hx _ _ (h.boxsc j b hb) a2⟩
  exact h.vecbox i x j b _ hi hl hb bg hc.symm rfl
 ·intro j b hb;exact hx.scos (h.boxsc j b hb)
 ·exact h.boxlo
 ·exact h.boxinj
 ·intro j y hy ay
  rcases cx j y hy ay with ⟨ax,hy,he⟩ | ⟨rfl,rfl,he⟩
  ·obtain ⟨ys,a1,a2,a3⟩:=h.vec j y hy ay
   refine ⟨ys,?_,CV.vals.mono hx.ro _ _ a2,a3⟩;rw [he];exact a1.keep fun g jh=>hg.block g (a1.lt g jh).2 fun hc=>ax (h.vecinj j y i x g hy ay hi hl jh hc.symm)
  ·exact ⟨xs',by grind,CV.vals.mono hx.ro _ _ au,hk⟩
 ·intro j y g hy ay co
  rcases cx j y hy ay with ⟨ax,hy,he⟩ | ⟨rfl,rfl,he⟩
  ·rw [he] at co;exact h.vecS j y g hy ay co
  ·rw [he] at co
   intro hc;rcases dj with dj | dj
   ·rw [dj] at co;exact h.vecS j x g hi hl co hc
   ·have:=dj g co;have:=h.ro g hc;omega
 ·intro j y k b g hy ay hb bg co
  rcases cx j y hy ay with ⟨ax,hy,he⟩ | ⟨rfl,rfl,he⟩
  ·rw [he] at co;exact h.vecbox j y k b g hy ay hb bg co
  ·rw [he] at co
   rcases dj with dj | dj
   ·rw [dj] at co;exact h.vecbox j x k b g hi hl hb bg co
   ·have:=h.lt_box hb bg
    grind
 ·intro j y k z g hy ay hz gz co lu
  have fresh:∀ (j:Nat) (y:Vec),V[j]? = some y->y.live=true->∀ g,bM (e.hdr j y.ver)=some g->g<w.heap.size:=by
   intro j y hy ay g ew;obtain ⟨ys,a1,_⟩:=h.vec j y hy ay;exact (a1.lt g ew).2
  rcases cx j y hy ay with ⟨ax,pn,he⟩ | ⟨mg,Oj,he⟩ <;> rcases cx k z hz gz with ⟨tq,ia,ib⟩ | ⟨Ik,Ol,ib⟩
  ·rw [he] at co;rw [ib] at lu;exact h.vecinj j y k z g pn ay ia gz co lu
  ·rw [he] at co;rw [ib] at lu
   rcases dj with dj | dj
   ·rw [dj] at lu;exact (ax (h.vecinj j y i x g pn ay hi hl co lu)).elim
   grind
  ·rw [he] at co;rw [ib] at lu
   rcases dj with dj | dj
   ·rw [dj] at co;exact (tq (h.vecinj k z i x g ia gz hi hl lu co)).elim
   grind
  omega
 ·intro b hb;exact Nat.lt_of_lt_of_le (h.ro b hb) hg.size
 ·refine h.below.grown hg h.nbase fun k hk=>?_
  obtain ⟨ys,a1,_⟩:=h.vec i x hi hl;exact Nat.le_trans (e.nb_le n0) (a1.lt k hk).1
 ·exact Nat.le_trans h.base hg.size
theorem Mem.newVec (h:Mem n0 w0 e B V w) (T:TypeId) (k:Nat) (v':Value) (es':List (List CV)) (xs':List Value)
  (ap:OwnsV w' n0 T k v' es'.length xs') (au:CV.vals w e.S es'.flatten xs') (hk:∀ l∈es',l.length=k)
  (hg:w.grownBy w' none) (dj:∀ g,bM v'=some g->w.heap.size<=g) :
  ∃ e',Mem n0 w0 e' B (V++[Vec.mk true T k 0 es']) w' /\
   Ext e w B.length (vers V) (kss V) e' w' B.length (vers (V++[Vec.mk true T k 0 es'])) (kss (V++[Vec.mk true T k 0 es'])) /\
   e'.hdr V.length 0=v'/\e'.ρ=e.ρ/\e'.S=e.S:=by
 let e':Env:={ e with hdr:=fun j u=>if j=V.length then v' else e.hdr j u }
 have qe:∀ j u,j<V.length->e'.hdr j u=e.hdr j u:=by
  grind
 have am:∀ u,e'.hdr V.length u=v':=by grind
 have f8:∀ b,b<w.heap.size->w'.heap[b]? = w.heap[b]?:=fun b hb=>hg.block b hb (by simp)
 have ag:∀ (j:Nat) (y:Vec),(V++[Vec.mk true T k 0 es'])[j]? = some y->(j<V.length/\V[j]? = some y/\e'.hdr j y.ver=e.hdr j y.ver)\/(j=V.length/\y=Vec.mk true T k 0 es'/\e'.hdr j y.ver=v'):=by
  grind
 have hx:Ext e w B.length (vers V) (kss V) e' w' B.length (vers (V++[Vec.mk true T k 0 es'])) (kss (V++[Vec.mk true T k 0 es'])):=by
  refine ⟨⟨fun _ hb=>hb,fun b hb=>f8 b (h.ro b hb)⟩,fun _ _=>rfl,fun j u hj hu=>qe j u (by grind),Nat.le_refl _,by simp,fun j hj=>?_,fun j hj=>?_,hg.size,fun _ h=>.inl h,rfl,fun _=>rfl,rfl⟩
  ·grind
  grind
 have fl:∀ (j:Nat) (y:Vec),V[j]? = some y->y.live=true->∀ g,bM (e.hdr j y.ver)=some g->g<w.heap.size:=by
  intro j y hy ay g ew;obtain ⟨ys,a1,_⟩:=h.vec j y hy ay;exact (a1.lt g ew).2
 refine ⟨e',⟨?_,?_,h.boxlo,h.boxinj,?_,?_,?_,?_,?_,?_,?_,h.bl,h.hid.of rfl ⟨rfl,rfl⟩ (fun _ h=>.inl h) (SameG.app (by simp only [List.mem_singleton];rintro y rfl;exact ap.ne)) (fun b cd _=>f8 b cd) (fun i b hb hl=>.inl ⟨i,b,hb,hl,rfl⟩) (fun j y g hj ay co=>?_)⟩,hx,am 0,rfl,rfl⟩
 rotate_left 9
 ·grind
 ·intro j b hb bg
  obtain ⟨vs,a1,a2⟩:=h.box j b hb bg;exact ⟨vs,(f8 _ (Array.getElem?_eq_some_iff.1 a1).1).trans a1,AV.all.mono hx _ _ (h.boxsc j b hb) a2⟩
 ·intro j b hb;exact hx.scos (h.boxsc j b hb)
 ·intro j y hy ay
  rcases ag j y hy with ⟨hj,hy,he⟩ | ⟨rfl,rfl,he⟩
  ·obtain ⟨ys,a1,a2,a3⟩:=h.vec j y hy ay
   refine ⟨ys,?_,CV.vals.mono hx.ro _ _ a2,a3⟩;rw [he];exact a1.keep fun g jh=>f8 g (a1.lt g jh).2
  ·exact ⟨xs',by grind,CV.vals.mono hx.ro _ _ au,hk⟩
 ·intro j y g hy ay co
  rcases ag j y hy with ⟨hj,hy,he⟩ | ⟨rfl,rfl,he⟩
  ·rw [he] at co;exact h.vecS j y g hy ay co
  ·rw [he] at co
   intro hc;have:=dj g co;have:=h.ro g hc;omega
 ·intro j y l b g hy ay hb bg co
  rcases ag j y hy with ⟨hj,hy,he⟩ | ⟨rfl,rfl,he⟩
  ·rw [he] at co;exact h.vecbox j y l b g hy ay hb bg co
  ·have:=h.lt_box hb bg
   grind
 ·intro j y l z g hy ay hz gz co lu
  rcases ag j y hy with ⟨ax,hy,he⟩ | ⟨rfl,rfl,he⟩ <;> rcases ag l z hz with ⟨tq,hz,ib⟩ | ⟨rfl,rfl,ib⟩
  ·rw [he] at co;rw [ib] at lu;exact h.vecinj j y l z g hy ay hz gz co lu
  ·grind
  ·grind
  ·rfl
 ·intro b hb;exact Nat.lt_of_lt_of_le (h.ro b hb) hg.size
 ·exact h.below.grown hg h.nbase fun k hk=>by cases hk
 ·exact Nat.le_trans h.base hg.size
end
inductive TK where
 | strct (fs:List (Nat×Nat))
 | arr (n e k:Nat)
 | slc (e k bytes:Nat)
 | bool
 | int (k:IntKind)
 | ptr (e:Nat)
 | other
structure TI where
 size:Nat
 zero:List Value
 kind:TK
def aJK:TypeDesc->Bool
 | .slice e=>decide (e<bQ)
 | _=>true
def cG (P:Program) (T:TypeId):Option TI:=
 match P.info? T,P.underlying T with
 | some i,some d=>if aJK d=true then some (TI.mk i.size (match i.zero with | some z=>z.cells.toList | none=>[])
   (match d with
    | .struct fs=>.strct (fs.toList.map fun f=>(f.offset,P.cellsOf f.type))
    | .array n e=>.arr n e (P.cellsOf e)
    | .slice e=>.slc e (P.cellsOf e) (P.bytesOf e)
    | .bool=>.bool
    | .int k=>.int k
    | .pointer e=>.ptr e
    | _=>.other)) else none
 | _,_=>none
def TK.agg:TK->Bool
 | .strct _=>true
 | .arr _ _ _=>true
 | _=>false
structure St where
 t:List AV
 B:List Box
 V:List Vec
def CD (v:Value):AV:=if v.oneCell' then .cv (.val v) else .any
def St.ev (st:St):Operand->AV
 | .tmp t=>st.t.getD t .any
 | .const v=>CD v
 | .global _=>.any
 | .func f=>.cv (.fn f [])
def St.put (st:St) (dst:Option Nat) (x:AV) (B:List Box) (V:List Vec):St:=
 ⟨match dst with | some d=>st.t.set d x | none=>st.t,B,V⟩
structure Rel (n0:Nat) (w0:World) (e:Env) (st:St) (a:Act) (w:World):Prop where
 tm:AV.all e w (kss st.V) st.t a.tmps.toList
 sc:AV.scos st.B.length (vers st.V) st.t
 mem:Mem n0 w0 e st.B st.V w
abbrev dW (e:Env) (st:St) (w:World) (e':Env) (B':List Box) (V':List Vec) (w':World):Prop:=
 Ext e w st.B.length (vers st.V) (kss st.V) e' w' B'.length (vers V') (kss V')
theorem Rel.ev {n0:Nat} {w0:World} {e:Env} {st:St} {a:Act} {w:World} (h:Rel n0 w0 e st a w) (x:Operand) :
  AV.holds e w (kss st.V) (st.ev x) (a.eval x)/\AV.sco st.B.length (vers st.V) (st.ev x):=by
 cases x with
 | tmp t =>
  simp [St.ev,Act.eval];cases hx:st.t[t]? with
  | none=>simp [AV.holds,AV.sco]
  | some x =>
   obtain ⟨v,h1,h2⟩:=h.tm.get hx;refine ⟨?_,AV.scos_get h.sc hx⟩;simp_all
 | const v =>
  grind [St.ev,Act.eval,CD,AV.holds,AV.sco,CV.holds]
 | global g=>simp [St.ev,AV.holds,AV.sco]
 | func f=>simp [St.ev,Act.eval,AV.holds,AV.sco,CV.holds,CV.vals]
theorem Rel.put {n0:Nat} {w0:World} {e e':Env} {st:St} {a:Act} {w w':World} (h:Rel n0 w0 e st a w) {B':List Box} {V':List Vec} {x:AV} {v:Value}
  (hm:Mem n0 w0 e' B' V' w') (hx:dW e st w e' B' V' w') (hv:AV.holds e' w' (kss V') x v) (hs:AV.sco B'.length (vers V') x) (dst:Option Nat) :
  Rel n0 w0 e' (st.put dst x B' V') (a.put dst v) w':=by
 have h1:=AV.all.mono hx _ _ h.sc h.tm;have h2:=hx.scos h.sc;cases dst with
 | none=>exact ⟨h1,h2,hm⟩
 | some d =>
  refine ⟨?_,?_,hm⟩
  ·simp [Act.put]
   exact h1.set d hv
  grind [St.put,AV.scos_iff]
def Step (P:Program) (o:Oper) (st:St) (av:AV) (B':List Box) (V':List Vec):Prop:=
 ∀ n0 w0 e a w,Rel n0 w0 e st a w->∃ nx v w' e',(execOp a.eval o).run P w=.ok nx w'/\(nx=.value v\/(nx=.skip/\v=undef)) /\
  Mem n0 w0 e' B' V' w'/\dW e st w e' B' V' w'/\AV.holds e' w' (kss V') av v/\AV.sco B'.length (vers V') av
theorem Step.pure {P:Program} {o:Oper} {st:St} {av:AV} (h:∀ n0 w0 e a w,Rel n0 w0 e st a w->∃ v,(execOp a.eval o).run P w=.ok (.value v) w/\AV.holds e w (kss st.V) av v/\AV.sco st.B.length (vers st.V) av) :
  Step P o st av st.B st.V:=fun n0 w0 e a w hr =>
 let ⟨v,h1,h2,h3⟩:=h n0 w0 e a w hr
 ⟨_,v,w,e,h1,.inl rfl,hr.mem,Ext.refl _ _ _ _ _,h2,h3⟩
section
variable {P:Program}
variable {T:TypeId} {ti:TI}
theorem jS (h:cG P T=some ti):∃ i d,P.info? T=some i/\P.underlying T=some d/\i.size=ti.size /\
  ti.zero=(match i.zero with | some z=>z.cells.toList | none=>[])/\ti.kind=(match d with
    | .struct fs=>TK.strct (fs.toList.map fun f=>(f.offset,P.cellsOf f.type))
    | .array n e=>.arr n e (P.cellsOf e)
    | .slice e=>.slc e (P.cellsOf e) (P.bytesOf e)
    | .bool=>.bool
    | .int k=>.int k
    | .pointer e=>.ptr e
    | _=>.other):=by
 have _:=G;unfold cG at h;grind
theorem aGw {e:TypeId} (h:cG P T=some ti) (hu:P.underlying T=some (.slice e)):e<bQ:=by
 have _:=G;unfold cG at h;rw [hu] at h;split at h
 ·rename_i i d h1 h2
  cases h2;split at h
  ·rename_i hc;exact of_decide_eq_true hc
  grind
 grind
theorem run_sizeOf (h:cG P T=some ti) (w:World):(sizeOf T).run P w=.ok ti.size w:=by
 obtain ⟨i,d,h1,h2,h3,_⟩:=jS h;simp_all [sizeOf,typeInfo]
theorem pY (h:cG P T=some ti) (w:World):(isAgg T).run P w=.ok ti.kind.agg w:=by
 obtain ⟨i,d,h1,h2,_,_,h5⟩:=jS h;unfold isAgg;rw [Sem.run_bind,run_underlying h2,h5];cases d <;> simp [TK.agg]
theorem JQ (h:cG P T=some ti) (hz:ti.zero≠[]) (w:World):∃ z,(zeroValue T).run P w=.ok z w/\z.cells.toList=ti.zero:=by
 obtain ⟨i,d,h1,h2,_,h4,_⟩:=jS h;cases hi:i.zero with
 | none=>grind
 | some z=>simp_all [zeroValue,typeInfo]
end
def AV.cells:AV->Option (List AV)
 | .agg cs=>some cs
 | .cv c=>some [.cv c]
 | .ptr i o=>some [.ptr i o]
 | .own i u=>some [.own i u]
 | .fn f cs=>some [.fn f cs]
 | _=>none
def AV.one:AV->Bool
 | .cv _=>true
 | .ptr _ _=>true
 | .own _ _=>true
 | .fn _ _=>true
 | _=>false
section
variable {P:Program}
def jT (P:Program) (st:St) (T:TypeId) (x:AV):Option AV:=
 match cG P T with
 | none=>none
 | some ti =>
  match x with
  | .ptr i off =>
   match st.B[i]? with
   | some b=>if b.live then (if ti.kind.agg then (if off+ti.size<=b.cs.length then some (.agg ((b.cs.drop off).take ti.size)) else none) else b.cs[off]?) else none
   | none=>none
  | .cv (.ref cs)=>if ti.kind.agg then (if ti.size<=cs.length then some (.agg ((cs.take ti.size).map .cv)) else none) else (cs[0]?).map .cv
  | .opt i u el o =>
   match st.V[i]? with
   | some v=>if v.sl&&v.ver == u then (match v.es[el]? with
     | some l=>if ti.kind.agg then (if o+ti.size<=l.length then some (.agg (((l.drop o).take ti.size).map .cv)) else none) else (l[o]?).map .cv
     | none=>none) else none
   | none=>none
  | _=>none
theorem addr_add (b o n:Nat):(⟨b,o,none⟩:Addr).add n=⟨b,o+n,none⟩:=by have _:=G;unfold Addr.add;simp
variable {T:TypeId}
theorem mC {ti:TI} (ar:cG P T=some ti) (w:World) (b o:Nat) (vs:List Value) (hc:∀ j v,vs[j]? = some v->w.cell? ⟨b,o+j,none⟩=some v) :
  (ti.kind.agg=true->ti.size<=vs.length->(loadVar T ⟨b,o,none⟩).run P w=.ok (.agg (vs.take ti.size).toArray) w) /\
  (ti.kind.agg=false->∀ v,vs[0]? = some v->(loadVar T ⟨b,o,none⟩).run P w=.ok v w):=by
 constructor
 ·intro ha hs
  have hl:=run_loadCells_list (P:=P) w ⟨b,o,none⟩ (vs.take ti.size) (fun j v hj=>by
   grind [addr_add])
  simp_all [loadVar,pY,run_sizeOf]
 ·intro ha v hv
  have:=hc 0 v hv;simp_all [loadVar,pY]
variable {x:AV}
theorem uK {st:St} {av:AV} (h:jT P st T x=some av) {n0:Nat} {w0:World} {e:Env} {a:Act} {w:World} (hr:Rel n0 w0 e st a w)
  {u:Value} (hu:AV.holds e w (kss st.V) x u):∃ v,(Instr.loadAt T u).run P w=.ok v w/\AV.holds e w (kss st.V) av v/\AV.sco st.B.length (vers st.V) av:=by
 unfold jT at h;cases ar:cG P T with
 | none=>grind
 | some ti =>
  simp only [ar] at h;split at h
  ·rename_i i off
   split at h
   ·rename_i b hb
    split at h
    ·rename_i hl
     obtain ⟨vs,h1,h2⟩:=hr.mem.box i b hb hl;subst hu
     have hc:∀ j v,(vs.toList.drop off)[j]? = some v->w.cell? ⟨e.ρ i,off+j,none⟩=some v:=by
      grind [cell_of_row]
     have ai:=mC ar w (e.ρ i) off _ hc;split at h
     ·rename_i dt
      split at h
      ·injection h with h;subst h
       have aj:=h2.length;have:=ai.1 dt (by grind)
       refine ⟨_,by simpa [Instr.loadAt,Instr.sureAddr] using this,?_,?_⟩
       ·exact ⟨_,rfl,by simpa using (h2.drop off).take ti.size⟩
       ·simp [AV.sco,AV.scos_iff]
        intro y hy;exact (AV.scos_iff.1 (hr.mem.boxsc i b hb)) y (List.mem_of_mem_drop (List.mem_of_mem_take hy))
      grind
     ·obtain ⟨v,h3,h4⟩:=h2.get h
      exact ⟨v,by grind [Instr.loadAt,Instr.sureAddr],h4,AV.scos_get (hr.mem.boxsc i b hb) h⟩
    grind
   grind
  ·rename_i cs
   obtain ⟨b,o,rfl,hS,aT⟩:=hu;obtain ⟨vs,h1,h2,h3⟩:=aT.vals;have ai:=mC ar w b o vs h3;split at h
   ·rename_i dt
    split at h
    ·injection h with h;subst h
     have:=ai.1 dt (by omega)
     refine ⟨_,by simpa [Instr.loadAt,Instr.sureAddr] using this,?_,AV.scos_cv _ _ _⟩
     refine ⟨_,rfl,?_⟩;have:=(AV.all.of_vals (ks:=kss st.V) h1).take ti.size;simp_all
    grind
   ·cases Ei:cs[0]? with
    | none=>grind
    | some c =>
     have bh:=AV.all.of_vals (ks:=kss st.V) h1;obtain ⟨v,h4,h5⟩:=bh.get (i:=0) (x:=.cv c) (by grind)
     grind [Instr.loadAt,Instr.sureAddr,AV.sco]
  ·rename_i i u' el o
   split at h
   ·rename_i x hx
    split at h
    ·rename_i lw
     simp at lw;obtain ⟨cx,rfl⟩:=lw;have tr:=Vec.sl_T cx;replace cx:=Vec.sl_live cx;split at h
     ·rename_i l hl
      obtain ⟨xs,a1,a2,a3⟩:=hr.mem.vec i x hx cx;obtain ⟨g,hg,rfl⟩:=hu;have Ej:el<x.es.length:=(List.getElem?_eq_some_iff.1 hl).1;have db:=(a1.s tr).cells hg;have bk:=CV.rows.of_vals (b:=g) (o:=0) a3 a2 (fun j v hj=>by grind [addr_add])
      have fm:=(bk.get el Ej).2;obtain ⟨vs,h1,h2,h3⟩:=(fm.drop o).vals
      have zi:∀ j v,vs[j]? = some v->w.cell? ⟨g,el*(kss st.V).getD i 0+o+j,none⟩=some v:=by
       grind
      have ai:=mC ar w g (el*(kss st.V).getD i 0+o) vs zi;split at h
      ·rename_i dt
       split at h
       ·injection h with h;subst h
        have:=ai.1 dt (by grind)
        refine ⟨_,by simpa [Instr.loadAt,Instr.sureAddr] using this,?_,AV.scos_cv _ _ _⟩
        refine ⟨_,rfl,?_⟩;have:=(AV.all.of_vals (ks:=kss st.V) h1).take ti.size;simp_all
       grind
      ·cases Ei:l[o]? with
       | none=>grind
       | some c =>
        have bh:=AV.all.of_vals (ks:=kss st.V) h1;obtain ⟨v,h4,h5⟩:=bh.get (i:=0) (x:=.cv c) (by grind)
        grind [Instr.loadAt,Instr.sureAddr,AV.sco]
     grind
    grind
   grind
  grind
def splice (l:List AV) (off:Nat) (new:List AV):List AV:=l.take off++new++l.drop (off+new.length)
def iE (P:Program) (st:St) (T:TypeId) (x y:AV):Option (List Box×List Vec):=
 match cG P T,x,y.cells with
 | some ti,.ptr i off,some new =>
  match st.B[i]? with
  | some b=>if b.live&&new.length == ti.size&&decide (off+new.length<=b.cs.length)&&new.all AV.one then some (st.B.set i { b with cs:=splice b.cs off new },st.V) else none
  | none=>none
 | _,_,_=>none
variable {ks:List Nat}
theorem AV.one_holds {e:Env} {w:World}:∀ {x:AV} {v:Value},AV.one x=true->AV.holds e w ks x v->v.oneCell'=true
 | .cv c,v,_,h=>by have _:=G;exact h.one
 | .ptr _ _,v,_,h=>by subst h;rfl
 | .own i u,v,_,h=>by grind [AV.holds]
 | .fn _ _,v,_,h=>by obtain ⟨vs,rfl,_⟩:=h;exact aGv _ _ _
 | .any,_,h,_=>by grind [AV.one]
 | .opt _ _ _ _,_,h,_=>by grind [AV.one]
 | .agg _,_,h,_=>by grind [AV.one]
 | .tup _,_,h,_=>by grind [AV.one]
 | .gd _ _,_,h,_=>by grind [AV.one]
theorem AV.all_one {e:Env} {w:World} {ks:List Nat}:∀ {xs:List AV} {vs:List Value},xs.all AV.one=true->AV.all e w ks xs vs->∀ v∈vs,v.oneCell'=true
 | [],[],_,_,v,hv=>by grind
 | x::xs,v::vs,ho,h,u,hu=>by
  simp only [List.all_cons,Bool.and_eq_true] at ho;rcases List.mem_cons.1 hu with rfl | hu
  ·exact AV.one_holds ho.1 h.1
  ·exact AV.all_one ho.2 h.2 u hu
 | [],_::_,_,h,_,_=>by grind [AV.all]
 | _::_,[],_,h,_,_=>by grind
variable {new:List AV}
theorem AV.cells_holds {e:Env} {w:World} {v:Value} (hc:x.cells=some new) (h:AV.holds e w ks x v) (ho:new.all AV.one=true) :
  AV.all e w ks new v.cells.toList:=by
 cases x <;> simp only [AV.cells,Option.some.injEq,reduceCtorEq] at hc <;> subst hc
 case agg cs =>
  grind [AV.holds,Value.cells]
 all_goals
  have h1:v.oneCell'=true:=AV.one_holds (by simpa using ho) h
  have h2:v.cells.toList=[v]:=by cases v <;> simp_all [Value.oneCell',Value.cells]
  rw [h2];simpa [AV.all] using h
theorem AV.cells_scoped {nB:Nat} {vs:List Nat} (hc:x.cells=some new) (h:AV.sco nB vs x):AV.scos nB vs new:=by
 have _:=G;cases x <;> simp only [AV.cells,Option.some.injEq,reduceCtorEq] at hc <;> subst hc
 case agg cs=>grind [AV.sco]
 all_goals simpa [AV.scos] using h
theorem AV.all.splice {e:Env} {w:World} {ks:List Nat} {cs new:List AV} {vs us:List Value} (h:AV.all e w ks cs vs) (h':AV.all e w ks new us) (off:Nat) :
  AV.all e w ks (splice cs off new) (vs.take off++us++vs.drop (off+us.length)):=by
 have _:=G;have hl:=h'.length;rw [hl];exact ((h.take off).append h').append (h.drop _)
theorem NZ {st:St} {y:AV} {B':List Box} {V':List Vec} (h:iE P st T x y=some (B',V')) {n0:Nat} {w0:World} {e:Env} {a:Act} {w:World} (hr:Rel n0 w0 e st a w)
  {u v:Value} (hu:AV.holds e w (kss st.V) x u) (hv:AV.holds e w (kss st.V) y v) (hs:AV.sco st.B.length (vers st.V) y) :
  ∃ w' e',(Instr.storeAt T u v).run P w=.ok () w'/\Mem n0 w0 e' B' V' w'/\dW e st w e' B' V' w':=by
 unfold iE at h;split at h
 ·rename_i ti i off new ar am
  split at h
  ·rename_i b hb
   split at h
   ·rename_i hc
    simp only [Bool.and_eq_true] at hc;obtain ⟨⟨⟨hl,di⟩,bq⟩,du⟩:=hc;obtain ⟨rfl,rfl⟩:=h;obtain ⟨vs,h1,h2⟩:=hr.mem.box i b hb hl;subst hu;have db:=AV.cells_holds am hv du;have aj:=db.length;have Ae:=h2.length;have Ek:=AV.all_one du db;have ai:=run_storeCells_at P (e.ρ i) off b.T v.cells.toList 0 vs w h1 (by grind) Ek
    have hm:=hr.mem.setBox hb hl (splice b.cs off new) (vs.toList.take off++v.cells.toList++vs.toList.drop (off+v.cells.toList.length)).toArray
     (by
      rw [AV.scos_iff];have iz:=AV.scos_iff.1 (hr.mem.boxsc i b hb);have kr:=AV.scos_iff.1 (AV.cells_scoped am hs);grind [splice])
     (h2.splice db off)
    refine ⟨_,e,?_,hm.1,hm.2⟩;simp_all [Instr.storeAt,Instr.sureAddr,storeVar,run_sizeOf]
   grind
  grind
 grind
end
inductive LK where
 | int (k:IntKind)
 | bool
 | fn
 deriving DecidableEq
def fnK (f:Fn) (a b:Array Value):Option LK:=match f with
 | .func _=>if a.size=0/\b.size=0 then some .fn else none
 | _=>none
@[simp] theorem aLE (f:Fn) (a b:Array Value) (k:IntKind):(fnK f a b=some (.int k))=False:=by
  have _:=G;unfold fnK;split <;> simp
@[simp] theorem aJL (f:Fn) (a b:Array Value):(fnK f a b=some .bool)=False:=by
  have _:=G;unfold fnK;split <;> simp
def fnN:Fn->Nat
 | .func f=>f
 | _=>0
def kOf:Value->Option LK
 | .int k _=>some (.int k)
 | .bool _=>some .bool
 | .func f a b=>fnK f a b
 | .nilFunc=>some .fn
 | _=>none
def vEq:Value->Value->Bool
 | .int _ a,.int _ b=>a == b
 | .bool a,.bool b=>a == b
 | .func f _ _,.func g _ _=>fnN f == fnN g
 | .func _ _ _,.nilFunc=>false
 | .nilFunc,.func _ _ _=>false
 | _,_=>true
def eqB:List Value->List Value->Bool
 | x::xs,y::ys=>vEq x y&&eqB xs ys
 | _,_=>true
theorem AU:∀ {a b c d:List Value},a.length=b.length->eqB (a++c) (b++d)=(eqB a b&&eqB c d)
 | [],[],_,_,_=>by have _:=G;rfl
 | x::xs,y::ys,c,d,h=>by
  simp only [List.cons_append,eqB,AU (a:=xs) (b:=ys) (c:=c) (d:=d) (by simpa using h),Bool.and_assoc]
 | [],_::_,_,_,h=>by grind
 | _::_,[],_,_,h=>by grind
def OA (P:Program) (g:TypeId->Option (List LK)):Nat->List Field->Option (List LK)
 | _,[]=>some []
 | off,f::fs =>
  if f.name ≠ "_" /\ f.offset=off then
   match g f.type with
   | some l=>if l.length=P.cellsOf f.type/\l.length≠0 then (OA P g (off+l.length) fs).map (l++·) else none
   | none=>none
  else none
def eqK (P:Program):Nat->TypeId->Option (List LK)
 | 0,_=>none
 | d+1,T =>
  match P.underlying T with
  | some .bool=>some [.bool]
  | some (.int k)=>some [.int k]
  | some (.array n e)=>match eqK P d e with
   | some l=>if l.length=P.cellsOf e/\l.length≠0 then some (List.replicate n l).flatten else none
   | none=>none
  | some (.struct fs)=>if P.stoodInHeld T then none else OA P (eqK P d) 0 fs.toList
  | _=>none
def eqT (P:Program) (T:TypeId):Option (List LK):=if P.eqGuardType P.depth T then none else
 match P.underlying T with
 | some (.struct _)=>eqK P 100 T
 | some (.array _ _)=>eqK P 100 T
 | _=>none
section
variable {P:Program}
def shp (P:Program) (T:TypeId) (x:Value):Prop:=
 match P.underlying T with
 | some (.struct _)=>∃ a,x=.agg a
 | some (.array _ _)=>∃ a,x=.agg a
 | _=>x.cells.toList=[x]
def EqK (P:Program) (D:Nat) (T:TypeId) (l:List LK):Prop:=
 ∀ (w:World) (x y:Value),shp P T x->shp P T y->x.cells.toList.map kOf=l.map some->y.cells.toList.map kOf=l.map some->(Op.equalIn D T x y).run P w=.ok (eqB x.cells.toList y.cells.toList) w
variable {T:TypeId}
theorem rH (h:P.cellsOf T≠0) (w:World):(sizeOf T).run P w=.ok (P.cellsOf T) w:=by
 have _:=G;unfold Program.cellsOf at *;cases hi:P.info? T with
 | none=>grind
 | some i=>simp [sizeOf,typeInfo,hi]
variable {xs:Array Value}
theorem nP {d:Nat} {l:List LK} (hk:eqK P d T=some l) (aj:l.length=P.cellsOf T) (ax:l.length≠0) {off:Nat} (h:((xs.toList.drop off).take l.length).map kOf=l.map some) (w:World) :
  ∃ a,(part T xs off).run P w=.ok a w/\shp P T a/\a.cells.toList=(xs.toList.drop off).take l.length:=by
 cases d with
 | zero=>grind [eqK]
 | succ d =>
 unfold eqK at hk;cases hu:P.underlying T with
 | none=>grind
 | some k =>
  have di:=rH (P:=P) (T:=T) (by omega) w
  have dt:(∃ fs,k=.struct fs)\/(∃ n e,k=.array n e)->∃ a,(part T xs off).run P w=.ok a w/\shp P T a/\a.cells.toList=(xs.toList.drop off).take l.length:=by
   intro jp
   have ww:(isAgg T).run P w=.ok true w:=by
    unfold isAgg;rw [Sem.run_bind,run_underlying hu];rcases jp with ⟨fs,rfl⟩ | ⟨n,e,rfl⟩ <;> simp
   refine ⟨.agg (xs.extract off (off+P.cellsOf T)),by simp_all [part],?_,?_⟩
   ·unfold shp;grind
   simp_all [Value.cells]
  have du:(∀ w,(isAgg T).run P w=.ok false w)->l.length=1->(∀ a,shp P T a↔a.cells.toList=[a])->∃ a,(part T xs off).run P w=.ok a w/\shp P T a/\a.cells.toList=(xs.toList.drop off).take l.length:=by
   intro ww hl hs;cases hd:xs.toList.drop off with
   | nil=>simp_all
   | cons v rest =>
    have hv:xs[off]? = some v:=by
     have:xs.toList[off]? = some v:=by rw [<- List.head?_drop,hd];rfl
     simpa using this
    have db:v.cells.toList=[v]:=by
     rw [hd] at h;cases l with
     | nil=>grind
     | cons q l =>
      simp at h;obtain ⟨h1,_⟩:=h;cases v <;> simp [kOf] at h1 <;> rfl
    exact ⟨v,by simp_all [part],(hs v).2 db,by grind⟩
  cases k <;> simp only [hu,reduceCtorEq,Option.some.injEq] at hk
  case bool =>
   subst hk;refine du (fun w=>?_) rfl (fun a=>by unfold shp;rw [hu])
   unfold isAgg;rw [Sem.run_bind,run_underlying hu];simp
  case int q =>
   subst hk;refine du (fun w=>?_) rfl (fun a=>by unfold shp;rw [hu])
   unfold isAgg;rw [Sem.run_bind,run_underlying hu];simp
  case array n e=>simp_all
  simp_all
theorem jU {α:Type} (xs:List α) (off a b:Nat):(xs.drop off).take (a+b)=(xs.drop off).take a++(xs.drop (off+a)).take b:=by
 have _:=G;rw [List.take_add,List.drop_drop]
theorem wW {D d:Nat} (IH:∀ T l,eqK P d T=some l->EqK P D T l) (xs ys:Array Value):∀ (fs:List Field) (off:Nat) (l:List LK),OA P (eqK P d) off fs=some l ->
  ((xs.toList.drop off).take l.length).map kOf=l.map some->((ys.toList.drop off).take l.length).map kOf=l.map some->∀ w,
  (Op.eqFields D xs ys fs).run P w=.ok (eqB ((xs.toList.drop off).take l.length) ((ys.toList.drop off).take l.length)) w
 | [],off,l,h,_,_,w=>by
  simp_all [OA,Op.eqFields,eqB]
 | f::fs,off,l,h,hx,hy,w=>by
  simp only [OA] at h;split at h
  ·rename_i hf
   obtain ⟨hn,rfl⟩:=hf;split at h
   ·rename_i l1 gn
    split at h
    ·rename_i hc
     simp at h;obtain ⟨l2,po,rfl⟩:=h;rw [List.length_append,jU,List.map_append,List.map_append] at hx hy
     have tu:(((xs.toList.drop f.offset).take l1.length).map kOf).length=l1.length:=by
      grind [List.length_append]
     have El:(((ys.toList.drop f.offset).take l1.length).map kOf).length=l1.length:=by
      grind [List.length_append]
     obtain ⟨de,ku⟩:=List.append_inj hx (by grind)
     obtain ⟨pn,qf⟩:=List.append_inj hy (by grind)
     obtain ⟨a,pa,sa,ca⟩:=nP gn hc.1 hc.2 de w;obtain ⟨b,pb,sb,cb⟩:=nP gn hc.1 hc.2 pn w;have h3:=IH _ _ gn w a b sa sb (by grind) (by grind)
     have h4:=wW IH xs ys fs _ l2 po ku qf w;rw [ca,cb] at h3;simp only [Op.eqFields,hn,ne_eq,not_false_eq_true,if_true,Sem.run_bind,pa,pb,h3,Result.andThen_ok];rw [List.length_append,jU,jU]
     have aj:((xs.toList.drop f.offset).take l1.length).length=((ys.toList.drop f.offset).take l1.length).length:=by
      grind
     rw [AU aj];cases he:eqB ((xs.toList.drop f.offset).take l1.length) ((ys.toList.drop f.offset).take l1.length)
     ·simp
     ·grind
    grind
   grind
  grind
theorem AA {D d:Nat} {e:TypeId} {l:List LK} (IH:EqK P D e l) (hk:eqK P d e=some l) (hc:l.length=P.cellsOf e) (ax:l.length≠0) (xs ys:Array Value):∀ (n i:Nat),
  ((xs.toList.drop (i*l.length)).take (n*l.length)).map kOf=((List.replicate n l).flatten).map some->((ys.toList.drop (i*l.length)).take (n*l.length)).map kOf=((List.replicate n l).flatten).map some->∀ w,
  (Op.eqItems D e (P.cellsOf e) xs ys (List.range' i n)).run P w=.ok (eqB ((xs.toList.drop (i*l.length)).take (n*l.length)) ((ys.toList.drop (i*l.length)).take (n*l.length))) w
 | 0,i,_,_,w=>by simp [Op.eqItems,eqB]
 | n+1,i,hx,hy,w=>by
  have wx:(n+1)*l.length=l.length+n*l.length:=by grind
  rw [wx,jU,List.replicate_succ,List.flatten_cons,List.map_append,List.map_append] at hx hy;have qg:i*l.length+l.length=(i+1)*l.length:=by grind
  rw [qg] at hx hy
  have tu:(((xs.toList.drop (i*l.length)).take l.length).map kOf).length=l.length:=by
   grind [List.length_append]
  have El:(((ys.toList.drop (i*l.length)).take l.length).map kOf).length=l.length:=by
   grind [List.length_append]
  obtain ⟨de,ku⟩:=List.append_inj hx (by grind)
  obtain ⟨pn,qf⟩:=List.append_inj hy (by grind)
  obtain ⟨a,pa,sa,ca⟩:=nP hk hc ax de w;obtain ⟨b,pb,sb,cb⟩:=nP hk hc ax pn w;have h3:=IH w a b sa sb (by grind) (by grind)
  have h4:=AA IH hk hc ax xs ys n (i+1) ku qf w;rw [ca,cb] at h3;rw [hc] at pa pb h3 h4 hx hy qg wx;simp only [List.range'_succ,Op.eqItems,Sem.run_bind];have pa':(part e xs (i*P.cellsOf e)).run P w=.ok a w:=pa;have pb':(part e ys (i*P.cellsOf e)).run P w=.ok b w:=pb;rw [pa',Result.andThen_ok,pb',Result.andThen_ok,h3,Result.andThen_ok];rw [hc,wx,jU,jU,qg]
  have aj:((xs.toList.drop (i*P.cellsOf e)).take (P.cellsOf e)).length=((ys.toList.drop (i*P.cellsOf e)).take (P.cellsOf e)).length:=by
   grind
  rw [AU aj];cases he:eqB ((xs.toList.drop (i*P.cellsOf e)).take (P.cellsOf e)) ((ys.toList.drop (i*P.cellsOf e)).take (P.cellsOf e))
  ·simp
  ·grind
theorem yV:∀ (d k:Nat) (T:TypeId) (l:List LK),eqK P d T=some l->EqK P (k+d) T l
 | 0,k,T,l,h=>by grind [eqK]
 | d+1,k,T,l,h=>by
  intro w x y sx sy hx hy;unfold eqK at h;unfold shp at sx sy;cases hu:P.underlying T with
  | none=>grind
  | some kd =>
   rw [hu] at sx sy;cases kd <;> simp only [hu,reduceCtorEq,Option.some.injEq] at h
   case bool =>
    subst h;rw [sx] at hx;rw [sy] at hy;cases x <;> simp [kOf] at hx;cases y <;> simp [kOf] at hy;rename_i a b;rw [show k+(d+1)=(k+d)+1 from rfl,run_equalIn_bool w (k+d) T a b hu];simp [Value.cells,eqB,vEq]
   case int q =>
    subst h;rw [sx] at hx;rw [sy] at hy;cases x <;> simp [kOf] at hx;cases y <;> simp [kOf] at hy;subst hx;subst hy;rw [show k+(d+1)=(k+d)+1 from rfl,run_equalIn_int w (k+d) T _ _ _ _ hu];simp [Value.cells,eqB,vEq]
   case array n e =>
    obtain ⟨xs,rfl⟩:=sx;obtain ⟨ys,rfl⟩:=sy;split at h
    ·rename_i l1 gn
     split at h
     ·rename_i hc
      have Af:∃ i,P.info? e=some i:=by
       cases d with
       | zero=>grind [eqK]
       | succ d =>
        unfold eqK at gn;cases Ke:P.underlying e with
        | none=>grind
        | some ke=>exact info_of_underlying Ke
      obtain ⟨i,hi⟩:=Af;rw [show k+(d+1)=(k+d)+1 from rfl,run_equalIn_array w (k+d) xs ys hu hi];simp [Value.cells] at hx hy ⊢;have Om:((List.replicate n l1).flatten).length=n*l1.length:=by simp
      have tu:xs.toList.length=n*l1.length:=by have:=congrArg List.length hx;grind
      have El:ys.toList.length=n*l1.length:=by have:=congrArg List.length hy;grind
      have:=AA (D:=k+d) (yV d k e l1 gn) gn hc.1 hc.2 xs ys n 0 (by grind) (by grind) w
      grind [List.range_eq_range']
     grind
    grind
   case struct fs =>
    obtain ⟨xs,rfl⟩:=sx;obtain ⟨ys,rfl⟩:=sy;split at h
    ·cases h
    ·have De:P.fieldsOf T=fs:=by simp [Program.fieldsOf,hu]
     rw [show k+(d+1)=(k+d)+1 from rfl,run_equalIn_struct w (k+d) T xs ys (by grind) (by grind),De]
     simp [Value.cells] at hx hy ⊢;have tu:xs.toList.length=l.length:=by have:=congrArg List.length hx;grind
     have El:ys.toList.length=l.length:=by have:=congrArg List.length hy;grind
     have:=wW (D:=k+d) (fun T l h=>yV d k T l h) xs ys fs.toList 0 l h (by grind) (by grind) w
     grind
theorem aGx {l:List LK} (h:eqT P T=some l) (w:World) {ys:Array Value} (hx:xs.toList.map kOf=l.map some) (hy:ys.toList.map kOf=l.map some) (xo yo:Operand) :
  ((do eqGuard .eql T xo yo (.agg xs) (.agg ys);binOp .eql T (.agg xs) (.agg ys)):Sem Value).run P w=.ok (.bool (eqB xs.toList ys.toList)) w /\
  ((do eqGuard .neq T xo yo (.agg xs) (.agg ys);binOp .neq T (.agg xs) (.agg ys)):Sem Value).run P w=.ok (.bool (!eqB xs.toList ys.toList)) w:=by
 unfold eqT at h;split at h
 ·cases h
 ·have hE:(Op.equal T (.agg xs) (.agg ys)).run P w=.ok (eqB xs.toList ys.toList) w:=by
   have hk:eqK P 100 T=some l/\(∀ a,shp P T (.agg a)):=by
    split at h
    ·exact ⟨h,fun a=>by unfold shp;grind⟩
    ·exact ⟨h,fun a=>by unfold shp;grind⟩
    grind
   have:=yV 100 9900 T l hk.1 w (.agg xs) (.agg ys) (hk.2 xs) (hk.2 ys) (by grind [Value.cells]) (by grind [Value.cells])
   grind [Value.cells,Op.equal,Op.maxDepth]
  simp_all [eqGuard,binOp]
def aAZ (k:LK) (x y:AV):Option Bool:=
 match k,x,y with
 | .int k,.cv (.val (.int k1 a)),.cv (.val (.int k2 b))=>if k1=k/\k2=k then some (a == b) else none
 | .bool,.cv (.val (.bool a)),.cv (.val (.bool b))=>some (a == b)
 | _,_,_=>none
def pM:List LK->List AV->List AV->Option Bool
 | [],[],[]=>some true
 | k::l,x::xs,y::ys=>match aAZ k x y,pM l xs ys with
  | some a,some b=>some (a&&b)
  | _,_=>none
 | _,_,_=>none
theorem UW {k:LK} {x y:AV} {b:Bool} {e:Env} {w:World} {ks:List Nat} {u v:Value} (h:aAZ k x y=some b) (hu:AV.holds e w ks x u) (hv:AV.holds e w ks y v) :
  kOf u=some k/\kOf v=some k/\vEq u v=b:=by
 have _:=G;unfold aAZ at h;split at h
 ·split at h
  ·rename_i hk
   obtain ⟨rfl,rfl⟩:=hk;injection h with h
   obtain ⟨rfl,_⟩:=hu;obtain ⟨rfl,_⟩:=hv;exact ⟨rfl,rfl,h⟩
  grind
 ·injection h with h
  obtain ⟨rfl,_⟩:=hu;obtain ⟨rfl,_⟩:=hv;exact ⟨rfl,rfl,h⟩
 grind
theorem GJ {e:Env} {w:World} {ks:List Nat}:∀ {l:List LK} {xs ys:List AV} {b:Bool} {us vs:List Value},pM l xs ys=some b->AV.all e w ks xs us->AV.all e w ks ys vs ->
  us.map kOf=l.map some/\vs.map kOf=l.map some/\eqB us vs=b
 | [],[],[],b,us,vs,h,hu,hv=>by
  cases us <;> simp [AV.all] at hu;cases vs <;> simp [AV.all] at hv;simp [pM] at h;subst h;exact ⟨rfl,rfl,rfl⟩
 | k::l,x::xs,y::ys,b,us,vs,h,hu,hv=>by
  cases us with
  | nil=>grind [AV.all]
  | cons u us =>
  cases vs with
  | nil=>grind [AV.all]
  | cons v vs =>
  simp [pM] at h;split at h
  ·rename_i a r h1 h2
   obtain ⟨g1,g2,g3⟩:=UW h1 hu.1 hv.1;obtain ⟨f1,f2,f3⟩:=GJ h2 hu.2 hv.2;grind [eqB]
  grind
 | [],_::_,_,_,_,_,h,_,_=>by grind [pM]
 | [],[],_::_,_,_,_,h,_,_=>by grind [pM]
 | k::l,[],_,_,_,_,h,_,_=>by grind [pM]
 | k::l,_::_,[],_,_,_,h,_,_=>by grind [pM]
end
section
variable {P:Program}
def PB (op:BinOp) (k:IntKind) (a b:Int):Option AV:=
 match op with
 | .add=>some (.cv (.val (.int k (k.wrap (a+b)))))
 | .sub=>some (.cv (.val (.int k (k.wrap (a - b)))))
 | .mul=>some (.cv (.val (.int k (k.wrap (a*b)))))
 | .quo=>if b=0 then none else some (.cv (.val (.int k (k.wrap (a.tdiv b)))))
 | .rem=>if b=0 then none else some (.cv (.val (.int k (a.tmod b))))
 | .eql=>some (.cv (.val (.bool (a == b))))
 | .neq=>some (.cv (.val (.bool (a != b))))
 | .lss=>some (.cv (.val (.bool (decide (a<b)))))
 | .leq=>some (.cv (.val (.bool (decide (a<=b)))))
 | .gtr=>some (.cv (.val (.bool (decide (a > b)))))
 | .geq=>some (.cv (.val (.bool (decide (a>=b)))))
 | .and=>some (.cv (.val (.int k (k.wrap (BitVec.ofInt k.bits a &&& BitVec.ofInt k.bits b).toNat))))
 | .or=>some (.cv (.val (.int k (k.wrap (BitVec.ofInt k.bits a ||| BitVec.ofInt k.bits b).toNat))))
 | _=>none
def IU (op:BinOp) (k:IntKind) (a b:Int):Option AV:=
 if b<0 then none else
 match op with
 | .shl=>some (.cv (.val (.int k (k.wrap (a*2 ^ (min b.toNat k.bits))))))
 | .shr=>some (.cv (.val (.int k (a.fdiv (2 ^ (min b.toNat k.bits))))))
 | _=>none
def tC (P:Program) (op:BinOp) (T:TypeId) (x y:AV):Option AV:=
 match x,y with
 | .cv (.val (.int k a)),.cv (.val (.int k' b))=>if op=.shl\/op=.shr then IU op k a b else if k=k' then PB op k a b else none
 | .cv (.val (.bool a)),.cv (.val (.bool b))=>(match cG P T with | some ⟨_,_,.bool⟩=>(match op with | .eql=>some (.cv (.val (.bool (a == b)))) | .neq=>some (.cv (.val (.bool (a != b)))) | _=>none) | _=>none)
 | .agg xs,.agg ys=>match eqT P T with
  | some l=>match pM l xs ys with
   | some b=>(match op with | .eql=>some (.cv (.val (.bool b))) | .neq=>some (.cv (.val (.bool (!b)))) | _=>none)
   | none=>none
  | none=>none
 | _,_=>none
variable {op:BinOp} {av:AV}
theorem rI {k:IntKind} {a b:Int} (h:PB op k a b=some av) (hs:¬(op=.shl\/op=.shr)) (T:TypeId) (xo yo:Operand) (w:World) :
  ∃ v,av=.cv (.val v)/\v.oneCell'=true/\((do eqGuard op T xo yo (.int k a) (.int k b);binOp op T (.int k a) (.int k b)):Sem Value).run P w=.ok v w:=by
 have _:=G
 have wy:∀ op:BinOp,(eqGuard op T xo yo (.int k a) (.int k b)).run P w=.ok () w:=by
  intro op;cases op <;> simp [eqGuard]
 cases op <;> simp only [PB,Option.some.injEq,reduceCtorEq] at h
 case quo =>
  split at h
  ·cases h
  ·rename_i hb
   injection h with h
   exact ⟨_,h.symm,rfl,by simp_all [binOp,Op.intDiv]⟩
 case rem =>
  split at h
  ·cases h
  ·rename_i hb
   injection h with h
   exact ⟨_,h.symm,rfl,by simp_all [binOp,Op.intDiv]⟩
 all_goals exact ⟨_,h.symm,rfl,by simp [wy,binOp,Op.intArith,Op.intCmp,Op.intBits]⟩
theorem AB {k k':IntKind} {a b:Int} (h:IU op k a b=some av) (T:TypeId) (xo yo:Operand) (w:World) :
  ∃ v,av=.cv (.val v)/\v.oneCell'=true/\((do eqGuard op T xo yo (.int k a) (.int k' b);binOp op T (.int k a) (.int k' b)):Sem Value).run P w=.ok v w:=by
 have _:=G;unfold IU at h;split at h
 ·cases h
 ·rename_i hb
  cases op <;> simp only [Option.some.injEq,reduceCtorEq] at h
  ·exact ⟨_,h.symm,rfl,by simp [eqGuard,binOp,Op.shift,hb]⟩
  ·exact ⟨_,h.symm,rfl,by simp [eqGuard,binOp,Op.shift,hb]⟩
variable {T:TypeId} {x:AV} {ks:List Nat} {u:Value}
theorem GK {y:AV} (h:tC P op T x y=some av) {e:Env} {w:World} {v:Value} (hu:AV.holds e w ks x u) (hv:AV.holds e w ks y v) (xo yo:Operand) :
  ∃ r,((do eqGuard op T xo yo u v;binOp op T u v):Sem Value).run P w=.ok r w/\AV.holds e w ks av r/\∀ n vs,AV.sco n vs av:=by
 unfold tC at h;split at h
 ·rename_i k a k' b
  split at h
  ·obtain ⟨r,rfl,h1,h2⟩:=AB (P:=P) (k':=k') h T xo yo w
   grind [AV.holds,CV.holds,AV.sco]
  ·rename_i hs
   split at h
   ·obtain ⟨r,rfl,h1,h2⟩:=rI (P:=P) h hs T xo yo w
    grind [AV.holds,CV.holds,AV.sco]
   grind
 ·rename_i a b
  obtain ⟨rfl,_⟩:=hu;obtain ⟨rfl,_⟩:=hv;split at h
  ·rename_i s z ar
   have hT:P.underlying T=some .bool:=by
    obtain ⟨i,d,h1,h2,h3,h4,h5⟩:=jS ar;grind
   have ft:(Op.equal T (.bool a) (.bool b)).run P w=.ok (a == b) w:=by
    unfold Op.equal Op.maxDepth;rw [Op.equalIn,Sem.run_bind,run_underlying hT];rfl
   cases op <;> simp only [Option.some.injEq,reduceCtorEq] at h
   ·subst h
    simp_all [eqGuard,binOp,AV.holds,CV.holds,Value.oneCell',AV.sco]
   ·subst h
    exact ⟨_,by simp [eqGuard,binOp,ft];rfl,by grind [AV.holds,CV.holds,Value.oneCell'],by simp [AV.sco]⟩
  grind
 ·obtain ⟨us,rfl,hu⟩:=hu
  obtain ⟨vs,rfl,hv⟩:=hv;split at h
  ·rename_i l hl
   split at h
   ·rename_i b hb
    obtain ⟨h1,h2,h3⟩:=GJ hb hu hv;obtain ⟨r1,r2⟩:=aGx hl w h1 h2 xo yo;grind [AV.holds,CV.holds,Value.oneCell',AV.sco]
   grind
  grind
 grind
def RX (op:UnOp) (x:AV):Option AV:=
 match op,x with
 | .not,.cv (.val (.bool b))=>some (.cv (.val (.bool (!b))))
 | .neg,.cv (.val (.int k n))=>some (.cv (.val (.int k (k.wrap (0 - n)))))
 | _,_=>none
theorem JR {op:UnOp} (h:RX op x=some av) {e:Env} {w:World} (hu:AV.holds e w ks x u) :
  ∃ r,(Op.unary op u).run P w=.ok r w/\AV.holds e w ks av r/\∀ n vs,AV.sco n vs av:=by
 have _:=G;unfold RX at h;split at h
 ·injection h with h;subst h
  simp_all [AV.holds,CV.holds,Op.unary,Value.oneCell',AV.sco]
 ·injection h with h;subst h
  simp_all [AV.holds,CV.holds,Op.unary,Op.intArith,Value.oneCell',AV.sco]
 grind
def fN (P:Program) (T:TypeId) (x:AV) (f:Nat):Option AV:=
 match cG P T with
 | some ⟨_,_,.strct fs⟩ =>
  match fs[f]? with
  | some (o,s) =>
   if s=0 then none else
   match x with
   | .ptr i off=>some (.ptr i (off+o))
   | .opt i u el off=>some (.opt i u el (off+o))
   | .cv (.ref cs)=>some (.cv (.ref (cs.drop o)))
   | _=>none
  | none=>none
 | _=>none
variable {s:Nat} {z:List Value}
theorem YN {fs:List (Nat×Nat)} (h:cG P T=some ⟨s,z,.strct fs⟩):∃ ff,P.underlying T=some (.struct ff)/\fs=ff.toList.map fun f=>(f.offset,P.cellsOf f.type):=by
 obtain ⟨i,d,h1,h2,h3,h4,h5⟩:=jS h;grind
variable {k:Nat}
theorem wX {n e:Nat} (h:cG P T=some ⟨s,z,.arr n e k⟩):P.underlying T=some (.array n e)/\k=P.cellsOf e:=by
 obtain ⟨i,d,h1,h2,h3,h4,h5⟩:=jS h;grind
theorem gH {e by_:Nat} (h:cG P T=some ⟨s,z,.slc e k by_⟩):P.underlying T=some (.slice e)/\k=P.cellsOf e/\by_=P.bytesOf e:=by
 obtain ⟨i,d,h1,h2,h3,h4,h5⟩:=jS h;grind
theorem gI {e by_:Nat} (h:cG P T=some ⟨s,z,.slc e k by_⟩):e<bQ:=aGw h (gH h).1
theorem bI (h:P.cellsOf T≠0) (w:World):(sizeOf T).run P w=.ok (P.cellsOf T) w:=by
 have _:=G;unfold Program.cellsOf at *;cases hi:P.info? T with
 | none=>grind
 | some i=>simp [sizeOf,typeInfo,hi]
theorem rJ {f:Nat} (h:fN P T x f=some av) {e:Env} {w:World} (hu:AV.holds e w ks x u) :
  ∃ r,(Instr.fieldAt T u f).run P w=.ok r w/\AV.holds e w ks av r/\∀ n vs,AV.sco n vs x->AV.sco n vs av:=by
 unfold fN at h;split at h
 ·rename_i s z fs ar
  obtain ⟨ff,hT,De⟩:=YN ar;split at h
  ·rename_i o sz hf
   split at h
   ·cases h
   ·subst De
    cases Il:ff.toList[f]? with
    | none=>grind
    | some fd =>
     simp [Il] at hf;obtain ⟨rfl,rfl⟩:=hf;have Ag:ff[f]? = some fd:=by grind
     have qh:∀ b off,(fieldPlace ⟨b,off,none⟩ fd).run P w=.ok ⟨b,off+fd.offset,none⟩ w:=by
      simp_all [fieldPlace,bI,addr_add]
     split at h
     ·injection h with h;subst h
      simp_all [AV.holds,Instr.fieldAt,run_underlying,Instr.sureAddr,AV.sco]
     ·injection h with h;subst h
      obtain ⟨b,hb,rfl⟩:=hu;exact ⟨_,by simp [Instr.fieldAt,run_underlying hT,Ag,Instr.sureAddr,qh];rfl,by simp [AV.holds,hb,Nat.add_assoc],by simp [AV.sco]⟩
     ·injection h with h;subst h
      obtain ⟨b,o,rfl,hS,aT⟩:=hu;exact ⟨_,by simp [Instr.fieldAt,run_underlying hT,Ag,Instr.sureAddr,qh];rfl,by exact ⟨b,_,rfl,hS,aT.drop _⟩,by simp [AV.sco]⟩
     grind
  grind
 grind
def gJ (P:Program) (st:St) (T:TypeId) (x i:AV):Option AV:=
 match i with
 | .cv (.val (.int _ n)) =>
  match cG P T with
  | some ⟨_,_,.arr len _ k⟩ =>
   if k=0 then none else
   if 0<=n/\n<len then
    match x with
    | .ptr i off=>some (.ptr i (off+n.toNat*k))
    | .cv (.ref cs)=>some (.cv (.ref (cs.drop (n.toNat*k))))
    | .opt i u el off=>some (.opt i u el (off+n.toNat*k))
    | _=>none
   else none
  | some ⟨_,_,.slc _ k _⟩ =>
   if k=0 then none else
   match x with
   | .cv (.row k' es)=>if k'=k then (if 0<=n/\n<es.length then some (.cv (.ref (es.getD n.toNat []))) else none) else none
   | .own j u =>
    match st.V[j]? with
    | some v=>if v.sl&&v.ver == u&&v.k == k then (if 0<=n/\n<v.es.length then some (.opt j u n.toNat 0) else none) else none
    | none=>none
   | .fn len [.gd [false] .any,.any,.ptr i off]=>if 0<=n/\n<(len:Nat) then some (.ptr i (off+n.toNat*k)) else none
   | _=>none
  | _=>none
 | _=>none
theorem rK {st:St} {i:AV} (h:gJ P st T x i=some av) {n0:Nat} {w0:World} {e:Env} {a:Act} {w:World} (hr:Rel n0 w0 e st a w) {v:Value} (hu:AV.holds e w (kss st.V) x u) (hv:AV.holds e w (kss st.V) i v) (hs:AV.sco st.B.length (vers st.V) x) :
  ∃ r,(Instr.indexAt T u v).run P w=.ok r w/\AV.holds e w (kss st.V) av r/\AV.sco st.B.length (vers st.V) av:=by
 unfold gJ at h;split at h
 ·rename_i q n
  obtain ⟨rfl,_⟩:=hv;split at h
  ·rename_i s z len et k ar
   obtain ⟨hT,rfl⟩:=wX ar;split at h
   ·cases h
   ·rename_i hk
    split at h
    ·rename_i hn
     have ai:∀ b off,(Instr.indexAt T (.pointer (some ⟨b,off,none⟩)) (.int q n)).run P w=.ok (.pointer (some ⟨b,off+n.toNat*P.cellsOf et,none⟩)) w:=by
      simp [Instr.indexAt,asIntOf,run_underlying hT,Instr.sureAddr,hn,bI hk,addr_add]
     split at h
     ·grind [AV.holds,AV.sco]
     ·injection h with h;subst h
      obtain ⟨b,o,rfl,hS,aT⟩:=hu;exact ⟨_,ai _ _,by exact ⟨b,_,rfl,hS,aT.drop _⟩,by simp [AV.sco]⟩
     ·grind [AV.holds,AV.sco]
     grind
    grind
  ·rename_i s z et k by_ ar
   obtain ⟨hT,rfl,rfl⟩:=gH ar;split at h
   ·cases h
   ·rename_i hk
    split at h
    ·rename_i k' es
     split at h
     ·rename_i cq
      split at h
      ·rename_i hn
       injection h with h;subst h
       obtain ⟨ao,cap,rfl,bq,gt,cn⟩:=hu;have hlt:n.toNat<es.length:=by omega
       rcases cn with rfl | ⟨b,o,rfl,hS,bk⟩
       ·grind
       ·have fm:=bk.get n.toNat hlt
        refine ⟨.pointer (some ⟨b,o+n.toNat*P.cellsOf et,none⟩),?_,?_,by simp [AV.sco]⟩
        ·simp [Instr.indexAt,asIntOf,run_underlying hT,hn,bI hk,addr_add]
        grind [AV.holds,CV.holds]
      grind
     grind
    ·rename_i j u'
     split at h
     ·rename_i x hx
      split at h
      ·rename_i hc
       simp at hc;obtain ⟨⟨hl,rfl⟩,cq⟩:=hc;have tr:=Vec.sl_T hl;replace hl:=Vec.sl_live hl;split at h
       ·rename_i hn
        injection h with h;obtain ⟨rfl,_⟩:=hu
        obtain ⟨xs,a1,a2,a3⟩:=hr.mem.vec j x hx hl;rcases a1.s tr with ⟨_,_,h0,_⟩ | ⟨a1,g,jh,Kf⟩
        ·omega
        ·obtain ⟨cap,hg⟩:∃ cap,e.hdr j x.ver=.slice (some ⟨g,0,none⟩) x.es.length cap:=by
          rcases a1.2 with ⟨h0,_⟩ | ⟨g',cap,cur,hg,_⟩
          ·omega
          grind [Value.ownBlock]
         refine ⟨.pointer (some ⟨g,n.toNat*P.cellsOf et,none⟩),?_,?_,by grind [AV.sco]⟩
         ·rw [hg]
          simp [Instr.indexAt,asIntOf,run_underlying hT,hn,bI hk,addr_add]
         grind [AV.holds]
       grind
      grind
     grind
    ·rename_i len i off
     split at h
     ·rename_i hn
      injection h with h;subst h
      have pp:=AV.slb_holds.1 hu;subst pp;refine ⟨.pointer (some ⟨e.ρ i,off+n.toNat*P.cellsOf et,none⟩),?_,?_,?_⟩
      ·simp [Instr.indexAt,asIntOf,run_underlying hT,hn,bI hk,addr_add]
      ·rfl
      simp_all [AV.sco,AV.scos]
     grind
    grind
  grind
 grind
end
section
variable {P:Program}
def jH (place:Nat->Option (Nat×Nat)) (cells:List AV):List (Nat×AV)->Option (List AV)
 | []=>some cells
 | (i,x)::rest =>
  match place i,x.cells with
  | some (o,s),some new=>if new.length == s&&decide (o+s<=cells.length)&&new.all AV.one then jH place (splice cells o new) rest else none
  | _,_=>none
theorem PC (off:Nat):∀ (vs:List Value) (k:Nat) (cur:Array Value),off+k+vs.length<=cur.size ->
  ((vs.zipIdx k).foldl (fun cs (x:Value×Nat)=>cs.setIfInBounds (off+x.2) x.1) cur)=(cur.toList.take (off+k)++vs++cur.toList.drop (off+k+vs.length)).toArray
 | [],k,cur,_=>by have _:=G;simp
 | v::vs,k,cur,h=>by
  simp only [List.zipIdx_cons,List.foldl_cons];rw [PC off vs (k+1) (cur.setIfInBounds (off+k) v) (by simp at h ⊢;omega)]
  congr 1;have e:=list_seg_step cur.toList (off+k) v vs (by simp at h ⊢;omega)
  simpa [Array.toList_setIfInBounds,Nat.add_assoc] using e
theorem pS {place:Nat->Option (Nat×Nat)} {e:Env} {w:World} {ks:List Nat}:∀ {parts:List (Nat×AV)} {vparts:List (Nat×Value)} {cells:List AV} {vcells:Array Value} {out:List AV},
  jH place cells parts=some out->AV.all e w ks cells vcells.toList->(parts.map (·.1)=vparts.map (·.1))->AV.all e w ks (parts.map (·.2)) (vparts.map (·.2)) ->
  ∃ vout,Instr.fill place vcells vparts=some vout/\AV.all e w ks out vout.toList/\out.length=cells.length
 | [],[],cells,vcells,out,h,hc,_,_=>by
  grind [jH,Instr.fill]
 | (i,x)::rest,(j,v)::vrest,cells,vcells,out,h,hc,hi,hv=>by
  simp at hi;obtain ⟨rfl,hi⟩:=hi;simp only [jH] at h;split at h
  ·rename_i o s new hp am
   split at h
   ·rename_i kw
    simp only [Bool.and_eq_true] at kw;obtain ⟨⟨hs,bq⟩,du⟩:=kw;have db:=AV.cells_holds am hv.1 du;have aj:=db.length;have Ae:=hc.length;have pq:=PC o v.cells.toList 0 vcells (by grind)
    have lx:=hc.splice db o;obtain ⟨vout,h1,h2,h3⟩:=pS (vcells:=(vcells.toList.take o++v.cells.toList++vcells.toList.drop (o+v.cells.toList.length)).toArray) h (by omega) hi hv.2
    grind [Instr.fill,Array.toList_zipIdx,splice]
   grind
  grind
 | [],_::_,_,_,_,_,_,hi,_=>by grind
 | _::_,[],_,_,_,_,_,hi,_=>by grind
theorem sO {place:Nat->Option (Nat×Nat)} {nB:Nat} {vs:List Nat}:∀ {parts:List (Nat×AV)} {cells out:List AV},
  jH place cells parts=some out->AV.scos nB vs cells->AV.scos nB vs (parts.map (·.2))->AV.scos nB vs out
 | [],cells,out,h,hc,_=>by
  grind [jH]
 | (i,x)::rest,cells,out,h,hc,hp=>by
  simp [jH] at h;split at h
  ·rename_i o s new j0 am
   split at h
   ·refine sO h ?_ hp.2
    have hn:=AV.scos_iff.1 (AV.cells_scoped am hp.1);grind [AV.scos_iff,splice]
   grind
  grind
def iG (z:List Value):List AV:=z.map fun v=>.cv (.val v)
theorem qF {e:Env} {w:World} {ks:List Nat}:∀ {z:List Value},z.all Value.oneCell'=true->AV.all e w ks (iG z) z
 | [],_=>by have _:=G;simp [iG,AV.all]
 | v::z,h=>by
  simp only [List.all_cons,Bool.and_eq_true] at h;have:=qF (e:=e) (w:=w) (ks:=ks) h.2;grind [iG,AV.all,AV.holds,CV.holds]
theorem sP (nB:Nat) (vs:List Nat) (z:List Value):AV.scos nB vs (iG z):=by
 have _:=G;rw [AV.scos_iff];intro x hx;obtain ⟨c,_,rfl⟩:=List.mem_map.1 hx;simp [AV.sco]
def mD (P:Program) (T:TypeId) (parts:List (Nat×AV)):Option AV:=
 match cG P T with
 | some ti =>
  if ti.zero≠[]/\ti.zero.all Value.oneCell'=true then
   match ti.kind with
   | .strct fs=>if fs.all (fun f=>f.2 != 0) then (jH (fs[·]?) (iG ti.zero) parts).map .agg else none
   | .arr _ _ k=>if k=0 then none else (jH (fun i=>some (i*k,k)) (iG ti.zero) parts).map .agg
   | _=>none
  else none
 | none=>none
theorem aBZ (fs:List Field) (h:∀ f∈fs,P.cellsOf f.type≠0):fs.mapM (fun f=>(P.info? f.type).map fun i=>(f.offset,i.size))=some (fs.map fun f=>(f.offset,P.cellsOf f.type)):=by
 have _:=G
 induction fs with
 | nil=>simp
 | cons f fs ih =>
  have h1:=h f (by simp)
  unfold Program.cellsOf at h1;cases hi:P.info? f.type with
  | none=>grind
  | some i =>
   grind [Program.cellsOf]
theorem AC {T:TypeId} {parts:List (Nat×AV)} {av:AV} (h:mD P T parts=some av) {e:Env} {w:World} {ks:List Nat} {vparts:Array (Nat×Value)}
  (hi:parts.map (·.1)=vparts.toList.map (·.1)) (hv:AV.all e w ks (parts.map (·.2)) (vparts.toList.map (·.2))) :
  ∃ r,(Instr.build T vparts).run P w=.ok r w/\AV.holds e w ks av r/\∀ n vs,AV.scos n vs (parts.map (·.2))->AV.sco n vs av:=by
 unfold mD at h;split at h
 ·rename_i ti ar
  split at h
  ·rename_i hz
   obtain ⟨it,d,h1,h2,h3,h4,h5⟩:=jS ar
   have ia:∃ z,it.zero=some z/\z.cells.toList=ti.zero:=by
    grind
   obtain ⟨z,sm,Ah⟩:=ia;split at h
   ·rename_i fs hk
    split at h
    ·rename_i bh
     cases hf:jH (fs[·]?) (iG ti.zero) parts with
     | none=>grind
     | some out =>
      simp [hf] at h;subst h;cases d <;> simp [hk] at h5;rename_i ff
      have j0:=aBZ (P:=P) ff.toList (by
       intro f pr;have:=List.all_eq_true.1 bh (f.offset,P.cellsOf f.type) (by grind)
       grind)
      obtain ⟨vout,a1,a2,a3⟩:=pS (vcells:=z.cells) hf (by rw [Ah];exact qF hz.2) hi hv
      refine ⟨.agg vout,run_build w T vparts vout ?_,by grind [AV.holds],fun n vs hs=>by exact sO hf (sP _ _ _) hs⟩
      simp [Program.built,h1,h2,sm,j0];rw [<- a1,h5];simp
    grind
   ·rename_i n et0 k hk
    split at h
    ·cases h
    ·rename_i j8
     cases hf:jH (fun i=>some (i*k,k)) (iG ti.zero) parts with
     | none=>grind
     | some out =>
      simp [hf] at h;subst h;cases d <;> simp [hk] at h5;obtain ⟨rfl,rfl,rfl⟩:=h5;obtain ⟨vout,a1,a2,a3⟩:=pS (vcells:=z.cells) hf (by rw [Ah];exact qF hz.2) hi hv
      refine ⟨.agg vout,run_build w T vparts vout ?_,by grind [AV.holds],fun n vs hs=>by exact sO hf (sP _ _ _) hs⟩
      unfold Program.cellsOf at j8 a1;cases On:P.info? et0 with
      | none=>grind
      | some ie =>
       grind [Program.built]
   grind
  grind
 grind
end
section
variable {P:Program}
def EI (c a b:AV):Option AV:=
 match c with
 | .cv (.val (.bool x)) =>
  match a,b with
  | .cv (.val (.bool p)),.cv (.val (.bool q))=>some (.cv (.val (.bool (if x then p else q))))
  | a,b=>if x then some a else some b
 | _=>none
variable {av:AV} {ks:List Nat}
theorem RY {c a b:AV} (h:EI c a b=some av) {e:Env} {w:World} {vc va vb:Value} (hc:AV.holds e w ks c vc) (ha:AV.holds e w ks a va) (hb:AV.holds e w ks b vb) :
  ∃ x:Bool,vc=.bool x/\AV.holds e w ks av (if x then va else vb)/\∀ n vs,AV.sco n vs a->AV.sco n vs b->AV.sco n vs av:=by
 have _:=G;unfold EI at h;grind [AV.holds,CV.holds]
def kH (x:AV) (i:Nat):Option AV:=
 match x with
 | .tup vs=>vs[i]?
 | _=>none
variable {x:AV} {u:Value}
theorem vS {i:Nat} (h:kH x i=some av) {e:Env} {w:World} (hu:AV.holds e w ks x u) :
  ∃ r,(Instr.extract u i).run P w=.ok r w/\AV.holds e w ks av r/\∀ n vs,AV.sco n vs x->AV.sco n vs av:=by
 have _:=G;unfold kH at h;split at h
 ·obtain ⟨us,rfl,uv⟩:=hu
  obtain ⟨v,h1,h2⟩:=uv.get h;exact ⟨v,by simp_all [Instr.extract],h2,fun n ws hs=>by exact AV.scos_get hs h⟩
 grind
def tD (P:Program) (st:St) (T:TypeId) (x:AV):Option AV:=
 match cG P T with
 | some ⟨_,_,.slc _ _ _⟩ =>
  match x with
  | .cv (.row _ es)=>some (.cv (.val (.int .i64 es.length)))
  | .cv (.val (.slice none 0 0))=>some (.cv (.val (.int .i64 0)))
  | .own i u=>match st.V[i]? with
   | some v=>if v.sl&&v.ver == u then some (.cv (.val (.int .i64 v.es.length))) else none
   | none=>none
  | _=>none
 | some ⟨_,_,.arr n _ _⟩=>some (.cv (.val (.int .i64 n)))
 | _=>none
variable {T:TypeId}
theorem GL {st:St} (h:tD P st T x=some av) {n0:Nat} {w0:World} {e:Env} {a:Act} {w:World} (hr:Rel n0 w0 e st a w) (hu:AV.holds e w (kss st.V) x u) (T':TypeId) :
  ∃ r,(Builtin.len_ #[T] T' #[u]).run P w=.ok r w/\AV.holds e w (kss st.V) av r/\∀ n vs,AV.sco n vs av:=by
 unfold tD at h;split at h
 ·rename_i s z et k by_ ar
  obtain ⟨hT,_,_⟩:=gH ar;split at h
  ·injection h with h;subst h
   obtain ⟨ao,cap,rfl,_⟩:=hu;simp_all [Builtin.len_,run_underlying,AV.holds,CV.holds,Value.oneCell',goInt,AV.sco]
  ·injection h with h;subst h
   simp_all [AV.holds,CV.holds,Builtin.len_,run_underlying,Value.oneCell',goInt,AV.sco]
  ·split at h
   ·rename_i v hv
    split at h
    ·rename_i hc
     simp at hc;obtain ⟨hl,rfl⟩:=hc;injection h with h;subst h
     obtain ⟨xs,a1,a2,a3⟩:=hr.mem.vec _ v hv (Vec.sl_live hl);obtain ⟨ao,c,hs,_⟩:=(a1.s (Vec.sl_T hl)).slice;simp_all [Builtin.len_,run_underlying,AV.holds,CV.holds,Value.oneCell',goInt,AV.sco]
    grind
   grind
  grind
 ·rename_i s z n et k ar
  obtain ⟨hT,_⟩:=wX ar;injection h with h;subst h
  simp_all [Builtin.len_,run_underlying,AV.holds,CV.holds,Value.oneCell',goInt,AV.sco]
 grind
def JS (mx:Bool) (args:List AV):Option AV:=
 match args with
 | [.cv (.val (.int k a)),.cv (.val (.int k' b))]=>if k=k' then some (.cv (.val (.int k (if mx then (if b > a then b else a) else (if b<a then b else a))))) else none
 | _=>none
def AW (P:Program) (src dst:TypeId) (x:AV):Option AV:=
 match P.underlying src,P.underlying dst with
 | some (.int _),some (.int k)=>match x with
  | .cv (.val (.int _ n))=>some (.cv (.val (.int k (k.wrap n))))
  | _=>none
 | _,_=>none
theorem CE {src dst:TypeId} (h:AW P src dst x=some av) {e:Env} {w:World} (hu:AV.holds e w ks x u) :
  ∃ r,(convert src dst u).run P w=.ok r w/\AV.holds e w ks av r/\∀ n vs,AV.sco n vs av:=by
 have _:=G;unfold AW at h;split at h
 ·split at h
  ·injection h with h;subst h
   simp_all [AV.holds,CV.holds,convert,run_underlying,Conv.intToInt,Value.oneCell',AV.sco]
  grind
 grind
def CF (P:Program) (T:TypeId) (x:AV) (f:Nat):Option AV:=
 match P.underlying T with
 | some (.struct fs)=>match fs[f]? with
  | some fd=>match cG P fd.type,x with
   | some te,.agg cs=>if te.kind.agg=true then (if fd.offset+te.size<=cs.length then some (.agg ((cs.drop fd.offset).take te.size)) else none) else cs[fd.offset]?
   | _,_=>none
  | none=>none
 | _=>none
theorem GM {f:Nat} (h:CF P T x f=some av) {e:Env} {w:World} (hu:AV.holds e w ks x u) :
  ∃ r,(Instr.field T u f).run P w=.ok r w/\AV.holds e w ks av r/\∀ n vs,AV.sco n vs x->AV.sco n vs av:=by
 unfold CF at h;split at h
 ·split at h
  ·rename_i fd Il
   split at h
   ·rename_i te cs fh
    obtain ⟨us,rfl,uv⟩:=hu;split at h
    ·split at h
     ·injection h with h;subst h
      refine ⟨.agg (us.extract fd.offset (fd.offset+te.size)),by simp_all [Instr.field,run_underlying,asAgg,part,pY,run_sizeOf],?_,?_⟩
      ·refine ⟨_,rfl,?_⟩
       have:=(uv.drop fd.offset).take te.size;simp_all
      grind [AV.sco,AV.scos_iff]
     grind
    ·obtain ⟨v,h1,h2⟩:=uv.get h
     refine ⟨v,by simp_all [Instr.field,run_underlying,asAgg,part,pY],h2,fun n ws hs=>by exact AV.scos_get hs h⟩
   grind
  grind
 grind
def UX (P:Program) (T:TypeId) (x i:AV):Option AV:=
 match cG P T,x,i with
 | some ⟨_,_,.arr n et 1⟩,.agg cs,.cv (.val (.int _ j)) =>
  match cG P et with
  | some te=>if te.kind.agg then none else if 0<=j/\j<n then cs[j.toNat]? else none
  | none=>none
 | _,_,_=>none
def aS (k:Nat):Nat->List CV->List (List CV)
 | 0,_=>[]
 | n+1,l=>l.take k::aS k n (l.drop k)
theorem AX (k:Nat):∀ (n:Nat) (l:List CV),l.length=n*k->(aS k n l).flatten=l/\(∀ e∈aS k n l,e.length=k)/\(aS k n l).length=n
 | 0,l,h=>by have _:=G;grind [aS]
 | n+1,l,h=>by
  have:=AX k n (l.drop k) (by grind)
  simp_all [aS,Nat.add_mul]
def rL (P:Program) (T:TypeId) (x:AV) (lo hi:Option AV):Option AV:=
 match cG P T with
 | some ⟨_,_,.slc _ k _⟩ =>
  if k=0 then none else
  match x with
  | .cv (.row k' es) =>
   if k'=k then
    match (match lo with | none=>some (0:Int) | some (.cv (.val (.int _ n)))=>some n | _=>none),(match hi with | none=>some (es.length:Int) | some (.cv (.val (.int _ n)))=>some n | _=>none) with
    | some l,some h=>if 0<=l/\l<=h/\h<=es.length then some (.cv (.row k ((es.take h.toNat).drop l.toNat))) else none
    | _,_=>none
   else none
  | _=>none
 | some ⟨_,_,.arr n _ k⟩ =>
  match x,lo,hi with
  | .cv (.ref cs),none,none=>if k≠0/\n*k<=cs.length/\n<=maxLen then some (.cv (.row k (aS k n (cs.take (n*k))))) else none
  | _,_,_=>none
 | _=>none
theorem EJ {w:World} {S:Nat->Prop} {k:Nat}:∀ {es:List (List CV)} {b o:Nat},CV.rows w S k es b o->∀ n,CV.rows w S k (es.take n) b o
 | es,b,o,h,0=>by have _:=G;simp [CV.rows]
 | [],b,o,h,n+1=>by grind
 | e::es,b,o,h,n+1=>by
  exact ⟨h.1,h.2.1,EJ h.2.2 n⟩
theorem EK {w:World} {S:Nat->Prop} {k:Nat}:∀ {es:List (List CV)} {b o:Nat},CV.rows w S k es b o->∀ n,CV.rows w S k (es.drop n) b (o+n*k)
 | es,b,o,h,0=>by have _:=G;grind
 | [],b,o,h,n+1=>by simp [CV.rows]
 | e::es,b,o,h,n+1=>by
  have:=EK h.2.2 n;grind
theorem run_sliceBound (w:World) {v:Value} {k:IntKind} {n:Int} (hv:v=.int k n) (y:Nat) (h0:0<=n) (h1:n<=y) (code:BoundsCode):(Instr.sliceBound v y code).run P w=.ok n.toNat w:=by
 have _:=G;simp_all [Instr.sliceBound,asIntOf]
theorem uL (w:World) (n cap:Nat) (vlo vhi:Option Value) (l h:Int) (fl:(vlo=none/\l=0)\/∃ k,vlo=some (.int k l)) (ot:(vhi=none/\h=n)\/∃ k,vhi=some (.int k h))
  (h0:0<=l) (h1:l<=h) (h2:h<=n) (hn:n<=cap):(Instr.sliceBounds true n cap vlo vhi none).run P w=.ok (l.toNat,h.toNat,cap) w:=by
 have bv:∀ k code,(Instr.sliceBound (.int k h) cap code).run P w=.ok h.toNat w:=fun k code=>run_sliceBound w rfl cap (by omega) (by omega) code
 have jb:∀ k code,(Instr.sliceBound (.int k l) h.toNat code).run P w=.ok l.toNat w:=fun k code=>run_sliceBound w rfl _ (by omega) (by omega) code
 rcases fl with ⟨rfl,rfl⟩ | ⟨k,rfl⟩ <;> rcases ot with ⟨rfl,rfl⟩ | ⟨k',rfl⟩
 ·rfl
 ·simp [Instr.sliceBounds,bv]
 ·simp_all [Instr.sliceBounds]
 simp_all [Instr.sliceBounds]
variable {lo:Option AV} {vlo:Option Value}
theorem AD {hi:Option AV} (h:rL P T x lo hi=some av) {e:Env} {w:World} {vhi:Option Value} (hu:AV.holds e w ks x u)
  (fl:∀ y,lo=some y->∃ v,vlo=some v/\AV.holds e w ks y v) (En:lo=none->vlo=none) (ot:∀ y,hi=some y->∃ v,vhi=some v/\AV.holds e w ks y v) (Kg:hi=none->vhi=none) :
  ∃ r,(Instr.sliceAt T u vlo vhi none).run P w=.ok r w/\AV.holds e w ks av r/\∀ n vs,AV.sco n vs av:=by
 unfold rL at h;split at h
 ·rename_i s z et k by_ ar
  obtain ⟨hT,rfl,rfl⟩:=gH ar;split at h
  ·cases h
  ·rename_i hk
   split at h
   ·rename_i k' es
    split at h
    ·rename_i cq
     subst cq;split at h
     ·rename_i l hh hl Eo
      split at h
      ·rename_i hc
       injection h with h;subst h
       obtain ⟨ao,cap,rfl,bq,gt,cn⟩:=hu
       have hH:(vhi=none/\hh=es.length)\/∃ k,vhi=some (.int k hh):=by
        grind [AV.holds,CV.holds]
       have hL:(vlo=none/\l=0)\/∃ k,vlo=some (.int k l):=by
        grind [AV.holds,CV.holds]
       have hB:=uL (P:=P) w es.length cap vlo vhi l hh hL hH hc.1 hc.2.1 hc.2.2 bq;have aj:((es.take hh.toNat).drop l.toNat).length=hh.toNat - l.toNat:=by grind
       refine ⟨_,by simp [Instr.sliceAt,Instr.slice,run_underlying hT,hB,bI hk];rfl,?_,by simp [AV.sco]⟩
       refine ⟨_,cap - l.toNat,by rw [aj],by omega,by omega,?_⟩
       by_cases Ep:(es.take hh.toNat).drop l.toNat=[]
       ·grind
       ·right
        rcases cn with rfl | ⟨b,o,rfl,hS,bk⟩
        ·grind
        ·have ax:cap≠l.toNat:=by
          grind
         rw [if_neg ax];simp only [Option.map_some,addr_add];exact ⟨b,_,rfl,hS,EK (EJ bk _) _⟩
      grind
     grind
    grind
   grind
 ·rename_i s z n et k ar
  obtain ⟨hT,hk⟩:=wX ar;split at h
  ·rename_i cs
   split at h
   ·rename_i hc
    injection h with h;subst h
    obtain ⟨j8,bq,Df⟩:=hc;obtain ⟨b,o,rfl,hS,aT⟩:=hu;have di:=bI (P:=P) (T:=et) (by omega) w
    have kx:(⟨b,o,none⟩:Addr).add 0=⟨b,o,none⟩:=by rfl
    have hl:(cs.take (n*k)).length=n*k:=by grind
    obtain ⟨c1,c2,c3⟩:=AX k n (cs.take (n*k)) hl;obtain ⟨vs,h1,h2,h3⟩:=(aT.take (n*k)).vals;refine ⟨.slice (some ⟨b,o,none⟩) n n,?_,?_,by simp [AV.sco]⟩
    ·simp_all [Instr.sliceAt,run_underlying,Instr.sureAddr,Instr.sliceBounds]
    ·refine ⟨some ⟨b,o,none⟩,n,by rw [c3],by omega,Df,.inr ⟨b,o,rfl,hS,?_⟩⟩
     exact CV.rows.of_vals c2 (by grind) h3
   grind
  grind
 grind
def wY (P:Program) (T:TypeId) (x:AV) (lo:Option AV) (hi mx:AV):Option AV:=
 match hi,mx with
 | .cv (.val (.int k n)),.cv (.val (.int _ m))=>if n=m then (match x with
  | .cv (.row k' es)=>rL P T (.cv (.row k' es)) lo (some (.cv (.val (.int k n))))
  | _=>none) else none
 | _,_=>none
theorem UY (w:World) (n cap:Nat) (vlo:Option Value) (l h:Int) (k1 k2:IntKind) (fl:(vlo=none/\l=0)\/∃ k,vlo=some (.int k l))
  (h0:0<=l) (h1:l<=h) (h2:h<=n) (hn:n<=cap):(Instr.sliceBounds true n cap vlo (some (.int k1 h)) (some (.int k2 h))).run P w=.ok (l.toNat,h.toNat,h.toNat) w:=by
 have bv:∀ k code,(Instr.sliceBound (.int k h) cap code).run P w=.ok h.toNat w:=fun k code=>run_sliceBound w rfl cap (by omega) (by omega) code
 have Ak:∀ k code,(Instr.sliceBound (.int k h) h.toNat code).run P w=.ok h.toNat w:=fun k code=>run_sliceBound w rfl _ (by omega) (by omega) code
 have jb:∀ k code,(Instr.sliceBound (.int k l) h.toNat code).run P w=.ok l.toNat w:=fun k code=>run_sliceBound w rfl _ (by omega) (by omega) code
 rcases fl with ⟨rfl,rfl⟩ | ⟨k,rfl⟩
 ·simp_all [Instr.sliceBounds]
 simp_all [Instr.sliceBounds]
theorem JT {hi mx:AV} (h:wY P T x lo hi mx=some av) {e:Env} {w:World} {vhi vmx:Value} (hu:AV.holds e w ks x u)
  (fl:∀ y,lo=some y->∃ v,vlo=some v/\AV.holds e w ks y v) (En:lo=none->vlo=none) (ot:AV.holds e w ks hi vhi) (Df:AV.holds e w ks mx vmx) :
  ∃ r,(Instr.sliceAt T u vlo (some vhi) (some vmx)).run P w=.ok r w/\AV.holds e w ks av r/\∀ n vs,AV.sco n vs av:=by
 unfold wY at h;split at h
 case h_2=>cases h
 rename_i q nn q' mm;split at h
 case isFalse=>cases h
 rename_i tv;subst tv;split at h
 case h_2=>cases h
 rename_i k' es;obtain ⟨rfl,_⟩:=ot;obtain ⟨rfl,_⟩:=Df;unfold rL at h;split at h
 ·rename_i s z et k by_ ar
  obtain ⟨hT,rfl,rfl⟩:=gH ar;split at h
  ·cases h
  ·rename_i hk
   simp only at h;split at h
   ·rename_i cq
    subst cq;split at h
    ·rename_i l hh hl Eo
     split at h
     ·rename_i hc
      injection h with h;subst h
      simp at Eo;subst Eo;obtain ⟨ao,cap,rfl,bq,gt,cn⟩:=hu
      have hL:(vlo=none/\l=0)\/∃ k,vlo=some (.int k l):=by
       grind [AV.holds,CV.holds]
      have hB:=UY (P:=P) w es.length cap vlo l nn q q' hL hc.1 hc.2.1 hc.2.2 bq;have aj:((es.take nn.toNat).drop l.toNat).length=nn.toNat - l.toNat:=by grind
      refine ⟨_,by simp [Instr.sliceAt,Instr.slice,run_underlying hT,hB,bI hk];rfl,?_,by simp [AV.sco]⟩
      refine ⟨_,nn.toNat - l.toNat,by rw [aj],by omega,by omega,?_⟩
      by_cases Ep:(es.take nn.toNat).drop l.toNat=[]
      ·grind
      ·right
       rcases cn with rfl | ⟨b,o,rfl,hS,bk⟩
       ·grind
       ·have ax:nn.toNat≠l.toNat:=by
         grind
        rw [if_neg ax];simp only [Option.map_some,addr_add];exact ⟨b,_,rfl,hS,EK (EJ bk _) _⟩
     grind
    grind
   grind
 ·grind
 grind
end
section
variable {P:Program}
def lM (z:List Value):Nat->List Value
 | 0=>[]
 | n+1=>z++lM z n
theorem oI (z:List Value):∀ n,(lM z n).length=n*z.length
 | 0=>by have _:=G;simp [lM]
 | n+1=>by simp [lM,oI z n,Nat.add_mul];omega
theorem UZ (z:List Value) (hz:z.length≠0):∀ n i,i<n*z.length->(lM z n)[i]? = z[i % z.length]?
 | 0,i,h=>by have _:=G;omega
 | n+1,i,h=>by
  simp only [lM,List.getElem?_append];split
  ·rename_i hi;rw [Nat.mod_eq_of_lt hi]
  ·rename_i hi
   rw [UZ z hz n (i - z.length) (by rw [Nat.add_mul] at h;omega)]
   congr 1;rw [<- Nat.mod_eq_sub_mod (by omega)]
theorem CG (z:List Value) (h:z.all Value.oneCell'=true):∀ n,(lM z n).all Value.oneCell'=true
 | 0=>by have _:=G;rfl
 | n+1=>by simp only [lM,List.all_append,h,CG z h n,Bool.and_self]
theorem uM (z:Array Value) (hz:z.size≠0) (n:Nat):((Array.range (n*z.size)).map (z[· % z.size]!)).toList=lM z.toList n:=by
 apply List.ext_getElem?;grind [UZ,oI]
def gC:List AV->Option (List CV)
 | []=>some []
 | .cv c::xs=>(gC xs).map (c::·)
 | _::_=>none
theorem mE:∀ {xs:List AV} {cs:List CV},gC xs=some cs->xs=cs.map .cv
 | [],cs,h=>by have _:=G;grind [gC]
 | x::xs,cs,h=>by
  cases x <;> simp [gC] at h;obtain ⟨ds,h1,rfl⟩:=h;simp [mE h1]
theorem lT {e:Env} {w:World} {ks:List Nat}:∀ {cs:List CV} {vs:List Value},AV.all e w ks (cs.map .cv) vs->CV.vals w e.S cs vs
 | [],[],_=>by have _:=G;simp [CV.vals]
 | c::cs,v::vs,h=>by
  simpa using ⟨h.1,lT h.2⟩
 | [],_::_,h=>by grind [AV.all]
 | _::_,[],h=>by grind [AV.all]
abbrev Out:=AV×List Box×List Vec
def pT (P:Program) (st:St) (T:TypeId):Option Out:=
 match cG P T with
 | some ti=>if ti.zero≠[]/\ti.zero.all Value.oneCell'=true then some (.ptr st.B.length 0,st.B++[Box.mk true T (iG ti.zero)],st.V) else none
 | none=>none
def JU (st:St) (T:TypeId) (x:AV):Option Out:=
 match x.cells with
 | some cs=>if cs.all AV.one then some (.ptr st.B.length 0,st.B++[Box.mk true T cs],st.V) else none
 | none=>none
def bU (P:Program) (st:St) (T:TypeId) (len:Nat) (parts:List (Nat×AV)):Option Out:=
 match cG P T with
 | some ⟨_,_,.slc e k _⟩ =>
  match cG P e with
  | some te =>
   if te.zero.length=k/\te.size=k/\k≠0/\te.zero.all Value.oneCell'=true/\len*k<=2 ^ 24 then
    match jH (fun i=>some (i*k,k)) (iG (lM te.zero len)) parts with
    | some out=>(gC out).map fun cs=>(.own st.V.length 0,st.B,st.V++[Vec.mk true e k 0 (aS k len cs)])
    | none=>none
   else none
  | none=>none
 | _=>none
def AE (st:St) (k:Nat) (x:AV):Option (List (List CV)):=
 match x with
 | .cv (.row k' es)=>if k'=k then some es else none
 | .cv (.val (.slice none 0 0))=>some []
 | .own j u=>match st.V[j]? with
  | some v=>if v.sl&&v.ver == u&&v.k == k then some v.es else none
  | none=>none
 | _=>none
def tE (P:Program) (st:St) (T:TypeId) (s x:AV):Option Out:=
 match cG P T,s with
 | some ⟨_,_,.slc e k by_⟩,.own i u =>
  match cG P e,st.V[i]?,AE st k x with
  | some te,some v,some new =>
   if v.sl&&v.ver == u&&v.k == k&&v.T == e then
    (if te.zero.length=k/\te.size=k/\k≠0 then
     (if (v.es.length+new.length)*by_<=140737488355328/\v.es.length+new.length<=maxLen then
      some (.own i (v.ver+1),st.B,st.V.set i { v with ver:=v.ver+1,es:=v.es++new }) else none) else none) else none
  | _,_,_=>none
 | _,_=>none
def qG (P:Program) (st:St) (T:TypeId) (x:AV):Option Out:=
 match cG P T with
 | some ⟨_,_,.slc e k _⟩ =>
  if k=0 then none else
  match x with
  | .cv (.row _ _)=>some (.own st.V.length 0,st.B,st.V++[Vec.mk true e k 0 []])
  | _=>none
 | _=>none
variable {st:St} {a:Act}
theorem VA {n0:Nat} {w0:World} {e:Env} {w:World} (hr:Rel n0 w0 e st a w) (T:TypeId) {cs:List AV} {vs:Array Value} (dz:AV.scos st.B.length (vers st.V) cs) (hv:AV.all e w (kss st.V) cs vs.toList) :
  ∃ e',Mem n0 w0 e' (st.B++[Box.mk true T cs]) st.V (w.alloc (.cells vs T))/\dW e st w e' (st.B++[Box.mk true T cs]) st.V (w.alloc (.cells vs T)) /\
   AV.holds e' (w.alloc (.cells vs T)) (kss st.V) (.ptr st.B.length 0) (.pointer (some ⟨w.heap.size,0,none⟩)):=by
 obtain ⟨e',h1,h2,h3,_⟩:=hr.mem.newBox T cs vs dz hv;grind [AV.holds]
variable {T:TypeId} {av:AV} {B':List Box} {V':List Vec}
theorem OB (h:pT P st T=some (av,B',V')) {n0:Nat} {w0:World} {e:Env} {w:World} (hr:Rel n0 w0 e st a w) :
  ∃ v w' e',(Instr.alloc T true (.tuple #[])).run P w=.ok v w'/\Mem n0 w0 e' B' V' w'/\dW e st w e' B' V' w'/\AV.holds e' w' (kss V') av v/\AV.sco B'.length (vers V') av:=by
 unfold pT at h;split at h
 ·rename_i ti ar
  split at h
  ·rename_i hz
   obtain ⟨rfl,rfl,rfl⟩:=h;obtain ⟨z,ia,sm⟩:=JQ ar hz.1 w;obtain ⟨e',h1,h2,h3⟩:=VA hr T (cs:=iG ti.zero) (vs:=z.cells) (sP _ _ _) (by rw [sm];exact qF hz.2)
   exact ⟨_,_,e',by simp [Instr.alloc,ia,newVar,newRow],h1,h2,h3,by simp [AV.sco]⟩
  grind
 grind
variable {x:AV}
theorem VB (h:JU st T x=some (av,B',V')) {n0:Nat} {w0:World} {e:Env} {w:World} (hr:Rel n0 w0 e st a w)
  {u:Value} (hu:AV.holds e w (kss st.V) x u) (hs:AV.sco st.B.length (vers st.V) x) :
  ∃ v w' e',(Instr.box T u).run P w=.ok v w'/\Mem n0 w0 e' B' V' w'/\dW e st w e' B' V' w'/\AV.holds e' w' (kss V') av v/\AV.sco B'.length (vers V') av:=by
 unfold JU at h;split at h
 ·rename_i cs aT
  split at h
  ·rename_i ho
   obtain ⟨rfl,rfl,rfl⟩:=h;obtain ⟨e',h1,h2,h3⟩:=VA hr T (AV.cells_scoped aT hs) (AV.cells_holds aT hu ho);exact ⟨_,_,e',by rfl,h1,h2,h3,by simp [AV.sco]⟩
  grind
 grind
theorem qH {len:Nat} {parts:List (Nat×AV)} (h:bU P st T len parts=some (av,B',V'))
  {n0:Nat} {w0:World} {e:Env} {w:World} (hr:Rel n0 w0 e st a w) {vparts:Array (Nat×Value)}
  (hi:parts.map (·.1)=vparts.toList.map (·.1)) (hv:AV.all e w (kss st.V) (parts.map (·.2)) (vparts.toList.map (·.2))) :
  ∃ v w' e',(Instr.buildSlice T len vparts).run P w=.ok v w'/\Mem n0 w0 e' B' V' w'/\dW e st w e' B' V' w'/\AV.holds e' w' (kss V') av v/\AV.sco B'.length (vers V') av:=by
 unfold bU at h;split at h
 ·rename_i s z et k by_ ar
  obtain ⟨hT,hk,_⟩:=gH ar;split at h
  ·rename_i te fh
   split at h
   ·rename_i hc
    obtain ⟨hz,di,j8,du,Er⟩:=hc;split at h
    ·rename_i out tw
     cases iF:gC out with
     | none=>grind
     | some cs =>
      obtain ⟨ie,d,h1,h2,h3,h4,h5⟩:=jS fh
      obtain ⟨zv,sm,Ah⟩:∃ z,ie.zero=some z/\z.cells.toList=te.zero:=by
       grind
      have wz:ie.size=k:=by omega
      have tk:zv.cells.size=k:=by grind
      have qi:=uM zv.cells (by omega) len
      rw [tk,Ah] at qi
      obtain ⟨vout,a1,a2,a3⟩:=pS (vcells:=(Array.range (len*k)).map (zv.cells[· % k]!)) tw
       (by rw [qi];exact qF (CG _ du _)) hi hv
      have Es:out.length=len*k:=by grind [iG]
      have aT:=mE iF;have bz:cs.length=len*k:=by grind
      have tx:=AX k len cs bz
      by_cases aj:len*k=0
      ·
       have Al:len=0:=by
        rcases Nat.mul_eq_zero.1 aj with h | h
        ·exact h
        omega
       subst Al
       have ai:(Instr.buildSlice T 0 vparts).run P w=.ok (.slice (some ⟨w.heap.size,0,none⟩) 0 0) (w.alloc (.cells vout et)):=by
        have r0:Array.range 0=#[]:=rfl;have a1':Instr.fill (fun i=>some (i*k,k)) #[] vparts.toList=some vout:=by grind
        simp [Instr.buildSlice,run_underlying hT,run_sizeOf fh,di,r0,a1',newRow]
       obtain ⟨e',b1,b2,b3,_⟩:=hr.mem.newVec (w':=w.alloc (.cells vout et)) et k (.slice (some ⟨w.heap.size,0,none⟩) 0 0) (aS k 0 cs) []
        (.inl ⟨gI ar,.inl ⟨_,rfl,by rfl,rfl⟩⟩) (by simp [aS,CV.vals]) tx.2.1 (World.grownBy_alloc _ _ _) (fun g hg=>by simp [bM] at hg)
       grind [AV.holds,Value.oneCell',AV.sco]
      ·have ai:=run_buildSlice (P:=P) w T et len vparts vout ie zv hT h1 sm (by grind) (by grind) (by rw [wz,tk];exact a1)
       have cr:CV.vals w e.S (aS k len cs).flatten vout.toList:=by
        rw [tx.1];rw [aT] at a2;exact lT a2
       have ik:vout.size=len*k:=by have:=cr.length;grind
       have ap:=World.ownsRow_lit (base:=n0) (e:=et) (size:=k) w vout len hr.mem.base (by simp [maxLen];have:=Nat.le_mul_of_pos_right len (Nat.pos_of_ne_zero j8);omega) ik
       obtain ⟨e',b1,b2,b3,_⟩:=hr.mem.newVec (w':=w.alloc (.cells vout et)) et k (.slice (some ⟨w.heap.size,0,none⟩) len len) (aS k len cs) vout.toList
        (by rw [tx.2.2];exact OwnsV.of_row (gI ar) ap) cr tx.2.1 (World.grownBy_alloc _ _ _) (fun g hg=>by cases len <;> simp [bM] at hg;omega)
       grind [AV.holds,Value.oneCell',AV.sco]
    grind
   grind
  grind
 grind
theorem JV {s:AV} (h:tE P st T s x=some (av,B',V'))
  {n0:Nat} {w0:World} {e:Env} {w:World} (hr:Rel n0 w0 e st a w) {us ux:Value} (hs:AV.holds e w (kss st.V) s us) (hx:AV.holds e w (kss st.V) x ux) (T':TypeId) :
  ∃ v w' e',(Builtin.append_ #[T,T] T' #[us,ux]).run P w=.ok v w'/\Mem n0 w0 e' B' V' w'/\dW e st w e' B' V' w'/\AV.holds e' w' (kss V') av v/\AV.sco B'.length (vers V') av:=by
 unfold tE at h;split at h
 ·rename_i s' z et k by_ i u ar
  obtain ⟨hT,hk,Ac⟩:=gH ar;split at h
  ·rename_i te v new fh hv am
   split at h
   ·rename_i hc
    simp at hc;obtain ⟨⟨⟨hl,rfl⟩,Am⟩,Kh⟩:=hc;split at h
    ·split at h
     ·rename_i zj
      obtain ⟨rfl,rfl,rfl⟩:=h;obtain ⟨ie,d,h1,h2,h3,h4,h5⟩:=jS fh
      obtain ⟨zv,sm,Ah⟩:∃ z,ie.zero=some z/\z.cells.toList=te.zero:=by
       grind
      have wz:ie.size=k:=by omega
      have tk:zv.cells.size=k:=by grind
      have Et:ie.bytes=by_:=by grind [Program.bytesOf]
      obtain ⟨rfl,du⟩:=hs;have tr:=Vec.sl_T hl;replace hl:=Vec.sl_live hl;obtain ⟨xs,a1',a2,a3⟩:=hr.mem.vec i v hv hl;have a1:=a1'.s tr;rw [Am,Kh] at a1
      have mh:∃ (ao:Option Addr) (c:Nat) (news:List Value),ux=.slice ao new.length c/\CV.vals w e.S new.flatten news/\(∀ l∈new,l.length=k)/\(ao=none->new.length=0) /\
        (∀ ad,ao=some ad->∀ j u,news[j]? = some u->w.cell? (ad.add j)=some u):=by
       have rows_vals:∀ {es:List (List CV)} {b o:Nat},CV.rows w e.S k es b o->∃ news,CV.vals w e.S es.flatten news/\(∀ l∈es,l.length=k)/\∀ j u,news[j]? = some u->w.cell? ⟨b,o+j,none⟩=some u:=by
        intro es
        induction es with
        | nil=>intro b o _;exact ⟨[],by simp [CV.vals],by simp,by simp⟩
        | cons l es ih =>
         intro b o bk;obtain ⟨r1,r2,r3⟩:=bk;obtain ⟨vs1,c1,c2,c3⟩:=r2.vals;obtain ⟨vs2,d1,d2,d3⟩:=ih r3;refine ⟨vs1++vs2,by simpa using c1.append d1,fun m hm=>(List.mem_cons.1 hm).elim (fun h=>h▸r1) (d2 m),?_⟩
         grind
       unfold AE at am;split at am
       ·split at am
        ·injection am with am;subst am
         obtain ⟨ao,cap,rfl,bq,gt,cn⟩:=hx;rcases cn with rfl | ⟨b,o,rfl,hS,bk⟩
         ·exact ⟨ao,cap,[],rfl,by simp [CV.vals],by simp,by simp,by simp⟩
         grind [addr_add]
        grind
       ·injection am with am;subst am
        obtain ⟨rfl,_⟩:=hx;exact ⟨none,0,[],rfl,by simp [CV.vals],by simp,by simp,by simp⟩
       ·rename_i j u'
        split at am
        ·rename_i y hy
         split at am
         ·rename_i Im
          simp at Im;obtain ⟨⟨ay,rfl⟩,Oo⟩:=Im;injection am with am;subst am
          obtain ⟨rfl,_⟩:=hx;obtain ⟨ys,b1',b2,b3⟩:=hr.mem.vec j y hy (Vec.sl_live ay);have b1:=b1'.s (Vec.sl_T ay);obtain ⟨ao,c,hs,bq,_⟩:=b1.slice;refine ⟨ao,c,ys,hs,b2,by grind,?_,?_⟩
          ·intro Kc
           rcases b1 with ⟨_,_,h0,_⟩ | ⟨_,g,hg,_⟩
           ·exact h0
           grind [bM]
          ·intro ad Oq
           rcases b1 with ⟨_,_,_,h0⟩ | ⟨b1,g,hg,ew⟩
           ·grind
           ·have:ad=⟨g,0,none⟩:=by
             rcases b1.2 with ⟨h0,_⟩ | ⟨g',cap,cur,h0,_⟩
             ·grind
             grind [Value.ownBlock]
            subst this;exact b1.cells ew
         grind
        grind
       grind
      obtain ⟨ao,c,news,rfl,d1,d2,d3,d4⟩:=mh
      have An:news.length=new.length*k:=by
       rw [d1.length]
       have:∀ (l:List (List CV)),(∀ m∈l,m.length=k)->l.flatten.length=l.length*k:=by
        intro l hl
        induction l with
        | nil=>simp
        | cons m l ih=>grind
       grind
      obtain ⟨v',w',ai,r1,r2,r3⟩:=JP (P:=P) w n0 T T' et ie zv k by_ hT h1 sm wz Et tk (by omega) _ v.es.length xs a1 (gI ar) ao new.length c news An d3 d4 d1.one zj.2 zj.1 hr.mem.base
      obtain ⟨e',b1,b2,b3,_⟩:=hr.mem.vecStep (w':=w') hv hl v' (v.es++new) (xs++news) (by grind)
       (by rw [List.flatten_append];exact a2.append d1) (fun l ij=>(List.mem_append.1 ij).elim (a3 l) (fun h=>(d2 l h).trans Am.symm)) r2 r3
      refine ⟨v',w',e',ai,b1,b2,by exact ⟨b3.symm,r1.one⟩,?_⟩
      simp [AV.sco];grind
     grind
    grind
   grind
  grind
 grind
theorem JW (h:qG P st T x=some (av,B',V'))
  {n0:Nat} {w0:World} {e:Env} {w:World} (hr:Rel n0 w0 e st a w) {u:Value} (hu:AV.holds e w (kss st.V) x u) {k1 k2:IntKind} :
  ∃ v w' e',(Instr.sliceAt T u none (some (.int k1 0)) (some (.int k2 0))).run P w=.ok v w'/\Mem n0 w0 e' B' V' w'/\dW e st w e' B' V' w'/\AV.holds e' w' (kss V') av v/\AV.sco B'.length (vers V') av:=by
 unfold qG at h;split at h
 ·rename_i s z et k by_ ar
  obtain ⟨hT,rfl,_⟩:=gH ar;split at h
  ·cases h
  rename_i j8;split at h
  ·rename_i k' es
   obtain ⟨ao,cap,rfl,bq,gt,cn⟩:=hu
   have ai:(Instr.sliceAt T (.slice ao es.length cap) none (some (.int k1 0)) (some (.int k2 0))).run P w=.ok (.slice ao 0 0) w:=by
    simp [Instr.sliceAt,Instr.slice,run_underlying hT,Instr.sliceBounds,Instr.sliceBound,asIntOf,bI j8]
   obtain ⟨e',b1,b2,b3,_⟩:=hr.mem.newVec (w':=w) et (P.cellsOf et) (.slice ao 0 0) [] [] (.inl ⟨gI ar,.inl ⟨ao,rfl,rfl,rfl⟩⟩) (by simp [CV.vals]) (by simp)
    ⟨rfl,rfl,rfl,Nat.le_refl _,fun _ _ _=>rfl⟩ (fun g hg=>by simp_all [bM])
   grind [AV.holds,Value.oneCell',AV.sco]
  grind
 grind
end
section
variable {P:Program}
def fO (st:St):Option Operand->Option AV
 | none=>none
 | some x=>some (st.ev x)
def AF (x:AV):Option AV:=match x with
 | .ptr i o=>some (.ptr i o)
 | .opt i g el o=>some (.opt i g el o)
 | .cv (.ref cs)=>some (.cv (.ref cs))
 | _=>none
variable {av:AV} {ks:List Nat}
theorem JX {x:AV} (h:AF x=some av) {e:Env} {w:World} {u:Value} (hu:AV.holds e w ks x u):∃ p,u=.pointer (some p)/\av=x:=by
 have _:=G;unfold AF at h;grind [AV.holds,CV.holds]
def dB (P:Program) (st:St) (op:Op):Option Out:=
 match op with
 | .move x=>some (st.ev x,st.B,st.V)
 | .assign x=>some (st.ev x,st.B,st.V)
 | .pick c a b=>(EI (st.ev c) (st.ev a) (st.ev b)).map (·,st.B,st.V)
 | .alloc T=>pT P st T
 | .box T x=>JU st T (st.ev x)
 | .build T parts=>(mD P T (parts.toList.map fun p=>(p.1,st.ev p.2))).map (·,st.B,st.V)
 | .buildSlice T len parts=>bU P st T len (parts.toList.map fun p=>(p.1,st.ev p.2))
 | .load T a=>(jT P st T (st.ev a)).map (·,st.B,st.V)
 | .store T a x=>(iE P st T (st.ev a) (st.ev x)).map (AV.any,·)
 | .binOp op T x y _=>(tC P op T (st.ev x) (st.ev y)).map (·,st.B,st.V)
 | .unOp op _ x=>(RX op (st.ev x)).map (·,st.B,st.V)
 | .fieldAddr T x f=>(fN P T (st.ev x) f).map (·,st.B,st.V)
 | .indexAddr T x i=>(gJ P st T (st.ev x) (st.ev i)).map (·,st.B,st.V)
 | .index T x i=>(UX P T (st.ev x) (st.ev i)).map (·,st.B,st.V)
 | .extract x i=>(kH (st.ev x) i).map (·,st.B,st.V)
 | .convert T T' x=>(AW P T T' (st.ev x)).map (·,st.B,st.V)
 | .field T x f=>(CF P T (st.ev x) f).map (·,st.B,st.V)
 | .nilCheck x=>(AF (st.ev x)).map (·,st.B,st.V)
 | .makeFunc (.func f) first caps=>if sN (caps.toList.map st.ev)=true then none else
  if first.size=0 then some (.fn f (caps.toList.map st.ev),st.B,st.V) else if caps.size=0/\first.size=1 then some (.fn f (.gd [false] .any::first.toList.map st.ev),st.B,st.V) else none
 | .slice T x lo hi none=>(rL P T (st.ev x) (fO st lo) (fO st hi)).map (·,st.B,st.V)
 | .slice T x none (some (.const (.int _ 0))) (some (.const (.int _ 0)))=>qG P st T (st.ev x)
 | .slice T x lo (some (.tmp p)) (some (.tmp q))=>(wY P T (st.ev x) (fO st lo) (st.ev (.tmp p)) (st.ev (.tmp q))).map (·,st.B,st.V)
 | .call { callee:=.builtin .len,args,argTypes } =>
  match args.toList,argTypes.toList with
  | [x],[T]=>(tD P st T (st.ev x)).map (·,st.B,st.V)
  | _,_=>none
 | .call { callee:=.builtin .append,args,argTypes } =>
  match args.toList,argTypes.toList with
  | [s,x],[T,T']=>if T=T' then tE P st T (st.ev s) (st.ev x) else none
  | _,_=>none
 | .call { callee:=.builtin .max,args,.. }=>(JS true (args.toList.map st.ev)).map (·,st.B,st.V)
 | .call { callee:=.builtin .min,args,.. }=>(JS false (args.toList.map st.ev)).map (·,st.B,st.V)
 | _=>none
theorem Rel.evs {n0:Nat} {w0:World} {e:Env} {st:St} {a:Act} {w:World} (h:Rel n0 w0 e st a w):∀ (l:List Operand),AV.all e w (kss st.V) (l.map st.ev) (l.map a.eval)/\AV.scos st.B.length (vers st.V) (l.map st.ev)
 | []=>by simp [AV.all,AV.scos]
 | x::l=>by
  have h1:=h.ev x;have h2:=h.evs l;grind [AV.all,AV.scos]
variable {B':List Box} {V':List Vec}
theorem aZ {o:Option AV} {st:St} (h:o.map (·,st.B,st.V)=some (av,B',V')):o=some av/\B'=st.B/\V'=st.V:=by
 have _:=G;cases o with
 | none=>grind
 | some x=>grind
theorem aDv (w:World) (mx:Bool) {args:List AV} (h:JS mx args=some av) {e:Env} {vs:Array Value} (hv:AV.all e w ks args vs.toList) (ts:Array TypeId) (T:TypeId) :
  ∃ r,(if mx then Builtin.max_ ts T vs else Builtin.min_ ts T vs).run P w=.ok r w/\AV.holds e w ks av r/\∀ n us,AV.sco n us av:=by
 have _:=G;unfold JS at h;split at h
 ·split at h
  ·injection h with h;subst h
   match cr:vs.toList,hv with
   | [v1,v2],hv =>
    obtain ⟨⟨rfl,_⟩,⟨rfl,_⟩,_⟩:=hv;cases mx
    ·simp_all [Builtin.min_,Builtin.min2,AV.holds,CV.holds,Value.oneCell',AV.sco]
    simp_all [Builtin.max_,Builtin.max2,AV.holds,CV.holds,Value.oneCell',AV.sco]
   | [],hv=>grind [AV.all]
   | [_],hv=>grind [AV.all]
   | _::_::_::_,hv=>grind [AV.all]
  grind
 grind
theorem uN {o:Oper} {st:St} (h:dB P st o.op=some (av,B',V')):Step P o st av B' V':=by
 intro n0 w0 e a w hr
 have pure1:∀ {s:Sem Value} {r:Value},(execOp a.eval o)=(do pure (.value (<- s)))->s.run P w=.ok r w->B'=st.B->V'=st.V->AV.holds e w (kss st.V) av r->AV.sco st.B.length (vers st.V) av ->
   ∃ nx v w' e',(execOp a.eval o).run P w=.ok nx w'/\(nx=.value v\/(nx=.skip/\v=undef))/\Mem n0 w0 e' B' V' w'/\dW e st w e' B' V' w'/\AV.holds e' w' (kss V') av v/\AV.sco B'.length (vers V') av:=by
  intro s r h1 h2 h3 h4 h5 h6;subst h3;subst h4;exact ⟨_,r,w,e,by simp_all,.inl rfl,hr.mem,Ext.refl _ _ _ _ _,h5,h6⟩
 have mem1:∀ {s:Sem Value},(execOp a.eval o)=(do pure (.value (<- s))) ->
   (∃ v w' e',s.run P w=.ok v w'/\Mem n0 w0 e' B' V' w'/\dW e st w e' B' V' w'/\AV.holds e' w' (kss V') av v/\AV.sco B'.length (vers V') av) ->
   ∃ nx v w' e',(execOp a.eval o).run P w=.ok nx w'/\(nx=.value v\/(nx=.skip/\v=undef))/\Mem n0 w0 e' B' V' w'/\dW e st w e' B' V' w'/\AV.holds e' w' (kss V') av v/\AV.sco B'.length (vers V') av:=by
  intro s h1 ⟨v,w',e',h2,h3⟩;exact ⟨_,v,w',e',by simp_all,.inl rfl,h3⟩
 unfold dB at h;split at h
 ·rename_i x ae
  obtain ⟨rfl,rfl,rfl⟩:=h;have:=hr.ev x;exact ⟨_,_,w,e,by simp [execOp,ae],.inl rfl,hr.mem,Ext.refl _ _ _ _ _,this.1,this.2⟩
 ·rename_i x ae
  obtain ⟨rfl,rfl,rfl⟩:=h;have:=hr.ev x;exact ⟨_,_,w,e,by simp [execOp,ae],.inl rfl,hr.mem,Ext.refl _ _ _ _ _,this.1,this.2⟩
 ·rename_i c x y ae
  obtain ⟨h1,rfl,rfl⟩:=aZ h;obtain ⟨q,hq,h2,h3⟩:=RY h1 (hr.ev c).1 (hr.ev x).1 (hr.ev y).1;exact ⟨_,_,w,e,by simp [execOp,ae,hq,asBool],.inl rfl,hr.mem,Ext.refl _ _ _ _ _,h2,h3 _ _ (hr.ev x).2 (hr.ev y).2⟩
 ·rename_i T ae
  exact mem1 (by grind [execOp]) (OB h hr)
 ·rename_i T x ae
  exact mem1 (by grind [execOp]) (VB h hr (hr.ev x).1 (hr.ev x).2)
 ·rename_i T parts ae
  obtain ⟨h1,rfl,rfl⟩:=aZ h;have cn:=hr.evs (parts.toList.map (·.2))
  obtain ⟨r,a1,a2,a3⟩:=AC (vparts:=parts.map fun p=>(p.1,a.eval p.2)) h1 (by simp) (by simpa [Function.comp_def] using cn.1)
  grind [execOp,Function.comp_def]
 ·rename_i T len parts ae
  have cn:=hr.evs (parts.toList.map (·.2))
  exact mem1 (by grind [execOp]) (qH (vparts:=parts.map fun p=>(p.1,a.eval p.2)) h hr (by simp) (by simp_all [Function.comp_def]))
 ·rename_i T x ae
  obtain ⟨h1,rfl,rfl⟩:=aZ h;obtain ⟨r,a1,a2,a3⟩:=uK h1 hr (hr.ev x).1;grind [execOp]
 ·rename_i T x y ae
  cases hs:iE P st T (st.ev x) (st.ev y) with
  | none=>grind
  | some q =>
   simp [hs] at h;obtain ⟨rfl,rfl,rfl⟩:=h;obtain ⟨w',e',a1,a2,a3⟩:=NZ hs hr (hr.ev x).1 (hr.ev y).1 (hr.ev y).2;exact ⟨_,undef,w',e',by simp [execOp,ae,a1],.inr ⟨rfl,rfl⟩,a2,a3,by simp [AV.holds],by simp [AV.sco]⟩
 ·rename_i op T x y yT ae
  obtain ⟨h1,rfl,rfl⟩:=aZ h;obtain ⟨r,a1,a2,a3⟩:=GK h1 (hr.ev x).1 (hr.ev y).1 x y;grind [execOp]
 ·rename_i op T x ae
  obtain ⟨h1,rfl,rfl⟩:=aZ h;obtain ⟨r,a1,a2,a3⟩:=JR (P:=P) h1 (hr.ev x).1;grind [execOp]
 ·rename_i T x f ae
  obtain ⟨h1,rfl,rfl⟩:=aZ h;obtain ⟨r,a1,a2,a3⟩:=rJ h1 (hr.ev x).1;exact pure1 (by grind [execOp]) a1 rfl rfl a2 (a3 _ _ (hr.ev x).2)
 ·rename_i T x i ae
  obtain ⟨h1,rfl,rfl⟩:=aZ h;obtain ⟨r,a1,a2,a3⟩:=rK h1 hr (hr.ev x).1 (hr.ev i).1 (hr.ev x).2;grind [execOp]
 ·rename_i T x i ae
  obtain ⟨h1,rfl,rfl⟩:=aZ h;unfold UX at h1;split at h1
  ·rename_i s z n et cs k j ar hx hi
   obtain ⟨hT,hk⟩:=wX ar;split at h1
   ·rename_i te fh
    split at h1
    ·cases h1
    ·rename_i dt
     split at h1
     ·rename_i hj
      have t4:=(hr.ev x).1;have ww:=(hr.ev i).1;rw [hx] at t4;rw [hi] at ww;obtain ⟨vs,cr,bh⟩:=t4;obtain ⟨v,b1,b2⟩:=bh.get h1;have di:=bI (P:=P) (T:=et) (by omega) w
      rw [<- hk] at di;have b1':vs[j.toNat]? = some v:=by simpa using b1
      refine pure1 (s:=Instr.index T (a.eval x) (a.eval i)) (r:=v) (by grind [execOp]) ?_ rfl rfl b2 ?_
      ·rw [cr,ww.1]
       simp [Instr.index,asIntOf,run_underlying hT,hj,di,part,pY fh,dt,b1']
      ·have:=(hr.ev x).2
       rw [hx] at this;exact AV.scos_get this h1
     ·cases h1
   ·cases h1
  ·cases h1
 ·rename_i x i ae
  obtain ⟨h1,rfl,rfl⟩:=aZ h;obtain ⟨r,a1,a2,a3⟩:=vS (P:=P) h1 (hr.ev x).1;exact pure1 (by grind [execOp]) a1 rfl rfl a2 (a3 _ _ (hr.ev x).2)
 ·rename_i T T' x ae
  obtain ⟨h1,rfl,rfl⟩:=aZ h;obtain ⟨r,a1,a2,a3⟩:=CE (P:=P) h1 (hr.ev x).1;grind [execOp]
 ·rename_i T x f ae
  obtain ⟨h1,rfl,rfl⟩:=aZ h;obtain ⟨r,a1,a2,a3⟩:=GM (P:=P) h1 (hr.ev x).1;exact pure1 (by simp only [execOp,ae]) a1 rfl rfl a2 (a3 _ _ (hr.ev x).2)
 ·rename_i x ae
  obtain ⟨h1,rfl,rfl⟩:=aZ h;obtain ⟨p,hp,ft⟩:=JX h1 (hr.ev x).1;exact ⟨_,a.eval x,w,e,by simp_all [execOp],.inl rfl,hr.mem,Ext.refl _ _ _ _ _,by rw [ft];exact (hr.ev x).1,by rw [ft];exact (hr.ev x).2⟩
 ·rename_i f first caps ae
  split at h
  ·cases h
  rename_i jq;split at h
  ·rename_i hf
   obtain ⟨rfl,rfl,rfl⟩:=h;have cn:=hr.evs caps.toList;have Eu:first=#[]:=Array.eq_empty_of_size_eq_zero hf
   subst Eu;exact pure1 (s:=Instr.makeFunc (.func f) (Array.map a.eval #[]) (caps.map a.eval)) (r:=.func (.func f) #[] (caps.map a.eval)) (by simp only [execOp,ae]) (by simp [Instr.makeFunc]) rfl rfl (by simp only [AV.holds];exact ⟨_,by rw [eq_false_of_ne_true jq];rfl,by simpa using cn.1⟩) (by simp only [AV.sco];exact cn.2)
  ·split at h
   ·rename_i hc
    simp only [Option.some.injEq,Prod.mk.injEq] at h;obtain ⟨rfl,rfl,rfl⟩:=h;have cn:=hr.evs first.toList
    have Io:caps=#[]:=Array.eq_empty_of_size_eq_zero hc.1;subst Io;refine pure1 (s:=Instr.makeFunc (.func f) (first.map a.eval) (Array.map a.eval #[])) (r:=.func (.func f) (first.map a.eval) #[]) (by simp only [execOp,ae]) (by simp [Instr.makeFunc]) rfl rfl ?_ (by simp only [AV.sco,AV.scos,true_and];exact cn.2)
    simp only [AV.holds];refine ⟨#[undef]++first.map a.eval,?_,?_⟩
    ·exact (UU f (by simpa using hc.2)).symm
    ·simp only [Array.toList_append,List.singleton_append,AV.all,Array.toList_map]
     exact ⟨by simp [AV.holds],cn.1⟩
   ·cases h
 ·rename_i T x lo hi ae
  obtain ⟨h1,rfl,rfl⟩:=aZ h
  obtain ⟨r,a1,a2,a3⟩:=AD (vlo:=lo.map a.eval) (vhi:=hi.map a.eval) h1 (hr.ev x).1
   (fun y hy=>by cases lo with | none=>simp [fO] at hy | some l=>simp [fO] at hy;subst hy;exact ⟨_,rfl,(hr.ev l).1⟩) (fun hl=>by cases lo <;> simp_all [fO])
   (fun y hy=>by cases hi with | none=>simp [fO] at hy | some l=>simp [fO] at hy;subst hy;exact ⟨_,rfl,(hr.ev l).1⟩) (fun hl=>by cases hi <;> simp_all [fO])
  exact pure1 (s:=Instr.sliceAt T (a.eval x) (lo.map a.eval) (hi.map a.eval) none) (by simp only [execOp,ae];rfl) a1 rfl rfl a2 (a3 _ _)
 ·rename_i T x k1 k2 ae
  exact mem1 (s:=Instr.sliceAt T (a.eval x) none (some (.int k1 0)) (some (.int k2 0))) (by simp only [execOp,ae];rfl) (JW h hr (hr.ev x).1)
 ·rename_i T x lo p q ae
  obtain ⟨h1,rfl,rfl⟩:=aZ h
  obtain ⟨r,a1,a2,a3⟩:=JT (vlo:=lo.map a.eval) h1 (hr.ev x).1
   (fun y hy=>by cases lo with | none=>simp [fO] at hy | some l=>simp [fO] at hy;subst hy;exact ⟨_,rfl,(hr.ev l).1⟩) (fun hl=>by cases lo <;> simp_all [fO]) (hr.ev (.tmp p)).1 (hr.ev (.tmp q)).1
  exact pure1 (s:=Instr.sliceAt T (a.eval x) (lo.map a.eval) (some (a.eval (.tmp p))) (some (a.eval (.tmp q)))) (by simp only [execOp,ae];rfl) a1 rfl rfl a2 (a3 _ _)
 ·rename_i args argTypes ae
  split at h
  ·rename_i x T af t5
   obtain ⟨h1,rfl,rfl⟩:=aZ h;obtain ⟨r,a1,a2,a3⟩:=GL h1 hr (hr.ev x).1 o.type;have gu:args=#[x]:=by rw [<- Array.toArray_toList (xs:=args),af]
   have nz:argTypes=#[T]:=by rw [<- Array.toArray_toList (xs:=argTypes),t5]
   subst gu;subst nz;exact ⟨_,r,w,e,by simp [execOp,ae,resolve,invoke,builtin,a1],.inl rfl,hr.mem,Ext.refl _ _ _ _ _,a2,a3 _ _⟩
  ·cases h
 ·rename_i args argTypes ae
  split at h
  ·rename_i s x T T' af t5
   split at h
   ·rename_i Ev
    subst Ev;have gu:args=#[s,x]:=by rw [<- Array.toArray_toList (xs:=args),af]
    have nz:argTypes=#[T,T]:=by rw [<- Array.toArray_toList (xs:=argTypes),t5]
    subst gu;subst nz;obtain ⟨v,w',e',a1,a2⟩:=JV h hr (hr.ev s).1 (hr.ev x).1 o.type;exact ⟨_,v,w',e',by simp [execOp,ae,resolve,invoke,builtin,a1],.inl rfl,a2⟩
   ·cases h
  ·cases h
 ·rename_i args argTypes ae
  obtain ⟨h1,rfl,rfl⟩:=aZ h;obtain ⟨r,a1,a2,a3⟩:=aDv (P:=P) w true h1 (vs:=args.map a.eval) (by simpa using (hr.evs args.toList).1) argTypes o.type
  simp only [if_true] at a1;exact ⟨_,r,w,e,by simp [execOp,ae,resolve,invoke,builtin,a1],.inl rfl,hr.mem,Ext.refl _ _ _ _ _,a2,a3 _ _⟩
 ·rename_i args argTypes ae
  obtain ⟨h1,rfl,rfl⟩:=aZ h;obtain ⟨r,a1,a2,a3⟩:=aDv (P:=P) w false h1 (vs:=args.map a.eval) (by simpa using (hr.evs args.toList).1) argTypes o.type
  simp only [Bool.false_eq_true,if_false] at a1;exact ⟨_,r,w,e,by simp [execOp,ae,resolve,invoke,builtin,a1],.inl rfl,hr.mem,Ext.refl _ _ _ _ _,a2,a3 _ _⟩
 ·cases h
end
end Go.Sx
