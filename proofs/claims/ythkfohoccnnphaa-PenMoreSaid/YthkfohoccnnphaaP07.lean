/-
  The law PenMore of the pens of a pound holds at every input, without any condition.
-/
import Derived.RangeFuncLeaves
import Derived.RangeFuncNested
import Derived.Test.YthkfohoccnnphaaP06
namespace Go.Sx
open Go Go.RowKit
variable [G:Ghost]
structure ROw (w:World) (S:Nat→Prop) (w':World) (S':Nat→Prop):Prop where
  sub:∀ b,S b→S' b
  cell:∀ b o x,S b→w.cell? ⟨b,o,none⟩=some x→w'.cell? ⟨b,o,none⟩=some x
mutual
theorem CV.holds.monoW {w w':World} {S S':Nat→Prop} (h:ROw w S w' S'):∀ (c:CV) (v:Value),CV.holds w S c v→CV.holds w' S' c v
  | .val _,_,hv=>by have _:=G;simpa [CV.holds] using hv
  | .row k es,v,hv=>by
    simp only [CV.holds] at hv ⊢
    obtain ⟨a,cap,h1,h2,h3,h4⟩:=hv
    refine ⟨a,cap,h1,h2,h3,?_⟩
    rcases h4 with h4 | ⟨b,o,h4,h5,h6⟩
    · exact .inl h4
    · exact .inr ⟨b,o,h4,h.sub b h5,CV.rows.monoW h k es b o h5 h6⟩
  | .ref cs,v,hv=>by
    simp only [CV.holds] at hv ⊢
    obtain ⟨b,o,h1,h2,h3⟩:=hv
    exact ⟨b,o,h1,h.sub b h2,CV.cells.monoW h cs b o h2 h3⟩
  | .fn f caps,v,hv=>by
    simp only [CV.holds] at hv ⊢
    obtain ⟨vs,h1,h2⟩:=hv
    exact ⟨vs,h1,CV.vals.monoW h caps _ h2⟩
theorem CV.cells.monoW {w w':World} {S S':Nat→Prop} (h:ROw w S w' S'):∀ (cs:List CV) (b o:Nat),S b→CV.cells w S cs b o→CV.cells w' S' cs b o
  | [],_,_,_,_=>by have _:=G;simp [CV.cells]
  | c::cs,b,o,hb,hv=>by
    simp only [CV.cells] at hv ⊢
    obtain ⟨⟨x,h1,h2⟩,h3⟩:=hv
    exact ⟨⟨x,h.cell b o x hb h1,CV.holds.monoW h c x h2⟩,CV.cells.monoW h cs b (o+1) hb h3⟩
theorem CV.rows.monoW {w w':World} {S S':Nat→Prop} (h:ROw w S w' S') (k:Nat):∀ (es:List (List CV)) (b o:Nat),S b→CV.rows w S k es b o→CV.rows w' S' k es b o
  | [],_,_,_,_=>by have _:=G;simp [CV.rows]
  | e::es,b,o,hb,hv=>by
    simp only [CV.rows] at hv ⊢
    obtain ⟨h1,h2,h3⟩:=hv
    exact ⟨h1,CV.cells.monoW h e b o hb h2,CV.rows.monoW h k es b (o+k) hb h3⟩
theorem CV.vals.monoW {w w':World} {S S':Nat→Prop} (h:ROw w S w' S'):∀ (cs:List CV) (vs:List Value),CV.vals w S cs vs→CV.vals w' S' cs vs
  | [],[],_=>by have _:=G;simp [CV.vals]
  | c::cs,v::vs,hv=>by
    simp only [CV.vals] at hv ⊢
    exact ⟨CV.holds.monoW h c v hv.1,CV.vals.monoW h cs vs hv.2⟩
  | [],_::_,hv=>by simp [CV.vals] at hv
  | _::_,[],hv=>by simp [CV.vals] at hv
end
def Env.withS (e:Env) (S':Nat→Prop):Env:={ e with S:=S' }
@[simp] theorem Env.withS_ρ (e:Env) (S':Nat→Prop):(e.withS S').ρ=e.ρ:=have _:=G;rfl
@[simp] theorem Env.withS_hdr (e:Env) (S':Nat→Prop):(e.withS S').hdr=e.hdr:=have _:=G;rfl
@[simp] theorem Env.withS_S (e:Env) (S':Nat→Prop):(e.withS S').S=S':=have _:=G;rfl
@[simp] theorem Env.withS_base (e:Env) (S':Nat→Prop):(e.withS S').base=e.base:=have _:=G;rfl
mutual
theorem AV.holds.monoW {e:Env} {w w':World} {S':Nat→Prop} {ks:List Nat} (h:ROw w e.S w' S'):∀ (x:AV) (v:Value),AV.holds e w ks x v→AV.holds (e.withS S') w' ks x v
  | .any,_,hv=>by simp [AV.holds]
  | .cv c,v,hv=>by simp only [AV.holds] at hv ⊢;exact CV.holds.monoW h c v hv
  | .ptr i off,v,hv=>by simpa only [AV.holds,Env.withS_ρ,Env.withS_hdr] using hv
  | .own i u,v,hv=>by simpa only [AV.holds,Env.withS_ρ,Env.withS_hdr] using hv
  | .opt i u el o,v,hv=>by simpa only [AV.holds,Env.withS_ρ,Env.withS_hdr] using hv
  | .agg cs,v,hv=>by
    simp only [AV.holds] at hv ⊢
    obtain ⟨vs,h1,h2⟩:=hv
    exact ⟨vs,h1,AV.all.monoW h cs _ h2⟩
  | .tup cs,v,hv=>by
    simp only [AV.holds] at hv ⊢
    obtain ⟨vs,h1,h2⟩:=hv
    exact ⟨vs,h1,AV.all.monoW h cs _ h2⟩
  | .fn f cs,v,hv=>by
    simp only [AV.holds] at hv ⊢
    obtain ⟨vs,h1,h2⟩:=hv
    exact ⟨vs,h1,AV.all.monoW h cs _ h2⟩
  | .gd L x,v,hv=>by
    simp only [AV.holds] at hv ⊢
    exact ⟨fun hb=>AV.holds.monoW h x v (hv.1 hb),hv.2⟩
theorem AV.all.monoW {e:Env} {w w':World} {S':Nat→Prop} {ks:List Nat} (h:ROw w e.S w' S'):∀ (xs:List AV) (vs:List Value),AV.all e w ks xs vs→AV.all (e.withS S') w' ks xs vs
  | [],[],_=>by have _:=G;simp [AV.all]
  | x::xs,v::vs,hv=>by
    simp only [AV.all] at hv ⊢
    exact ⟨AV.holds.monoW h x v hv.1,AV.all.monoW h xs vs hv.2⟩
  | [],_::_,hv=>by simp [AV.all] at hv
  | _::_,[],hv=>by simp [AV.all] at hv
end
theorem OwnsS.isCells {w:World} {n0:Nat} {T:TypeId} {k:Nat} {v:Value} {n:Nat} {xs:List Value} (h:OwnsS w n0 T k v n xs) {g:Nat} (hg:oblk v=some g):∃ o,w.heap[g]? = some o∧o.isCells=true:=by
  have _:=G
  rcases h with ⟨a,rfl,_⟩ | ⟨⟨_,h1⟩,g',h3,h4⟩
  · cases a <;> simp [oblk] at hg
  · rw [hg] at h3;cases h3
    rcases h1 with ⟨rfl,_⟩ | ⟨g2,cap,cur,a1,a2,a3,a4⟩
    · simp [oblk] at hg
    · rw [a1] at h4
      simp only [Value.ownBlock,Option.some.injEq] at h4
      subst h4
      exact ⟨_,a3,rfl⟩
def noMap (V:List Vec):Prop:=∀ (i:Nat) (x:Vec),V[i]? = some x→x.live=true→x.T<mapTag
theorem Rel.turn {n0:Nat} {w0:World} {e:Env} {st:St} {a a':Act} {w w':World} {row:Option Nat} {S':Nat→Prop} (h:Rel n0 w0 e st a w) (hg:w.grownBy w' row) (hr:∀ r,row=some r→n0≤r∧∃ o:Obj,w.heap[r]? = some o∧o.isCells=false) (hH:∀ r,row=some r→e.H r=none) (hHS:∀ b,S' b→e.S b∨e.H b=none)
    (hsub:∀ b,e.S b→S' b) (hnew:∀ b,S' b→e.S b∨(b<w.heap.size∧∃ o:Obj,w.heap[b]? = some o∧o.isCells=false)) (ha:a'.tmps=a.tmps)
    (hnm:∀ (i:Nat) (x:Vec),st.V[i]? = some x→x.live=true→x.T<mapTag∨∀ g,oblk (e.hdr i x.ver)=some g→row≠some g∧(S' g→e.S g)):Rel n0 w0 (e.withS S') st a' w':=by
  have hm:=h.mem
  have same:∀ (b:Nat) (o:Obj),w.heap[b]? = some o→o.isCells=true→w'.heap[b]? = some o:=by
    intro b o hb hc
    refine (hg.block b (Array.getElem?_eq_some_iff.1 hb).1 fun he=>?_).trans hb
    obtain ⟨_,o',h1,h2⟩:=hr b he.symm
    rw [hb] at h1;cases h1;rw [hc] at h2;cases h2
  have hro:ROw w e.S w' S':=by
    refine ⟨hsub,fun b o x _ hc=>?_⟩
    unfold World.cell? at hc
    cases hb:w.heap[b]? with
    | none=>simp [hb] at hc
    | some ob =>
      have hcell:ob.isCells=true:=by cases ob <;> simp_all [Obj.isCells]
      have:=same b ob hb hcell
      unfold World.cell?
      simp only [hb] at hc
      simp only [this]
      exact hc
  have nS:∀ (b:Nat) (o:Obj),w.heap[b]? = some o→o.isCells=true→¬e.S b→¬S' b:=by
    intro b o hb hc hn hs
    rcases hnew b hs with h' | ⟨_,o',h1,h2⟩
    · exact hn h'
    · rw [hb] at h1;cases h1;rw [hc] at h2;cases h2
  have hcap:∀ b,w.heap[b]? = none→w.heap.size≤b:=fun b hb=>by simpa using hb
  refine ⟨?_,h.sc,?_⟩
  · rw [ha];exact AV.all.monoW hro _ _ h.tm
  · refine ⟨fun i b hi hl=>?_,hm.boxsc,fun i b hi hl=>?_,hm.boxinj,fun i x hi hl=>?_,fun i x g hi hl hgx=>?_,hm.vecbox,hm.vecinj,fun b hb=>?_,?_,?_,hm.bl,hm.hid.of rfl ⟨rfl,rfl⟩ hHS (SameG.refl _) (fun b hb hn=>hg.block b hb fun he=>hn (hH b he.symm)) (fun i b hb hl=>.inl ⟨i,b,hb,hl,rfl⟩) (fun i x g hx hl hg=>.inl ⟨i,x,hx,hl,hg⟩)⟩
    · obtain ⟨vs,h1,h2⟩:=hm.box i b hi hl
      exact ⟨vs,same _ _ h1 rfl,AV.all.monoW hro _ _ h2⟩
    · obtain ⟨vs,h1,_⟩:=hm.box i b hi hl
      obtain ⟨h2,h3⟩:=hm.boxlo i b hi hl
      exact ⟨h2,nS _ _ h1 rfl h3⟩
    · obtain ⟨xs,h1,h2,h3⟩:=hm.vec i x hi hl
      refine ⟨xs,h1.keep fun g hgx=>?_,CV.vals.monoW hro _ _ h2,h3⟩
      show w'.heap[g]? = w.heap[g]?
      rcases hnm i x hi hl with hT | hT
      · obtain ⟨o,q1,q2⟩:=(h1.s hT).isCells hgx
        rw [same g o q1 q2,q1]
      · exact hg.block g (h1.lt g hgx).2 fun he=>(hT g hgx).1 he.symm
    · obtain ⟨xs,h1,h2,h3⟩:=hm.vec i x hi hl
      rcases hnm i x hi hl with hT | hT
      · obtain ⟨o,q1,q2⟩:=(h1.s hT).isCells hgx
        exact nS _ _ q1 q2 (hm.vecS i x g hi hl hgx)
      · exact fun hs=>hm.vecS i x g hi hl hgx ((hT g hgx).2 hs)
    · rcases hnew b hb with h' | ⟨h1,_⟩
      · exact Nat.lt_of_lt_of_le (hm.ro b h') hg.size
      · exact Nat.lt_of_lt_of_le h1 hg.size
    · exact hm.below.grown hg hm.nbase fun k hk=>Nat.le_trans (e.nb_le n0) (hr k hk).1
    · exact Nat.le_trans hm.base hg.size
theorem Rel.act {n0:Nat} {w0:World} {e:Env} {st:St} {a a':Act} {w:World} (h:Rel n0 w0 e st a w) (ha:a'.tmps=a.tmps):Rel n0 w0 e st a' w:=⟨by rw [ha];exact h.tm,h.sc,h.mem⟩
theorem Ext.turn {e:Env} {w:World} {nB:Nat} {vs ks:List Nat} {e':Env} {w':World} {nB':Nat} {vs' ks':List Nat} {w'':World} {row:Option Nat} {S':Nat→Prop} (h:Ext e w nB vs ks e' w' nB' vs' ks') (hg:w'.grownBy w'' row) (hr:∀ r,row=some r→¬e.S r) (hlt:∀ b,e.S b→b<w'.heap.size)
    (hsub:∀ b,e.S b→S' b) (hnew:∀ b,S' b→e'.S b∨e.base≤b):Ext e w nB vs ks (e'.withS S') w'' nB' vs' ks':=have _:=G;
  ⟨⟨hsub,fun b hb=>(hg.block b (hlt b hb) fun he=>hr b he.symm hb).trans (h.ro.same b hb)⟩,h.ρ,h.hdr,h.nB,h.nV,h.verle,h.kseq,Nat.le_trans h.sz hg.size,
   fun b hb=>(hnew b hb).elim (fun h'=>h.snew b h') .inr,h.be,h.he,h.ye⟩
def dmV (V:List Vec):List Vec:=V.map fun v=>⟨v.live&&decide (v.T<mapTag),v.T,v.k,v.ver,v.es⟩
def dmS (st:St):St:=⟨st.t,st.B,dmV st.V⟩
theorem dmV_vers (V:List Vec):vers (dmV V)=vers V:=by have _:=G;simp [dmV,vers,Function.comp]
theorem dmV_kss (V:List Vec):kss (dmV V)=kss V:=by have _:=G;simp [dmV,kss,Function.comp]
theorem dmV_noMap (V:List Vec):noMap (dmV V):=by
  have _:=G
  intro i x hi hl
  simp only [dmV,List.getElem?_map,Option.map_eq_some_iff] at hi
  obtain ⟨v,_,rfl⟩:=hi
  simp only [Bool.and_eq_true,decide_eq_true_eq] at hl
  exact hl.2
theorem Rel.dm {n0:Nat} {w0:World} {e:Env} {st:St} {a:Act} {w:World} (h:Rel n0 w0 e st a w):Rel n0 w0 e (dmS st) a w:=by
  have hm:=h.mem
  have hget:∀ (i:Nat) (x:Vec),(dmV st.V)[i]? = some x→x.live=true→st.V[i]? = some x:=by
    intro i x hi hl
    simp only [dmV,List.getElem?_map,Option.map_eq_some_iff] at hi
    obtain ⟨v,h1,rfl⟩:=hi
    simp only [Bool.and_eq_true,decide_eq_true_eq] at hl
    rw [h1]
    cases v
    simp_all
  refine ⟨?_,?_,?_⟩
  · show AV.all e w (kss (dmV st.V)) st.t _
    rw [dmV_kss];exact h.tm
  · show AV.scos st.B.length (vers (dmV st.V)) st.t
    rw [dmV_vers];exact h.sc
  · refine ⟨fun i b hi hl=>?_,fun i b hi=>?_,hm.boxlo,hm.boxinj,fun i x hi hl=>hm.vec i x (hget i x hi hl) hl,fun i x g hi hl=>hm.vecS i x g (hget i x hi hl) hl,fun i x j b g hi hl=>hm.vecbox i x j b g (hget i x hi hl) hl,fun i x j y g hi hl hj hjl=>hm.vecinj i x j y g (hget i x hi hl) hl (hget j y hj hjl) hjl,hm.ro,hm.below,hm.base,hm.bl,hm.hid.of rfl ⟨rfl,rfl⟩ (fun _ h=>.inl h) (fun i x hx hT=>by
      have hx:(dmV st.V)[i]? = some x:=hx
      simp only [dmV,List.getElem?_map,Option.map_eq_some_iff] at hx;obtain ⟨v,h1,rfl⟩:=hx;exact ⟨v,h1,hT,rfl⟩) (fun _ _ _=>rfl) (fun i b hb hl=>.inl ⟨i,b,hb,hl,rfl⟩) (fun i x g hx hl hg=>.inl ⟨i,x,hget i x hx hl,hl,hg⟩)⟩
    · show ∃ vs:Array Value,w.heap[e.ρ i]? = some (.cells vs b.T (0,0))∧AV.all e w (kss (dmV st.V)) b.cs vs.toList
      rw [dmV_kss];exact hm.box i b hi hl
    · show AV.scos st.B.length (vers (dmV st.V)) b.cs
      rw [dmV_vers];exact hm.boxsc i b hi
theorem ExtS.dm {e:Env} {st:St} {w:World} {e':Env} {st':St} {w':World} (h:ExtS e st w e' st'.B st'.V w'):ExtS e st w e' (dmS st').B (dmS st').V w':=by
  show Ext e w _ _ _ e' w' st'.B.length (vers (dmV st'.V)) (kss (dmV st'.V))
  rw [dmV_vers,dmV_kss];exact h
def markOf (D:Nat):Deferred:={ target:=.collected D,args:=#[] }
def Mk (m0:Nat) (e:Env) (w:World) (ds:List Deferred):Prop:=∃ Ds:List Nat,ds=Ds.map markOf∧Ds.Nodup∧∀ D∈Ds,m0≤D∧e.S D∧w.heap[D]? = some (.deferred (some []))
theorem Mk.mono {m0:Nat} {e e':Env} {w w':World} {ds:List Deferred} (h:Mk m0 e w ds) (hx:RO w e.S w' e'.S):Mk m0 e' w' ds:=by
  have _:=G
  obtain ⟨Ds,h1,h2,h3⟩:=h
  exact ⟨Ds,h1,h2,fun D hD=>by obtain ⟨q1,q2,q3⟩:=h3 D hD;exact ⟨q1,hx.sub D q2,(hx.same D q2).trans q3⟩⟩
theorem wpIn_any {F:Fence} {n n':Nat} {P:Program} {c:Code} {Q:Exit→Act→World→Prop} {a:Act} {w:World} (hF:F.depth=none) (h:c.wpIn F n' P Q a w):c.wpIn F n P Q a w:=have _:=G;
  fun b k cs h1 h2 _=>h b k cs h1 h2 fun d hd=>by rw [hF] at hd;cases hd
def W2 (F:Fence) (n:Nat) (P:Program) (c:Code) (st:St) (Q:Exit→St→Prop):Prop:=
  ∀ n0 w0 m0 e a w (Qr:Exit→Act→World→Prop),Rel n0 w0 e st a w→Mk m0 e w a.defers→m0≤w.heap.size∧e.y=false∧e.H=(fun _=>none) →
    (∀ x e' st' a' w',Q x st'→Rel n0 w0 e' st' a' w'→Mk m0 e' w' a'.defers→ExtS e st w e' st'.B st'.V w'→Qr x a' w')→c.wpIn F n P Qr a w
section
variable {F:Fence} {n:Nat} {P:Program}
theorem W.w2 {c:Code} {st:St} {Q:Exit→St→Prop} (h:W F n P c st Q):W2 F n P c st Q:=
  fun n0 w0 m0 e a w Qr hr hm hm0 hk=>h n0 w0 e a w Qr hr fun x e' st' a' w' hq hrel hdf hx=>hk x e' st' a' w' hq hrel (by rw [hdf];exact hm.mono hx.ro) hx
theorem W2_seq {x y:Code} {st:St} {Q:Exit→St→Prop} (h:W2 F n P x st fun ex st'=>match ex with | .normal=>W2 F n P y st' Q | ex=>Q ex st'):W2 F n P (.seq x y) st Q:=by
  intro n0 w0 m0 e a w Qr hr hm hm0 hk
  refine wpIn_seq (h n0 w0 m0 e a w _ hr hm hm0 ?_)
  intro ex e' st' a' w' hq hrel hm' hx
  cases ex with
  | normal=>exact hq n0 w0 m0 e' a' w' Qr hrel hm' ⟨Nat.le_trans hm0.1 hx.sz,hx.ye.trans hm0.2.1,(hx.he hm0.2.1).trans hm0.2.2⟩ fun x e'' st'' a'' w'' hq' hrel' hm'' hx'=>hk x e'' st'' a'' w'' hq' hrel' hm'' (hx.trans hx')
  | _=>exact hk _ e' st' a' w' hq hrel hm' hx
theorem W2_cond {c:Operand} {x y:Code} {st:St} {Q:Exit→St→Prop} {b:Bool} (hc:st.ev c=.cv (.val (.bool b))) (ht:b=true→W2 F n P x st Q) (hf:b=false→W2 F n P y st Q):W2 F n P (.cond c x y) st Q:=by
  intro n0 w0 m0 e a w Qr hr hm hm0 hk
  have h1:=(hr.ev c).1
  rw [hc] at h1
  simp only [AV.holds,CV.holds] at h1
  exact wpIn_cond_split h1.1 (fun hb=>ht hb n0 w0 m0 e a w Qr hr hm hm0 hk) (fun hb=>hf hb n0 w0 m0 e a w Qr hr hm hm0 hk)
theorem W2_block {id:Nat} {c:Code} {st:St} {Q:Exit→St→Prop} (h:W2 F n P c st fun ex st'=>match ex with | .exit i=>if i=id then Q .normal st' else Q (.exit i) st' | ex=>Q ex st'):W2 F n P (.block id c) st Q:=by
  intro n0 w0 m0 e a w Qr hr hm hm0 hk
  refine wpIn_block (h n0 w0 m0 e a w _ hr hm hm0 ?_)
  intro ex e' st' a' w' hq hrel hdf hx
  cases ex with
  | exit i =>
    simp only [Exit.inBlock]
    split
    · rename_i hi
      simp only [hi,if_true] at hq
      exact hk _ e' st' a' w' hq hrel hdf hx
    · rename_i hi
      simp only [hi,if_false] at hq
      exact hk _ e' st' a' w' hq hrel hdf hx
  | _=>exact hk _ e' st' a' w' hq hrel hdf hx
theorem W2_pre {c:Code} {st s1:St} {Q:Exit→St→Prop} (hw:Wk st s1) (h:W2 F n P c s1 Q):W2 F n P c st Q:=by
  intro n0 w0 m0 e a w Qr hr hm hm0 hk
  have hww:=hw.weak hr
  have hx:ExtS e st w e s1.B s1.V w:=(Ext.refl e w st.B.length (vers st.V) (kss st.V)).weak hww (by rw [hw.Bl];exact Nat.le_refl _) (by rw [hw.V];simp)
  exact h n0 w0 m0 e a w Qr (hr.weak hww) hm hm0 fun ex e' st' a' w' hq hrel hdf hx'=>hk ex e' st' a' w' hq hrel hdf (hx.trans hx')
theorem W2_dm {c:Code} {st:St} {Q:Exit→St→Prop} (h:W2 F n P c (dmS st) Q):W2 F n P c st Q:=by
  intro n0 w0 m0 e a w Qr hr hm hm0 hk
  exact h n0 w0 m0 e a w Qr hr.dm hm hm0 fun ex e' st' a' w' hq hrel hdf hx'=>hk ex e' st' a' w' hq hrel hdf ((ExtS.dm (Ext.refl e w st.B.length (vers st.V) (kss st.V):ExtS e st w e st.B st.V w)).trans hx')
end
end Go.Sx
namespace Go.Sx
open Go Go.RowKit
variable [G:Ghost]
section
variable {F:Fence} {n:Nat} {P:Program}
theorem grownBy_put (W:World) (l:Nat) (o:Obj):W.grownBy (W.putObj l o) (some l):=have _:=G;grownBy_putObj' W l o
theorem leaves_marks {fn:Func} {tmps:Array Value} {R:Ending→World→Prop} {m0 n0:Nat} {w0:World} {e0 e:Env} {st0 st:St} {a:Act} {wA:World} (hn0:n0≤m0) (hS:∀ b,e0.S b→b<m0) (hH:∀ b,m0≤b→e0.H b=none) (hy:e0.y=false) :
    ∀ (Ds:List Nat) (w:World),Ds.Nodup→(∀ D∈Ds,m0≤D∧e.S D∧w.heap[D]? = some (.deferred (some [])))→Rel n0 w0 e st a w→ExtS e0 st0 wA e st.B st.V w→m0≤w.heap.size →
      (∀ w',Rel n0 w0 e st a w'→ExtS e0 st0 wA e st.B st.V w'→LeavesIn F n P fn tmps R [] .returning w')→LeavesInM F n P fn tmps R (Ds.map markOf) .returning w
  | [],w,_,_,hr,hx,_,hk=>by simpa [LeavesInM] using hk w hr hx
  | D::Ds,w,hnd,hD,hr,hx,hsz,hk=>by
    obtain ⟨h1,hDS,h2⟩:=hD D (by simp)
    simp only [List.map_cons,LeavesInM]
    refine ⟨by simp,.inl ⟨D,_,rfl,run_takeDeferred h2,?_⟩⟩
    have hg:=grownBy_put w D (.deferred none)
    have hrow:∀ r,(some D:Option Nat)=some r→n0≤r∧∃ o:Obj,w.heap[r]? = some o∧o.isCells=false:=by
      intro r he;cases he;exact ⟨Nat.le_trans hn0 h1,_,h2,rfl⟩
    have hr':Rel n0 w0 (e.withS e.S) st a (w.putObj D (.deferred none)):=hr.turn hg hrow (by intro r he;cases he;rw [hx.he hy];exact hH _ h1) (fun _ h=>.inl h) (fun _ h=>h) (fun _ h=>.inl h) rfl (fun i x hi hl=>.inr fun g hgx=>⟨fun he=>by cases he;exact hr.mem.vecS i x D hi hl hgx hDS,fun h=>h⟩)
    have hx':Ext e0 wA st0.B.length (vers st0.V) (kss st0.V) (e.withS e.S) (w.putObj D (.deferred none)) st.B.length (vers st.V) (kss st.V):=
      hx.turn hg (by intro r he hb;cases he;have:=hS _ hb;omega) (fun b hb=>by have:=hS b hb;omega) (fun b hb=>hx.ro.sub b hb) (fun b hb=>.inl hb)
    rw [List.nodup_cons] at hnd
    refine leaves_marks hn0 hS hH hy Ds _ hnd.2 (fun D' hD'=>?_) hr' hx' (Nat.le_trans hsz hg.size) hk
    obtain ⟨q1,q0,q2⟩:=hD D' (by simp [hD'])
    refine ⟨q1,q0,?_⟩
    have hne:D'≠D:=by rintro rfl;exact hnd.1 hD'
    exact (World.putObj_heap_other hne).trans q2
theorem CallP_body2 {f:FuncId} {fn:Func} {c:Code} {args:List AV} {K:AV→List Box→List Vec→Prop} (hf:P.funcs[f]? = some fn) (hb:fn.body=some c)
    (h:∀ (F:Fence) (n:Nat),Free F→F.round=none→W2 F n P c ⟨args++List.replicate (fn.ntmps - args.length) .any,[],[]⟩ fun ex st'=>(ex=.normal∨ex=.ret)∧∃ r,resOf P st' fn.results.toList=some r∧K r st'.B st'.V) :
    CallPc P f args K:=by
  intro F n hF hro n0 w0 e w vs hy hm hv hs
  refine callsIn_of_wp_marks hf hb (hF.fn f) ?_ hro
  have hrel:Rel n0 w0 e ⟨args++List.replicate (fn.ntmps - args.length) .any,[],[]⟩ { tmps:=vs++Array.replicate (fn.ntmps - vs.size) undef,defers:=[] } w:=by
    have hl:vs.size=args.length:=by have:=hv.length;simpa using this
    refine ⟨?_,?_,hm⟩
    · simp only [Array.toList_append,Array.toList_replicate,hl]
      refine hv.append ?_
      generalize fn.ntmps - args.length=k
      induction k with
      | zero=>simp [AV.all]
      | succ k ih=>simpa [List.replicate_succ,AV.all,AV.holds] using ih
    · rw [AV.scos_iff] at hs ⊢
      intro y hy
      rcases List.mem_append.1 hy with hy | hy
      · exact hs y hy
      · obtain rfl:=List.eq_of_mem_replicate hy
        simp [AV.sco]
  refine h F n hF hro n0 w0 w.heap.size e _ w _ hrel ⟨[],rfl,List.nodup_nil,by simp⟩ ⟨Nat.le_refl _,hy⟩ ?_
  rintro ex e' st' a' w' ⟨hex,r,hr,hK⟩ hrel' ⟨Ds,hds,hnd,hD⟩ hx
  rcases hex with rfl | rfl
  all_goals
    show LeavesInM F n P fn a'.tmps _ a'.defers .returning w'
    rw [hds]
    refine leaves_marks (n0:=n0) (w0:=w0) (e0:=e) (e:=e') (st0:=⟨args++List.replicate (fn.ntmps - args.length) .any,[],[]⟩) (st:=st') (a:=a') (wA:=w) hm.base (fun b hb=>hm.ro b hb) (fun b hb=>hm.hid.new hb) hy.1 Ds w' hnd (fun D hd=>hD D hd) hrel' hx hx.sz ?_
    intro w'' hr2 hx2
    obtain ⟨v,a1,a2,a3⟩:=resOf_sound (fn:=fn) hr2 hr
    exact ⟨v,a1,e',st'.B,st'.V,r,v,rfl,hK,hr2.mem,hx2,a2,a3⟩
def IterP (P:Program) (f:FuncId) (caps:List CV) (xs:List Int):Prop:=
  ∀ (F:Fence) (n:Nat) (S:Nat→Prop) (w:World) (lb:Array Value),Free F→F.round=none→1≤n→(∀ b,S b→b<w.heap.size)→CV.vals w S caps lb.toList →
    SeqStopsK F n P f lb (fun x:Int=>#[Value.int .i64 x]) (fun A B=>∀ b,S b→B.heap[b]? = A.heap[b]?) (fun ys=>ys=xs) (fun pre=>pre <+: xs) xs.length w
def assignOf (p:Nat):Code→Option (Option Nat)
  | .skip=>some none
  | .region _ ops false=>match ops.toList with
    | [o]=>match o.op,o.guard,o.dst with
      | .assign (.tmp q),none,some d=>if q=p then some (some d) else none
      | _,_,_=>none
    | _=>none
  | _=>none
def stIn (p:Nat) (dd:Option Nat) (x:Int) (st:St):St:=(st.put (some p) (.cv (.val (.int .i64 x))) st.B st.V).put dd (.cv (.val (.int .i64 x))) st.B st.V
def actIn (p:Nat) (dd:Option Nat) (x:Int) (a:Act):Act:=(Act.mk (a.tmps.setIfInBounds p (.int .i64 x)) []).put dd (.int .i64 x)
theorem assign_wp {p:Nat} {dd:Option Nat} {c:Code} (hF:Free F) (h:assignOf p c=some dd) (x:Int) (a:Act) (hp:p<a.tmps.size) (w:World) (K:Act→World→Prop) (hK:K (actIn p dd x a) w) :
    c.wpIn F n P (Exit.then K (fun _ _ _=>False)) { tmps:=a.tmps.setIfInBounds p (.int .i64 x),defers:=[] } w:=by
  have _:=G
  unfold assignOf at h
  split at h
  · cases h
    exact wpIn_skip hK
  · rename_i id ops
    split at h
    · rename_i o hops
      split at h
      · rename_i q d hop hg hd
        split at h
        · rename_i hq
          cases h
          subst hq
          refine wpIn_region_list ?_
          rw [hops]
          simp only [wpListIn,Region.wanted,hg,if_true]
          refine ⟨fun f _=>hF.fn f,?_⟩
          rw [Oper.semAt_plain F _ _ (by intro c hc;rw [hc] at hop;cases hop)]
          have hx:({ tmps:=a.tmps.setIfInBounds q (.int .i64 x),defers:=[] }:Act).eval (.tmp q)=.int .i64 x:=by
            simp [Act.eval,hp]
          have:(execOp ({ tmps:=a.tmps.setIfInBounds q (.int .i64 x),defers:=[] }:Act).eval o).run P w=.ok (.value (.int .i64 x)) w:=by
            simp [execOp,hop,hx]
          rw [this]
          have hgo:K (({ tmps:=a.tmps.setIfInBounds q (.int .i64 x),defers:=[] }:Act).put o.dst (.int .i64 x)) w:=by rw [hd];exact hK
          exact hgo
        · cases h
      · cases h
    · cases h
  · cases h
theorem Rel.more {n0:Nat} {w0:World} {e:Env} {st:St} {a:Act} {w:World} (h:Rel n0 w0 e st a w) {S':Nat→Prop} (hHS:e.H=fun _=>none) (hsub:∀ b,e.S b→S' b) (hnew:∀ b,S' b→e.S b∨(b<w.heap.size∧∃ o:Obj,w.heap[b]? = some o∧o.isCells=false)) {a':Act} (ha:a'.tmps=a.tmps)
    (hnm:∀ (i:Nat) (x:Vec),st.V[i]? = some x→x.live=true→x.T<mapTag∨∀ g,oblk (e.hdr i x.ver)=some g→S' g→e.S g) :
    Rel n0 w0 (e.withS S') st a' w:=h.turn (row:=none) (World.grownBy.refl w none) (fun _ h=>by cases h) (fun _ h=>by cases h) (fun b _=>.inr (by rw [hHS])) hsub hnew ha fun i x hi hl=>(hnm i x hi hl).imp id fun h g hg=>⟨by simp,h g hg⟩
theorem Ext.more {e:Env} {w:World} {nB:Nat} {vs ks:List Nat} {e':Env} {w':World} {nB':Nat} {vs' ks':List Nat} {S':Nat→Prop} (h:Ext e w nB vs ks e' w' nB' vs' ks') (hsub:∀ b,e.S b→S' b) (hnew:∀ b,S' b→e'.S b∨e.base≤b):Ext e w nB vs ks (e'.withS S') w' nB' vs' ks':=have _:=G;
  ⟨⟨hsub,fun b hb=>h.ro.same b hb⟩,h.ρ,h.hdr,h.nB,h.nV,h.verle,h.kseq,h.sz,fun b hb=>(hnew b hb).elim (fun h'=>h.snew b h') .inr,h.be,h.he,h.ye⟩
theorem Rel.putV {n0:Nat} {w0:World} {e:Env} {st:St} {a:Act} {w:World} (h:Rel n0 w0 e st a w) (x:Int) (d:Option Nat):Rel n0 w0 e (st.put d (.cv (.val (.int .i64 x))) st.B st.V) (a.put d (.int .i64 x)) w:=
  h.put h.mem (Ext.refl _ _ _ _ _) (by simp [AV.holds,CV.holds,Value.oneCell']) (by simp [AV.sco]) d
theorem W2_range (hF:Free F) (hro:F.round=none) {g:Operand} {ps:Array Tmp} {p:Nat} {dd:Option Nat} {assign body:Code} {st:St} {f:FuncId} {caps:List CV} {xs:List Int} (I:List Int→St→Prop) {Q:Exit→St→Prop}
    (hps:ps=#[p]) (hnm:∀ pre st',I pre st'→noMap st'.V) (hp:p<st.t.length) (hg:st.ev g=.cv (.fn f caps)) (hen:entB P f=true) (hit:IterP P f caps xs) (has:assignOf p assign=some dd) (h0:I [] st)
    (hbody:∀ (F:Fence) (n:Nat),Free F→∀ pre x st',I pre st'→W F n P body (stIn p dd x st') fun ex s2=>match ex with
      | .normal=>∃ s3,Wk ⟨st'.t,s2.B,s2.V⟩ s3∧I (pre++[x]) (dmS s3)
      | .ret=>pre++[x] <+: xs→Q .ret (dmS ⟨st'.t,s2.B,s2.V⟩)
      | _=>False)
    (hdone:∀ st',I xs st'→Q .normal st'):W2 F n P (.rangeFunc g ps assign body) st Q:=by
  intro n0 w0 m0 e a w Qr hr hm hm0 hk
  refine wpIn_any hF.depth (n':=n+3) ?_
  have hgv:=(hr.ev g).1
  rw [hg] at hgv
  simp only [AV.holds,CV.holds] at hgv
  obtain ⟨lb,hga,hlb⟩:=hgv
  have hpa:p<a.tmps.size:=by have:=hr.tm.length;simp at this;omega
  let IW:List Int→World→Prop:=fun pre W=>∃ e' st',I pre st'∧Rel n0 w0 e' st' a W∧ExtS e st w e' st'.B st'.V W
  let IX:Code→List Int→World→Prop:=fun c pre W=>c=.ret∧∃ e' st',noMap st'.V∧(pre <+: xs→Q .ret st')∧Rel n0 w0 e' st' a W∧ExtS e st w e' st'.B st'.V W
  have turn:∀ {e':Env} {st':St} {W W':World} {row:Option Nat},noMap st'.V→Rel n0 w0 e' st' a W→ExtS e st w e' st'.B st'.V W→W.grownBy W' row→(∀ r,row=some r→w.heap.size≤r∧∃ o:Obj,W.heap[r]? = some o∧o.isCells=false) →
      Rel n0 w0 (e'.withS e'.S) st' a W'∧ExtS e st w (e'.withS e'.S) st'.B st'.V W':=by
    intro e' st' W W' row hno h1 h2 hgr hrow
    refine ⟨h1.turn hgr (fun r hr'=>⟨Nat.le_trans hr.mem.base (hrow r hr').1,(hrow r hr').2⟩) (fun r hr'=>by rw [h2.he hm0.2.1];exact hr.mem.hid.new (hrow r hr').1) (fun _ h=>.inl h) (fun _ h=>h) (fun _ h=>.inl h) rfl (fun i x hi hl=>.inl (hno i x hi hl)),h2.turn hgr (fun r hr' hb=>?_) (fun b hb=>Nat.lt_of_lt_of_le (hr.mem.ro b hb) h2.sz) (fun b hb=>h2.ro.sub b hb) (fun b hb=>.inl hb)⟩
    have:=hr.mem.ro r hb;have:=(hrow r hr').1;omega
  refine wpIn_rangeFunc_ownG (F:=F) (n:=n+3) hro (by omega) hga (hF.fn f) (enters hen) (w0:=w) (hit F (n+2) e.S w lb hF hro (by omega) hr.mem.ro hlb)
    (fun h1 h2 b hb=>(h2 b hb).trans (h1 b hb)) (fun W l o o' hl ho _ _ b hb=>World.putObj_heap_other (by have:=hr.mem.ro b hb;omega)) (Below.refl _ _) (fun _=>by simp [hps])
    IW IX ?_ ?_ ⟨e,st,h0,hr,Ext.refl _ _ _ _ _⟩ (fun x=>actIn p dd x a) ?_ ?_ ?_ ?_
  · rintro pre W W' row ⟨e',st',h1,h2,h3⟩ hgr hrow
    obtain ⟨q1,q2⟩:=turn (hnm _ _ h1) h2 h3 hgr hrow
    exact ⟨_,st',h1,q1,q2⟩
  · rintro c pre W W' row ⟨hc,e',st',hno,h1,h2,h3⟩ hgr hrow
    obtain ⟨q1,q2⟩:=turn hno h2 h3 hgr hrow
    exact ⟨hc,_,st',hno,h1,q1,q2⟩
  · intro l x W K hK
    have:=assign_wp (F:=F.inRound l) (n:=n+3 - 1 - 1) (P:=P) (hF.inRound l) has x a hpa W K hK
    simpa [hps] using this
  · rintro l pre x W ⟨e',st',h1,h2,h3⟩ hlen
    let S2:Nat→Prop:=fun b=>e'.S b∨(w.heap.size≤b∧b<W.heap.size∧∃ o:Obj,W.heap[b]? = some o∧o.isCells=false)
    have hS2:∀ b,S2 b→e'.S b∨(b<W.heap.size∧∃ o:Obj,W.heap[b]? = some o∧o.isCells=false):=fun b hb=>hb.imp id fun h=>h.2
    have hbase:e'.base≤w.heap.size:=Nat.le_trans h2.mem.bl.1 hr.mem.base
    have hr1:Rel n0 w0 e' (st'.put (some p) (.cv (.val (.int .i64 x))) st'.B st'.V) ⟨a.tmps.setIfInBounds p (.int .i64 x),[]⟩ W:=(h2.putV x (some p)).act rfl
    have hr2:Rel n0 w0 e' (stIn p dd x st') (actIn p dd x a) W:=hr1.putV x dd
    have hsB:(stIn p dd x st').B=st'.B:=by unfold stIn;cases dd <;> rfl
    have hsV:(stIn p dd x st').V=st'.V:=by unfold stIn;cases dd <;> rfl
    have hr3:Rel n0 w0 (e'.withS S2) (stIn p dd x st') (actIn p dd x a) W:=hr2.more ((h3.he hm0.2.1).trans hm0.2.2) (fun _ h=>.inl h) hS2 rfl (fun i x hi hl=>.inl (hnm _ _ h1 i x (by rwa [hsV] at hi) hl))
    have hxB:ExtS e' st' W (e'.withS S2) st'.B st'.V W:=(Ext.refl _ _ _ _ _).more (fun _ h=>.inl h) (fun b hb=>hb.imp id fun h=>Nat.le_trans hbase h.1)
    refine hbody (F.inRound l) (n+3 - 1 - 1) (hF.inRound l) pre x st' h1 n0 w0 _ _ W _ hr3 ?_
    intro ex e3 s2 a2 W' hq hrel _ hx
    rw [ExtS,hsB,hsV] at hx
    have hx':ExtS e' st' W e3 s2.B s2.V W':=hxB.trans hx
    have hkeep:KeepsFrom w.heap.size W W':=⟨hx.sz,fun k o hk ho hc=>(hx.ro.same k (.inr ⟨hk,(Array.getElem?_eq_some_iff.1 ho).1,o,ho,hc⟩)).trans ho⟩
    have hback:Rel n0 w0 e3 ⟨st'.t,s2.B,s2.V⟩ a W':=⟨AV.all.mono hx' _ _ h2.sc h2.tm,hx'.scos h2.sc,hrel.mem⟩
    have hxx:ExtS e st w e3 s2.B s2.V W':=h3.trans hx'
    cases ex with
    | normal =>
      obtain ⟨s3,hw,hI⟩:=hq
      have hww:=hw.weak hback
      exact ⟨hkeep,fun b hb=>hx'.ro.same b (h3.ro.sub b hb),e3,dmS s3,hI,(hback.weak hww).dm,ExtS.dm (Ext.weak (show ExtS e st w e3 (St.mk st'.t s2.B s2.V).B (St.mk st'.t s2.B s2.V).V W' from hxx) hww (by rw [hw.Bl];exact hxx.nB) (by rw [hw.V];simpa using hxx.nV))⟩
    | ret=>exact ⟨hkeep,rfl,e3,dmS ⟨st'.t,s2.B,s2.V⟩,dmV_noMap _,hq,hback.dm,ExtS.dm (st':=⟨st'.t,s2.B,s2.V⟩) hxx⟩
    | exit i=>exact hq.elim
    | goto t=>exact hq.elim
    | panic c=>exact hq.elim
    | outgrown=>exact hq.elim
  · rintro D ys W hD rfl ⟨e',st',h1,h2,h3⟩ hDW
    have hS':∀ b,(e'.S b∨b=D)→e'.S b∨(b<W.heap.size∧∃ o:Obj,W.heap[b]? = some o∧o.isCells=false):=fun b hb=>hb.imp id fun h=>by subst h;exact ⟨(Array.getElem?_eq_some_iff.1 hDW).1,_,hDW,rfl⟩
    have hx4:ExtS e st w (e'.withS fun b=>e'.S b∨b=D) st'.B st'.V W:=h3.more (fun b hb=>.inl (h3.ro.sub b hb)) (fun b hb=>hb.imp id fun h=>by subst h;have:=hr.mem.bl.1;have:=hr.mem.base;omega)
    refine hk .normal (e'.withS fun b=>e'.S b∨b=D) st' _ W (hdone st' h1) (h2.more ((h3.he hm0.2.1).trans hm0.2.2) (fun _ h=>.inl h) hS' rfl fun i x hi hl=>.inl (hnm _ _ h1 i x hi hl)) ?_ hx4
    obtain ⟨Ds,hds,hnd,hDs⟩:=hm
    refine ⟨D::Ds,by simp [hds,markOf],?_,?_⟩
    · rw [List.nodup_cons]
      refine ⟨fun hmem=>?_,hnd⟩
      have:=(Array.getElem?_eq_some_iff.1 (hDs D hmem).2.2).1
      omega
    · intro D' hD'
      rcases List.mem_cons.1 hD' with rfl | hD'
      · exact ⟨Nat.le_trans hm0.1 hD,.inr rfl,hDW⟩
      · obtain ⟨q1,q2,q3⟩:=hDs D' hD'
        exact ⟨q1,hx4.ro.sub D' q2,(hx4.ro.same D' q2).trans q3⟩
  · rintro D c pre W hD hpre ⟨rfl,e',st',hno,h1,h2,h3⟩ hDW
    have hS':∀ b,(e'.S b∨b=D)→e'.S b∨(b<W.heap.size∧∃ o:Obj,W.heap[b]? = some o∧o.isCells=false):=fun b hb=>hb.imp id fun h=>by subst h;exact ⟨(Array.getElem?_eq_some_iff.1 hDW).1,_,hDW,rfl⟩
    have hx4:ExtS e st w (e'.withS fun b=>e'.S b∨b=D) st'.B st'.V W:=h3.more (fun b hb=>.inl (h3.ro.sub b hb)) (fun b hb=>hb.imp id fun h=>by subst h;have:=hr.mem.bl.1;have:=hr.mem.base;omega)
    refine wpIn_ret (hk .ret (e'.withS fun b=>e'.S b∨b=D) st' _ W (h1 hpre) (h2.more ((h3.he hm0.2.1).trans hm0.2.2) (fun _ h=>.inl h) hS' rfl fun i x hi hl=>.inl (hno i x hi hl)) ?_ hx4)
    obtain ⟨Ds,hds,hnd,hDs⟩:=hm
    refine ⟨D::Ds,by simp [hds,markOf],?_,?_⟩
    · rw [List.nodup_cons]
      refine ⟨fun hmem=>?_,hnd⟩
      have:=(Array.getElem?_eq_some_iff.1 (hDs D hmem).2.2).1
      omega
    · intro D' hD'
      rcases List.mem_cons.1 hD' with rfl | hD'
      · exact ⟨Nat.le_trans hm0.1 hD,.inr rfl,hDW⟩
      · obtain ⟨q1,q2,q3⟩:=hDs D' hD'
        exact ⟨q1,hx4.ro.sub D' q2,(hx4.ro.same D' q2).trans q3⟩
end
end Go.Sx
namespace Go.Sx
open Go Go.RowKit
variable [G:Ghost]
mutual
theorem AV.holds.gen {e e':Env} {w:World} {ks:List Nat} (hρ:e'.ρ=e.ρ) (hh:e'.hdr=e.hdr) (hS:e'.S=e.S):∀ (x:AV) (v:Value),AV.holds e w ks x v→AV.holds e' w ks x v
  | .any,_,_=>by have _:=G;simp [AV.holds]
  | .cv c,v,h=>by simp only [AV.holds] at h ⊢;rw [hS];exact h
  | .ptr i off,v,h=>by simp only [AV.holds] at h ⊢;rw [hρ];exact h
  | .own i u,v,h=>by simp only [AV.holds] at h ⊢;rw [hh];exact h
  | .opt i u el o,v,h=>by simp only [AV.holds] at h ⊢;rw [hh];exact h
  | .agg cs,v,h=>by simp only [AV.holds] at h ⊢;obtain ⟨vs,h1,h2⟩:=h;exact ⟨vs,h1,AV.all.gen hρ hh hS cs _ h2⟩
  | .tup cs,v,h=>by simp only [AV.holds] at h ⊢;obtain ⟨vs,h1,h2⟩:=h;exact ⟨vs,h1,AV.all.gen hρ hh hS cs _ h2⟩
  | .fn f cs,v,h=>by simp only [AV.holds] at h ⊢;obtain ⟨vs,h1,h2⟩:=h;exact ⟨vs,h1,AV.all.gen hρ hh hS cs _ h2⟩
  | .gd L x,v,h=>by simp only [AV.holds] at h ⊢;exact ⟨fun hb=>AV.holds.gen hρ hh hS x v (h.1 hb),h.2⟩
theorem AV.all.gen {e e':Env} {w:World} {ks:List Nat} (hρ:e'.ρ=e.ρ) (hh:e'.hdr=e.hdr) (hS:e'.S=e.S):∀ (xs:List AV) (vs:List Value),AV.all e w ks xs vs→AV.all e' w ks xs vs
  | [],[],_=>by have _:=G;simp [AV.all]
  | x::xs,v::vs,h=>by simp only [AV.all] at h ⊢;exact ⟨AV.holds.gen hρ hh hS x v h.1,AV.all.gen hρ hh hS xs vs h.2⟩
  | [],_::_,h=>by simp [AV.all] at h
  | _::_,[],h=>by simp [AV.all] at h
end
def Own (e:Env) (st:St) (b:Nat):Prop:=(∃ (i:Nat) (x:Box),st.B[i]? = some x∧x.live=true∧e.ρ i=b)∨(∃ (i:Nat) (x:Vec),st.V[i]? = some x∧x.live=true∧oblk (e.hdr i x.ver)=some b)
theorem Own.lt {n0:Nat} {w0:World} {e:Env} {st:St} {w:World} (h:Mem n0 w0 e st.B st.V w) {b:Nat} (hb:Own e st b):b<w.heap.size∧¬e.S b∧e.H b=none∧n0≤b:=by
  rcases hb with ⟨i,x,h1,h2,rfl⟩ | ⟨i,x,h1,h2,h3⟩
  · exact ⟨h.lt_box h1 h2,(h.boxlo i x h1 h2).2,h.hid.box i x h1 h2,(h.boxlo i x h1 h2).1⟩
  · obtain ⟨xs,q1,_⟩:=h.vec i x h1 h2
    exact ⟨(q1.lt b h3).2,h.vecS i x b h1 h2 h3,h.hid.vec i x b h1 h2 h3,(q1.lt b h3).1⟩
theorem Rel.move {n0:Nat} {w0:World} {e:Env} {st:St} {a:Act} {w w':World} (h:Rel n0 w0 e st a w) (hy:e.y=false) {S':Nat→Prop} {H':Nat→Option (Obj×Bool)} (hsub:∀ b,e.S b→S' b) (hlt:∀ b,S' b→b<w'.heap.size)
    (hO:∀ b,Own e st b→¬S' b∧H' b=none) (hk:∀ b,(b<n0∨e.S b∨Own e st b)→w'.heap[b]? = w.heap[b]?) (hb:n0≤w'.heap.size) (hsz:w0.heap.size≤w'.heap.size)
    (hos:w'.os=w.os∧w'.tape=w.tape∧w'.output=w.output) (hobj:HidIn H' w') (hown:∀ b o,S' b→H' b≠some (o,true)):Rel n0 w0 { e with S:=S',H:=H' } st a w':=by
  have hm:=h.mem
  have hro:ROw w e.S w' S':=⟨hsub,fun b o x hs hc=>by simp only [World.cell?] at hc ⊢;rw [hk b (.inr (.inl hs))];exact hc⟩
  have hall:∀ xs vs,AV.all e w (kss st.V) xs vs→AV.all { e with S:=S',H:=H' } w' (kss st.V) xs vs:=fun xs vs hv=>AV.all.gen (e:=e.withS S') (e':={ e with S:=S',H:=H' }) rfl rfl rfl _ _ (AV.all.monoW hro _ _ hv)
  refine ⟨hall _ _ h.tm,h.sc,⟨fun i b hi hl=>?_,hm.boxsc,fun i b hi hl=>⟨(hm.boxlo i b hi hl).1,(hO _ (.inl ⟨i,b,hi,hl,rfl⟩)).1⟩,hm.boxinj,fun i x hi hl=>?_,fun i x g hi hl hg=>(hO g (.inr ⟨i,x,hi,hl,hg⟩)).1,hm.vecbox,hm.vecinj,hlt,?_,hb,hm.bl,
    ⟨hobj,fun i b hi hl=>(hO _ (.inl ⟨i,b,hi,hl,rfl⟩)).2,fun i x g hi hl hg=>(hO g (.inr ⟨i,x,hi,hl,hg⟩)).2,fun i x hi hT=>?_,hown⟩⟩⟩
  · obtain ⟨vs,q1,q2⟩:=hm.box i b hi hl
    exact ⟨vs,(hk _ (.inr (.inr (.inl ⟨i,b,hi,hl,rfl⟩)))).trans q1,hall _ _ q2⟩
  · obtain ⟨xs,q1,q2,q3⟩:=hm.vec i x hi hl
    exact ⟨xs,q1.keep fun g hg=>hk g (.inr (.inr (.inr ⟨i,x,hi,hl,hg⟩))),CV.vals.monoW hro _ _ q2,q3⟩
  · have hb':=hm.below
    rw [Env.nb_false hy] at hb'
    rw [Env.nb_false (show ({ e with S:=S',H:=H' }:Env).y=false from hy)]
    exact ⟨hos.1.trans hb'.os,hos.2.1.trans hb'.tape,hos.2.2.trans hb'.output,hsz,fun k hkn=>(hk k (.inl hkn)).trans (hb'.block k hkn)⟩
  · have:=(hm.hid.gh i x hi hT).2.1
    rw [hy] at this;cases this
def Env.noH (e:Env):Env:={ e with H:=fun _=>none }
theorem AV.all.no {e:Env} {w:World} {ks:List Nat} {xs:List AV} {vs:List Value} (h:AV.all e w ks xs vs):AV.all e.noH w ks xs vs:=AV.all.gen (e:=e) (e':=e.noH) rfl rfl rfl _ _ h
theorem AV.all.ofNo {e:Env} {w:World} {ks:List Nat} {xs:List AV} {vs:List Value} (h:AV.all e.noH w ks xs vs):AV.all e w ks xs vs:=AV.all.gen (e:=e.noH) (e':=e) rfl rfl rfl _ _ h
abbrev Ext0 (e:Env) (st:St) (w:World) (e':Env) (st':St) (w':World):Prop:=ExtS e.noH st w e'.noH st'.B st'.V w'
theorem Ext0.of {e:Env} {st:St} {w:World} {e':Env} {st':St} {w':World} (h:ExtS e st w e' st'.B st'.V w'):Ext0 e st w e' st' w':=have _:=G;
  ⟨h.ro,h.ρ,h.hdr,h.nB,h.nV,h.verle,h.kseq,h.sz,h.snew,h.be,fun _=>rfl,h.ye⟩
theorem Ext0.same {e:Env} {st:St} {w:World} {S':Nat→Prop} {H':Nat→Option (Obj×Bool)} {w':World} (hsub:∀ b,e.S b→S' b) (hk:∀ b,e.S b→w'.heap[b]? = w.heap[b]?) (hs:w.heap.size≤w'.heap.size) (hn:∀ b,S' b→e.S b∨e.base≤b) :
    Ext0 e st w { e with S:=S',H:=H' } st w':=have _:=G;
  ⟨⟨hsub,hk⟩,fun _ _=>rfl,fun _ _ _ _=>rfl,Nat.le_refl _,Nat.le_refl _,fun _ _=>Nat.le_refl _,fun _ _=>rfl,hs,hn,rfl,fun _=>rfl,rfl⟩
theorem Rel.dead {n0:Nat} {w0:World} {e:Env} {st:St} {a:Act} {w:World} (hr:Rel n0 w0 e st a w) {ds:List Vec} (hd:∀ v∈ds,v.live=false) (hdT:∀ v∈ds,v.T≠ghT) :
    Rel n0 w0 e ⟨st.t,st.B,st.V++ds⟩ a w∧ExtS e st w e st.B (st.V++ds) w:=by
  have hx:Ext e w st.B.length (vers st.V) (kss st.V) e w st.B.length (vers (st.V++ds)) (kss (st.V++ds)):=by
    refine ⟨RO.refl _ _,fun _ _=>rfl,fun _ _ _ _=>rfl,Nat.le_refl _,by simp [vers],fun i hi=>?_,fun i hi=>?_,Nat.le_refl _,fun _ h=>.inl h,rfl,fun _=>rfl,rfl⟩
    · have hi':i<st.V.length:=by simpa [vers] using hi
      simp [vers,List.getD,List.getElem?_append_left,hi']
    · have hi':i<st.V.length:=by simpa [vers] using hi
      simp [kss,List.getD,List.getElem?_append_left,hi']
  have hget:∀ (i:Nat) (x:Vec),(st.V++ds)[i]? = some x→x.live=true→st.V[i]? = some x:=by
    intro i x hi hl
    by_cases hil:i<st.V.length
    · rwa [List.getElem?_append_left hil] at hi
    · rw [List.getElem?_append_right (by omega)] at hi
      have:=hd x (List.mem_of_getElem? hi)
      rw [hl] at this;cases this
  have hm:=hr.mem
  refine ⟨⟨AV.all.mono hx _ _ hr.sc hr.tm,hx.scos hr.sc,?_⟩,hx⟩
  refine ⟨fun i b hb hl=>?_,fun i b hb=>hx.scos (hm.boxsc i b hb),hm.boxlo,hm.boxinj,fun i x hx hl=>hm.vec i x (hget i x hx hl) hl,fun i x g hx hl=>hm.vecS i x g (hget i x hx hl) hl,fun i x j b g hx hl=>hm.vecbox i x j b g (hget i x hx hl) hl,fun i x j y g hx hl hy hyl=>hm.vecinj i x j y g (hget i x hx hl) hl (hget j y hy hyl) hyl,hm.ro,hm.below,hm.base,hm.bl,hm.hid.of rfl ⟨rfl,rfl⟩ (fun _ h=>.inl h) (SameG.app hdT) (fun _ _ _=>rfl) (fun i b hb hl=>.inl ⟨i,b,hb,hl,rfl⟩) (fun i x g hx hl hg=>.inl ⟨i,x,hget i x hx hl,hl,hg⟩)⟩
  obtain ⟨vs,h1,h2⟩:=hm.box i b hb hl
  exact ⟨vs,h1,AV.all.mono hx _ _ (hm.boxsc i b hb) h2⟩
theorem Rel.adopt {n0:Nat} {w0:World} {e:Env} {st:St} {a:Act} {w:World} (hr:Rel n0 w0 e st a w) (hy:e.y=false) {T:TypeId} {k:Nat} {v:Value} {el:List (List CV)} {xs:List Value} (hT:T<mapTag) (hown:OwnsV w n0 T k v el.length xs) (hv:CV.vals w e.S el.flatten xs) (hk:∀ l∈el,l.length=k)
    (hg:∀ g,oblk v=some g→¬e.S g∧e.H g=none∧¬Own e st g) :
    ∃ e',Rel n0 w0 e' ⟨st.t,st.B,st.V++[⟨true,T,k,1,el⟩]⟩ a w∧ExtS e st w e' st.B (st.V++[⟨true,T,k,1,el⟩]) w∧e'.hdr st.V.length 1=v∧e'.ρ=e.ρ∧e'.S=e.S∧e'.H=e.H∧e'.base=e.base∧e'.y=e.y∧(∀ i u,i<st.V.length→u≤(vers st.V).getD i 0→e'.hdr i u=e.hdr i u):=by
  obtain ⟨hr1,hx1⟩:=hr.dead (ds:=[⟨false,T,k,0,[]⟩]) (by simp) (by simp only [List.mem_singleton];rintro y rfl;exact Nat.ne_of_lt hT)
  have hlt:st.V.length<(st.V++[(⟨false,T,k,0,[]⟩:Vec)]).length:=by simp
  have hi:(st.V++[(⟨false,T,k,0,[]⟩:Vec)])[st.V.length]? = some ⟨false,T,k,0,[]⟩:=by simp
  have hOw:∀ g,oblk v=some g→(∀ (j:Nat) (b:Box),st.B[j]? = some b→b.live=true→e.ρ j≠g)∧∀ (j:Nat) (y:Vec),(st.V++[(⟨false,T,k,0,[]⟩:Vec)])[j]? = some y→y.live=true→oblk (e.hdr j y.ver)≠some g:=by
    intro g hgg
    have hno:=(hg g hgg).2.2
    refine ⟨fun j b hb hbl hc=>hno (.inl ⟨j,b,hb,hbl,hc⟩),fun j y hy hyl hc=>?_⟩
    by_cases hjl:j<st.V.length
    · rw [List.getElem?_append_left hjl] at hy
      exact hno (.inr ⟨j,y,hy,hyl,hc⟩)
    · rw [List.getElem?_append_right (by omega)] at hy
      have:=List.mem_of_getElem? hy
      simp only [List.mem_singleton] at this
      subst this;cases hyl
  obtain ⟨e',m1,m2,m3,m4,m5⟩:=hr1.mem.fill2 hi rfl T v el xs hown hv hk (fun g hgg=>(hg g hgg).1) (fun g hgg=>(hOw g hgg).1) (fun g hgg=>(hOw g hgg).2) (fun g hgg=>(hg g hgg).2.1)
  have hset:(st.V++[(⟨false,T,k,0,[]⟩:Vec)]).set st.V.length (Vec.mk true T k (0+1) el)=st.V++[⟨true,T,k,1,el⟩]:=by simp
  simp only [hset] at m1 m2
  have hxx:ExtS e st w e' st.B (st.V++[⟨true,T,k,1,el⟩]) w:=hx1.trans m2
  refine ⟨e',⟨AV.all.mono hxx _ _ hr.sc hr.tm,hxx.scos hr.sc,m1⟩,hxx,m3,m4,m5,m2.he hy,m2.be,m2.ye,fun i u hiu hu=>hxx.hdr i u (by simpa [vers] using hiu) hu⟩
end Go.Sx
namespace Go.Sx
open Go Go.RowKit
variable [G:Ghost]
abbrev YF:=List (List CV)→List CV→Option (Bool×List (List CV))
def IterJ (P:Program) (f:FuncId) (caps:List CV) (sh:YSh) (R:YF→List (List CV)→Option (List (List CV))):Prop:=
  ∀ (G:Ghost) (l:Nat) (yf:YF) (es es':List (List CV)),(∀ es x b es',yf es x=some (b,es')→@YieldSpec G P l sh es x b es')→R yf es=some es' →
    ∀ (F:Fence) (n:Nat),Free F→F.round=none→∀ (H:Nat→Option (Obj×Bool)) (S:Nat→Prop) (w:World) (lb:Array Value),
      CV.vals w S caps lb.toList→(∀ b,S b→b<w.heap.size)→HidIn H w→(∀ b o,S b→H b≠some (o,true))→G.J es H→G.lo≤w.heap.size→@GW G w →
      CallsIn F n P f (#[.func (.yield l) #[] #[]]++lb) w fun en w'=>(∃ v,en=.returned v)∧w.heap.size≤w'.heap.size∧@GW G w'∧∃ H',G.J es' H'∧HidIn H' w'
def setAll:List AV→List Nat→List AV→List AV
  | t,p::ps,x::xs=>setAll (t.set p x) ps xs
  | t,_,_=>t
theorem setAll_all {e:Env} {w:World} {ks:List Nat}:∀ {ps:List Nat} {xs t:List AV} {us:List Value} {tm:Array Value},AV.all e w ks t tm.toList→AV.all e w ks xs us →
    AV.all e w ks (setAll t ps xs) ((ps.zip us).foldl (fun t (p,v)=>t.setIfInBounds p v) tm).toList
  | [],_,_,us,_,h,_=>by have _:=G;simpa [setAll] using h
  | p::ps,[],_,[],_,h,_=>by simpa [setAll] using h
  | p::ps,[],_,_::_,_,_,h=>by simp [AV.all] at h
  | p::ps,x::xs,_,[],_,_,h=>by simp [AV.all] at h
  | p::ps,x::xs,t,u::us,tm,h,h'=>by
    simp only [AV.all] at h'
    simp only [setAll,List.zip_cons_cons,List.foldl_cons]
    exact setAll_all (by simpa using h.set p h'.1) h'.2
theorem setAll_scoped {nB:Nat} {vs:List Nat}:∀ {ps:List Nat} {xs t:List AV},AV.scos nB vs t→AV.scos nB vs xs→AV.scos nB vs (setAll t ps xs)
  | [],_,_,h,_=>by have _:=G;simpa [setAll] using h
  | p::ps,[],_,h,_=>by simpa [setAll] using h
  | p::ps,x::xs,t,h,h'=>by
    simp only [AV.scos] at h'
    simp only [setAll]
    refine setAll_scoped ?_ h'.2
    rw [AV.scos_iff] at h ⊢
    intro y hy
    rcases List.mem_or_eq_of_mem_set hy with hy | rfl
    · exact h y hy
    · exact h'.1
def stY (sh:YSh) (x:List CV) (ps:List Nat) (st:St):St:=match sh with
  | .clo cs=>⟨setAll st.t ps (Sc.avs cs x 0),st.B,st.V⟩
  | .lent T k=>⟨setAll st.t ps [.own st.V.length 1],st.B,st.V++[⟨true,T,k,1,cR (x.getD 0 dC)⟩]⟩
def YSh.np:YSh→Nat
  | .clo cs=>cs.length
  | .lent _ _=>1
structure Wkd (st st1:St):Prop where
  t:AV.les st.t st1.t
  Bl:st1.B.length=st.B.length
  B:∀ (i:Nat) (b1:Box),st1.B[i]? = some b1→∃ b,st.B[i]? = some b∧(b1.live=true→b.live=true∧b1.T=b.T∧AV.les b.cs b1.cs)
  Vl:st1.V.length=st.V.length
  V:∀ (i:Nat) (v1:Vec),st1.V[i]? = some v1→∃ v,st.V[i]? = some v∧v1.ver=v.ver∧v1.k=v.k∧(v1.live=true∨v1.T=ghT→v1=v)
  sct:∀ nb vs,AV.scos nb vs st.t→AV.scos nb vs st1.t
  scB:∀ nb vs (i:Nat) (b b1:Box),st.B[i]? = some b→st1.B[i]? = some b1→AV.scos nb vs b.cs→AV.scos nb vs b1.cs
theorem Wkd.vers {st st1:St} (h:Wkd st st1):vers st1.V=vers st.V:=by
  have _:=G
  refine List.ext_getElem? fun i=>?_
  simp only [Go.Sx.vers,List.getElem?_map]
  cases hi:st1.V[i]? with
  | none =>
    have:st.V[i]? = none:=by rw [List.getElem?_eq_none_iff] at hi ⊢;rw [← h.Vl];exact hi
    rw [this]
  | some v1 =>
    obtain ⟨v,h1,h2,_⟩:=h.V i v1 hi
    rw [h1];simp [h2]
theorem Wkd.weak {n0:Nat} {w0:World} {e:Env} {st st1:St} {a:Act} {w:World} (h:Wkd st st1) (hr:Rel n0 w0 e st a w):Weak st st1:=by
  refine ⟨h.t,h.B,h.V,?_,?_⟩
  · rw [h.Bl,h.vers];exact h.sct _ _ hr.sc
  · intro i b1 hb1
    obtain ⟨b,hb,_⟩:=h.B i b1 hb1
    rw [h.Bl,h.vers]
    exact h.scB _ _ i b b1 hb hb1 (hr.mem.boxsc i b hb)
theorem Wk.d {st st1:St} (h:Wk st st1):Wkd st st1:=have _:=G;
  ⟨h.t,h.Bl,h.B,by rw [h.V],fun i v1 hv=>⟨v1,by rw [← h.V];exact hv,rfl,rfl,fun _=>rfl⟩,h.sct,h.scB⟩
theorem les_trans:∀ {a b c:List AV},AV.les a b→AV.les b c→AV.les a c
  | _,_,_,.nil,.nil=>have _:=G;.nil
  | _,_,_,.cons h hs,.cons h' hs'=>.cons (fun e w ks v hv=>h' e w ks v (h e w ks v hv)) (les_trans hs hs')
theorem Wkd.trans {a b c:St} (h:Wkd a b) (h':Wkd b c):Wkd a c:=by
  refine ⟨les_trans h.t h'.t,h'.Bl.trans h.Bl,fun i b1 hb=>?_,h'.Vl.trans h.Vl,fun i v1 hv=>?_,fun nb vs hs=>h'.sct nb vs (h.sct nb vs hs),fun nb vs i x y hx hy hs=>?_⟩
  · obtain ⟨b2,h1,h2⟩:=h'.B i b1 hb
    obtain ⟨b3,h3,h4⟩:=h.B i b2 h1
    exact ⟨b3,h3,fun hl=>⟨(h4 (h2 hl).1).1,(h2 hl).2.1.trans (h4 (h2 hl).1).2.1,les_trans (h4 (h2 hl).1).2.2 (h2 hl).2.2⟩⟩
  · obtain ⟨v2,h1,h2,h3,h4⟩:=h'.V i v1 hv
    obtain ⟨v3,h5,h6,h7,h8⟩:=h.V i v2 h1
    refine ⟨v3,h5,h2.trans h6,h3.trans h7,fun hl=>?_⟩
    have:=h4 hl;subst this
    exact h8 hl
  · obtain ⟨z,h1,_⟩:=h'.B i y hy
    exact h'.scB nb vs i z y h1 hy (h.scB nb vs i x z hx h1 hs)
def killV (j:Nat) (V:List Vec):List Vec:=V.mapIdx fun i v=>if i=j then ⟨false,v.T,v.k,v.ver,v.es⟩ else v
theorem killV_length (j:Nat) (V:List Vec):(killV j V).length=V.length:=by have _:=G;simp [killV]
theorem killV_get (j:Nat) (V:List Vec) (i:Nat):(killV j V)[i]? = (V[i]?).map fun v=>if i=j then ⟨false,v.T,v.k,v.ver,v.es⟩ else v:=by have _:=G;simp [killV]
theorem Wkd.kill (st:St) (j:Nat) (hT:∀ v,st.V[j]? = some v→v.T≠ghT):Wkd st ⟨st.t,st.B,killV j st.V⟩:=by
  refine ⟨AV.les_refl _,rfl,fun i b1 hb=>⟨b1,hb,fun hl=>⟨hl,rfl,AV.les_refl _⟩⟩,killV_length _ _,fun i v1 hv=>?_,fun _ _ h=>h,fun _ _ i b b1 h1 h2 h3=>by rw [show (⟨st.t,st.B,killV j st.V⟩:St).B[i]? = st.B[i]? from rfl,h1] at h2;cases h2;exact h3⟩
  have hv:(killV j st.V)[i]? = some v1:=hv
  rw [killV_get,Option.map_eq_some_iff] at hv
  obtain ⟨v,h1,rfl⟩:=hv
  refine ⟨v,h1,?_⟩
  by_cases hij:i=j
  · subst hij
    simp only [if_true,true_and]
    rintro (h | h)
    · cases h
    · exact absurd h (hT v h1)
  · simp [hij]
def YEnd (sh:YSh) (x:List CV) (st':St) (I:St→Prop) (b:Bool) (pe:Option Code) (ex:Exit) (s2:St):Prop:=
  ∃ s3,Wkd ⟨st'.t,s2.B,s2.V⟩ s3∧st'.B.length≤s3.B.length∧st'.V.length≤s3.V.length∧I s3 ∧
    ((ex=.normal∧pe=none∧b=true)∨(ex=.ret∧pe=some .ret∧b=false)∨(∃ id,ex=.exit id∧pe=some (.exit id)∧b=false)) ∧
    (match sh with
      | .clo _=>True
      | .lent T k=>s2.V[st'.V.length]? = some ⟨true,T,k,1,cR (x.getD 0 dC)⟩∧∀ v,s3.V[st'.V.length]? = some v→v.live=false)
theorem Env.eqH {e:Env} (h:e.H=fun _=>none):({ e with S:=e.S,H:=fun _=>none }:Env)=e:=by
  have _:=G
  obtain ⟨a,b,c,d,H,y⟩:=e
  simp only at h
  subst h
  rfl
theorem foldl_arr {A:Type} (f:A→Nat×Value→A) (ps:Array Tmp) (args:Array Value) (t:A):(ps.zip args).foldl f t=(ps.toList.zip args.toList).foldl f t:=by
  have _:=G
  rw [← Array.foldl_toList];simp
def YIn (n0:Nat) (e:Env) (st:St) (w:World) (S:Nat→Prop) (X:Nat→Option (Obj×Bool)) (sh:YSh) (x:List CV) (args:Array Value):Prop:=match sh with
  | .clo cs=>∀ (e1:Env) (ks:List Nat),e1.S=S→AV.all e1 w ks (Sc.avs cs x 0) args.toList
  | .lent T k=>∃ (v:Value) (el:List (List CV)) (xs:List Value),x=[.row k el]∧args=#[v]∧T<mapTag∧OwnsV w n0 T k v el.length xs∧flatE el=true∧CV.vals w S el.flatten xs∧(∀ l∈el,l.length=k)∧(∀ g,oblk v=some g→¬e.S g∧¬S g∧X g=none∧¬Own e st g)
def YHdr (sh:YSh) (args:Array Value) (e:Env) (j:Nat):Prop:=match sh with
  | .clo _=>True
  | .lent _ _=>∃ v,args=#[v]∧e.hdr j 1=v
theorem Rel.inY {n0:Nat} {w0:World} {e:Env} {st:St} {a:Act} {w:World} (hr:Rel n0 w0 e st a w) (hy:e.y=false) (hw0:w0.heap.size≤w.heap.size) {S:Nat→Prop} {X:Nat→Option (Obj×Bool)} (hS:∀ b,S b→b<w.heap.size) (hX:HidIn X w) (hSX:∀ b o,e.S b∨S b→X b≠some (o,true)) (hO:∀ b,Own e st b→¬S b∧X b=none)
    (hn:∀ b,S b→e.S b∨e.base≤b) {sh:YSh} {x:List CV} {ps:Array Tmp} {args:Array Value}
    (hargs:YIn n0 e st w S X sh x args) :
    ∃ e1,Rel n0 w0 e1 (stY sh x ps.toList st) { tmps:=(ps.zip args).foldl (fun t (p,v)=>t.setIfInBounds p v) a.tmps,defers:=[] } w∧Ext0 e st w e1 (stY sh x ps.toList st) w∧e1.H=X∧e1.S=(fun b=>e.S b∨S b)∧e1.y=false∧e1.base=e.base∧YHdr sh args e1 st.V.length:=by
  have hm:=hr.mem
  have h1:Rel n0 w0 { e with S:=fun b=>e.S b∨S b,H:=X } st a w:=
    hr.move hy (fun _ h=>.inl h) (fun b hb=>hb.elim (hm.ro b) (hS b)) (fun b hb=>⟨fun h=>h.elim (Own.lt hm hb).2.1 (hO b hb).1,(hO b hb).2⟩) (fun _ _=>rfl) hm.base hw0 ⟨rfl,rfl,rfl⟩ hX hSX
  have hx1:Ext0 e st w { e with S:=fun b=>e.S b∨S b,H:=X } st w:=Ext0.same (fun _ h=>.inl h) (fun _ _=>rfl) (Nat.le_refl _) (fun b hb=>hb.elim .inl (hn b))
  cases sh with
  | clo cs =>
    refine ⟨_,⟨?_,?_,h1.mem⟩,hx1,rfl,rfl,hy,rfl,trivial⟩
    · show AV.all _ w (kss st.V) (setAll st.t ps.toList (Sc.avs cs x 0)) _
      rw [foldl_arr]
      refine setAll_all h1.tm ?_
      have h2:=hargs ⟨e.ρ,e.hdr,S,e.base,X,e.y⟩ (kss st.V) rfl
      exact AV.closeds_holds (e:=⟨e.ρ,e.hdr,S,e.base,X,e.y⟩) (fun b hb=>(Or.inr hb:e.S b∨S b)) _ _ (Sc.avs_closed cs x 0) h2
    · exact setAll_scoped h1.sc (AV.scos_closed _ _ _ (Sc.avs_closed cs x 0))
  | lent T k =>
    obtain ⟨v,el,xs,rfl,rfl,hT,hown,hfl,hv,hk,hg⟩:=hargs
    obtain ⟨e',g1,g2,g3,g4,g5,g6,g7,g8,g9⟩:=h1.adopt hy hT hown (CV.flat_vals (flatE_all hfl) hv) hk (fun g hgg=>⟨fun h=>h.elim (hg g hgg).1 (hg g hgg).2.1,(hg g hgg).2.2.1,(hg g hgg).2.2.2⟩)
    have hcr:cR ([CV.row k el].getD 0 dC)=el:=rfl
    have hst:(stY (.lent T k) [.row k el] ps.toList st).V=st.V++[⟨true,T,k,1,el⟩]:=rfl
    refine ⟨e',⟨?_,?_,g1.mem⟩,hx1.trans (Ext0.of (st':=⟨st.t,st.B,st.V++[⟨true,T,k,1,el⟩]⟩) g2),g6,g5,g8.trans hy,g7,v,rfl,g3⟩
    · show AV.all e' w (kss (st.V++[⟨true,T,k,1,el⟩])) (setAll st.t ps.toList [.own st.V.length 1]) _
      rw [foldl_arr]
      refine setAll_all g1.tm ?_
      simp only [AV.all,AV.holds,and_true]
      exact ⟨g3.symm,hown.one⟩
    · show AV.scos st.B.length (vers (st.V++[⟨true,T,k,1,el⟩])) (setAll st.t ps.toList [.own st.V.length 1])
      refine setAll_scoped g1.sc ?_
      simp [AV.scos,AV.sco,vers,List.getD]
end Go.Sx
namespace Go.Sx
open Go Go.RowKit
variable [G:Ghost]
section
variable {F:Fence} {n:Nat} {P:Program}
theorem flat_vals_eq {w w':World} {S S':Nat→Prop}:∀ {cs:List CV} {vs us:List Value},cs.all CV.flat=true→CV.vals w S cs vs→CV.vals w' S' cs us→vs=us
  | [],[],[],_,_,_=>have _:=G;rfl
  | [],[],_::_,_,_,h=>by simp [CV.vals] at h
  | [],_::_,_,_,h,_=>by simp [CV.vals] at h
  | _::_,[],_,_,h,_=>by simp [CV.vals] at h
  | _::_,_::_,[],_,_,h=>by simp [CV.vals] at h
  | c::cs,v::vs,u::us,hf,h,h'=>by
    simp only [List.all_cons,Bool.and_eq_true] at hf
    simp only [CV.vals] at h h'
    obtain ⟨h1,h2⟩:=h
    obtain ⟨h3,h4⟩:=h'
    have:=flat_vals_eq hf.2 h2 h4
    subst this
    cases c with
    | val x=>simp only [CV.holds] at h1 h3;rw [h1.1,h3.1]
    | _=>simp [CV.flat] at hf
def YLent (n0:Nat) (u:World) (S L:Nat→Prop) (H:Nat→Option (Obj×Bool)) (sh:YSh) (x:List CV) (args:Array Value):Prop:=match sh with
  | .clo cs=>(∀ b,¬L b)∧∀ (e1:Env) (ks:List Nat),e1.S=S→AV.all e1 u ks (Sc.avs cs x 0) args.toList
  | .lent T k=>∃ (v:Value) (el:List (List CV)) (xs:List Value),x=[.row k el]∧args=#[v]∧T<mapTag∧OwnsV u n0 T k v el.length xs∧flatE el=true∧CV.vals u S el.flatten xs∧(∀ l∈el,l.length=k)∧(∀ g,oblk v=some g→H g=none∧¬S g)∧(∀ g,L g↔oblk v=some g)
def YBack (n0:Nat) (u u5:World) (S:Nat→Prop) (sh:YSh) (x:List CV) (args:Array Value):Prop:=match sh with
  | .clo _=>True
  | .lent T k=>∀ v el xs,x=[.row k el]→args=#[v]→flatE el=true→CV.vals u S el.flatten xs→OwnsV u5 n0 T k v el.length xs
structure Rest (n0:Nat) (w0:World) (e:Env) (st:St) (a:Act) (w:World) (l D lim:Nat) (R:Obj) (e':Env) (st':St) (H:Nat→Option (Obj×Bool)):Prop where
  y:e'.y=false
  h:e'.H=fun _=>none
  b:e'.base≤lim
  j1:∀ b,b<lim→H b≠none
  j2:∀ b,e'.S b↔∃ o,H b=some (o,false)
  j3:∀ b,Own e' st' b→H b≠none
  j5:¬e'.S l∧¬e'.S D
  j6:∀ b,Own e' st' b→b≠l∧b≠D
  j7:∀ W4,HidIn H W4→(W4.os=w.os∧W4.tape=w.tape∧W4.output=w.output)→Rel n0 w0 e' st' a W4∧ExtS e st w e' st'.B st'.V W4∧W4.heap[l]? = some R∧W4.heap[D]? = some (.deferred (some []))
def JPost (n0:Nat) (w0:World) (e:Env) (st:St) (a:Act) (w u:World) (l D lim:Nat) (R:Obj) (I:St→Prop) (H:Nat→Option (Obj×Bool)) (S L:Nat→Prop) (sh:YSh) (x:List CV) (args:Array Value) (b:Bool) (en:Ending) (u5:World):Prop:=
  en=.returned (.bool b)∧∃ (e3:Env) (s3:St) (H3:Nat→Option (Obj×Bool)),I s3∧Rest n0 w0 e st a w l D lim R e3 s3 H3 ∧
    HidIn H3 u5∧(∀ b,H3 b≠none→H b≠none∨S b∨u.heap.size≤b)∧(∀ b o,S b→H3 b≠some (o,true))∧u.heap.size≤u5.heap.size∧(u5.os=u.os∧u5.tape=u.tape∧u5.output=u.output) ∧
    (∀ b,b<u.heap.size→H b=none→¬L b→u5.heap[b]? = u.heap[b]?)∧(∀ b,S b→u5.heap[b]? = u.heap[b]?)∧YBack n0 u u5 S sh x args
open Classical in
theorem round_J {n0:Nat} {w0:World} {e e':Env} {st st':St} {a:Act} {w u:World} (hF:Free F)
    {l D lim:Nat} {rec:LoopState→Option Code→Loop} {fn:FuncId} {ps:Array Tmp} {assign body:Code}
    (hrec:rec=fun s pe=>{ state:=s,pending:=pe,fn,tmps:=a.tmps,params:=ps,assign,body,defers:=D }) 
    (hlim:n0≤lim∧lim≤u.heap.size∧l<lim∧D<lim∧n0≤l∧l≠D∧w0.heap.size≤l∧w.heap.size≤l) (hou:u.os=w.os∧u.tape=w.tape∧u.output=w.output) {H:Nat→Option (Obj×Bool)} {S:Nat→Prop} (hHu:HidIn H u) (hS:∀ b,S b→b<u.heap.size) (hSo:∀ b o,S b→H b≠some (o,true))
    (hJ:Rest n0 w0 e st a w l D lim (.loop (rec .ready none)) e' st' H)
    {sh:YSh} {x:List CV} {args:Array Value} {b:Bool} {pe:Option Code} {I:St→Prop} (hfn:F.fn fn)
    (hbody:W (F.inRound l) n P assign (stY sh x ps.toList st') fun ex s1=>ex=.normal∧W (F.inRound l) n P body s1 (YEnd sh x st' I b pe))
    (L:Nat→Prop) (hargs:YLent n0 u S L H sh x args) :
    RoundIn F n P l fn ((ps.zip args).foldl (fun t (p,v)=>t.setIfInBounds p v) a.tmps) assign body u
      (JPost n0 w0 e st a w u l D lim (.loop (rec (if pe.isNone then .ready else .done) pe)) I H S L sh x args b):=by
  obtain ⟨hy,heH,hbase,j1,j2,j3,j5,j6,j7⟩:=hJ
  obtain ⟨hrel,hext,hl,hD⟩:=j7 u hHu hou
  obtain ⟨k1,k2,k3,k4,k5,k6,k7,k8⟩:=hlim
  have hm:=hrel.mem
  have noS:∀ c,c<lim→¬e'.S c→¬S c:=by
    intro c hc hn hs
    cases hh:H c with
    | none=>exact j1 c hc hh
    | some o =>
      obtain ⟨o,f⟩:=o
      cases f with
      | true=>exact hSo c o hs hh
      | false=>exact hn ((j2 c).2 ⟨o,hh⟩)
  let priv:Nat→Prop:=fun b=>b<u.heap.size∧H b=none∧¬S b∧¬L b
  let X:Nat→Option (Obj×Bool):=fun b=>if priv b∨b=l∨b=D then (u.heap[b]?).map (·,true) else none
  have hXs:∀ c,X c≠none→priv c∨c=l∨c=D:=by
    intro c hc
    by_cases h:priv c∨c=l∨c=D
    · exact h
    · exact absurd (if_neg h) hc
  have hXf:∀ c o f,X c=some (o,f)→u.heap[c]? = some o∧f=true:=by
    intro c o f hc
    have h:=hXs c (by rw [hc];simp)
    have:X c=(u.heap[c]?).map (·,true):=if_pos h
    rw [this,Option.map_eq_some_iff] at hc
    obtain ⟨o',h1,h2⟩:=hc
    cases h2
    exact ⟨h1,rfl⟩
  have hXp:∀ c,priv c∨c=l∨c=D→∃ o,X c=some (o,true)∧u.heap[c]? = some o:=by
    intro c hc
    have:X c=(u.heap[c]?).map (·,true):=if_pos hc
    have hcl:c<u.heap.size:=by
      rcases hc with hc | rfl | rfl
      · exact hc.1
      · omega
      · omega
    refine ⟨u.heap[c],?_,by simp [hcl]⟩
    rw [this];simp [hcl]
  have hX:HidIn X u:=fun c o f hc=>(hXf c o f hc).1
  have hSX:∀ b o,e'.S b∨S b→X b≠some (o,true):=by
    intro c o hc hx
    have h:=hXs c (by rw [hx];simp)
    rcases h with h | rfl | rfl
    · rcases hc with hc | hc
      · obtain ⟨o',h'⟩:=(j2 c).1 hc;rw [h.2.1] at h';cases h'
      · exact h.2.2.1 hc
    · exact hc.elim j5.1 (noS _ k3 j5.1)
    · exact hc.elim j5.2 (noS _ k4 j5.2)
  have hO:∀ b,Own e' st' b→¬S b∧X b=none:=by
    intro c hc
    have h1:=(Own.lt hm hc).2.1
    refine ⟨fun hs=>?_,?_⟩
    · cases hh:H c with
      | none=>exact j3 c hc hh
      | some o =>
        obtain ⟨o,f⟩:=o
        cases f with
        | true=>exact hSo c o hs hh
        | false=>exact h1 ((j2 c).2 ⟨o,hh⟩)
    · cases hx:X c with
      | none=>rfl
      | some o =>
        exfalso
        rcases hXs c (by rw [hx];simp) with h | h | h
        · exact j3 c hc h.2.1
        · exact (j6 c hc).1 h
        · exact (j6 c hc).2 h
  have hn:∀ b,S b→e'.S b∨e'.base≤b:=by
    intro c hs
    cases hh:H c with
    | none =>
      refine .inr (Nat.le_trans hbase (Nat.le_of_not_lt fun hlt=>j1 c hlt hh))
    | some o =>
      obtain ⟨o,f⟩:=o
      cases f with
      | true=>exact absurd hh (hSo c o hs)
      | false=>exact .inl ((j2 c).2 ⟨o,hh⟩)
  have hH':∀ g,H g=none→¬e'.S g∧¬Own e' st' g∧g≠l∧g≠D:=fun g hg =>
    ⟨fun hs=>by (obtain ⟨o,h⟩:=(j2 g).1 hs;rw [hg] at h;cases h),fun ho=>j3 g ho hg,fun he=>j1 g (by omega) hg,fun he=>j1 g (by omega) hg⟩
  obtain ⟨e1,r1,x1,eH,eS,ey,eb,elent⟩:=hrel.inY hy (by omega) (S:=S) (X:=X) hS hX hSX hO hn (sh:=sh) (x:=x) (ps:=ps) (args:=args) (by
    cases sh with
    | clo cs=>exact hargs.2
    | lent T k =>
      obtain ⟨v,el,xs,q1,q2,q3,q4,q5,q6,q7,q8,q9⟩:=hargs
      refine ⟨v,el,xs,q1,q2,q3,q4,q5,q6,q7,fun g hg=>?_⟩
      obtain ⟨z1,z2,z3,z4⟩:=hH' g (q8 g hg).1
      refine ⟨z1,(q8 g hg).2,?_,z2⟩
      cases hx:X g with
      | none=>rfl
      | some o =>
        exfalso
        rcases hXs g (by rw [hx];simp) with h | h | h
        · exact h.2.2.2 ((q9 g).2 hg)
        · exact z3 h
        · exact z4 h)
  refine roundIn_of_wpIn hfn (hbody n0 w0 e1 _ u _ r1 ?_)
  rintro x2 e2 s1 a1 u1 ⟨rfl,hB⟩ r2 hdf hx2
  have hH2:e2.H=X:=(hx2.he ey).trans eH
  have hy2:e2.y=false:=hx2.ye.trans ey
  obtain ⟨ol,hol,hol2⟩:=hXp l (.inr (.inl rfl))
  rw [hl] at hol2;cases hol2
  obtain ⟨oD,hoD,hoD2⟩:=hXp D (.inr (.inr rfl))
  rw [hD] at hoD2;cases hoD2
  have hl1:u1.heap[l]? = some (.loop (rec .ready none)):=r2.mem.hid.obj l _ true (by rw [hH2];exact hol)
  have hll1:=(Array.getElem?_eq_some_iff.1 hl1).1
  show ∃ w₂,(Instr.beginRound l).run P u1=.ok () w₂∧body.wpIn (F.inRound l) n P (roundPost P l _) a1 w₂
  refine ⟨_,run_beginRound (P:=P) hl1 (by rw [hrec]),?_⟩
  obtain ⟨busy,hbusy⟩:∃ busy:Loop,busy={ rec .ready none with state:=.busy }:=⟨_,rfl⟩
  rw [← hbusy]
  let X2:Nat→Option (Obj×Bool):=fun c=>if c=l then some (.loop busy,true) else X c
  have hX2l:X2 l=some (.loop busy,true):=if_pos rfl
  have hX2o:∀ c,c≠l→X2 c=X c:=fun c hc=>if_neg hc
  have nS2:∀ c,X c≠none→¬e2.S c:=by
    intro c hc hs
    cases hx:X c with
    | none=>exact hc hx
    | some o =>
      obtain ⟨o,f⟩:=o
      have:=(hXf c o f hx).2
      subst this
      exact r2.mem.hid.own c o hs (by rw [hH2];exact hx)
  have nO2:∀ c,Own e2 s1 c→X c=none:=fun c hc=>by have:=(Own.lt r2.mem hc).2.2.1;rwa [hH2] at this
  have hXl:X l≠none:=by rw [hol];simp
  have r3:Rel n0 w0 { e2 with S:=e2.S,H:=X2 } s1 a1 (u1.putObj l (.loop busy)):=by
    refine r2.move hy2 (fun _ h=>h) (fun c hc=>by have:=r2.mem.ro c hc;simpa [World.putObj] using this) (fun c hc=>⟨(Own.lt r2.mem hc).2.1,?_⟩) (fun c hc=>World.putObj_heap_other ?_) (by have:=r2.mem.base;simpa [World.putObj] using this) (by simp [World.putObj];omega) ⟨rfl,rfl,rfl⟩ (fun c o f hc=>?_) (fun c o hs hc=>?_)
    · have h1:=nO2 c hc
      rw [hX2o c (fun he=>hXl (by rw [← he];exact h1))];exact h1
    · rcases hc with hc | hc | hc
      · omega
      · exact fun he=>nS2 l hXl (by rw [← he];exact hc)
      · exact fun he=>hXl (by rw [← he];exact nO2 c hc)
    · by_cases hcl:c=l
      · subst hcl;rw [hX2l] at hc;cases hc
        exact World.putObj_heap_same hll1
      · rw [hX2o c hcl] at hc
        rw [World.putObj_heap_other hcl]
        exact r2.mem.hid.obj c o f (by rw [hH2];exact hc)
    · by_cases hcl:c=l
      · subst hcl;exact nS2 _ hXl hs
      · rw [hX2o c hcl] at hc
        exact nS2 c (by rw [hc];simp) hs
  have x3:Ext0 e2 s1 u1 { e2 with S:=e2.S,H:=X2 } s1 (u1.putObj l (.loop busy)):=
    Ext0.same (fun _ h=>h) (fun c hc=>World.putObj_heap_other fun he=>nS2 l hXl (by rw [← he];exact hc)) (by simp [World.putObj]) (fun _ h=>.inl h)
  refine hB n0 w0 _ a1 _ _ r3 ?_
  rintro ex e3 s2 a2 u3 ⟨s3,hwk0,hB3,hV3,hI,hex,hlent⟩ r4 hdf4 hx4
  have hH3:e3.H=X2:=hx4.he hy2
  have hy3:e3.y=false:=hx4.ye.trans hy2
  have hl3:u3.heap[l]? = some (.loop busy):=r4.mem.hid.obj l _ true (by rw [hH3];exact hX2l)
  have hll3:=(Array.getElem?_eq_some_iff.1 hl3).1
  have hend:=run_endRound (P:=P) pe hl3
  have hrec':({ busy with state:=if pe.isNone=true then LoopState.ready else LoopState.done,pending:=pe }:Loop)=rec (if pe.isNone then .ready else .done) pe:=by rw [hbusy,hrec]
  rw [hrec'] at hend
  generalize hu5:u3.putObj l (.loop (rec (if pe.isNone then .ready else .done) pe))=u5 at hend
  have xB:Ext0 e1 (stY sh x ps.toList st') u e3 s2 u3:=((Ext0.of hx2).trans x3).trans (Ext0.of hx4)
  have xA:Ext0 e' st' u e3 s2 u3:=x1.trans xB
  have h5o:∀ c,c≠l→u5.heap[c]? = u3.heap[c]?:=fun c hc=>by rw [← hu5];exact World.putObj_heap_other hc
  have h5l:u5.heap[l]? = some (.loop (rec (if pe.isNone then .ready else .done) pe)):=by rw [← hu5];exact World.putObj_heap_same hll3
  have h5s:u5.heap.size=u3.heap.size:=by rw [← hu5];simp [World.putObj]
  have nX3:∀ c,X c≠none→¬e3.S c:=by
    intro c hc hs
    by_cases hcl:c=l
    · subst hcl;exact r4.mem.hid.own _ _ hs (by rw [hH3];exact hX2l)
    · cases hx:X c with
      | none=>exact hc hx
      | some o =>
        obtain ⟨o,f⟩:=o
        have:=(hXf c o f hx).2
        subst this
        exact r4.mem.hid.own c o hs (by rw [hH3,hX2o c hcl];exact hx)
  have nO3:∀ c,Own e3 s2 c→X c=none∧c≠l:=by
    intro c hc
    have h1:=(Own.lt r4.mem hc).2.2.1
    rw [hH3] at h1
    have hcl:c≠l:=fun he=>by rw [he,hX2l] at h1;cases h1
    rw [hX2o c hcl] at h1
    exact ⟨h1,hcl⟩
  have keepX:∀ c,c≠l→X c≠none→u3.heap[c]? = u.heap[c]?:=by
    intro c hcl hc
    cases hx:X c with
    | none=>exact absurd hx hc
    | some o =>
      obtain ⟨o,f⟩:=o
      rw [(hXf c o f hx).1]
      exact r4.mem.hid.obj c o f (by rw [hH3,hX2o c hcl];exact hx)
  have hS1:∀ c,S c→e3.S c:=fun c hs=>xB.ro.sub c (show e1.S c by rw [eS];exact .inr hs)
  have hSl:∀ c,S c→c≠l:=fun c hs he=>noS l k3 j5.1 (by rw [← he];exact hs)
  have hSk:∀ c,S c→u5.heap[c]? = u.heap[c]?:=fun c hs=>(h5o c (hSl c hs)).trans (xB.ro.same c (show e1.S c by rw [eS];exact .inr hs))
  have hOw:∀ c,Own e3 s3 c→Own e3 s2 c∧¬L c:=by
    intro c hc
    rcases hc with ⟨i,y,q1,q2,q3⟩ | ⟨i,y,q1,q2,q3⟩
    · obtain ⟨y0,z1,z2⟩:=hwk0.B i y q1
      have ho:Own e3 s2 c:=.inl ⟨i,y0,z1,(z2 q2).1,q3⟩
      refine ⟨ho,fun hL=>?_⟩
      cases sh with
      | clo cs=>exact hargs.1 c hL
      | lent T k =>
        obtain ⟨v,el,xs,p1,p2,p3,p4,p5,p6,p7,p8,p9⟩:=hargs
        obtain ⟨v',t1,t2⟩:=elent
        rw [p2] at t1;cases t1
        have hh:e3.hdr st'.V.length 1=v:=(xB.hdr st'.V.length 1 (by simp [stY,vers]) (by simp [stY,vers,List.getD])).trans t2
        exact r4.mem.vecbox _ _ i y0 c hlent.1 rfl z1 (z2 q2).1 (by rw [hh];exact (p9 c).1 hL) q3
    · obtain ⟨y0,z1,z2,z3,z4⟩:=hwk0.V i y q1
      obtain rfl:=z4 (.inl q2)
      have ho:Own e3 s2 c:=.inr ⟨i,y,z1,q2,q3⟩
      refine ⟨ho,fun hL=>?_⟩
      cases sh with
      | clo cs=>exact hargs.1 c hL
      | lent T k =>
        obtain ⟨v,el,xs,p1,p2,p3,p4,p5,p6,p7,p8,p9⟩:=hargs
        obtain ⟨v',t1,t2⟩:=elent
        rw [p2] at t1;cases t1
        have hh:e3.hdr st'.V.length 1=v:=(xB.hdr st'.V.length 1 (by simp [stY,vers]) (by simp [stY,vers,List.getD])).trans t2
        have:=r4.mem.vecinj _ _ i y c hlent.1 rfl z1 q2 (by rw [hh];exact (p9 c).1 hL) q3
        subst this
        rw [hlent.2 _ q1] at q2;cases q2
  let H3:Nat→Option (Obj×Bool):=fun c=>if c<u.heap.size∧H c=none∧¬S c then none else (u5.heap[c]?).map fun o=>(o,decide (¬e3.S c))
  have hH3n:∀ c,¬(c<u.heap.size∧H c=none∧¬S c)→H3 c=(u5.heap[c]?).map fun o=>(o,decide (¬e3.S c)):=fun c hc=>if_neg hc
  have hH3p:∀ c,H3 c≠none→¬(c<u.heap.size∧H c=none∧¬S c):=fun c hc h=>hc (if_pos h)
  have hH3f:∀ c o f,H3 c=some (o,f)→u5.heap[c]? = some o∧f=decide (¬e3.S c):=by
    intro c o f hc
    rw [hH3n c (hH3p c (by rw [hc];simp)),Option.map_eq_some_iff] at hc
    obtain ⟨o',h1,h2⟩:=hc
    cases h2
    exact ⟨h1,rfl⟩
  have some5:∀ c,c<u3.heap.size→¬(c<u.heap.size∧H c=none∧¬S c)→∃ o,H3 c=some (o,decide (¬e3.S c)):=by
    intro c hc hn'
    have:c<u5.heap.size:=by rw [h5s];exact hc
    exact ⟨u5.heap[c],by rw [hH3n c hn'];simp [this]⟩
  have hsz:u.heap.size≤u3.heap.size:=xA.sz
  have g1:∀ c,c<lim→H3 c≠none:=by
    intro c hc
    obtain ⟨o,ho⟩:=some5 c (by omega) fun h=>j1 c hc h.2.1
    rw [ho];simp
  have g2:∀ c,e3.S c↔∃ o,H3 c=some (o,false):=by
    intro c
    constructor
    · intro hs
      have hlt:=r4.mem.ro c hs
      have hnp:¬(c<u.heap.size∧H c=none∧¬S c):=by
        rintro ⟨z1,z2,z3⟩
        by_cases hL:L c
        · cases sh with
          | clo cs=>exact hargs.1 c hL
          | lent T k =>
            obtain ⟨v,el,xs,p1,p2,p3,p4,p5,p6,p7,p8,p9⟩:=hargs
            obtain ⟨v',t1,t2⟩:=elent
            rw [p2] at t1;cases t1
            have hh:e3.hdr st'.V.length 1=v:=(xB.hdr st'.V.length 1 (by simp [stY,vers]) (by simp [stY,vers,List.getD])).trans t2
            exact r4.mem.vecS _ _ c hlent.1 rfl (by rw [hh];exact (p9 c).1 hL) hs
        · obtain ⟨o,ho,_⟩:=hXp c (.inl ⟨z1,z2,z3,hL⟩)
          exact nX3 c (by rw [ho];simp) hs
      obtain ⟨o,ho⟩:=some5 c hlt hnp
      exact ⟨o,by rw [ho];simp [hs]⟩
    · rintro ⟨o,ho⟩
      have:=(hH3f c o false ho).2
      simpa using this.symm
  have g3:∀ c,Own e3 s3 c→H3 c≠none:=by
    intro c hc
    obtain ⟨ho,hL⟩:=hOw c hc
    have hlt:=(Own.lt r4.mem ho).1
    obtain ⟨o,hh⟩:=some5 c hlt (by
      rintro ⟨z1,z2,z3⟩
      obtain ⟨o,hx,_⟩:=hXp c (.inl ⟨z1,z2,z3,hL⟩)
      rw [(nO3 c ho).1] at hx;cases hx)
    rw [hh];simp
  have hback:Rel n0 w0 e3 ⟨st'.t,s2.B,s2.V⟩ a u3:=⟨AV.all.ofNo (AV.all.mono xA _ _ hrel.sc (AV.all.no hrel.tm)),xA.scos hrel.sc,r4.mem⟩
  have hwk:=hwk0.weak hback
  have hw3:Rel n0 w0 e3 s3 a u3:=hback.weak hwk
  have hos3:u3.os=u.os∧u3.tape=u.tape∧u3.output=u.output:=⟨r4.mem.below.os.trans hm.below.os.symm,r4.mem.below.tape.trans hm.below.tape.symm,r4.mem.below.output.trans hm.below.output.symm⟩
  have hos5:u5.os=u3.os∧u5.tape=u3.tape∧u5.output=u3.output:=by rw [← hu5];exact ⟨rfl,rfl,rfl⟩
  have fin:JPost n0 w0 e st a w u l D lim (.loop (rec (if pe.isNone then .ready else .done) pe)) I H S L sh x args b (.returned (.bool pe.isNone)) u5:=by
    refine ⟨?_,{ e3 with S:=e3.S,H:=fun _=>none },s3,H3,hI,⟨hy3,rfl,by have:=xA.be;show e3.base≤lim;have h2:e3.base=e'.base:=this;omega,g1,g2,g3,⟨nX3 l hXl,nX3 D (by rw [hoD];simp)⟩,fun c hc=>?_,fun W4 hW4 hos4=>?_⟩,fun c o f hc=>(hH3f c o f hc).1,fun c hc=>?_,fun c o hs hc=>?_,by rw [h5s];exact hsz,
      ⟨hos5.1.trans hos3.1,hos5.2.1.trans hos3.2.1,hos5.2.2.trans hos3.2.2⟩,fun c hc hn' hL=>?_,hSk,?_⟩
    · rcases hex with ⟨_,q2,q3⟩ | ⟨_,q2,q3⟩ | ⟨id,_,q2,q3⟩ <;> rw [q2,q3] <;> rfl
    · have ho:=(hOw c hc).1
      refine ⟨(nO3 c ho).2,fun he=>?_⟩
      have:=(nO3 c ho).1
      rw [he,hoD] at this;cases this
    · have agree:∀ c,H3 c≠none→W4.heap[c]? = u5.heap[c]?:=by
        intro c hc
        cases hh:H3 c with
        | none=>exact absurd hh hc
        | some o =>
          obtain ⟨o,f⟩:=o
          rw [hW4 c o f hh,(hH3f c o f hh).1]
      have hlW:l<W4.heap.size:=by
        have:=agree l (g1 l k3)
        rw [h5l] at this
        exact (Array.getElem?_eq_some_iff.1 this).1
      have agS:∀ c,e3.S c→W4.heap[c]? = u3.heap[c]?:=by
        intro c hs
        obtain ⟨o,ho⟩:=(g2 c).1 hs
        exact (agree c (by rw [ho];simp)).trans (h5o c fun he=>nX3 l hXl (by rw [← he];exact hs))
      have hmv:=hw3.move hy3 (S':=e3.S) (H':=fun _=>none) (fun _ h=>h) (fun c hs=>by
          have h1:=agS c hs
          have h2:=r4.mem.ro c hs
          have h3:u3.heap[c]? = some u3.heap[c]:=by simp [h2]
          rw [h3] at h1
          exact (Array.getElem?_eq_some_iff.1 h1).1) (fun c hc=>⟨(Own.lt hw3.mem hc).2.1,rfl⟩) (fun c hc=>by
          rcases hc with hc | hc | hc
          · exact (agree c (g1 c (by omega))).trans (h5o c (by omega))
          · exact agS c hc
          · exact (agree c (g3 c hc)).trans (h5o c (nO3 c (hOw c hc).1).2)) (by omega) (by omega) ⟨(hos4.1.trans hou.1.symm).trans hos3.1.symm,(hos4.2.1.trans hou.2.1.symm).trans hos3.2.1.symm,(hos4.2.2.trans hou.2.2.symm).trans hos3.2.2.symm⟩ (fun c o f hc=>by cases hc) (fun c o _ hc=>by cases hc)
      refine ⟨hmv,?_,(agree l (g1 l k3)).trans h5l,?_⟩
      · have y1:Ext e.noH w st.B.length (vers st.V) (kss st.V) e3.noH u3 s2.B.length (vers s2.V) (kss s2.V):=(Ext0.of hext).trans xA
        have y2:=y1.weak (s:=⟨st'.t,s2.B,s2.V⟩) hwk (Nat.le_trans hext.nB hB3) (by have:=hext.nV;simp only [vers,List.length_map] at this ⊢;omega)
        have hnoe:e3.noH={ e3 with S:=e3.S,H:=fun _=>none }:=rfl
        rw [← hnoe]
        exact ⟨⟨y2.ro.sub,fun c hs=>(agS c (y2.ro.sub c hs)).trans (y2.ro.same c hs)⟩,y2.ρ,y2.hdr,y2.nB,y2.nV,y2.verle,y2.kseq,by omega,y2.snew,y2.be,fun hye=>by
          have:=hext.he hye
          rw [heH] at this
          show (fun _=>none)=e.H
          exact this,y2.ye⟩
      · exact (agree D (g1 D k4)).trans ((h5o D (Ne.symm k6)).trans ((keepX D (Ne.symm k6) (by rw [hoD];simp)).trans hD))
    · have:=hH3p c hc
      by_cases z1:H c=none
      · by_cases z2:S c
        · exact .inr (.inl z2)
        · exact .inr (.inr (Nat.le_of_not_lt fun hlt=>this ⟨hlt,z1,z2⟩))
      · exact .inl z1
    · have:=(hH3f c o true hc).2
      simp [hS1 c hs] at this
    · by_cases hs:S c
      · exact hSk c hs
      · obtain ⟨o,ho,_⟩:=hXp c (.inl ⟨hc,hn',hs,hL⟩)
        have hcl:c≠l:=(hH' c hn').2.2.1
        exact (h5o c hcl).trans (keepX c hcl (by rw [ho];simp))
    · cases sh with
      | clo cs=>trivial
      | lent T k =>
        intro v el xs p1 p2 p5 p6
        obtain ⟨v',el',xs',q1,q2,q3,q4,q5,q6,q7,q8,q9⟩:=hargs
        rw [p1] at q1
        simp only [List.cons.injEq,CV.row.injEq,true_and,and_true] at q1
        subst q1
        rw [p2] at q2
        simp only [Array.mk.injEq,List.cons.injEq,and_true] at q2
        subst q2
        obtain ⟨v',t1,t2⟩:=elent
        rw [p2] at t1;cases t1
        have hh:e3.hdr st'.V.length 1=v:=(xB.hdr st'.V.length 1 (by simp [stY,vers]) (by simp [stY,vers,List.getD])).trans t2
        obtain ⟨ys,y1,y2,y3⟩:=r4.mem.vec _ _ hlent.1 rfl
        have hcr:cR (x.getD 0 dC)=el:=by rw [p1];rfl
        simp only [hcr,hh] at y1 y2
        have:=flat_vals_eq (flatE_all p5) y2 p6
        subst this
        refine y1.keep fun g hg=>h5o g ?_
        exact (hH' g (q8 g hg).1).2.2.1
  rcases hex with ⟨rfl,q2,q3⟩ | ⟨rfl,q2,q3⟩ | ⟨id,rfl,q2,q3⟩
  all_goals
    subst q2
    exact ⟨_,_,hend,fin⟩
end
end Go.Sx
namespace Go.Sx
open Go Go.RowKit
variable [G:Ghost]
abbrev mkGhost (J:List (List CV)→(Nat→Option (Obj×Bool))→Prop) (lo:Nat) (w:World):Ghost:=⟨J,lo,w⟩
section
variable {F:Fence} {n:Nat} {P:Program}
theorem Sc.avs_length:∀ (cs:List Sc) (vs:List CV) (k:Nat),(Sc.avs cs vs k).length=cs.length
  | [],_,_=>have _:=G;rfl
  | c::cs,vs,k=>by simp [Sc.avs,Sc.avs_length cs vs]
open Classical in
theorem W2_rangeJ (hF:Free F) (hro:F.round=none) {g:Operand} {ps:Array Tmp} {assign body:Code} {st:St} {f:FuncId} {caps:List CV} {sh:YSh} {R:YF→List (List CV)→Option (List (List CV))} {yf:YF} {es0 es1:List (List CV)}
    (I:List (List CV)→St→Prop) (pend:List (List CV)→Option Code) {Q:Exit→St→Prop} (hnp:sh.np=ps.size) (hg:st.ev g=.cv (.fn f caps)) (hen:entB P f=true) (hit:IterJ P f caps sh R) (hR:R yf es0=some es1) (h0:I es0 st) (hp0:pend es0=none)
    (hbody:∀ (F:Fence) (n:Nat),Free F→∀ es x b es' st',yf es x=some (b,es')→I es st'→pend es=none∧W F n P assign (stY sh x ps.toList st') fun ex s1=>ex=.normal∧W F n P body s1 (YEnd sh x st' (I es') b (pend es')))
    (hend:∀ st',I es1 st'→(pend es1=none→Q .normal st')∧(pend es1=some .ret→Q .ret st')∧(∀ id,pend es1=some (.exit id)→Q (.exit id) st')∧(pend es1=none∨pend es1=some .ret∨∃ id,pend es1=some (.exit id))) :
    W2 F n P (.rangeFunc g ps assign body) st Q:=by
  intro n0 w0 m0 e a w Qr hr hm hm0 hk
  obtain ⟨hm0,hy,hH0⟩:=hm0
  have hmm:=hr.mem
  refine wpIn_any hF.depth (n':=n+3) ?_
  have hgv:=(hr.ev g).1
  rw [hg] at hgv
  simp only [AV.holds,CV.holds] at hgv
  obtain ⟨lb,hga,hlb⟩:=hgv
  refine wpIn_rangeFunc ?_
  intro fn hfn
  rw [hro]
  obtain ⟨rec,hrec⟩:∃ rec:LoopState→Option Code→Loop,rec=fun s pe=>{ state:=s,pending:=pe,fn,tmps:=a.tmps,params:=ps,assign,body,defers:=w.heap.size }:=⟨_,rfl⟩
  obtain ⟨W1,hW1⟩:∃ W1,(w.alloc (.deferred (some []))).alloc (.loop (rec .ready none))=W1:=⟨_,rfl⟩
  have hL1:W1.heap[w.heap.size+1]? = some (.loop (rec .ready none)):=by
    rw [← hW1];have:=World.alloc_heap_new (w.alloc (.deferred (some []))) (.loop (rec .ready none));rwa [World.size_alloc] at this
  have hK1:W1.heap[w.heap.size]? = some (.deferred (some [])):=by
    rw [← hW1];exact (Below.heap_alloc _ _ _ (by simp)).trans (World.alloc_heap_new w _)
  have hsz1:W1.heap.size=w.heap.size+2:=by rw [← hW1];simp
  have hold:∀ c,c<w.heap.size→W1.heap[c]? = w.heap[c]?:=fun c hc=>by
    rw [← hW1];exact (Below.heap_alloc _ _ _ (by simp;omega)).trans (Below.heap_alloc _ _ _ hc)
  have hos1:W1.os=w.os∧W1.tape=w.tape∧W1.output=w.output:=by rw [← hW1];exact ⟨rfl,rfl,rfl⟩
  have hw0:w0.heap.size≤w.heap.size:=hmm.below.size
  let Rec:List (List CV)→Obj:=fun es=>.loop (rec (if (pend es).isNone then .ready else .done) (pend es))
  let J:List (List CV)→(Nat→Option (Obj×Bool))→Prop:=fun es H=>∃ e' st',I es st'∧Rest n0 w0 e st a w (w.heap.size+1) w.heap.size (w.heap.size+2) (Rec es) e' st' H
  have hyield:∀ es x b es',yf es x=some (b,es')→@YieldSpec (mkGhost J n0 w) P (w.heap.size+1) sh es x b es':=by
    intro es x b es' hyf F' n' hF' H S u args hJ hHu hgw hS hSo hlo
    obtain ⟨e',st',hI,hrest⟩:=hJ
    obtain ⟨hpn,hbd⟩:=hbody (F'.inRound (w.heap.size+1)) n' (hF'.inRound _) es x b es' st' hyf hI
    have hou:u.os=w.os∧u.tape=w.tape∧u.output=w.output:=hgw
    have hRec:Rec es=.loop (rec .ready none):=by simp only [Rec,hpn];rfl
    rw [hRec] at hrest
    have hlu:u.heap[w.heap.size+1]? = some (.loop (rec .ready none)):=(hrest.j7 u hHu hou).2.2.1
    have hlul:=(Array.getElem?_eq_some_iff.1 hlu).1
    have hlim:n0≤w.heap.size+2∧w.heap.size+2≤u.heap.size∧w.heap.size+1<w.heap.size+2∧w.heap.size<w.heap.size+2∧n0≤w.heap.size+1∧w.heap.size+1≠w.heap.size∧w0.heap.size≤w.heap.size+1∧w.heap.size≤w.heap.size+1:=by
      have:=hmm.base;omega
    have hround:∀ (L:Nat→Prop),YLent n0 u S L H sh x args→RoundIn F' n' P (w.heap.size+1) fn ((ps.zip args).foldl (fun t (p,v)=>t.setIfInBounds p v) a.tmps) assign body u (JPost n0 w0 e st a w u (w.heap.size+1) w.heap.size (w.heap.size+2) (Rec es') (I es') H S L sh x args b):=
      fun L hL=>round_J hF' hrec hlim hou hHu hS hSo hrest (hF'.fn fn) hbd L hL
    have post:∀ (L:Nat→Prop) (en:Ending) (u5:World),JPost n0 w0 e st a w u (w.heap.size+1) w.heap.size (w.heap.size+2) (Rec es') (I es') H S L sh x args b en u5→en=.returned (.bool b)∧@YPost (mkGhost J n0 w) H S L es' u u5∧YBack n0 u u5 S sh x args:=by
      rintro L en u5 ⟨rfl,e3,s3,H3,q1,q2,q3,q4,q5,q6,q7,q8,q9,q10⟩
      exact ⟨rfl,⟨H3,⟨e3,s3,q1,q2⟩,q3,q4,q5,q6,q7.1,q7.2.1,q7.2.2,q8,q9⟩,q10⟩
    cases sh with
    | clo cs =>
      intro hargs
      have hsz:args.size=ps.size:=by
        have h1:=(hargs ⟨e.ρ,e.hdr,S,e.base,e.H,e.y⟩ [] rfl).length
        rw [Sc.avs_length] at h1
        have:(YSh.clo cs).np=cs.length:=rfl
        rw [← hnp,this,← h1];simp
      have hy':=run_yield (P:=P) (args:=args) hlu (by rw [hrec];exact hsz)
      rw [hrec] at hy'
      refine ⟨fn,_,assign,body,hy',(hround (fun _=>False) ⟨fun _ h=>h,hargs⟩).mono fun en u5 hp=>?_⟩
      obtain ⟨p1,p2,_⟩:=post _ en u5 hp
      exact ⟨p1,p2⟩
    | lent T k =>
      intro v el xs hx hfl hargs hT hown hv hk' hg'
      have hsz:args.size=ps.size:=by rw [← hnp,hargs];rfl
      have hy':=run_yield (P:=P) (args:=args) hlu (by rw [hrec];exact hsz)
      rw [hrec] at hy'
      refine ⟨fn,_,assign,body,hy',(hround (fun g=>oblk v=some g) ⟨v,el,xs,hx,hargs,hT,hown,hfl,hv,hk',hg',fun _=>Iff.rfl⟩).mono fun en u5 hp=>?_⟩
      obtain ⟨p1,p2,p3⟩:=post _ en u5 hp
      exact ⟨p1,p2,p3 v el xs hx hargs hfl hv⟩
  let H0:Nat→Option (Obj×Bool):=fun c=>(W1.heap[c]?).map fun o=>(o,decide (¬e.S c))
  have hH0f:∀ c o f,H0 c=some (o,f)→W1.heap[c]? = some o∧f=decide (¬e.S c):=by
    intro c o f hc
    simp only [H0,Option.map_eq_some_iff] at hc
    obtain ⟨o',h1,h2⟩:=hc
    cases h2
    exact ⟨h1,rfl⟩
  have hH0s:∀ c,c<w.heap.size+2→∃ o,H0 c=some (o,decide (¬e.S c)):=by
    intro c hc
    have:c<W1.heap.size:=by omega
    exact ⟨W1.heap[c],by simp [H0,this]⟩
  have hrest0:Rest n0 w0 e st a w (w.heap.size+1) w.heap.size (w.heap.size+2) (Rec es0) e st H0:=by
    refine ⟨hy,hH0,by have:=hmm.bl.1;have:=hmm.base;omega,fun c hc=>?_,fun c=>⟨fun hs=>?_,fun ⟨o,ho⟩=>?_⟩,fun c hc=>?_,⟨fun hs=>?_,fun hs=>?_⟩,fun c hc=>?_,fun W4 hW4 hos4=>?_⟩
    · obtain ⟨o,ho⟩:=hH0s c hc;rw [ho];simp
    · obtain ⟨o,ho⟩:=hH0s c (by have:=hmm.ro c hs;omega)
      exact ⟨o,by rw [ho];simp [hs]⟩
    · simpa using (hH0f c o false ho).2.symm
    · obtain ⟨o,ho⟩:=hH0s c (by have:=(Own.lt hmm hc).1;omega)
      rw [ho];simp
    · have:=hmm.ro _ hs;omega
    · have:=hmm.ro _ hs;omega
    · have:=(Own.lt hmm hc).1;omega
    · have agree:∀ c,c<w.heap.size+2→W4.heap[c]? = W1.heap[c]?:=by
        intro c hc
        obtain ⟨o,ho⟩:=hH0s c hc
        rw [hW4 c o _ ho,(hH0f c o _ ho).1]
      have hl4:W4.heap[w.heap.size+1]? = some (.loop (rec .ready none)):=(agree _ (by omega)).trans hL1
      have hl4l:=(Array.getElem?_eq_some_iff.1 hl4).1
      have agw:∀ c,c<w.heap.size→W4.heap[c]? = w.heap[c]?:=fun c hc=>(agree c (by omega)).trans (hold c hc)
      have hmv:=hr.move hy (S':=e.S) (H':=fun _=>none) (w':=W4) (fun _ h=>h) (fun c hs=>by have:=hmm.ro c hs;omega) (fun c hc=>⟨(Own.lt hmm hc).2.1,rfl⟩) (fun c hc=>agw c (by
          rcases hc with hc | hc | hc
          · have:=hmm.base;omega
          · exact hmm.ro c hc
          · exact (Own.lt hmm hc).1)) (by have:=hmm.base;omega) (by omega) hos4 (fun c o f hc=>by cases hc) (fun c o _ hc=>by cases hc)
      rw [Env.eqH hH0] at hmv
      refine ⟨hmv,?_,?_,(agree _ (by omega)).trans hK1⟩
      · exact ⟨⟨fun _ h=>h,fun c hs=>agw c (hmm.ro c hs)⟩,fun _ _=>rfl,fun _ _ _ _=>rfl,Nat.le_refl _,Nat.le_refl _,fun _ _=>Nat.le_refl _,fun _ _=>rfl,by omega,fun _ h=>.inl h,rfl,fun _=>rfl,rfl⟩
      · rw [hl4];simp only [Rec,hp0];rfl
  have hcall:=hit (mkGhost J n0 w) (w.heap.size+1) yf es0 es1 hyield hR F (n+2) hF hro H0 e.S W1 lb (by
      have hro':RO w e.S W1 e.S:=⟨fun _ h=>h,fun c hs=>hold c (hmm.ro c hs)⟩
      exact CV.vals.mono hro' _ _ hlb) (fun c hs=>by have:=hmm.ro c hs;omega) (fun c o f hc=>(hH0f c o f hc).1) (fun c o hs hc=>by have:=(hH0f c o true hc).2;simp [hs] at this) ⟨e,st,h0,hrest0⟩
    (by show n0≤_;have:=hmm.base;omega) hos1
  refine ⟨w.heap.size+1,[{ target:=.collected w.heap.size,args:=#[] }],W1,{ target:=.fn (.func f) lb,args:=#[.func (.yield (w.heap.size+1)) #[] #[]] },W1,f,
    #[.func (.yield (w.heap.size+1)) #[] #[]]++lb,W1,?_,?_,?_,?_,fun _=>by omega,?_⟩
  · rw [← hW1,hrec];exact run_enterLoop_outer _ _ _ _ _
  · simp only [resolve,hga]
    simp [go_sem]
  · intro f' hf';simp [Target.leads] at hf';subst hf';exact hF.fn _
  · simp [invoke,go_sem,enters hen]
  · refine hcall.mono ?_
    rintro en W2 ⟨⟨v,rfl⟩,hsz2,hgw2,H2,⟨e',st',hI,hrest⟩,hH2⟩
    have hos2:W2.os=w.os∧W2.tape=w.tape∧W2.output=w.output:=hgw2
    obtain ⟨r1,x1,hl2,hD2⟩:=hrest.j7 W2 hH2 hos2
    have hl2l:=(Array.getElem?_eq_some_iff.1 hl2).1
    have hpd:(rec (if (pend es1).isNone then .ready else .done) (pend es1)).pending=pend es1:=by rw [hrec]
    have hst:(rec (if (pend es1).isNone then .ready else .done) (pend es1)).state≠.busy:=by
      rw [hrec];simp only;split <;> simp
    have hle:=run_endLoop (P:=P) hl2 hst
    generalize hW5:W2.putObj (w.heap.size+1) _=W5 at hle
    rw [hpd] at hle
    have h5o:∀ c,c≠w.heap.size+1→W5.heap[c]? = W2.heap[c]?:=fun c hc=>by rw [← hW5];exact World.putObj_heap_other hc
    have h5s:W5.heap.size=W2.heap.size:=by rw [← hW5];simp [World.putObj]
    have hD5:W5.heap[w.heap.size]? = some (.deferred (some [])):=(h5o _ (by omega)).trans hD2
    have hmw:=r1.move hrest.y (S':=fun b=>e'.S b∨b=w.heap.size) (H':=fun _=>none) (w':=W5) (fun _ h=>.inl h) (fun c hs=>by
        rw [h5s]
        rcases hs with hs | rfl
        · exact r1.mem.ro c hs
        · omega) (fun c hc=>⟨fun hs=>hs.elim (Own.lt r1.mem hc).2.1 (hrest.j6 c hc).2,rfl⟩) (fun c hc=>h5o c (by
          rcases hc with hc | hc | hc
          · have:=hmm.base;omega
          · exact fun he=>hrest.j5.1 (by rw [← he];exact hc)
          · exact (hrest.j6 c hc).1)) (by rw [h5s];have:=hmm.base;omega) (by rw [h5s];omega) (by rw [← hW5];exact ⟨rfl,rfl,rfl⟩) (fun c o f hc=>by cases hc) (fun c o _ hc=>by cases hc)
    have hx5:ExtS e st w { e' with S:=fun b=>e'.S b∨b=w.heap.size,H:=fun _=>none } st'.B st'.V W5:=by
      refine ⟨⟨fun c hs=>.inl (x1.ro.sub c hs),fun c hs=>(h5o c (by have:=hmm.ro c hs;omega)).trans (x1.ro.same c hs)⟩,x1.ρ,x1.hdr,x1.nB,x1.nV,x1.verle,x1.kseq,by rw [h5s];omega,fun c hs=>?_,x1.be,fun _=>hH0.symm,x1.ye⟩
      rcases hs with hs | hs
      · exact x1.snew c hs
      · right;have:=hmm.bl.1;have:=hmm.base;omega
    obtain ⟨z1,z2,z3,z4⟩:=hend st' hI
    have hmk:Mk m0 { e' with S:=fun b=>e'.S b∨b=w.heap.size,H:=fun _=>none } W5 (markOf w.heap.size::a.defers):=by
      obtain ⟨Ds,hds,hnd,hDs⟩:=hm
      refine ⟨w.heap.size::Ds,by simp [hds],?_,?_⟩
      · rw [List.nodup_cons]
        refine ⟨fun hmem=>?_,hnd⟩
        have:=(Array.getElem?_eq_some_iff.1 (hDs _ hmem).2.2).1
        omega
      · intro D' hD'
        rcases List.mem_cons.1 hD' with rfl | hD'
        · exact ⟨hm0,.inr rfl,hD5⟩
        · obtain ⟨q1,q2,q3⟩:=hDs D' hD'
          exact ⟨q1,hx5.ro.sub D' q2,(hx5.ro.same D' q2).trans q3⟩
    have go:∀ ex,Q ex st'→Qr ex { a with defers:=markOf w.heap.size::a.defers } W5:=fun ex hq =>
      hk ex _ st' { a with defers:=markOf w.heap.size::a.defers } W5 hq (hmw.act rfl) hmk hx5
    refine ⟨pend es1,W5,hle,?_⟩
    rcases z4 with z4 | z4 | ⟨id,z4⟩
    · rw [z4];exact go .normal (z1 z4)
    · rw [z4];exact wpIn_ret (go .ret (z2 z4))
    · rw [z4];exact wpIn_exit (go (.exit id) (z3 id z4))
end
end Go.Sx
namespace Go.Sx
open Go Go.RowKit
variable [G:Ghost]
def intsOf:List CV→Option (List Int)
  | []=>some []
  | .val (.int .i64 x)::r=>match intsOf r with
    | some l=>some (x::l)
    | none=>none
  | _=>none
def foldY:List (List CV)→YF→List (List CV)→Option (List (List CV))
  | [],_,es=>some es
  | x::r,yf,es=>match yf es x with
    | some (true,es')=>foldY r yf es'
    | some (false,es')=>some es'
    | none=>none
structure Its (P:Program) (sg:FuncId→Option Sig) (M:Den):Prop where
  itj:∀ f caps rows sh,sg f=none→M f caps=some [.row 0 rows,shC sh]→entB P f=true∧IterJ P f caps sh (foldY rows)
  it:∀ f caps out xs,sg f=none→M f caps=some out→intsOf out=some xs→entB P f=true∧IterP P f caps xs
def hasRF:Code→Bool
  | .rangeFunc ..=>true
  | .seq a b=>hasRF a || hasRF b
  | .block _ c=>hasRF c
  | .cond _ a b=>hasRF a || hasRF b
  | .loop c=>hasRF c
  | .scope c=>hasRF c
  | _=>false
def rangeL (step:Int→List CV→Option Ou):List Int→List CV→Option Ou
  | [],vs=>some (.nx vs)
  | x::xs,vs=>match step x vs with
    | some (.nx vs')=>rangeL step xs vs'
    | o=>o
open Classical in
noncomputable def rangeO (it:Option (List Int)) (step:Int→List CV→Option Ou) (vs:List CV):Option Ou:=match it with
  | some xs=>if ∀ l,rangeL step l vs≠none then rangeL step xs vs else none
  | none=>none
theorem rangeO_some {it:Option (List Int)} {step:Int→List CV→Option Ou} {vs:List CV} {r:Ou} (h:rangeO it step vs=some r):∃ xs,it=some xs∧(∀ l,rangeL step l vs≠none)∧rangeL step xs vs=some r:=by
  have _:=G
  unfold rangeO at h
  split at h
  · split at h
    · rename_i xs hl;exact ⟨xs,rfl,hl,h⟩
    · cases h
  · cases h
theorem rangeL_app {step:Int→List CV→Option Ou}:∀ (l l':List Int) (vs:List CV),rangeL step (l++l') vs=match rangeL step l vs with
    | some (.nx vs')=>rangeL step l' vs'
    | o=>o
  | [],l',vs=>have _:=G;rfl
  | x::l,l',vs=>by
    simp only [List.cons_append,rangeL]
    cases step x vs with
    | none=>rfl
    | some o=>cases o with
      | nx vs'=>exact rangeL_app l l' vs'
      | _=>rfl
def itV (sg:FuncId→Option Sig) (M:Den) (c:CV):Option (List Int):=match c with
  | .fn f caps=>match sg f with
    | none=>match M f caps with
      | some out=>intsOf out
      | none=>none
    | some _=>none
  | _=>none
theorem itV_some {sg:FuncId→Option Sig} {M:Den} {c:CV} {xs:List Int} (h:itV sg M c=some xs):∃ f caps out,c=.fn f caps∧sg f=none∧M f caps=some out∧intsOf out=some xs:=by
  have _:=G
  unfold itV at h
  split at h
  · rename_i f caps
    split at h
    · rename_i hs
      split at h
      · rename_i out ho;exact ⟨f,caps,out,rfl,hs,ho,h⟩
      · cases h
    · cases h
  · cases h
def rangeK (step:List CV→List CV→Option Ou):List (List CV)→List CV→Option Ou
  | [],vs=>some (.nx vs)
  | x::xs,vs=>match step x vs with
    | some (.nx vs')=>rangeK step xs vs'
    | o=>o
def rangeJO (it:Option (List (List CV))) (step:List CV→List CV→Option Ou) (vs:List CV):Option Ou:=match it with
  | some rows=>rangeK step rows vs
  | none=>none
open Classical in
noncomputable def itVJ (sg:FuncId→Option Sig) (M:Den) (c:CV) (sh:YSh):Option (List (List CV)):=match c with
  | .fn f caps=>match sg f with
    | none=>match M f caps with
      | some [.row 0 rows,c']=>if c'=shC sh then some rows else none
      | _=>none
    | some _=>none
  | _=>none
theorem itVJ_some {sg:FuncId→Option Sig} {M:Den} {c:CV} {sh:YSh} {rows:List (List CV)} (h:itVJ sg M c sh=some rows):∃ f caps,c=.fn f caps∧sg f=none∧M f caps=some [.row 0 rows,shC sh]:=by
  have _:=G
  unfold itVJ at h
  split at h
  · rename_i f caps
    split at h
    · rename_i hs
      split at h
      · rename_i rows' c' ho
        split at h
        · rename_i hc
          cases h
          exact ⟨f,caps,rfl,hs,by rw [ho,hc]⟩
        · cases h
      · cases h
    · cases h
  · cases h
def brO:Option Ou→Option Ou
  | some (.br _ vs)=>some (.nx vs)
  | o=>o
def ouE:Ou→Bool×List (List CV)
  | .nx vs=>(true,[vs])
  | .br _ vs=>(false,[[],vs])
  | .ret l=>(false,[[],[],l])
def yfO (step:List CV→List CV→Option Ou):YF:=fun es x=>match es with
  | [vs]=>(step x vs).map ouE
  | _=>none
def pendO (id:Nat):List (List CV)→Option Code
  | [_,_]=>some (.exit id)
  | [_,_,_]=>some .ret
  | _=>none
theorem foldY_range {step:List CV→List CV→Option Ou}:∀ {rows:List (List CV)} {vs:List CV} {o:Ou},rangeK step rows vs=some o→foldY rows (yfO step) [vs]=some (ouE o).2
  | [],vs,o,h=>by have _:=G;simp only [rangeK,Option.some.injEq] at h;subst h;rfl
  | x::r,vs,o,h=>by
    simp only [rangeK] at h
    simp only [foldY,yfO]
    cases hs:step x vs with
    | none=>rw [hs] at h;cases h
    | some o' =>
      rw [hs] at h
      cases o' with
      | nx vs'=>exact foldY_range h
      | br i vs'=>simp only [Option.some.injEq] at h;subst h;rfl
      | ret l=>simp only [Option.some.injEq] at h;subst h;rfl
def sYs:List Nat→List AV→SS→SS
  | p::ps,x::xs,s=>sYs ps xs (s.put (some p) x s.B s.V)
  | _,_,s=>s
def sRnd (sh:YSh) (x:List CV) (ps:List Nat) (s:SS):SS:=match sh with
  | .clo cs=>sYs ps (Sc.avs cs x 0) s
  | .lent T k=>sYs ps [.own s.V.length 1] ⟨s.n,s.t,s.B,s.V++[⟨true,T,k,1,cR (x.getD 0 dC)⟩]⟩
def SS.killY (sh:YSh) (nv:Nat) (s:SS):SS:=match sh with
  | .clo _=>s
  | .lent _ _=>⟨s.n,s.t,s.B,killV nv s.V⟩
def lkRnd (sh:YSh) (nv:Nat) (l:Lk):Lk:=match sh with
  | .clo _=>l
  | .lent _ _=>⟨l.t,l.b,nv::l.v,nv::l.o⟩
def shOk (n:Nat) (ps:List Nat) (sh:YSh):Bool:=ps.all (fun p=>decide (p<n))&&(decide (sh.np=ps.length)&&match sh with
  | .clo _=>true
  | .lent T _=>decide (T<mapTag))
def YDead (sh:YSh) (s3:St) (j:Nat):Prop:=match sh with
  | .clo _=>True
  | .lent _ _=>∀ v,s3.V[j]? = some v→v.live=false
def lkX (h:Hint) (lk:Lk) (s:SS):Lk:=⟨lk.t,lk.b,lk.v,(List.range s.V.length).filter fun i=>!h.vxu.contains i⟩
def SS.back (s:SS) (ks:List Nat) (s':SS):SS:=⟨s.n,(s.kept ks).t,s'.B,s'.V⟩
def noM (V:List Vec):Bool:=V.all fun v=>decide (v.T<mapTag)
def sIn (p:Nat) (dd:Option Nat) (x:Int) (s:SS):SS:=(s.put (some p) (.cv (.val (.int .i64 x))) s.B s.V).put dd (.cv (.val (.int .i64 x))) s.B s.V
section
variable (P:Program) (sg:FuncId→Option Sig) (M:Den)
noncomputable def evT (inl:List (Option Nat×Hint×HT)→IN) (rt:SS→Option Ou):Code→HT→Lk→SS→(SS→Option Ou)→Option Ou
  | .seq a b,.two x y,lk,s,K=>match hasRF (.seq a b) with
    | true=>evT inl rt a x lk s fun s'=>evT inl rt b y lk s' K
    | false=>evC P sg M inl rt (.seq a b) (.two x y) lk [] s K
  | .cond c a b,.cond none x y,lk,s,K=>match hasRF (.cond c a b) with
    | true=>match s.ev c with
      | .cv (.val (.bool t))=>iteB t (evT inl rt a x lk s K) (evT inl rt b y lk s K)
      | _=>none
    | false=>evC P sg M inl rt (.cond c a b) (.cond none x y) lk [] s K
  | .block id c,.thru x,lk,s,K=>match hasRF (.block id c) with
    | true=>evT inl rt c x lk s K
    | false=>evC P sg M inl rt (.block id c) (.thru x) lk [] s K
  | .block id c,.rg sh h x y,lk,s,K=>match c with
    | .rangeFunc g ps assign body =>
      if (hintOk h lk s&&hintOk h (lkX h lk s) s&&h.vars.isEmpty&&(cntNew s.V.length (h.vx.map (·.1)) == 0)&&shOk s.n ps.toList sh)=true then
        match extH h s with
        | some v0=>match (tmpl h lk s v0).ev g with
          | .cv c=>seqO (brO (rangeJO (itVJ sg M c sh) (fun x1 vs=>evC P sg M inl (fun _=>none) assign x (lkRnd sh s.V.length (lkCall h lk s)) [] (sRnd sh x1 ps.toList (tmpl h lk s vs)) fun s1 =>
              evC P sg M inl (fun s'=>rt ((s.back (h.keep++lk.t) s').killY sh s.V.length)) body y (lkRnd sh s.V.length (lkCall h lk s)) [(id,h)] s1 fun s'=>(extH h (s.back (h.keep++lk.t) s')).map .nx) v0)) fun vs=>K (tmpl h lk s vs)
          | _=>none
        | none=>none
      else none
    | _=>none
  | .scope c,x,lk,s,K=>match hasRF (.scope c) with
    | true=>evT inl rt c x lk s K
    | false=>evC P sg M inl rt (.scope c) x lk [] s K
  | .rangeFunc g ps assign body,.lp [] h y,lk,s,K=>match ps.toList with
      | [p]=>match assignOf p assign with
        | some dd=>if (hintOk h lk s&&hintOk h (lkX h lk s) s&&h.vars.isEmpty&&decide (p<s.n)&&noM s.V&&h.vx.all fun p=>decide (p.2.1<mapTag))=true then
            match extH h s with
            | some v0=>match (tmpl h lk s v0).ev g with
              | .cv c=>seqO (rangeO (itV sg M c) (fun x vs=>evC P sg M inl (fun s'=>if noM s'.V=true then rt (s.back (h.keep++lk.t) s') else none) body y (lkCall h lk s) [] (sIn p dd x (tmpl h lk s vs)) fun s'=>(extH h (s.back (h.keep++lk.t) s')).map .nx) v0) fun vs=>K (tmpl h lk s vs)
              | _=>none
            | none=>none
          else none
        | none=>none
      | _=>none
  | c,ht,lk,s,K=>evC P sg M inl rt c ht lk [] s K
end
section
variable {P:Program} {sg:FuncId→Option Sig} {M:Den} {F:Fence} {n:Nat}
theorem Em.dm {m:Emb} {s:SS} {st:St} (h:Em m s st) (hn:noM s.V=true):Em m s (dmS st):=by
  have _:=G
  refine ⟨h.t,h.ti,⟨h.m.bl,h.m.vl,h.m.ol,h.m.b,fun i v hi hl=>?_,fun i hi=>?_,h.m.bi,h.m.vi⟩⟩
  · have h1:=h.m.v i v hi hl
    have hT:v.T<mapTag:=of_decide_eq_true (List.all_eq_true.1 hn v (List.mem_of_getElem? hi))
    show (dmV st.V)[m.fv i]? = _
    simp only [dmV,List.getElem?_map,h1,Option.map_some,Vec.cz,hT,decide_true,Bool.and_true]
  · show m.fv i<(dmV st.V).length
    simpa [dmV] using h.m.vlt i hi
theorem dmV_dmV (V:List Vec):dmV (dmV V)=dmV V:=by
  have _:=G
  simp only [dmV,List.map_map]
  refine List.map_congr_left fun v _=>?_
  simp only [Function.comp,Bool.and_assoc,Bool.and_self]
theorem Adv.dm {lk:Lk} {m m':Emb} {s s':SS} {st st':St} (h:Adv lk m s (dmS st) m' s' st'):Adv lk m s (dmS st) m' s' (dmS st'):=by
  refine ⟨⟨h.stp.up,h.stp.bl,?_,h.stp.bn,h.stp.vn,h.stp.bf,fun j hj hn=>?_⟩,h.n,h.bl,h.vl,h.t,h.b,h.v,h.o⟩
  · show (dmS st).V.length≤(dmV st'.V).length
    rw [show (dmV st'.V).length=st'.V.length by simp [dmV]];exact h.stp.vl
  · have h1:=h.stp.vf j hj hn
    show (dmV st'.V)[j]? = (dmV st.V)[j]?
    have h2:st'.V[j]? = (dmV st.V)[j]?:=h1
    rw [← dmV_dmV st.V,dmV,List.getElem?_map,h2,← List.getElem?_map]
    rfl
theorem tmplV_noM {h:Hint} {lk:Lk} {s:SS} (h1:noM s.V=true) (h2:(h.vx.all fun p=>decide (p.2.1<mapTag))=true) (vs:List CV):noM (tmpl h lk s vs).V=true:=by
  have _:=G
  have bld:∀ (l:List (Nat×TypeId×Nat×Option Nat)) (i p:Nat) (v:Vec),(l.all fun p=>decide (p.2.1<mapTag))=true→bldV l i vs p=some v→v.T<mapTag:=by
    intro l
    induction l with
    | nil=>intro i p v _ h;simp [bldV] at h
    | cons q r ih =>
      obtain ⟨j,T,k,g⟩:=q
      intro i p v hall h
      simp only [List.all_cons,Bool.and_eq_true,decide_eq_true_eq] at hall
      simp only [bldV] at h
      split at h
      · cases h;exact hall.1
      · exact ih i (p+1) v hall.2 h
  unfold noM
  rw [List.all_eq_true]
  intro v hv
  simp only [tmpl,tmplV,List.mem_map,List.mem_range] at hv
  obtain ⟨i,_,rfl⟩:=hv
  rw [decide_eq_true_eq]
  split
  · rename_i v hv;exact bld _ _ _ v h2 hv
  · by_cases hi:i<s.V.length
    · rw [List.getD,List.getElem?_eq_getElem hi]
      exact of_decide_eq_true (List.all_eq_true.1 h1 _ (List.getElem_mem hi))
    · rw [List.getD,List.getElem?_eq_none (by omega)]
      show 0<mapTag
      decide
theorem Em.sYs {m:Emb}:∀ {ps:List Nat} {xs:List AV} {s:SS} {st:St},Em m s st→AV.inns s.B.length s.V.length xs=true→Em m (Go.Sx.sYs ps xs s) ⟨setAll st.t ps (AV.czs m xs),st.B,st.V⟩
  | [],_,s,st,h,_=>by simpa [Go.Sx.sYs,setAll] using h
  | p::ps,[],s,st,h,_=>by simpa [Go.Sx.sYs,setAll,AV.czs] using h
  | p::ps,x::xs,s,st,h,hx=>by
    simp only [AV.inns,Bool.and_eq_true] at hx
    simp only [Go.Sx.sYs,setAll,AV.czs]
    exact Em.sYs (h.put h.m (Emb.Up.refl _) (fun _ _=>rfl) (Nat.le_refl _) (Nat.le_refl _) hx.1 (some p)) hx.2
theorem sYs_BV:∀ (ps:List Nat) (xs:List AV) (s:SS),(sYs ps xs s).B=s.B∧(sYs ps xs s).V=s.V∧(sYs ps xs s).n=s.n
  | [],_,s=>by have _:=G;simp [sYs]
  | p::ps,[],s=>by simp [sYs]
  | p::ps,x::xs,s=>sYs_BV ps xs _
theorem Adv.lkle {lk lk':Lk} {m m':Emb} {s s':SS} {st st':St} (h:Adv lk m s st m' s' st') (ht:∀ d∈lk'.t,d∈lk.t) (hb:∀ d∈lk'.b,d∈lk.b) (hv:∀ d∈lk'.v,d∈lk.v) (ho:∀ d∈lk'.o,d∈lk.o):Adv lk' m s st m' s' st':=have _:=G;
  ⟨h.stp,h.n,h.bl,h.vl,fun d hd=>h.t d (ht d hd),fun d hd=>h.b d (hb d hd),fun d hd=>h.v d (hv d hd),fun d hd=>h.o d (ho d hd)⟩
theorem Em.killSt {m:Emb} {s:SS} {st:St} (h:Em m s st) {j:Nat} (hj:∀ i,i<s.V.length→m.fv i≠j):Em m s ⟨st.t,st.B,killV j st.V⟩:=by
  refine ⟨h.t,h.ti,⟨h.m.bl,h.m.vl,h.m.ol,h.m.b,fun i v hi hl=>?_,fun i hi=>?_,h.m.bi,h.m.vi⟩⟩
  · have hil:=(List.getElem?_eq_some_iff.1 hi).1
    show (killV j st.V)[m.fv i]? = _
    rw [killV_get,h.m.v i v hi hl]
    simp [hj i hil]
  · show m.fv i<(killV j st.V).length
    rw [killV_length];exact h.m.vlt i hi
theorem Em.killSS {m:Emb} {s:SS} {st:St} (h:Em m s st) {nv:Nat} (hnv:nv<s.V.length) {x:Vec} (hx:s.V[nv]? = some x) (hT:x.T≠ghT):Em m ⟨s.n,s.t,s.B,killV nv s.V⟩ ⟨st.t,st.B,killV (m.fv nv) st.V⟩:=by
  have hl:(killV nv s.V).length=s.V.length:=killV_length _ _
  refine ⟨h.t,fun p hp=>by show AV.inn s.B.length (killV nv s.V).length p.2=true;rw [hl];exact h.ti p hp,⟨h.m.bl,by rw [hl];exact h.m.vl,by rw [hl];exact h.m.ol,fun i b hb=>by rw [hl];exact h.m.b i b hb,fun i v hi hlv=>?_,fun i hi=>?_,h.m.bi,fun i j hi hj=>h.m.vi i j (by rw [← hl];exact hi) (by rw [← hl];exact hj)⟩⟩
  · have hi:(killV nv s.V)[i]? = some v:=hi
    rw [killV_get,Option.map_eq_some_iff] at hi
    obtain ⟨v0,h1,rfl⟩:=hi
    have hil:=(List.getElem?_eq_some_iff.1 h1).1
    by_cases hin:i=nv
    · subst hin
      rw [hx] at h1;cases h1
      simp only [if_true] at hlv
      rcases hlv with hlv | hlv
      · cases hlv
      · exact absurd hlv hT
    · simp only [hin,if_false] at hlv ⊢
      show (killV (m.fv nv) st.V)[m.fv i]? = _
      rw [killV_get,h.m.v i v0 h1 hlv]
      have:m.fv i≠m.fv nv:=fun he=>hin (h.m.vi i nv hil hnv he)
      simp [this]
  · show m.fv i<(killV _ st.V).length
    have hi:i<(killV nv s.V).length:=hi
    rw [killV_length];rw [hl] at hi;exact h.m.vlt i hi
theorem Adv.killSt {lk:Lk} {m m':Emb} {s s':SS} {st st':St} (h:Adv lk m s st m' s' st') {j:Nat} (hj:st.V.length≤j):Adv lk m s st m' s' ⟨st'.t,st'.B,killV j st'.V⟩:=by
  refine ⟨⟨h.stp.up,h.stp.bl,?_,h.stp.bn,h.stp.vn,h.stp.bf,fun i hi hn=>?_⟩,h.n,h.bl,h.vl,h.t,h.b,h.v,h.o⟩
  · show st.V.length≤(killV j st'.V).length
    rw [killV_length];exact h.stp.vl
  · show (killV j st'.V)[i]? = _
    rw [killV_get,h.stp.vf i hi hn]
    have:i≠j:=by omega
    simp [this]
theorem W2_scope {c:Code} {st:St} {Q:Exit→St→Prop} (h:W2 F n P c st (noGo Q)):W2 F n P (.scope c) st Q:=by
  intro n0 w0 m0 e a w Qr hr hm hm0 hk
  refine wpIn_scope (h n0 w0 m0 e a w _ hr hm hm0 ?_)
  intro ex e' st' a' w' hq hrel hdf hx
  cases ex with
  | goto l=>exact hq.elim
  | _=>exact hk _ e' st' a' w' hq hrel hdf hx
open Classical in
theorem evT_rg (hM:Fns P sg M) (hT:Its P sg M) (hF:Free F) (hro:F.round=none) {inl:List (Option Nat×Hint×HT)→IN} (hI:∀ (F:Fence) (n:Nat),Free F→∀ il,InOK F n P (inl il)) {rt:SS→Option Ou} (hrt:∀ s o,rt s=some o→∃ l,o=.ret l)
    {id:Nat} {g:Operand} {ps:Array Tmp} {assign body:Code} {sh:YSh} {h0:Hint} {x y:HT} {lk:Lk} {sA:SS} {K:SS→Option Ou} {r:Ou} {mA:Emb} {stA:St} {Q:Exit→St→Prop} (hEA:Em mA sA stA)
    (h:(if (hintOk h0 lk sA&&hintOk h0 (lkX h0 lk sA) sA&&h0.vars.isEmpty&&(cntNew sA.V.length (h0.vx.map (·.1)) == 0)&&shOk sA.n ps.toList sh)=true then
        match extH h0 sA with
        | some v0=>match (tmpl h0 lk sA v0).ev g with
          | .cv c=>seqO (brO (rangeJO (itVJ sg M c sh) (fun x1 vs=>evC P sg M inl (fun _=>none) assign x (lkRnd sh sA.V.length (lkCall h0 lk sA)) [] (sRnd sh x1 ps.toList (tmpl h0 lk sA vs)) fun s1 =>
              evC P sg M inl (fun s'=>rt ((sA.back (h0.keep++lk.t) s').killY sh sA.V.length)) body y (lkRnd sh sA.V.length (lkCall h0 lk sA)) [(id,h0)] s1 fun s'=>(extH h0 (sA.back (h0.keep++lk.t) s')).map .nx) v0)) fun vs=>K (tmpl h0 lk sA vs)
          | _=>none
        | none=>none
      else none)=some r)
    (hK:∀ m' s' st',K s'=some r→Em m' s' st'→Q .normal st')
    (hR:∀ m' s' st',rt s'=some r→Em m' s' st'→Q .ret st'):W2 F n P (.block id (.rangeFunc g ps assign body)) stA Q:=by
  split at h
  case isFalse=>cases h
  rename_i hc
  simp only [Bool.and_eq_true,beq_iff_eq,List.isEmpty_iff] at hc
  obtain ⟨⟨⟨⟨hok,hokX⟩,hvars⟩,hcnt⟩,hsh⟩:=hc
  simp only [shOk,Bool.and_eq_true,decide_eq_true_eq] at hsh
  obtain ⟨hps,hnp,hshT⟩:=hsh
  split at h
  case h_2=>cases h
  rename_i v0 hv0
  split at h
  case h_2=>cases h
  rename_i c hg
  generalize hstep:(fun (x1 vs:List CV)=>evC P sg M inl (fun _=>none) assign x (lkRnd sh sA.V.length (lkCall h0 lk sA)) [] (sRnd sh x1 ps.toList (tmpl h0 lk sA vs)) fun s1 =>
              evC P sg M inl (fun s'=>rt ((sA.back (h0.keep++lk.t) s').killY sh sA.V.length)) body y (lkRnd sh sA.V.length (lkCall h0 lk sA)) [(id,h0)] s1 fun s'=>(extH h0 (sA.back (h0.keep++lk.t) s')).map .nx)=step at h
  obtain ⟨r0,hr0⟩:∃ r0,rangeJO (itVJ sg M c sh) step v0=some r0:=by
    cases hh:rangeJO (itVJ sg M c sh) step v0 with
    | none=>rw [hh] at h;simp [brO,seqO] at h
    | some r0=>exact ⟨r0,rfl⟩
  have hr0':=hr0
  unfold rangeJO at hr0
  split at hr0
  case h_2=>cases hr0
  rename_i rows hit
  obtain ⟨f,caps,rfl,hsf,hMf⟩:=itVJ_some hit
  obtain ⟨hen,hIter⟩:=hT.itj f caps rows sh hsf hMf
  have hfold:=foldY_range hr0
  rw [hr0'] at h
  have hnv:∀ vs,(tmpl h0 lk sA vs).V.length=sA.V.length:=fun vs=>by simp [tmpl,tmplV,hcnt]
  obtain ⟨o1,o2,o3,o4,o5,o6,o7,o8,o9,o10⟩:=hintOk_spec hok
  have hslots:∀ vs,(tmpl h0 lk sA vs).t=(sA.kept (h0.keep++lk.t)).t:=by
    intro vs
    simp only [tmpl,hvars,bldT,List.append_nil,SS.kept]
  have hext:∀ s':SS,extH h0 s'=extH h0 (sA.back (h0.keep++lk.t) s'):=by
    intro s'
    have hE:∀ (s1 s2:SS) (l:List (Nat×TypeId×List Sh)),s1.B=s2.B→s1.V=s2.V→extB s1 l=extB s2 l:=by
      intro s1 s2 l hb hv
      induction l with
      | nil=>rfl
      | cons q l ih=>obtain ⟨i,T,hs⟩:=q;simp only [extB,hb,hv,ih]
    have hE2:∀ (s1 s2:SS) (l:List (Nat×TypeId×Nat×Option Nat)),s1.V=s2.V→extV s1 l=extV s2 l:=by
      intro s1 s2 l hv
      induction l with
      | nil=>rfl
      | cons q l ih=>obtain ⟨i,T,k,g⟩:=q;simp only [extV,hv,ih]
    unfold extH
    rw [hvars]
    simp only [List.map_nil,SS.back]
    rw [hE s' ⟨sA.n,(sA.kept (h0.keep++lk.t)).t,s'.B,s'.V⟩ _ rfl rfl,hE2 s' ⟨sA.n,(sA.kept (h0.keep++lk.t)).t,s'.B,s'.V⟩ _ rfl]
  obtain ⟨m1,st1,q1,q2,q3⟩:=tmpl_ok (st0:=stA) (lk:=lkX h0 lk sA) hEA hEA (Adv.refl _ _ _ _) hv0 hokX
  refine W2_pre q1 (W2_block ?_)
  refine W2_rangeJ hF hro (sh:=sh) (R:=foldY rows) (yf:=yfO step) (es0:=[v0]) (es1:=(ouE r0).2) (f:=f) (caps:=caps)
    (fun es st'=>(∃ vs m',(es=[vs]∨es=[[],vs])∧Em m' (tmpl h0 lk sA vs) st'∧Adv (lkIn h0 (lkX h0 lk sA) sA) mA sA stA m' (tmpl h0 lk sA vs) st')∨(∃ l m' s',es=[[],[],l]∧rt s'=some (.ret l)∧Em m' s' st')) (pendO id)
    (by rw [hnp];simp) ?_ hen hIter hfold (.inl ⟨v0,m1,.inl rfl,q2,q3⟩) rfl ?_ ?_
  · rw [q2.ev];show AV.cz m1 ((tmpl h0 lk sA v0).ev g)=_;rw [hg];simp [AV.cz]
  · 
    intro F' n' hF' es x1 b es' st' hyf hIs
    obtain ⟨vs,rfl⟩:∃ vs,es=[vs]:=by
      unfold yfO at hyf
      split at hyf
      · exact ⟨_,rfl⟩
      · cases hyf
    simp only [yfO,Option.map_eq_some_iff] at hyf
    obtain ⟨o,ho,hoe⟩:=hyf
    obtain ⟨vs2,m',hvs,g2,g3⟩ | ⟨l,m',s',hvs,_⟩:=hIs
    rotate_left
    · simp at hvs
    obtain rfl:vs=vs2:=by rcases hvs with hvs | hvs <;> simp at hvs <;> exact hvs
    refine ⟨rfl,?_⟩
    rw [← hstep] at ho
    simp only at ho
    obtain ⟨mB,hEB,hAB,hnew⟩:∃ mB,Em mB (sRnd sh x1 ps.toList (tmpl h0 lk sA vs)) (stY sh x1 ps.toList st')∧Adv (lkCall h0 lk sA) m' (tmpl h0 lk sA vs) st' mB (sRnd sh x1 ps.toList (tmpl h0 lk sA vs)) (stY sh x1 ps.toList st') ∧
        (match sh with | .clo _=>True | .lent T k=>mB.fv sA.V.length=st'.V.length∧mB.fo sA.V.length=0∧(sRnd sh x1 ps.toList (tmpl h0 lk sA vs)).V=(tmpl h0 lk sA vs).V++[⟨true,T,k,1,cR (x1.getD 0 dC)⟩]):=by
      cases sh with
      | clo cs =>
        obtain ⟨p1,p2⟩:=Sc.avs_pl cs x1 0 m' (tmpl h0 lk sA vs).B.length (tmpl h0 lk sA vs).V.length
        have hE1:=g2.sYs (ps:=ps.toList) p2
        rw [p1] at hE1
        obtain ⟨z1,z2,z3⟩:=sYs_BV ps.toList (Sc.avs cs x1 0) (tmpl h0 lk sA vs)
        refine ⟨m',hE1,⟨Stp.refl _ _ _,z3,by show _≤(sYs _ _ _).B.length;rw [z1];exact Nat.le_refl _,by show _≤(sYs _ _ _).V.length;rw [z2];exact Nat.le_refl _,fun d hd=>by simp [lkCall] at hd,fun i _ _=>by show (sYs _ _ _).B[i]? = _;rw [z1],fun i _ _=>by show (sYs _ _ _).V[i]? = _;rw [z2],fun _ _ _=>rfl⟩,trivial⟩
      | lent T k =>
        have hl:m'.vb.length=m'.vm.length:=by rw [g2.m.ol,g2.m.vl]
        have hfo:=Emb.pushV_fo (m:=m') st'.V.length hl
        have hup:=Emb.pushV_up m' st'.V.length
        have hlen:m'.vm.length=sA.V.length:=by rw [g2.m.vl,hnv]
        have hE1:Em (m'.pushV st'.V.length) ⟨(tmpl h0 lk sA vs).n,(tmpl h0 lk sA vs).t,(tmpl h0 lk sA vs).B,(tmpl h0 lk sA vs).V++[⟨true,T,k,1,cR (x1.getD 0 dC)⟩]⟩ ⟨st'.t,st'.B,st'.V++[⟨true,T,k,1,cR (x1.getD 0 dC)⟩]⟩:=by
          have:=g2.put (g2.m.pushV (v:=⟨true,T,k,1,cR (x1.getD 0 dC)⟩)) hup hfo (Nat.le_refl _) (by simp) (x:=.any) rfl none
          simpa [SS.put,St.put] using this
        have hE2:=hE1.sYs (ps:=ps.toList) (xs:=[.own (tmpl h0 lk sA vs).V.length 1]) (by simp [AV.inns,AV.inn])
        have hv1:(m'.pushV st'.V.length).fv sA.V.length=st'.V.length:=by rw [← hlen];exact Emb.pushV_new _ _
        have hv2:(m'.pushV st'.V.length).fo sA.V.length=0:=by rw [← hlen];exact Emb.pushV_new0 _ hl
        obtain ⟨z1,z2,z3⟩:=sYs_BV ps.toList [.own (tmpl h0 lk sA vs).V.length 1] ⟨(tmpl h0 lk sA vs).n,(tmpl h0 lk sA vs).t,(tmpl h0 lk sA vs).B,(tmpl h0 lk sA vs).V++[⟨true,T,k,1,cR (x1.getD 0 dC)⟩]⟩
        refine ⟨m'.pushV st'.V.length,?_,⟨Stp.pushV _,z3,by show _≤(sYs _ _ _).B.length;rw [z1];exact Nat.le_refl _,by show _≤(sYs _ _ _).V.length;rw [z2];simp,fun d hd=>by simp [lkCall] at hd,fun i _ _=>by show (sYs _ _ _).B[i]? = _;rw [z1],fun i _ hi=>by show (sYs _ _ _).V[i]? = _;rw [z2];exact List.getElem?_append_left hi,fun i _ hi=>hfo i (by rw [g2.m.vl];exact hi)⟩,hv1,hv2,?_⟩
        · have hcz:AV.czs (m'.pushV st'.V.length) [.own (tmpl h0 lk sA vs).V.length 1]=[.own st'.V.length 1]:=by
            simp [AV.czs,AV.cz,hnv,hv1,hv2]
          rw [hcz] at hE2
          exact hE2
        · exact z2
    have hlkt:∀ (m2:Emb) (s2:SS) (st2:St),Adv (lkRnd sh sA.V.length (lkCall h0 lk sA)) mB (sRnd sh x1 ps.toList (tmpl h0 lk sA vs)) (stY sh x1 ps.toList st') m2 s2 st2→Adv (lkCall h0 lk sA) m' (tmpl h0 lk sA vs) st' m2 s2 st2:=by
      intro m2 s2 st2 ha
      refine hAB.trans (ha.lkle ?_ ?_ ?_ ?_) <;> cases sh <;> simp [lkRnd] <;> intro d hd <;> simp [hd]
    have back:∀ {m2:Emb} {s2:SS} {st2:St},Em m2 s2 st2→Adv (lkCall h0 lk sA) m' (tmpl h0 lk sA vs) st' m2 s2 st2 →
        Em m2 (sA.back (h0.keep++lk.t) s2) ⟨st'.t,st2.B,st2.V⟩∧Adv (lkIn h0 (lkX h0 lk sA) sA) mA sA stA m2 (sA.back (h0.keep++lk.t) s2) ⟨st'.t,st2.B,st2.V⟩:=by
      intro m2 s2 st2 hE2 ha
      have hbl:sA.B.length≤(tmpl h0 lk sA vs).B.length:=g3.bl
      have hvl:sA.V.length≤(tmpl h0 lk sA vs).V.length:=g3.vl
      have hcz:∀ d∈h0.keep++lk.t,(sA.get d).cz m'=(sA.get d).cz m2:=fun d hd =>
        AV.cz_noV (nb:=sA.B.length) (nv:=sA.V.length) (fun j hj=>(ha.stp.up.b j (by rw [g2.m.bl];omega)).symm) (fun j hj=>(ha.stp.up.v j (by rw [g2.m.vl];omega)).symm)
          (fun j hj hcj=>(ha.o j (by simp only [lkCall,List.mem_filter,List.mem_range,hcj];exact ⟨hj,rfl⟩) (by omega)).symm) _ (hEA.inn d) (o1 d hd)
      refine ⟨⟨?_,fun q hq=>?_,hE2.m⟩,?_⟩
      · show st'.t=mkT sA.n ((sA.kept (h0.keep++lk.t)).t.map fun p=>(p.1,p.2.cz m2))
        rw [g2.t,hslots]
        show mkT sA.n _=_
        congr 1
        simp only [SS.kept,List.map_map]
        exact List.map_congr_left fun d hd=>by simp only [Function.comp];rw [hcz d hd]
      · simp only [SS.back,SS.kept,List.mem_map] at hq
        obtain ⟨d,_,rfl⟩:=hq
        have h1:=ha.bl
        have h2:=ha.vl
        exact AV.inn_mono (Nat.le_trans hbl h1) (Nat.le_trans hvl h2) _ (hEA.inn d)
      · have h1:=ha.bl
        have h2:=ha.vl
        refine ⟨g3.stp.trans ha.stp,rfl,Nat.le_trans hbl h1,Nat.le_trans hvl h2,fun d hd=>?_,fun i hi hil=>?_,fun i hi hil=>?_,fun i hi hil=>?_⟩
        · exact SS.kept_get hd
        · exact (ha.b i hi (by omega)).trans (g3.b i hi hil)
        · exact (ha.v i hi (by omega)).trans (g3.v i hi hil)
        · exact (ha.o i hi (by omega)).trans (g3.o i hi hil)
    have hstV:stA.V.length≤st'.V.length:=g3.stp.vl
    have hlent:∀ (m2:Emb) (s2:SS) (st2:St),Em m2 s2 st2→Adv (lkRnd sh sA.V.length (lkCall h0 lk sA)) mB (sRnd sh x1 ps.toList (tmpl h0 lk sA vs)) (stY sh x1 ps.toList st') m2 s2 st2 →
        (match sh with | .clo _=>True | .lent T k=>s2.V[sA.V.length]? = some ⟨true,T,k,1,cR (x1.getD 0 dC)⟩∧m2.fv sA.V.length=st'.V.length∧st2.V[st'.V.length]? = some ⟨true,T,k,1,cR (x1.getD 0 dC)⟩):=by
      intro m2 s2 st2 hE2 ha
      cases sh with
      | clo cs=>trivial
      | lent T k =>
        obtain ⟨w1,w2,w3⟩:=hnew
        have hlt:sA.V.length<(sRnd (.lent T k) x1 ps.toList (tmpl h0 lk sA vs)).V.length:=by rw [w3];simp [hnv]
        have e1:=ha.v sA.V.length (by simp [lkRnd]) hlt
        rw [w3,List.getElem?_append_right (by rw [hnv];exact Nat.le_refl _),hnv,Nat.sub_self] at e1
        have e2:=ha.o sA.V.length (by simp [lkRnd]) hlt
        have e3:=ha.stp.up.v sA.V.length (by rw [hEB.m.vl];exact hlt)
        have e4:=hE2.m.v _ _ e1 (.inl rfl)
        rw [e3,w1] at e4
        refine ⟨e1,e3.trans w1,?_⟩
        rw [e4]
        simp [Vec.cz,e2,w2]
    have hrt':∀ (s:SS) (o:Ou),(fun s'=>rt ((sA.back (h0.keep++lk.t) s').killY sh sA.V.length)) s=some o→∃ l,o=.ret l:=fun s o hs=>hrt _ o hs
    have again:∀ (m2:Emb) (s2:SS) (st2:St) (vs2:List CV),Em m2 s2 st2→Adv (lkRnd sh sA.V.length (lkCall h0 lk sA)) mB (sRnd sh x1 ps.toList (tmpl h0 lk sA vs)) (stY sh x1 ps.toList st') m2 s2 st2→extH h0 (sA.back (h0.keep++lk.t) s2)=some vs2 →
        ∃ s3 m3,Wkd ⟨st'.t,st2.B,st2.V⟩ s3∧Em m3 (tmpl h0 lk sA vs2) s3∧Adv (lkIn h0 (lkX h0 lk sA) sA) mA sA stA m3 (tmpl h0 lk sA vs2) s3∧YDead sh s3 st'.V.length:=by
      intro m2 s2 st2 vs2 hE2 ha hx
      obtain ⟨b1,b2⟩:=back hE2 (hlkt _ _ _ ha)
      obtain ⟨m3,st3,w1,w2,w3,w4⟩:=tmpl_ok' (lk:=lkX h0 lk sA) hEA b1 b2 hx hokX
      have w4':∀ i,i<sA.V.length→m3.fv i=m2.fv i:=fun i hi=>w4 i (by rw [show (tmpl h0 (lkX h0 lk sA) sA vs2).V.length=sA.V.length from hnv vs2];exact hi)
      cases sh with
      | clo cs=>exact ⟨st3,m3,w1.d,w2,w3,trivial⟩
      | lent T k =>
        obtain ⟨l1,l2,l3⟩:=hlent _ _ _ hE2 ha
        have hs2:sA.V.length<s2.V.length:=(List.getElem?_eq_some_iff.1 l1).1
        refine ⟨⟨st3.t,st3.B,killV st'.V.length st3.V⟩,m3,w1.d.trans (Wkd.kill st3 _ ?_),w2.killSt ?_,w3.killSt hstV,?_⟩
        · intro v hv
          rw [w1.V] at hv
          have hv:st2.V[st'.V.length]? = some v:=hv
          rw [l3] at hv;cases hv
          exact Nat.ne_of_lt (of_decide_eq_true hshT)
        · intro i hi he
          have hi':i<sA.V.length:=by rw [← hnv vs2];exact hi
          rw [w4' i hi',← l2] at he
          have:=hE2.m.vi i sA.V.length (by omega) hs2 he
          omega
        · intro v hv
          have hv:(killV st'.V.length st3.V)[st'.V.length]? = some v:=hv
          rw [killV_get,Option.map_eq_some_iff] at hv
          obtain ⟨v',_,rfl⟩:=hv
          simp
    have hBl:st'.B.length≤(stY sh x1 ps.toList st').B.length∧st'.V.length≤(stY sh x1 ps.toList st').V.length:=⟨hAB.stp.bl,hAB.stp.vl⟩
    have endY:∀ (m2:Emb) (s2:SS) (st2:St) (ex:Exit),Em m2 s2 st2→Adv (lkRnd sh sA.V.length (lkCall h0 lk sA)) mB (sRnd sh x1 ps.toList (tmpl h0 lk sA vs)) (stY sh x1 ps.toList st') m2 s2 st2 →
        (∃ s3,Wkd ⟨st'.t,st2.B,st2.V⟩ s3∧((∃ vs m',(es'=[vs]∨es'=[[],vs])∧Em m' (tmpl h0 lk sA vs) s3∧Adv (lkIn h0 (lkX h0 lk sA) sA) mA sA stA m' (tmpl h0 lk sA vs) s3)∨(∃ l m' s',es'=[[],[],l]∧rt s'=some (.ret l)∧Em m' s' s3))∧YDead sh s3 st'.V.length) →
        ((ex=.normal∧pendO id es'=none∧b=true)∨(ex=.ret∧pendO id es'=some .ret∧b=false)∨(∃ i,ex=.exit i∧pendO id es'=some (.exit i)∧b=false)) →
        YEnd sh x1 st' (fun st'=>(∃ vs m',(es'=[vs]∨es'=[[],vs])∧Em m' (tmpl h0 lk sA vs) st'∧Adv (lkIn h0 (lkX h0 lk sA) sA) mA sA stA m' (tmpl h0 lk sA vs) st')∨(∃ l m' s',es'=[[],[],l]∧rt s'=some (.ret l)∧Em m' s' st')) b (pendO id es') ex st2:=by
      rintro m2 s2 st2 ex hE2 ha ⟨s3,y1,y2,y3⟩ hex
      refine ⟨s3,y1,?_,?_,y2,hex,?_⟩
      · rw [y1.Bl];exact Nat.le_trans hBl.1 ha.stp.bl
      · rw [y1.Vl];exact Nat.le_trans hBl.2 ha.stp.vl
      · have:=hlent _ _ _ hE2 ha
        cases sh with
        | clo cs=>trivial
        | lent T k=>exact ⟨this.2.2,y3⟩
    refine evC_sound hM hF' (hI F' n' hF') (fun s o h=>by cases h) assign x _ [] _ _ o mB _ _ hEB ho ?_ (fun _ _ _ _ _ _ h=>by simp [lookH] at h) (fun _ _ _ h=>by cases h)
    intro m2 s2 st2 e1 e2 e3
    refine ⟨rfl,?_⟩
    refine evC_sound hM hF' (hI F' n' hF') hrt' body y _ [(id,h0)] _ _ o m2 _ _ e2 e1 ?_ ?_ ?_
    · intro m3 s3 st3 f1 f2 f3
      simp only [Option.map_eq_some_iff] at f1
      obtain ⟨vs2,f1,rfl⟩:=f1
      cases hoe
      obtain ⟨s4,m4,j1,j2,j3,j4⟩:=again m3 s3 st3 vs2 f2 (e3.trans f3) f1
      exact endY m3 s3 st3 _ f2 (e3.trans f3) ⟨s4,j1,.inl ⟨vs2,m4,.inl rfl,j2,j3⟩,j4⟩ (.inl ⟨rfl,rfl,rfl⟩)
    · intro i hh vs2 m3 s3 st3 f0 f1 f4 f2 f3
      subst f4
      simp only [lookH] at f0
      split at f0
      case isFalse=>cases f0
      rename_i hi
      subst hi
      cases f0
      cases hoe
      rw [hext] at f1
      obtain ⟨s4,m4,j1,j2,j3,j4⟩:=again m3 s3 st3 vs2 f2 (e3.trans f3) f1
      exact endY m3 s3 st3 _ f2 (e3.trans f3) ⟨s4,j1,.inl ⟨vs2,m4,.inr rfl,j2,j3⟩,j4⟩ (.inr (.inr ⟨_,rfl,rfl,rfl⟩))
    · intro m3 s3 st3 f1 f2 f3
      obtain ⟨l,rfl⟩:=hrt _ _ f1
      cases hoe
      obtain ⟨b1,b2⟩:=back f2 (hlkt _ _ _ (e3.trans f3))
      refine endY m3 s3 st3 _ f2 (e3.trans f3) ?_ (.inr (.inl ⟨rfl,rfl,rfl⟩))
      have hl3:=hlent _ _ _ f2 (e3.trans f3)
      cases sh with
      | clo cs=>exact ⟨_,(Wk.refl _).d,.inr ⟨l,m3,_,rfl,f1,b1⟩,trivial⟩
      | lent T k =>
        obtain ⟨l1,l2,l3⟩:=hl3
        refine ⟨⟨st'.t,st3.B,killV st'.V.length st3.V⟩,Wkd.kill ⟨st'.t,st3.B,st3.V⟩ _ ?_,.inr ⟨l,m3,_,rfl,f1,?_⟩,?_⟩
        · intro v hv
          have hv:st3.V[st'.V.length]? = some v:=hv
          rw [l3] at hv;cases hv
          exact Nat.ne_of_lt (of_decide_eq_true hshT)
        · have:=b1.killSS (nv:=sA.V.length) (by exact (List.getElem?_eq_some_iff.1 l1).1) (x:=⟨true,T,k,1,cR (x1.getD 0 dC)⟩) l1 (Nat.ne_of_lt (of_decide_eq_true hshT))
          rw [l2] at this
          exact this
        · intro v hv
          have hv:(killV st'.V.length st3.V)[st'.V.length]? = some v:=hv
          rw [killV_get,Option.map_eq_some_iff] at hv
          obtain ⟨v',_,rfl⟩:=hv
          simp
  · 
    intro st' hIs
    cases r0 with
    | nx vs0 =>
      simp only [brO,seqO] at h
      refine ⟨fun _=>?_,fun hp=>absurd hp (by simp [ouE,pendO]),fun i hp=>absurd hp (by simp [ouE,pendO]),.inl rfl⟩
      obtain ⟨vs,m',hvs,g2,g3⟩ | ⟨l,m',s',hvs,_⟩:=hIs
      · simp only [ouE] at hvs
        obtain rfl:vs0=vs:=by rcases hvs with hvs | hvs <;> simp at hvs <;> exact hvs
        exact hK _ _ _ h g2
      · simp [ouE] at hvs
    | br i vs0 =>
      refine ⟨fun hp=>absurd hp (by simp [ouE,pendO]),fun hp=>absurd hp (by simp [ouE,pendO]),fun j hp=>?_,.inr (.inr ⟨_,rfl⟩)⟩
      simp only [ouE,pendO,Option.some.injEq,Code.exit.injEq] at hp
      subst hp
      obtain ⟨vs,m',hvs,g2,g3⟩ | ⟨l,m',s',hvs,_⟩:=hIs
      · simp only [ouE] at hvs
        obtain rfl:vs0=vs:=by rcases hvs with hvs | hvs <;> simp at hvs <;> exact hvs
        simp only [brO,seqO] at h
        simp only [if_true]
        exact hK _ _ _ h g2
      · simp [ouE] at hvs
    | ret l0 =>
      simp only [brO,seqO,Option.some.injEq] at h
      subst h
      refine ⟨fun hp=>absurd hp (by simp [ouE,pendO]),fun _=>?_,fun i hp=>absurd hp (by simp [ouE,pendO]),.inr (.inl rfl)⟩
      obtain ⟨vs,m',hvs,g2,g3⟩ | ⟨l,m',s',hvs,g2,g3⟩:=hIs
      · simp only [ouE] at hvs;simp at hvs
      · simp only [ouE] at hvs
        simp at hvs
        subst hvs
        exact hR _ _ _ g2 g3
theorem evT_sound (hM:Fns P sg M) (hT:Its P sg M) (hF:Free F) (hro:F.round=none) {inl:List (Option Nat×Hint×HT)→IN} (hI:∀ (F:Fence) (n:Nat),Free F→∀ il,InOK F n P (inl il)) {rt:SS→Option Ou} (hrt:∀ s o,rt s=some o→∃ l,o=.ret l):∀ (c:Code) (ht:HT) (lk:Lk) (s:SS) (K:SS→Option Ou) (r:Ou) (m:Emb) (st:St) (Q:Exit→St→Prop),
    Em m s st→evT P sg M inl rt c ht lk s K=some r →
    (∀ m' s' st',K s'=some r→Em m' s' st'→Q .normal st') →
    (∀ m' s' st',rt s'=some r→Em m' s' st'→Q .ret st') →
    W2 F n P c st Q:=by
  intro c
  have plain:∀ (c:Code) (ht:HT) (lk:Lk) (s:SS) (K:SS→Option Ou) (r:Ou) (m:Emb) (st:St) (Q:Exit→St→Prop),
    Em m s st→evC P sg M inl rt c ht lk [] s K=some r →
    (∀ m' s' st',K s'=some r→Em m' s' st'→Q .normal st') →
    (∀ m' s' st',rt s'=some r→Em m' s' st'→Q .ret st')→W2 F n P c st Q:=
    fun c ht lk s K r m st Q hE h hK hR=>(evC_sound hM hF (hI F n hF) hrt c ht lk [] s K r m st Q hE h (fun m' s' st' g1 g2 _=>hK m' s' st' g1 g2) (fun id h vs m' s' st' h0=>by simp [lookH] at h0) fun m' s' st' g1 g2 _=>hR m' s' st' g1 g2).w2
  induction c with
  | seq a b iha ihb =>
    intro ht lk s K r m st Q hE h hK hR
    cases ht with
    | two x y =>
      simp only [evT] at h
      split at h
      · refine W2_seq (iha x lk s _ r m st _ hE h ?_ ?_)
        · intro m' s' st' h1 h2
          exact ihb y lk s' K r m' st' Q h2 h1 hK hR
        · exact hR
      · exact plain _ _ _ _ _ _ _ _ _ hE h hK hR
    | _=>simp only [evT] at h;exact plain _ _ _ _ _ _ _ _ _ hE h hK hR
  | cond c a b iha ihb =>
    intro ht lk s K r m st Q hE h hK hR
    cases ht with
    | cond j x y =>
      cases j with
      | none =>
        simp only [evT] at h
        split at h
        · split at h
          · rename_i t hc
            refine W2_cond (b:=t) (by rw [hE.ev,hc];simp [AV.cz]) (fun ht=>?_) (fun ht=>?_)
            · subst ht;exact iha x lk s K r m st Q hE h hK hR
            · subst ht;exact ihb y lk s K r m st Q hE h hK hR
          · cases h
        · exact plain _ _ _ _ _ _ _ _ _ hE h hK hR
      | some h0=>simp only [evT] at h;exact plain _ _ _ _ _ _ _ _ _ hE h hK hR
    | _=>simp only [evT] at h;exact plain _ _ _ _ _ _ _ _ _ hE h hK hR
  | block id c ih =>
    intro ht lk s K r m st Q hE h hK hR
    cases ht with
    | rg sh h0 x y =>
      simp only [evT] at h
      split at h
      case h_2=>cases h
      rename_i g ps assign body
      exact evT_rg hM hT hF hro hI hrt hE h hK hR
    | thru x =>
      simp only [evT] at h
      split at h
      · refine W2_block (ih x lk s K r m st _ hE h ?_ ?_)
        · exact hK
        · exact hR
      · exact plain _ _ _ _ _ _ _ _ _ hE h hK hR
    | _=>simp only [evT] at h;exact plain _ _ _ _ _ _ _ _ _ hE h hK hR
  | scope c ih =>
    intro ht lk s K r m st Q hE h hK hR
    simp only [evT] at h
    split at h
    · exact W2_scope (ih ht lk s K r m st (noGo Q) hE h hK hR)
    · exact plain _ _ _ _ _ _ _ _ _ hE h hK hR
  | rangeFunc g ps assign body iha ihb =>
    intro ht lk s K r m st Q hE h hK hR
    cases ht with
    | lp as h0 y =>
      cases as with
      | cons q as=>simp only [evT] at h;exact plain _ _ _ _ _ _ _ _ _ hE h hK hR
      | nil =>
      simp only [evT] at h
      obtain ⟨sA,rfl⟩:∃ sA,sA=s:=⟨_,rfl⟩
      obtain ⟨stA0,rfl⟩:∃ stA0,stA0=st:=⟨_,rfl⟩
      obtain ⟨mA,rfl⟩:∃ mA,mA=m:=⟨_,rfl⟩
      have hK':=hK
      have hR':=hR
      split at h
      case h_2=>cases h
      rename_i p hps
      split at h
      case h_2=>cases h
      rename_i dd has
      split at h
      case isFalse=>cases h
      rename_i hc
      simp only [Bool.and_eq_true,decide_eq_true_eq,List.isEmpty_iff] at hc
      obtain ⟨⟨⟨⟨⟨hok,hokX⟩,hvars⟩,hp⟩,hnm⟩,hnx⟩:=hc
      refine W2_dm ?_
      have hEA:=hE.dm hnm
      generalize hdm:dmS stA0=stA at hEA
      have hnT:=fun vs=>tmplV_noM (lk:=lk) hnm hnx vs
      split at h
      case h_2=>cases h
      rename_i v0 hv0
      split at h
      case h_2=>cases h
      rename_i c hg
      generalize hstep:(fun (x:Int) (vs:List CV)=>evC P sg M inl (fun s'=>if noM s'.V=true then rt (sA.back (h0.keep++lk.t) s') else none) body y (lkCall h0 lk sA) [] (sIn p dd x (tmpl h0 lk sA vs)) fun s'=>(extH h0 (sA.back (h0.keep++lk.t) s')).map .nx)=step at h
      have hr0:∃ r0,rangeO (itV sg M c) step v0=some r0:=by
        rcases seqO_some h with ⟨vs,h1,_⟩ | ⟨h1,_⟩
        · exact ⟨_,h1⟩
        · exact ⟨_,h1⟩
      obtain ⟨r0,hr0⟩:=hr0
      obtain ⟨xs,hit,htot,hrun⟩:=rangeO_some hr0
      obtain ⟨f,caps,out,rfl,hsf,hMf,hints⟩:=itV_some hit
      obtain ⟨hen,hIter⟩:=hT.it f caps out xs hsf hMf hints
      rw [hr0] at h
      obtain ⟨m1,st1,q1,q2,q3⟩:=tmpl_ok (st0:=stA) (lk:=lkX h0 lk sA) hEA hEA (Adv.refl _ _ _ _) hv0 hokX
      have hrt':∀ (s:SS) (o:Ou),(fun s'=>if noM s'.V=true then rt (sA.back (h0.keep++lk.t) s') else none) s=some o→∃ l,o=.ret l:=by
        intro s o hs
        simp only at hs
        split at hs
        · exact hrt _ o hs
        · cases hs
      refine W2_pre q1 (W2_dm ?_)
      have q2d:=q2.dm (hnT v0)
      have q3d:Adv (lkIn h0 (lkX h0 lk sA) sA) mA sA stA m1 (tmpl h0 lk sA v0) (dmS st1):=by subst hdm;exact q3.dm
      have hps':ps=#[p]:=by rw [← Array.toArray_toList (xs:=ps),hps]
      obtain ⟨o1,o2,o3,o4,o5,o6,o7,o8,o9,o10⟩:=hintOk_spec hok
      have hslots:∀ vs,(tmpl h0 lk sA vs).t=(sA.kept (h0.keep++lk.t)).t:=by
        intro vs
        simp only [tmpl,hvars,bldT,List.append_nil,SS.kept]
      refine W2_range hF hro (p:=p) (dd:=dd) (xs:=xs) (fun pre st'=>∃ vs m',rangeL step pre v0=some (.nx vs)∧Em m' (tmpl h0 lk sA vs) st'∧Adv (lkIn h0 (lkX h0 lk sA) sA) mA sA stA m' (tmpl h0 lk sA vs) st'∧noMap st'.V) hps' (fun pre st' h=>by obtain ⟨_,_,_,_,_,h⟩:=h;exact h) ?_ ?_ hen hIter has ⟨v0,m1,rfl,q2d,q3d,dmV_noMap _⟩ ?_ ?_
      · rw [q2d.t];simpa [tmpl] using hp
      · rw [q2d.ev];show AV.cz m1 ((tmpl h0 lk sA v0).ev g)=_;rw [hg];simp [AV.cz]
      · rintro F' n' hF' pre x st' ⟨vs,m',g1,g2,g3,_⟩
        have htot':=htot (pre++[x])
        rw [rangeL_app,g1] at htot'
        simp only [rangeL] at htot'
        obtain ⟨r',hr'⟩:∃ r',step x vs=some r':=by
          cases hs:step x vs with
          | none=>rw [hs] at htot';exact absurd rfl htot'
          | some r'=>exact ⟨r',rfl⟩
        have hst:=hr'
        rw [← hstep] at hst
        simp only at hst
        have hE1:Em m' (sIn p dd x (tmpl h0 lk sA vs)) (stIn p dd x st'):=by
          have e1:=g2.put g2.m (Emb.Up.refl _) (fun _ _=>rfl) (Nat.le_refl _) (Nat.le_refl _) (x:=.cv (.val (.int .i64 x))) rfl (some p)
          have e2:=e1.put g2.m (Emb.Up.refl _) (fun _ _=>rfl) (Nat.le_refl _) (Nat.le_refl _) (x:=.cv (.val (.int .i64 x))) rfl dd
          simp only [AV.cz] at e2
          exact e2
        have hsB:(sIn p dd x (tmpl h0 lk sA vs)).B=(tmpl h0 lk sA vs).B:=by unfold sIn;cases dd <;> rfl
        have hsV:(sIn p dd x (tmpl h0 lk sA vs)).V=(tmpl h0 lk sA vs).V:=by unfold sIn;cases dd <;> rfl
        have htB:(stIn p dd x st').B=st'.B:=by unfold stIn;cases dd <;> rfl
        have htV:(stIn p dd x st').V=st'.V:=by unfold stIn;cases dd <;> rfl
        have back:∀ {m2:Emb} {s2:SS} {st2:St},Em m2 s2 st2→Adv (lkCall h0 lk sA) m' (sIn p dd x (tmpl h0 lk sA vs)) (stIn p dd x st') m2 s2 st2 →
            Em m2 (sA.back (h0.keep++lk.t) s2) ⟨st'.t,st2.B,st2.V⟩∧Adv (lkIn h0 (lkX h0 lk sA) sA) mA sA stA m2 (sA.back (h0.keep++lk.t) s2) ⟨st'.t,st2.B,st2.V⟩:=by
          intro m2 s2 st2 hE2 ha
          have hbl:sA.B.length≤(tmpl h0 lk sA vs).B.length:=g3.bl
          have hvl:sA.V.length≤(tmpl h0 lk sA vs).V.length:=g3.vl
          have hcz:∀ d∈h0.keep++lk.t,(sA.get d).cz m'=(sA.get d).cz m2:=fun d hd =>
            AV.cz_noV (nb:=sA.B.length) (nv:=sA.V.length) (fun j hj=>(ha.stp.up.b j (by rw [g2.m.bl];omega)).symm) (fun j hj=>(ha.stp.up.v j (by rw [g2.m.vl];omega)).symm)
              (fun j hj hcj=>(ha.o j (by simp only [lkCall,List.mem_filter,List.mem_range,hcj];exact ⟨hj,rfl⟩) (by rw [hsV];omega)).symm) _ (hEA.inn d) (o1 d hd)
          refine ⟨⟨?_,fun q hq=>?_,hE2.m⟩,?_⟩
          · show st'.t=mkT sA.n ((sA.kept (h0.keep++lk.t)).t.map fun p=>(p.1,p.2.cz m2))
            rw [g2.t,hslots]
            show mkT sA.n _=_
            congr 1
            simp only [SS.kept,List.map_map]
            exact List.map_congr_left fun d hd=>by simp only [Function.comp];rw [hcz d hd]
          · simp only [SS.back,SS.kept,List.mem_map] at hq
            obtain ⟨d,_,rfl⟩:=hq
            have h1:=ha.bl;rw [hsB] at h1
            have h2:=ha.vl;rw [hsV] at h2
            exact AV.inn_mono (Nat.le_trans hbl h1) (Nat.le_trans hvl h2) _ (hEA.inn d)
          · have hstp:=ha.stp
            rw [htB,htV] at hstp
            have h1:=ha.bl;rw [hsB] at h1
            have h2:=ha.vl;rw [hsV] at h2
            refine ⟨g3.stp.trans hstp,rfl,Nat.le_trans hbl h1,Nat.le_trans hvl h2,fun d hd=>?_,fun i hi hil=>?_,fun i hi hil=>?_,fun i hi hil=>?_⟩
            · exact SS.kept_get hd
            · have:=ha.b i hi (by rw [hsB];omega)
              rw [hsB] at this
              exact this.trans (g3.b i hi hil)
            · have:=ha.v i hi (by rw [hsV];omega)
              rw [hsV] at this
              exact this.trans (g3.v i hi hil)
            · exact (ha.o i hi (by rw [hsV];omega)).trans (g3.o i hi hil)
        refine evC_sound hM hF' (hI F' n' hF') hrt' body y (lkCall h0 lk sA) [] _ _ r' m' _ _ hE1 hst ?_ ?_ ?_
        · intro m2 s2 st2 e1 e2 e3
          simp only [Option.map_eq_some_iff] at e1
          obtain ⟨vs2,e1,e4⟩:=e1
          subst e4
          obtain ⟨b1,b2⟩:=back e2 e3
          obtain ⟨m3,st3,w1,w2,w3⟩:=tmpl_ok (lk:=lkX h0 lk sA) hEA b1 b2 e1 hokX
          refine ⟨st3,w1,vs2,m3,?_,w2.dm (hnT vs2),?_,dmV_noMap _⟩
          rotate_left
          · subst hdm;exact w3.dm
          rw [rangeL_app,g1]
          simp only [rangeL,hr']
        · intro id h vs2 m2 s2 st2 e0 e1 e2 e3 e4;simp [lookH] at e0
        · intro m2 s2 st2 e1 e2 e3
          obtain ⟨b1,b2⟩:=back e2 e3
          split at e1
          case isFalse=>cases e1
          rename_i hn2
          obtain ⟨l,rfl⟩:=hrt _ _ e1
          intro hpre
          obtain ⟨suf,hsuf⟩:=hpre
          have:rangeL step xs v0=some (.ret l):=by
            rw [← hsuf,rangeL_app,rangeL_app,g1]
            simp only [rangeL,hr']
          rw [this] at hrun
          cases hrun
          have hrr:r=.ret l:=by simp only [seqO,Option.some.injEq] at h;exact h.symm
          subst hrr
          exact hR' m2 _ _ e1 (b1.dm hn2)
      · rintro st' ⟨vs,m',g1,g2,g3,_⟩
        rw [hrun] at g1
        cases g1
        simp only [seqO] at h
        exact hK' m' _ st' h g2
    | _=>simp only [evT] at h;exact plain _ _ _ _ _ _ _ _ _ hE h hK hR
  | _=>intro ht lk s K r m st Q hE h hK hR;simp only [evT] at h;exact plain _ _ _ _ _ _ _ _ _ hE h hK hR
end
end Go.Sx
namespace Go.Sx
open Go Go.RowKit
variable [G:Ghost]
section
variable (P:Program) (sg:FuncId→Option Sig) (M:Den)
noncomputable def evF (fe:FE) (c:Code) (vs:List CV):Option (List CV):=
  if (Sc.avs fe.g.ps vs 0).length≤fe.n then
    retO (evT P sg M (inN P sg M 8) (rtF P fe.rs fe.g.rs) c fe.ht ⟨[],[],[],[]⟩ ⟨fe.n,numb 0 (Sc.avs fe.g.ps vs 0),[],[]⟩ (rtF P fe.rs fe.g.rs))
  else none
end
section
variable {P:Program} {sg:FuncId→Option Sig} {M:Den}
theorem evF_sound (hM:Fns P sg M) (hY:Yls P M) (hT:Its P sg M) {f:FuncId} {fn:Func} {fe:FE} {c:Code} {vs out:List CV} (hf:P.funcs[f]? = some fn) (hb:fn.body=some c) (hn:fn.ntmps=fe.n) (hr:fn.results.toList=fe.rs) (h:evF P sg M fe c vs=some out) :
    SpecR P f (Sc.avs fe.g.ps vs 0) (Sc.res fe.g.rs out):=by
  unfold evF at h
  split at h
  · rename_i hlen
    have h':evT P sg M (inN P sg M 8) (rtF P fe.rs fe.g.rs) c fe.ht ⟨[],[],[],[]⟩ ⟨fe.n,numb 0 (Sc.avs fe.g.ps vs 0),[],[]⟩ (rtF P fe.rs fe.g.rs)=some (.ret out):=by
      unfold retO at h
      split at h
      · rename_i l hl;cases h;exact hl
      · cases h
    have hcl:=Sc.avs_closed fe.g.ps vs 0
    have key:CallPc P f (Sc.avs fe.g.ps vs 0) fun r B V=>∃ (m:Emb) (s:SS) (st:St) (xs:List AV) (l:List CV) (b:Bool),st.B=B∧st.V=V∧Em m s st∧resSs P s fe.rs=some xs∧lndAs s.B s.V fe.g.rs xs=some (l,b)∧nrmL (Sc.lvs fe.g.rs) l=out ∧
        r=tupOf (AV.czs m xs):=by
      refine CallP_body2 hf hb fun F n hF hro=>?_
      rw [hn,start_eq _ _ hlen]
      have hE:Em ⟨[],[],[]⟩ ⟨fe.n,numb 0 (Sc.avs fe.g.ps vs 0),[],[]⟩ ⟨mkT fe.n (numb 0 (Sc.avs fe.g.ps vs 0)),[],[]⟩:=by
        obtain ⟨p1,p2⟩:=Sc.avs_pl fe.g.ps vs 0 ⟨[],[],[]⟩ 0 0
        refine ⟨?_,numb_inn _ _ p2,⟨rfl,rfl,rfl,by simp,by simp,by simp,by simp,by simp⟩⟩
        rw [numb_map,← AV.czs_eq,p1]
      have fin:∀ (m':Emb) (s':SS) (st':St),rtF P fe.rs fe.g.rs s'=some (.ret out)→Em m' s' st'→∃ r,resOf P st' fn.results.toList=some r ∧
          ∃ (m:Emb) (s:SS) (st:St) (xs:List AV) (l:List CV) (b:Bool),st.B=st'.B∧st.V=st'.V∧Em m s st∧resSs P s fe.rs=some xs∧lndAs s.B s.V fe.g.rs xs=some (l,b)∧nrmL (Sc.lvs fe.g.rs) l=out∧r=tupOf (AV.czs m xs):=by
        intro m' s' st' h1 hE'
        unfold rtF at h1
        split at h1
        · rename_i xs hxs
          split at h1
          · rename_i l b hl
            cases h1
            refine ⟨_,?_,m',s',st',xs,l,b,rfl,rfl,hE',hxs,hl,rfl,rfl⟩
            rw [hr]
            exact resOf_tup (resSs_spec hE' hxs)
          · cases h1
        · cases h1
      refine evT_sound hM hT hF hro (fun F n hF=>inN_ok hM hY 8 hF) (rtF_ret) c fe.ht _ _ _ _ _ _ _ hE h' ?_ ?_
      · intro m' s' st' h1 h2;exact ⟨.inl rfl,fin m' s' st' h1 h2⟩
      · intro m' s' st' h1 h2;exact ⟨.inr rfl,fin m' s' st' h1 h2⟩
    refine CallP.res (CallP.freeze key (AV.scos_closed _ _ _ hcl)) ?_
    rintro r B V ⟨rfl,rfl,r0,B0,V0,⟨m,s,st,xs,l,b,rfl,rfl,hE,hxs,hl,rfl,rfl⟩,rfl⟩
    refine ⟨Sc.res fe.g.rs l,?_,(nrmL_res _ _).symm,rfl,rfl⟩
    obtain ⟨q1,_⟩:=lndAs_spec hE.m hl
    have hcr:=Sc.res_closed fe.g.rs l
    exact ⟨tupOf_le q1,fun _ _ _=>AV.sco_closed _ _ _ hcr⟩
  · cases h
def rtO (P:Program) (rs:List ResultVar) (s:SS):Option Ou:=match resSs P s rs with
  | some [.own i u]=>match s.V[i]? with
    | some v=>if (v.live&&v.ver == u)=true then some (.ret [.row v.k v.es,.fn v.T []]) else none
    | none=>none
  | _=>none
theorem rtO_ret {rs:List ResultVar} (s:SS) (o:Ou) (h:rtO P rs s=some o):∃ l,o=.ret l:=by
  have _:=G
  unfold rtO at h
  split at h
  · split at h
    · split at h
      · cases h;exact ⟨_,rfl⟩
      · cases h
    · cases h
  · cases h
noncomputable def evFO (P:Program) (sg:FuncId→Option Sig) (M:Den) (fe:FE) (c:Code) (vs:List CV):Option (List CV):=
  if vs.length≤fe.n then
    retO (evT P sg M (inN P sg M 8) (rtO P fe.rs) c fe.ht ⟨[],[],[],[]⟩ ⟨fe.n,numb 0 (vs.map .cv),[],[]⟩ (rtO P fe.rs))
  else none
theorem evFO_sound (hM:Fns P sg M) (hY:Yls P M) (hT:Its P sg M) {f:FuncId} {fn:Func} {fe:FE} {c:Code} {vs:List CV} {k:Nat} {es:List (List CV)} {T:TypeId} (hf:P.funcs[f]? = some fn) (hb:fn.body=some c) (hn:fn.ntmps=fe.n) (hr:fn.results.toList=fe.rs)
    (h:evFO P sg M fe c vs=some [.row k es,.fn T []]):SpecO P f (vs.map .cv) T k es:=by
  unfold evFO at h
  split at h
  · rename_i hlen
    have h':evT P sg M (inN P sg M 8) (rtO P fe.rs) c fe.ht ⟨[],[],[],[]⟩ ⟨fe.n,numb 0 (vs.map .cv),[],[]⟩ (rtO P fe.rs)=some (.ret [.row k es,.fn T []]):=by
      unfold retO at h
      split at h
      · rename_i l hl;cases h;exact hl
      · cases h
    refine CallP_body2 hf hb fun F n hF hro=>?_
    rw [hn,start_eq _ _ (by simpa using hlen)]
    have hE:Em ⟨[],[],[]⟩ ⟨fe.n,numb 0 (vs.map .cv),[],[]⟩ ⟨mkT fe.n (numb 0 (vs.map .cv)),[],[]⟩:=by
      refine ⟨?_,numb_inn _ _ (by rw [AV.inns_eq,List.all_eq_true];intro y hy;obtain ⟨c,_,rfl⟩:=List.mem_map.1 hy;rfl),⟨rfl,rfl,rfl,by simp,by simp,by simp,by simp,by simp⟩⟩
      rw [numb_map,List.map_map]
      have:(vs.map ((fun x=>x.cz ⟨[],[],[]⟩)∘AV.cv))=vs.map .cv:=List.map_congr_left fun y _=>by simp [AV.cz]
      rw [this]
    have fin:∀ (m':Emb) (s':SS) (st':St),rtO P fe.rs s'=some (.ret [.row k es,.fn T []])→Em m' s' st'→∃ r,resOf P st' fn.results.toList=some r ∧
        ∃ i v,r=.own i v.ver∧st'.V[i]? = some v∧v.live=true∧v.T=T∧v.k=k∧v.es=es:=by
      intro m' s' st' h1 hE'
      unfold rtO at h1
      split at h1
      · rename_i i u hxs
        split at h1
        · rename_i v hv
          split at h1
          · rename_i hc
            simp only [Bool.and_eq_true,beq_iff_eq] at hc
            obtain ⟨hl,rfl⟩:=hc
            simp only [Option.some.injEq,Ou.ret.injEq,List.cons.injEq,CV.row.injEq,CV.fn.injEq,and_true] at h1
            obtain ⟨⟨rfl,rfl⟩,rfl⟩:=h1
            refine ⟨tupOf (AV.czs m' [.own i v.ver]),?_,m'.fv i,v.cz m' i,?_,hE'.m.v i v hv (.inl hl),hl,rfl,rfl,rfl⟩
            · rw [hr]
              exact resOf_tup (resSs_spec hE' hxs)
            · simp [tupOf,AV.czs,AV.cz,Vec.cz]
          · cases h1
        · cases h1
      · cases h1
    refine evT_sound hM hT hF hro (fun F n hF=>inN_ok hM hY 8 hF) (rtO_ret) c fe.ht _ _ _ _ _ _ _ hE h' ?_ ?_
    · intro m' s' st' h1 h2;exact ⟨.inl rfl,fin m' s' st' h1 h2⟩
    · intro m' s' st' h1 h2;exact ⟨.inr rfl,fin m' s' st' h1 h2⟩
  · cases h
theorem Fns.none' (P:Program):Fns P (fun _=>none) (fun _ _=>none) where
  own:=fun _ _ _ _ _ _ h=>by cases h
  ins:=fun _ _ _ _ _ h=>by cases h
  mtt:=fun _ _ _ _ _ _ _ _ h=>by cases h
  ent:=fun _ _ h=>by cases h
  spec:=fun _ _ _ _ h=>by cases h
theorem Its.none' (P:Program):Its P (fun _=>none) (fun _ _=>none):=have _:=G;⟨fun _ _ _ _ _ h=>(by cases h),fun _ _ _ _ _ h=>by cases h⟩
end
end Go.Sx
namespace Go.Sx
open Go Go.RowKit
theorem lfC_inj:∀ {a b:Lf},lfC a=lfC b→a=b:=by
  intro a b h
  cases a <;> cases b <;> simp_all [lfC]
theorem lfC_ne (l:Lf):lfC l≠dC:=by cases l <;> simp [lfC,dC]
theorem scC_inj:∀ {a b:Sc},scC a=scC b→a=b:=by
  intro a b h
  cases a <;> cases b
  · simp only [scC,List.cons.injEq,and_true] at h;rw [lfC_inj h]
  · simp only [scC,List.cons.injEq] at h;exact absurd h.1 (lfC_ne _)
  · simp only [scC,List.cons.injEq] at h;exact absurd h.1.symm (lfC_ne _)
  · simp only [scC,List.cons.injEq,true_and] at h
    rw [List.map_inj_right fun x y hxy=>lfC_inj hxy] at h
    rw [h]
theorem shC_inj:∀ {a b:YSh},shC a=shC b→a=b:=by
  intro a b h
  cases a <;> cases b
  · simp only [shC,CV.row.injEq,true_and] at h
    rw [List.map_inj_right fun x y hxy=>scC_inj hxy] at h
    rw [h]
  · simp [shC] at h
  · simp [shC] at h
  · simp only [shC,CV.fn.injEq,List.cons.injEq,CV.row.injEq,and_true] at h
    rw [h.1,h.2]
open Classical in
noncomputable def withY (M:Den) (l:Nat) (sh:YSh) (yf:YF):Den:=fun f vs =>
  if f=ghT then
    match vs with
    | .val (.func (.yield l') _ _)::c::.row _ es::x=>if l'=l∧c=shC sh then (match yf es x with
      | some (b,es')=>some [.val (.bool b),.row 0 es']
      | none=>none) else none
    | _=>none
  else M f vs
def rtY (s:SS):Option Ou:=match s.V[0]? with
  | some v=>if (v.T == ghT)=true then some (.ret [.row 0 v.es]) else none
  | none=>none
theorem rtY_ret (s:SS) (o:Ou) (h:rtY s=some o):∃ l,o=.ret l:=by
  unfold rtY at h
  split at h
  · split at h
    · cases h;exact ⟨_,rfl⟩
    · cases h
  · cases h
noncomputable def evY (P:Program) (sg:FuncId→Option Sig) (M:Den) (dp:Nat) (fe:FE) (c:Code) (l:Nat) (vs:List CV) (es:List (List CV)):Option (List CV):=
  if vs.length+1≤fe.n then
    retO (evC P sg M (inN P sg M dp) rtY c fe.ht ⟨[],[],[],[]⟩ [] ⟨fe.n,numb 0 (.cv (.val (.func (.yield l) #[] #[]))::vs.map .cv),[],[⟨false,ghT,0,0,es⟩]⟩ rtY)
  else none
section
variable {P:Program} {sg:FuncId→Option Sig} {M:Den}
theorem Fns.withY [G:Ghost] (h:Fns P sg M) (hg:sg ghT=none) (hMg:∀ vs,M ghT vs=none) (l:Nat) (sh:YSh) (yf:YF):Fns P sg (Go.Sx.withY M l sh yf):=by
  have key:∀ f vs out,f≠ghT→Go.Sx.withY M l sh yf f vs=some out→M f vs=some out:=fun f vs out hf h=>by
    unfold Go.Sx.withY at h;rwa [if_neg hf] at h
  have gh:∀ vs out,Go.Sx.withY M l sh yf ghT vs=some out→∃ b es',out=[.val (.bool b),.row 0 es']:=by
    intro vs out h
    unfold Go.Sx.withY at h
    rw [if_pos rfl] at h
    split at h
    · split at h
      · split at h
        · cases h;exact ⟨_,_,rfl⟩
        · cases h
      · cases h
    · cases h
  refine ⟨fun f vs k es T hs hm=>?_,fun f k T by_ hs hm=>?_,fun f T k cs es es' hdr hs hm=>?_,h.ent,fun f g vs out hs hm=>?_⟩
  · by_cases hf:f=ghT
    · subst hf
      obtain ⟨b,es',he⟩:=gh _ _ hm
      simp at he
    · exact h.own f vs k es T hs (key _ _ _ hf hm)
  · by_cases hf:f=ghT
    · subst hf
      obtain ⟨b,es',he⟩:=gh _ _ hm
      simp at he
    · exact h.ins f k T by_ hs (key _ _ _ hf hm)
  · by_cases hf:f=ghT
    · subst hf
      obtain ⟨b,es',he⟩:=gh _ _ hm
      simp at he
    · exact h.mtt f T k cs es es' hdr hs (key _ _ _ hf hm)
  · by_cases hf:f=ghT
    · subst hf;rw [hg] at hs;cases hs
    · exact h.spec f g vs out hs (key _ _ _ hf hm)
theorem iterJ_of (hM:∀ [Ghost],Fns P sg M) (hg:sg ghT=none) (hMg:∀ vs,M ghT vs=none) {f:FuncId} {fn:Func} {c:Code} {fe:FE} {dp:Nat} {caps:List CV} {sh:YSh} {R:YF→List (List CV)→Option (List (List CV))} (hf:P.funcs[f]? = some fn) (hb:fn.body=some c) (hn:fn.ntmps=fe.n) (hr:fn.results.toList=[])
    (hR:∀ l yf es es',R yf es=some es'→evY P sg (withY M l sh yf) dp fe c l caps es=some [.row 0 es']):IterJ P f caps sh R:=by
  intro G l yf es es' hy hRe F n hF hro H S w lb hlb hS hH hSo hJ hlo hgw
  have hFn:=Fns.withY (G:=G) hM hg hMg l sh yf
  have hYl:Yls P (withY M l sh yf):=by
    intro l' sh' es x out h
    simp only [withY,if_true] at h
    split at h
    · rename_i hc
      obtain ⟨rfl,hc⟩:=hc
      have:=shC_inj hc
      subst this
      split at h
      · rename_i b es2 h1
        cases h
        exact hy _ _ _ _ h1
      · cases h
    · cases h
  have hev:=hR l yf es es' hRe
  unfold evY at hev
  split at hev
  case isFalse=>cases hev
  rename_i hlen
  have hev':evC P sg (withY M l sh yf) (inN P sg (withY M l sh yf) dp) rtY c fe.ht ⟨[],[],[],[]⟩ [] ⟨fe.n,numb 0 (.cv (.val (.func (.yield l) #[] #[]))::caps.map .cv),[],[⟨false,ghT,0,0,es⟩]⟩ rtY=some (.ret [.row 0 es']):=by
    unfold retO at hev
    split at hev
    · rename_i l hl;cases hev;exact hl
    · cases hev
  refine callsIn_of_wp hf hb (hF.fn f) ?_ hro
  let e0:Env:=⟨fun _=>0,fun _ _=>undef,S,w.heap.size,H,true⟩
  have hnb:e0.nb w.heap.size=0:=rfl
  have hmem:Mem w.heap.size w e0 [] [⟨false,ghT,0,0,es⟩] w:=by
    refine ⟨by simp,by simp,by simp,by simp,?_,?_,by simp,?_,hS,Below.refl _ _,Nat.le_refl _,⟨Nat.le_refl _,fun _=>hgw⟩,⟨hH,by simp,?_,?_,hSo⟩⟩
    · intro i x hi hl
      have:=List.mem_of_getElem? hi
      simp only [List.mem_singleton] at this
      subst this;cases hl
    · intro i x g hi hl
      have:=List.mem_of_getElem? hi
      simp only [List.mem_singleton] at this
      subst this;cases hl
    · intro i x j y g hi hl
      have:=List.mem_of_getElem? hi
      simp only [List.mem_singleton] at this
      subst this;cases hl
    · intro i x g hi hl
      have:=List.mem_of_getElem? hi
      simp only [List.mem_singleton] at this
      subst this;cases hl
    · intro i x hi hT
      have h0:=List.mem_of_getElem? hi
      simp only [List.mem_singleton] at h0
      subst h0
      have:i<1:=(List.getElem?_eq_some_iff.1 hi).1
      exact ⟨by omega,rfl,hJ,hlo⟩
  have hargs:AV.all e0 w (kss [⟨false,ghT,0,0,es⟩]) (.cv (.val (.func (.yield l) #[] #[]))::caps.map .cv) (#[Value.func (.yield l) #[] #[]]++lb).toList:=by
    simp only [Array.toList_append,List.singleton_append,AV.all]
    exact ⟨by simp [AV.holds,CV.holds,Value.oneCell'],AV.all.of_vals hlb⟩
  have hsz:(#[Value.func (.yield l) #[] #[]]++lb).size=(AV.cv (.val (.func (.yield l) #[] #[]))::caps.map .cv).length:=by
    have:=hargs.length;simp at this ⊢;omega
  have hE:Em ⟨[],[0],[0]⟩ ⟨fe.n,numb 0 (.cv (.val (.func (.yield l) #[] #[]))::caps.map .cv),[],[⟨false,ghT,0,0,es⟩]⟩ ⟨mkT fe.n (numb 0 (.cv (.val (.func (.yield l) #[] #[]))::caps.map .cv)),[],[⟨false,ghT,0,0,es⟩]⟩:=by
    refine ⟨?_,numb_inn _ _ (by rw [AV.inns_eq,List.all_eq_true];intro y hy;simp only [List.mem_cons,List.mem_map] at hy;rcases hy with rfl | ⟨c,_,rfl⟩ <;> rfl),⟨rfl,rfl,rfl,by simp,?_,?_,by simp,?_⟩⟩
    · rw [numb_map]
      simp [AV.cz,Function.comp_def]
    · intro i v hi _
      have h1:i<1:=(List.getElem?_eq_some_iff.1 hi).1
      obtain rfl:i=0:=by omega
      simp only [List.getElem?_cons_zero,Option.some.injEq] at hi
      subst hi
      simp [Emb.fv,Vec.cz,Emb.fo]
    · intro i hi
      simp only [List.length_singleton] at hi
      obtain rfl:i=0:=by omega
      simp [Emb.fv]
    · intro i j hi hj _
      simp only [List.length_singleton] at hi hj
      omega
  have hrel:Rel w.heap.size w e0 ⟨mkT fe.n (numb 0 (.cv (.val (.func (.yield l) #[] #[]))::caps.map .cv)),[],[⟨false,ghT,0,0,es⟩]⟩ { tmps:=(#[Value.func (.yield l) #[] #[]]++lb)++Array.replicate (fn.ntmps - (#[Value.func (.yield l) #[] #[]]++lb).size) undef,defers:=[] } w:=by
    rw [← start_eq _ _ (by simpa using hlen)]
    refine ⟨?_,?_,hmem⟩
    · rw [Array.toList_append,Array.toList_replicate,hsz,hn]
      refine hargs.append ?_
      generalize fe.n - _=k
      induction k with
      | zero=>simp [AV.all]
      | succ k ih=>simpa [List.replicate_succ,AV.all,AV.holds] using ih
    · rw [AV.scos_iff]
      intro y hy
      rcases List.mem_append.1 hy with hy | hy
      · simp only [List.mem_cons,List.mem_map] at hy
        rcases hy with rfl | ⟨c,_,rfl⟩ <;> simp [AV.sco]
      · obtain rfl:=List.eq_of_mem_replicate hy
        simp [AV.sco]
  have hW:=evC_sound (F:=F) (n:=n) hFn hF (fun il=>inN_ok hFn hYl dp hF il) rtY_ret c fe.ht ⟨[],[],[],[]⟩ [] _ _ _ _ _ (fun ex st'=>(ex=.normal∨ex=.ret)∧∃ m' s',rtY s'=some (.ret [.row 0 es'])∧Em m' s' st') hE hev'
    (fun m' s' st' h1 h2 _=>⟨.inl rfl,m',s',h1,h2⟩) (fun id h vs m' s' st' h0=>by simp [lookH] at h0) (fun m' s' st' h1 h2 _=>⟨.inr rfl,m',s',h1,h2⟩)
  refine hW w.heap.size w e0 _ w _ hrel ?_
  rintro ex e' st' a' w' ⟨hex,m',s',h1,h2⟩ hrel' hdf hx
  have hres:(results fn a'.tmps).run P w'=.ok (.tuple #[]) w':=by
    have:fn.results=#[]:=Array.toList_inj.1 (by rw [hr])
    simp [results,this]
  have fin:(∃ v,Ending.returned (Value.tuple #[])=.returned v)∧w.heap.size≤w'.heap.size∧@GW G w'∧∃ H',G.J es' H'∧HidIn H' w':=by
    unfold rtY at h1
    split at h1
    case h_2=>cases h1
    rename_i v hv
    split at h1
    case isFalse=>cases h1
    rename_i hT
    simp only [Option.some.injEq,Ou.ret.injEq,List.cons.injEq,CV.row.injEq,true_and,and_true] at h1
    subst h1
    simp only [beq_iff_eq] at hT
    have hv1:=h2.m.v 0 v hv (.inr hT)
    obtain ⟨g1,g2,g3,g4⟩:=hrel'.mem.hid.gh _ _ hv1 hT
    have hbl:=hrel'.mem.below
    exact ⟨⟨_,rfl⟩,hx.sz,⟨hbl.os.trans hgw.1,hbl.tape.trans hgw.2.1,hbl.output.trans hgw.2.2⟩,e'.H,g3,hrel'.mem.hid.obj⟩
  rcases hex with rfl | rfl
  · exact ⟨hdf,_,hres,fin⟩
  · exact ⟨hdf,_,hres,fin⟩
end
end Go.Sx
namespace Go.Sx
open Go Go.RowKit
variable [G:Ghost]
def bodyOf (f:Func):Code:=f.body.getD .skip
def ci (n:Int):CV:=.val (.int .i64 n)
def cb (b:Bool):CV:=.val (.bool b)
def gi (v:List CV) (i:Nat):Int:=cI (List.getD v i dC)
def gb (v:List CV) (i:Nat):Bool:=cB (List.getD v i dC)
def gr (v:List CV) (i:Nat):List (List CV):=cR (List.getD v i dC)
def el (es:List (List CV)) (i:Int):List CV:=List.getD es (Int.toNat i) []
def il {A:Type} (es:List A):Int:=Int.ofNat (List.length es)
def wr (x:Int):Int:=IntKind.wrap .i64 x
def inb {A:Type} (i:Int) (es:List A):Bool:=decide (0≤i)&&decide (i<il es)
def cis (v:List CV):Nat→Nat→List CV
  | _,0=>[]
  | i,n+1=>ci (gi v i)::cis v (i+1) n
def cat:List (List CV)→List CV
  | []=>[]
  | [x]=>x
  | x::xs=>x++cat xs
def bAN (a b:Int):Nat:=(BitVec.ofInt 64 a &&& BitVec.ofInt 64 b).toNat
def bON (a b:Int):Nat:=(BitVec.ofInt 64 a ||| BitVec.ofInt 64 b).toNat
abbrev li:Lf:=.int .i64
abbrev lb:Lf:=.bool
def lookN {A:Type} (k:Nat):List (Nat×A)→Option A
  | []=>none
  | (j,x)::r=>if j=k then some x else lookN k r
def sgOf (tb:List (Nat×FE×Code)):FuncId→Option Sig:=fun f=>(lookN f tb).map (·.1.g)
noncomputable def den (P:Program) (tb:List (Nat×FE×Code)) (its:List (Nat×(List CV→Option (List CV)))):Nat→Den
  | 0=>fun _ _=>none
  | n+1=>fun f vs=>match lookN f tb with
    | some (fe,c)=>evF P (sgOf tb) (den P tb its n) fe c vs
    | none=>match lookN f its with
      | some it=>it vs
      | none=>none
structure EntOk (P:Program) (f:Nat) (fe:FE) (fn:Func):Prop where
  ent:entB P f=true
  isf:P.funcs[f]? = some fn
  body:fn.body.isSome=true
  n:fn.ntmps=fe.n
  rs:fn.results.toList=fe.rs
theorem lookN_mem {A:Type} {k:Nat} {x:A}:∀ {l:List (Nat×A)},lookN k l=some x→(k,x)∈l
  | [],h=>by have _:=G;simp [lookN] at h
  | (j,y)::r,h=>by
    simp only [lookN] at h
    split at h
    · rename_i hj;cases h;subst hj;simp
    · simp [lookN_mem h]
def ItsOk (P:Program) (its:List (Nat×(List CV→Option (List CV)))):Prop:=∀ e∈its,∀ caps out,e.2 caps=some out →
  (∀ rows sh,out=[.row 0 rows,shC sh]→entB P e.1=true∧IterJ P e.1 caps sh (foldY rows)) ∧
  (∀ xs,intsOf out=some xs→entB P e.1=true∧IterP P e.1 caps xs) ∧
  (∀ k es T,out=[.row k es,.fn T []]→entB P e.1=true∧SpecO P e.1 (caps.map .cv) T k es) ∧
  (∀ T k cs es es' hdr,caps=.row k es::.fn T []::cs→out=[.row k es',.val (.bool hdr)]→entB P e.1=true∧MutP P e.1 T k cs es es' hdr) ∧
  (∀ k T by_,caps=[]→out=[.row k [],.fn T [],.fn by_ []]→entB P e.1=true∧InsP P e.1 T k by_)
theorem den_it {P:Program} {tb:List (Nat×FE×Code)} {its:List (Nat×(List CV→Option (List CV)))} {n f:Nat} {caps out:List CV} (hs:sgOf tb f=none) (h:den P tb its n f caps=some out):∃ it,(f,it)∈its∧it caps=some out:=by
  cases n with
  | zero=>simp [den] at h
  | succ n =>
    simp only [sgOf,Option.map_eq_none_iff] at hs
    simp only [den,hs] at h
    split at h
    · rename_i it hl;exact ⟨it,lookN_mem hl,h⟩
    · cases h
theorem den_its {P:Program} {tb:List (Nat×FE×Code)} {its:List (Nat×(List CV→Option (List CV)))} (hi:ItsOk P its):∀ n,Its P (sgOf tb) (den P tb its n):=
  fun n=>⟨fun f caps rows sh hs h=>by
    obtain ⟨it,h1,h2⟩:=den_it hs h
    exact (hi _ h1 caps _ h2).1 rows sh rfl,fun f caps out xs hs h hx=>by
    obtain ⟨it,h1,h2⟩:=den_it hs h
    exact (hi _ h1 caps out h2).2.1 xs hx⟩
theorem den_gh {P:Program} {tb:List (Nat×FE×Code)} {its:List (Nat×(List CV→Option (List CV)))} (hg:lookN ghT tb=none∧lookN ghT its=none):∀ n vs,den P tb its n ghT vs=none
  | 0,_=>have _:=G;rfl
  | n+1,vs=>by simp only [den,hg.1,hg.2]
theorem Yls.none {P:Program} {M:Den} (h:∀ vs,M ghT vs=.none):Yls P M:=by
  intro l sh es x out hh
  rw [h] at hh;cases hh
theorem den_fns {P:Program} {tb:List (Nat×FE×Code)} {its:List (Nat×(List CV→Option (List CV)))} (hi:ItsOk P its) (hg:lookN ghT tb=none∧lookN ghT its=none) (ht:∀ e∈tb,∃ fn,EntOk P e.1 e.2.1 fn∧e.2.2=bodyOf fn):∀ n,Fns P (sgOf tb) (den P tb its n):=by
  have hown:∀ n f vs k es T,sgOf tb f=none→den P tb its n f vs=some [.row k es,.fn T []]→entB P f=true∧SpecO P f (vs.map .cv) T k es:=fun n f vs k es T hs h=>by
    obtain ⟨it,h1,h2⟩:=den_it hs h
    exact (hi _ h1 vs _ h2).2.2.1 k es T rfl
  have hins:∀ n f k T by_,sgOf tb f=none→den P tb its n f []=some [.row k [],.fn T [],.fn by_ []]→entB P f=true∧InsP P f T k by_:=fun n f k T by_ hs h=>by
    obtain ⟨it,h1,h2⟩:=den_it hs h
    exact (hi _ h1 [] _ h2).2.2.2.2 k T by_ rfl rfl
  have hmut:∀ n f T k cs es es' hdr,sgOf tb f=none→den P tb its n f (.row k es::.fn T []::cs)=some [.row k es',.val (.bool hdr)]→entB P f=true∧MutP P f T k cs es es' hdr:=fun n f T k cs es es' hdr hs h=>by
    obtain ⟨it,h1,h2⟩:=den_it hs h
    exact (hi _ h1 _ _ h2).2.2.2.1 T k cs es es' hdr rfl rfl
  have hent:∀ f g,sgOf tb f=some g→entB P f=true:=fun f g hg=>by
    simp only [sgOf,Option.map_eq_some_iff] at hg
    obtain ⟨⟨fe,c⟩,h1,_⟩:=hg
    obtain ⟨fn,h2,_⟩:=ht _ (lookN_mem h1)
    exact h2.ent
  intro n
  induction n with
  | zero=>exact ⟨hown 0,hins 0,hmut 0,hent,fun f g vs out hg h=>by simp [den] at h⟩
  | succ n ih =>
    refine ⟨hown _,hins _,hmut _,hent,fun f g vs out hgg h=>?_⟩
    simp only [sgOf,Option.map_eq_some_iff] at hgg
    obtain ⟨⟨fe,c⟩,h1,h2⟩:=hgg
    simp only [den,h1] at h
    obtain ⟨fn,h3,h4⟩:=ht _ (lookN_mem h1)
    simp only at h2 h4
    subst h2
    have hb:fn.body=some c:=by
      rw [h4,bodyOf]
      cases hh:fn.body with
      | none=>have:=h3.body;rw [hh] at this;cases this
      | some c'=>rfl
    exact evF_sound ih (Yls.none (den_gh hg n)) (den_its hi n) h3.isf hb h3.n h3.rs h
end Go.Sx
namespace Go.Sx
instance ghost0:Ghost:=⟨fun _ _=>True,0,default⟩
end Go.Sx
