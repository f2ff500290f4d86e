/-
 What the beasts of a pound have lU by their pens is what they are charged for, and those who stand in the pens are those who are inside: at every input, without any condition.
-/
import Derived.Test.YtnnifohchhjkhaaP04
namespace Go.Sx
open Go Go.RowKit
variable [G:Ghost]
mutual
def AV.fb (i:Nat) (cs:List CV):AV→AV
 | .ptr j o=>if j=i then .cv (.ref (cs.drop o)) else .ptr j o
 | .agg xs=>.agg (AV.fbs i cs xs)
 | .tup xs=>.tup (AV.fbs i cs xs)
 | .fn f xs=>.fn f (AV.fbs i cs xs)
 | .gd [] x=>.gd [] (AV.fb i cs x)
 | x=>x
def AV.fbs (i:Nat) (cs:List CV):List AV→List AV
 | []=>[]
 | x::xs=>AV.fb i cs x::AV.fbs i cs xs
end
mutual
def AV.fv (i ver k:Nat) (es:List (List CV)):AV→AV
 | .own j u=>if j=i∧u=ver then .cv (.row k es) else .own j u
 | .agg xs=>.agg (AV.fvs i ver k es xs)
 | .tup xs=>.tup (AV.fvs i ver k es xs)
 | .fn f xs=>.fn f (AV.fvs i ver k es xs)
 | .gd [] x=>.gd [] (AV.fv i ver k es x)
 | x=>x
def AV.fvs (i ver k:Nat) (es:List (List CV)):List AV→List AV
 | []=>[]
 | x::xs=>AV.fv i ver k es x::AV.fvs i ver k es xs
end
theorem AV.fbs_eq (i:Nat) (cs:List CV):∀ xs,AV.fbs i cs xs=xs.map (AV.fb i cs)
 | []=>by have _:=G;simp [AV.fbs]
 | x::xs=>by simp [AV.fbs,AV.fbs_eq i cs xs]
theorem AV.fvs_eq (i ver k:Nat) (es:List (List CV)):∀ xs,AV.fvs i ver k es xs=xs.map (AV.fv i ver k es)
 | []=>by have _:=G;simp [AV.fvs]
 | x::xs=>by simp [AV.fvs,AV.fvs_eq i ver k es xs]
theorem aAt (i:Nat) (cs:List CV) (xs:List AV):gQ (AV.fbs i cs xs)=gQ xs:=by
 have _:=G
 match xs with
 | []=>rfl
 | .gd [] _::_=>simp [AV.fbs,AV.fb,gQ]
 | .gd (b::L) x::r=>simp only [AV.fbs,AV.fb];unfold gQ;split <;> split <;> simp_all
 | .any::_=>rfl
 | .cv _::_=>rfl
 | .ptr _ _::_=>simp only [AV.fbs,AV.fb];split <;> rfl
 | .own _ _::_=>rfl
 | .opt _ _ _ _::_=>rfl
 | .agg _::_=>rfl
 | .tup _::_=>rfl
 | .fn _ _::_=>rfl
theorem aAu (i ver k:Nat) (es:List (List CV)) (xs:List AV):gQ (AV.fvs i ver k es xs)=gQ xs:=by
 have _:=G
 match xs with
 | []=>rfl
 | .gd [] _::_=>simp [AV.fvs,AV.fv,gQ]
 | .gd (b::L) x::r=>simp only [AV.fvs,AV.fv];unfold gQ;split <;> split <;> simp_all
 | .any::_=>rfl
 | .cv _::_=>rfl
 | .ptr _ _::_=>rfl
 | .own _ _::_=>simp only [AV.fvs,AV.fv];split <;> rfl
 | .opt _ _ _ _::_=>rfl
 | .agg _::_=>rfl
 | .tup _::_=>rfl
 | .fn _ _::_=>rfl
section
variable {e:Env} {w:World} {ks:List Nat}
mutual
theorem AV.fb_holds {i:Nat} {cs:List CV} (hk:∀ o,CV.holds w e.S (.ref (cs.drop o)) (.pointer (some ⟨e.ρ i,o,none⟩))):∀ (x:AV) (v:Value),AV.holds e w ks x v→AV.holds e w ks (AV.fb i cs x) v
 | .ptr j o,v,h=>by
  simp only [AV.fb]
  split
  ·rename_i hj;subst hj;simp only [AV.holds] at h ⊢;subst h;exact hk o
  ·exact h
 | .agg xs,v,h=>by simp only [AV.fb,AV.holds] at h ⊢;obtain ⟨vs,h1,h2⟩:=h;exact ⟨vs,h1,AV.fbs_holds hk xs _ h2⟩
 | .tup xs,v,h=>by simp only [AV.fb,AV.holds] at h ⊢;obtain ⟨vs,h1,h2⟩:=h;exact ⟨vs,h1,AV.fbs_holds hk xs _ h2⟩
 | .fn f xs,v,h=>by simp only [AV.fb,AV.holds] at h ⊢;obtain ⟨vs,h1,h2⟩:=h;exact ⟨vs,by rw [aAt];exact h1,AV.fbs_holds hk xs _ h2⟩
 | .gd [] x,v,h=>by simp only [AV.fb,AV.holds] at h ⊢;exact ⟨fun hb=>AV.fb_holds hk x v (h.1 hb),h.2⟩
 | .gd (_::_) x,v,h=>by simp only [AV.fb];exact h
 | .any,v,h=>by simp only [AV.fb];exact h
 | .cv _,v,h=>by simp only [AV.fb];exact h
 | .own _ _,v,h=>by simp only [AV.fb];exact h
 | .opt _ _ _ _,v,h=>by simp only [AV.fb];exact h
theorem AV.fbs_holds {i:Nat} {cs:List CV} (hk:∀ o,CV.holds w e.S (.ref (cs.drop o)) (.pointer (some ⟨e.ρ i,o,none⟩))):∀ (xs:List AV) (vs:List Value),AV.all e w ks xs vs→AV.all e w ks (AV.fbs i cs xs) vs
 | [],vs,h=>by have _:=G;simp only [AV.fbs];exact h
 | x::xs,[],h=>by simp [AV.all] at h
 | x::xs,v::vs,h=>by
  simp only [AV.all,AV.fbs] at h ⊢
  exact ⟨AV.fb_holds hk x v h.1,AV.fbs_holds hk xs vs h.2⟩
end
mutual
theorem AV.fv_holds {i ver k:Nat} {es:List (List CV)} (hk:CV.holds w e.S (.row k es) (e.hdr i ver)):∀ (x:AV) (v:Value),AV.holds e w ks x v→AV.holds e w ks (AV.fv i ver k es x) v
 | .own j u,v,h=>by
  simp only [AV.fv]
  split
  ·rename_i hj;obtain ⟨rfl,rfl⟩:=hj;simp only [AV.holds] at h ⊢;rw [h.1];exact hk
  ·exact h
 | .agg xs,v,h=>by simp only [AV.fv,AV.holds] at h ⊢;obtain ⟨vs,h1,h2⟩:=h;exact ⟨vs,h1,AV.fvs_holds hk xs _ h2⟩
 | .tup xs,v,h=>by simp only [AV.fv,AV.holds] at h ⊢;obtain ⟨vs,h1,h2⟩:=h;exact ⟨vs,h1,AV.fvs_holds hk xs _ h2⟩
 | .fn f xs,v,h=>by simp only [AV.fv,AV.holds] at h ⊢;obtain ⟨vs,h1,h2⟩:=h;exact ⟨vs,by rw [aAu];exact h1,AV.fvs_holds hk xs _ h2⟩
 | .gd [] x,v,h=>by simp only [AV.fv,AV.holds] at h ⊢;exact ⟨fun hb=>AV.fv_holds hk x v (h.1 hb),h.2⟩
 | .gd (_::_) x,v,h=>by simp only [AV.fv];exact h
 | .any,v,h=>by simp only [AV.fv];exact h
 | .cv _,v,h=>by simp only [AV.fv];exact h
 | .ptr _ _,v,h=>by simp only [AV.fv];exact h
 | .opt _ _ _ _,v,h=>by simp only [AV.fv];exact h
theorem AV.fvs_holds {i ver k:Nat} {es:List (List CV)} (hk:CV.holds w e.S (.row k es) (e.hdr i ver)):∀ (xs:List AV) (vs:List Value),AV.all e w ks xs vs→AV.all e w ks (AV.fvs i ver k es xs) vs
 | [],vs,h=>by have _:=G;simp only [AV.fvs];exact h
 | x::xs,[],h=>by simp [AV.all] at h
 | x::xs,v::vs,h=>by
  simp only [AV.all,AV.fvs] at h ⊢
  exact ⟨AV.fv_holds hk x v h.1,AV.fvs_holds hk xs vs h.2⟩
end
end
mutual
theorem AV.fb_scoped {i:Nat} {cs:List CV} {nb:Nat} {vs:List Nat}:∀ (x:AV),AV.sco nb vs x→AV.sco nb vs (AV.fb i cs x)
 | .ptr j o,h=>by have _:=G;simp only [AV.fb];split;simp [AV.sco];exact h
 | .agg xs,h=>by simp only [AV.fb,AV.sco] at h ⊢;exact AV.fbs_scoped xs h
 | .tup xs,h=>by simp only [AV.fb,AV.sco] at h ⊢;exact AV.fbs_scoped xs h
 | .fn f xs,h=>by simp only [AV.fb,AV.sco] at h ⊢;exact AV.fbs_scoped xs h
 | .gd [] x,h=>by simp only [AV.fb,AV.sco] at h ⊢;exact AV.fb_scoped x h
 | .gd (_::_) x,h=>by simp only [AV.fb];exact h
 | .any,h=>by simp only [AV.fb];exact h
 | .cv _,h=>by simp only [AV.fb];exact h
 | .own _ _,h=>by simp only [AV.fb];exact h
 | .opt _ _ _ _,h=>by simp only [AV.fb];exact h
theorem AV.fbs_scoped {i:Nat} {cs:List CV} {nb:Nat} {vs:List Nat}:∀ (xs:List AV),AV.scos nb vs xs→AV.scos nb vs (AV.fbs i cs xs)
 | [],h=>by have _:=G;simp only [AV.fbs];exact h
 | x::xs,h=>by simp only [AV.fbs,AV.scos] at h ⊢;exact ⟨AV.fb_scoped x h.1,AV.fbs_scoped xs h.2⟩
end
mutual
theorem AV.fv_scoped {i ver k:Nat} {es:List (List CV)} {nb:Nat} {vs:List Nat}:∀ (x:AV),AV.sco nb vs x→AV.sco nb vs (AV.fv i ver k es x)
 | .own j o,h=>by have _:=G;simp only [AV.fv];split;simp [AV.sco];exact h
 | .agg xs,h=>by simp only [AV.fv,AV.sco] at h ⊢;exact AV.fvs_scoped xs h
 | .tup xs,h=>by simp only [AV.fv,AV.sco] at h ⊢;exact AV.fvs_scoped xs h
 | .fn f xs,h=>by simp only [AV.fv,AV.sco] at h ⊢;exact AV.fvs_scoped xs h
 | .gd [] x,h=>by simp only [AV.fv,AV.sco] at h ⊢;exact AV.fv_scoped x h
 | .gd (_::_) x,h=>by simp only [AV.fv];exact h
 | .any,h=>by simp only [AV.fv];exact h
 | .cv _,h=>by simp only [AV.fv];exact h
 | .ptr _ _,h=>by simp only [AV.fv];exact h
 | .opt _ _ _ _,h=>by simp only [AV.fv];exact h
theorem AV.fvs_scoped {i ver k:Nat} {es:List (List CV)} {nb:Nat} {vs:List Nat}:∀ (xs:List AV),AV.scos nb vs xs→AV.scos nb vs (AV.fvs i ver k es xs)
 | [],h=>by have _:=G;simp only [AV.fvs];exact h
 | x::xs,h=>by simp only [AV.fvs,AV.scos] at h ⊢;exact ⟨AV.fv_scoped x h.1,AV.fvs_scoped xs h.2⟩
end
def Box.mp (f:List AV→List AV) (b:Box):Box:=⟨b.live,b.T,f b.cs⟩
def nI (p:Nat→Bool) (f:List AV→List AV) (B:List Box):List Box:=B.mapIdx fun j b=>if p j=true then b.mp f else b
theorem dU (p:Nat→Bool) (f:List AV→List AV) (B:List Box):(nI p f B).length=B.length:=by have _:=G;simp [nI]
theorem iL (p:Nat→Bool) (f:List AV→List AV) (B:List Box) (j:Nat):(nI p f B)[j]? = (B[j]?).map fun b=>if p j=true then b.mp f else b:=by have _:=G;simp [nI]
theorem Rel.map {n0:Nat} {w0:World} {e:Env} {st:St} {a:Act} {w:World} (h:Rel n0 w0 e st a w) (p:Nat→Bool) (f:List AV→List AV) (hh:∀ xs vs,AV.all e w (kss st.V) xs vs→AV.all e w (kss st.V) (f xs) vs) (hs:∀ nb ws xs,AV.scos nb ws xs→AV.scos nb ws (f xs)) :
  Rel n0 w0 e ⟨f st.t,nI p f st.B,st.V⟩ a w:=by
 have hget:∀ (i:Nat) (b:Box),(nI p f st.B)[i]? = some b→∃ b0,st.B[i]? = some b0∧b.live=b0.live∧b.T=b0.T∧(b.cs=f b0.cs∨b.cs=b0.cs):=by
  intro i b hb
  rw [iL,Option.map_eq_some_iff] at hb
  obtain ⟨b0,h1,h2⟩:=hb
  refine ⟨b0,h1,?_⟩
  subst h2
  split
  ·exact ⟨rfl,rfl,.inl rfl⟩
  ·exact ⟨rfl,rfl,.inr rfl⟩
 have hl:(nI p f st.B).length=st.B.length:=dU _ _ _
 refine ⟨hh _ _ h.tm,?_,⟨?_,?_,?_,?_,h.mem.vec,h.mem.vecS,?_,h.mem.vecinj,h.mem.ro,h.mem.below,h.mem.base,h.mem.bl,h.mem.hid.of rfl ⟨rfl,rfl⟩ (fun _ h=>.inl h) (SameG.refl _) (fun _ _ _=>rfl) (fun i b hb hbl=>?_) (fun i x g hx hl hg=>.inl ⟨i,x,hx,hl,hg⟩)⟩⟩
 rotate_left 6
 ·obtain ⟨b0,h1,h2,_⟩:=hget i b hb
  exact .inl ⟨i,b0,h1,by rw [← h2];exact hbl,rfl⟩
 ·show AV.scos (nI p f st.B).length _ _
  rw [hl];exact hs _ _ _ h.sc
 ·intro i b hb hbl
  obtain ⟨b0,h1,h2,h3,h4⟩:=hget i b hb
  obtain ⟨vs,a1,a2⟩:=h.mem.box i b0 h1 (by rw [← h2];exact hbl)
  refine ⟨vs,by rw [h3];exact a1,?_⟩
  rcases h4 with h4 | h4
  ·rw [h4];exact hh _ _ a2
  ·rw [h4];exact a2
 ·intro i b hb
  obtain ⟨b0,h1,h2,h3,h4⟩:=hget i b hb
  rw [hl]
  rcases h4 with h4 | h4
  ·rw [h4];exact hs _ _ _ (h.mem.boxsc i b0 h1)
  ·rw [h4];exact h.mem.boxsc i b0 h1
 ·intro i b hb hbl
  obtain ⟨b0,h1,h2,h3,h4⟩:=hget i b hb
  exact h.mem.boxlo i b0 h1 (by rw [← h2];exact hbl)
 ·intro i j b c hb hc hbl hcl he
  obtain ⟨b0,h1,h2,_⟩:=hget i b hb
  obtain ⟨c0,g1,g2,_⟩:=hget j c hc
  exact h.mem.boxinj i j b0 c0 h1 g1 (by rw [← h2];exact hbl) (by rw [← g2];exact hcl) he
 ·intro i v j b g hv hvl hb hbl hg
  obtain ⟨b0,h1,h2,_⟩:=hget j b hb
  exact h.mem.vecbox i v j b0 g hv hvl h1 (by rw [← h2];exact hbl) hg
theorem Rel.freezeB' {n0:Nat} {w0:World} {e:Env} {st:St} {a:Act} {w:World} (hr:Rel n0 w0 e st a w) {i:Nat} {x:Box} {cs:List CV} (hx:st.B[i]? = some x) (hl:x.live=true) (hcs:cV x.cs=some cs) :
  ∃ e',Rel n0 w0 e' ⟨st.t,st.B.set i { x with live:=false },st.V⟩ a w∧ExtS e st w e' (st.B.set i { x with live:=false }) st.V w ∧
   (∀ o,CV.holds w e'.S (.ref (cs.drop o)) (.pointer (some ⟨e'.ρ i,o,none⟩))):=by
 have hn:∀ (e0:Env) (st0:St) (a0:Act),st0=⟨.ptr i 0::st.t,st.B,st.V⟩→a0=⟨(Value.pointer (some ⟨e.ρ i,0,none⟩)::a.tmps.toList).toArray,a.defers⟩→Rel n0 w0 e st0 a0 w:=by
  rintro e0 st0 a0 rfl rfl
  refine ⟨?_,?_,hr.mem⟩
  ·show AV.all e w (kss st.V) (.ptr i 0::st.t) _
   simp only [AV.all]
   exact ⟨by simp [AV.holds],hr.tm⟩
  ·show AV.scos st.B.length (vers st.V) (.ptr i 0::st.t)
   simp only [AV.scos]
   exact ⟨by simp only [AV.sco];exact (List.getElem?_eq_some_iff.1 hx).1,hr.sc⟩
 obtain ⟨e',h1,h2⟩:=(hn e _ _ rfl rfl).freezeB (i:=i) hx hl hcs
 have hρ:e'.ρ i=e.ρ i:=h2.ρ i (List.getElem?_eq_some_iff.1 hx).1
 have htm:=h1.tm
 simp only [List.map_cons,AV.all,fzB,if_true,List.drop_zero] at htm
 have hlen:(st.B.set i { x with live:=false }).length=st.B.length:=by simp
 have hp:CV.holds w e'.S (.ref cs) (.pointer (some ⟨e'.ρ i,0,none⟩)):=by
  rw [hρ];simpa [AV.holds] using htm.1
 refine ⟨e',⟨?_,?_,h1.mem⟩,h2,fun o=>?_⟩
 ·exact AV.all.mono h2 _ _ hr.sc hr.tm
 ·show AV.scos (st.B.set i { x with live:=false }).length (vers st.V) st.t
  rw [hlen];exact hr.sc
 ·simp only [CV.holds] at hp ⊢
  obtain ⟨b,o',hb,hS,hc⟩:=hp
  cases hb
  exact ⟨e'.ρ i,o,rfl,hS,by simpa using hc.drop o⟩
theorem Rel.freezeV' {n0:Nat} {w0:World} {e:Env} {st:St} {a:Act} {w:World} (hr:Rel n0 w0 e st a w) {i:Nat} {x:Vec} (hx:st.V[i]? = some x) (hl:x.sl=true) :
  ∃ e',Rel n0 w0 e' ⟨st.t,st.B,st.V.set i { x with live:=false }⟩ a w∧ExtS e st w e' st.B (st.V.set i { x with live:=false }) w ∧
   CV.holds w e'.S (.row x.k x.es) (e'.hdr i x.ver):=by
 obtain ⟨xs,q1,q2,q3⟩:=hr.mem.vec i x hx (Vec.sl_live hl)
 have hi:=(List.getElem?_eq_some_iff.1 hx).1
 have hver:(vers st.V).getD i 0=x.ver:=by simp [vers,List.getD,hx]
 have hn:Rel n0 w0 e ⟨.own i x.ver::st.t,st.B,st.V⟩ ⟨(e.hdr i x.ver::a.tmps.toList).toArray,a.defers⟩ w:=by
  refine ⟨?_,?_,hr.mem⟩
  ·show AV.all e w (kss st.V) (.own i x.ver::st.t) _
   simp only [AV.all]
   exact ⟨by simp only [AV.holds];exact ⟨trivial,q1.one⟩,hr.tm⟩
  ·show AV.scos st.B.length (vers st.V) (.own i x.ver::st.t)
   simp only [AV.scos,AV.sco]
   exact ⟨⟨by simpa [vers] using hi,by rw [hver];exact Nat.le_refl _⟩,hr.sc⟩
 obtain ⟨e',h1,h2⟩:=hn.freezeV (i:=i) hx hl
 have hh:e'.hdr i x.ver=e.hdr i x.ver:=h2.hdr i x.ver (by simpa [vers] using hi) (by rw [hver];exact Nat.le_refl _)
 have htm:=h1.tm
 simp only [List.map_cons,AV.all,fzV,and_self,if_true] at htm
 have hv:vers (st.V.set i { x with live:=false })=vers st.V:=by
  simp only [vers,List.map_set]
  refine List.ext_getElem? fun j=>?_
  rw [List.getElem?_set]
  split
  ·rename_i hj;subst hj;simp [hi,(List.getElem?_eq_some_iff.1 hx).2]
  ·rfl
 have hk:kss (st.V.set i { x with live:=false })=kss st.V:=by
  simp only [kss,List.map_set]
  refine List.ext_getElem? fun j=>?_
  rw [List.getElem?_set]
  split
  ·rename_i hj;subst hj;simp [hi,(List.getElem?_eq_some_iff.1 hx).2]
  ·rfl
 refine ⟨e',⟨?_,?_,h1.mem⟩,h2,by rw [hh];simpa [AV.holds] using htm.1⟩
 ·show AV.all e' w (kss (st.V.set i { x with live:=false })) st.t a.tmps.toList
  exact AV.all.mono h2 _ _ hr.sc hr.tm
 ·show AV.scos st.B.length (vers (st.V.set i { x with live:=false })) st.t
  rw [hv];exact hr.sc
theorem Rel.ownNil {n0:Nat} {w0:World} {e:Env} {st:St} {a:Act} {w:World} (hr:Rel n0 w0 e st a w) {d T k:Nat} (hd:st.t[d]? = some (.cv (.val (.slice none 0 0)))) (hT:T<aI) :
  ∃ e',Rel n0 w0 e' ⟨st.t.set d (.own st.V.length 0),st.B,st.V++[⟨true,T,k,0,[]⟩]⟩ a w∧ExtS e st w e' st.B (st.V++[⟨true,T,k,0,[]⟩]) w:=by
 obtain ⟨e',b1,b2,b3,_⟩:=hr.mem.newVec (w':=w) T k (.slice none 0 0) [] [] (.inl ⟨hT,.inl ⟨none,rfl,rfl,rfl⟩⟩) (by simp [CV.vals]) (by simp)
  ⟨rfl,rfl,rfl,Nat.le_refl _,fun _ _ _=>rfl⟩ (fun g hg=>by simp [aX] at hg)
 refine ⟨e',?_,b2⟩
 obtain ⟨v,h1,h2⟩:=hr.tm.get hd
 simp only [AV.holds,CV.holds] at h2
 have h1':a.tmps[d]? = some v:=by simpa using h1
 have:=hr.put b1 b2 (x:=.own st.V.length 0) (v:=v) (by simp only [AV.holds,b3];exact ⟨h2.1,by rw [h2.1];rfl⟩) (by simp [AV.sco,List.getD,vers]) (some d)
 have ha:a.put (some d) v=a:=by
  have:a.tmps.setIfInBounds d v=a.tmps:=by
   apply Array.ext_getElem?
   intro j
   rw [Array.getElem?_setIfInBounds]
   split
   ·rename_i hj;subst hj;split
    ·exact h1'.symm
    ·rename_i hh;rw [Array.getElem?_eq_none (by omega)]
   ·rfl
  cases a
  simp only [Act.put] at this ⊢
  rw [this]
 rw [ha] at this
 exact this
theorem Rel.ownNilB {n0:Nat} {w0:World} {e:Env} {st:St} {a:Act} {w:World} (hr:Rel n0 w0 e st a w) {i off T k:Nat} {b:Box} (hb:st.B[i]? = some b) (hl:b.live=true) (hd:b.cs[off]? = some (.cv (.val (.slice none 0 0)))) (hT:T<aI) :
  ∃ e',Rel n0 w0 e' ⟨st.t,st.B.set i ⟨b.live,b.T,b.cs.set off (.own st.V.length 0)⟩,st.V++[⟨true,T,k,0,[]⟩]⟩ a w ∧
   ExtS e st w e' (st.B.set i ⟨b.live,b.T,b.cs.set off (.own st.V.length 0)⟩) (st.V++[⟨true,T,k,0,[]⟩]) w:=by
 obtain ⟨e',b1,b2,b3,_⟩:=hr.mem.newVec (w':=w) T k (.slice none 0 0) [] [] (.inl ⟨hT,.inl ⟨none,rfl,rfl,rfl⟩⟩) (by simp [CV.vals]) (by simp)
  ⟨rfl,rfl,rfl,Nat.le_refl _,fun _ _ _=>rfl⟩ (fun g hg=>by simp [aX] at hg)
 have hil:=(List.getElem?_eq_some_iff.1 hb).1
 let V':=st.V++[⟨true,T,k,0,[]⟩]
 let cs':=b.cs.set off (.own st.V.length 0)
 let B':=st.B.set i ⟨b.live,b.T,cs'⟩
 have hlen:B'.length=st.B.length:=by simp [B']
 have hget:∀ (j:Nat) (c:Box),B'[j]? = some c→∃ c0,st.B[j]? = some c0∧c.live=c0.live∧c.T=c0.T∧(c.cs=c0.cs∨(c0=b∧c.cs=cs')):=by
  intro j c hc
  simp only [B'] at hc
  rw [List.getElem?_set] at hc
  split at hc
  ·rename_i hj
   subst hj
   simp only [hil,if_true,Option.some.injEq] at hc
   subst hc
   exact ⟨b,hb,rfl,rfl,.inr ⟨rfl,rfl⟩⟩
  ·exact ⟨c,hc,rfl,rfl,.inl rfl⟩
 have hsc':AV.scos st.B.length (vers V') cs':=by
  have h0:=AV.scos_iff.1 (b1.boxsc i b hb)
  rw [AV.scos_iff]
  intro y hy
  rcases List.mem_or_eq_of_mem_set hy with hy | rfl
  ·exact h0 y hy
  ·simp [AV.sco,V',vers,List.getD]
 have hall:∀ vs:List Value,AV.all e' w (kss V') b.cs vs→AV.all e' w (kss V') cs' vs:=by
  intro vs hv
  obtain ⟨v,h1,h2⟩:=hv.get hd
  simp only [AV.holds,CV.holds] at h2
  have:=hv.set off (x:=.own st.V.length 0) (v:=v) (by simp only [AV.holds,b3];exact ⟨h2.1,by rw [h2.1];rfl⟩)
  have hvs:vs.set off v=vs:=by
   refine List.ext_getElem? fun j=>?_
   rw [List.getElem?_set]
   split
   ·rename_i hj;subst hj;rw [h1];simp [(List.getElem?_eq_some_iff.1 h1).1]
   ·rfl
  rw [hvs] at this
  exact this
 have hm:Mem n0 w0 e' B' V' w:=by
  refine ⟨?_,?_,?_,?_,b1.vec,b1.vecS,?_,b1.vecinj,b1.ro,b1.below,b1.base,b1.bl,b1.hid.of rfl ⟨rfl,rfl⟩ (fun _ h=>.inl h) (SameG.refl _) (fun _ _ _=>rfl) (fun j c hc hcl=>?_) (fun i x g hx hl hg=>.inl ⟨i,x,hx,hl,hg⟩)⟩
  rotate_left 5
  ·obtain ⟨c0,h1,h2,_⟩:=hget j c hc
   exact .inl ⟨j,c0,h1,by rw [← h2];exact hcl,rfl⟩
  ·intro j c hc hcl
   obtain ⟨c0,h1,h2,h3,h4⟩:=hget j c hc
   obtain ⟨vs,a1,a2⟩:=b1.box j c0 h1 (by rw [← h2];exact hcl)
   refine ⟨vs,by rw [h3];exact a1,?_⟩
   rcases h4 with h4 | ⟨rfl,h4⟩
   ·rw [h4];exact a2
   ·rw [h4];exact hall _ a2
  ·intro j c hc
   obtain ⟨c0,h1,h2,h3,h4⟩:=hget j c hc
   rw [hlen]
   rcases h4 with h4 | ⟨rfl,h4⟩
   ·rw [h4];exact b1.boxsc j c0 h1
   ·rw [h4];exact hsc'
  ·intro j c hc hcl
   obtain ⟨c0,h1,h2,_⟩:=hget j c hc
   exact b1.boxlo j c0 h1 (by rw [← h2];exact hcl)
  ·intro j l c d hc hd' hcl hdl he
   obtain ⟨c0,h1,h2,_⟩:=hget j c hc
   obtain ⟨d0,g1,g2,_⟩:=hget l d hd'
   exact b1.boxinj j l c0 d0 h1 g1 (by rw [← h2];exact hcl) (by rw [← g2];exact hdl) he
  ·intro j v l c g hv hvl hc hcl hg
   obtain ⟨c0,h1,h2,_⟩:=hget l c hc
   exact b1.vecbox j v l c0 g hv hvl h1 (by rw [← h2];exact hcl) hg
 have hx:ExtS e st w e' B' V' w:=by
  show Ext e w _ _ _ e' w B'.length _ _
  rw [hlen];exact b2
 refine ⟨e',⟨AV.all.mono hx _ _ hr.sc hr.tm,hx.scos hr.sc,hm⟩,hx⟩
end Go.Sx
namespace Go.Sx
open Go Go.RowKit
variable [G:Ghost]
mutual
def AV.noB (bx:List Nat):AV→Bool
 | .ptr i _=>!bx.contains i
 | .agg xs=>AV.noBs bx xs
 | .tup xs=>AV.noBs bx xs
 | .fn _ xs=>AV.noBs bx xs
 | .gd _ x=>AV.noB bx x
 | _=>true
def AV.noBs (bx:List Nat):List AV→Bool
 | []=>true
 | x::xs=>AV.noB bx x&&AV.noBs bx xs
end
inductive Pa where
 | mk (d T k:Nat)
 | fz (i:Nat)
 | fb (i:Nat)
 | mkb (i off T k:Nat)
def aAv (p:Pa) (lk:Lk) (s:SS):Option SS:=
 match p with
 | .mk d T k=>match s.get d with
  | .cv (.val (.slice none 0 0))=>if d<s.n∧lk.t.contains d=false∧T<aI then some ⟨s.n,(d,.own s.V.length 0)::s.t,s.B,s.V++[⟨true,T,k,0,[]⟩]⟩ else none
  | _=>none
 | .fz i=>match s.V[i]? with
  | some v=>if (v.sl&&!lk.v.contains i&&lk.t.all (fun d=>(s.get d).noV [i])&&lk.b.all (fun j=>AV.noVs [i] (s.B.getD j ⟨false,0,[]⟩).cs))=true then
    some ⟨s.n,s.t.map fun p=>(p.1,AV.fv i v.ver v.k v.es p.2),s.B.map (Box.mp (AV.fvs i v.ver v.k v.es)),s.V.set i ⟨false,v.T,v.k,v.ver,v.es⟩⟩
   else none
  | none=>none
 | .fb i=>match s.B[i]? with
  | some b=>match cV b.cs with
   | some cs=>if (b.live&&!lk.b.contains i&&lk.t.all (fun d=>(s.get d).noB [i])&&lk.b.all (fun j=>AV.noBs [i] (s.B.getD j ⟨false,0,[]⟩).cs))=true then
     some ⟨s.n,s.t.map fun p=>(p.1,AV.fb i cs p.2),(s.B.set i ⟨false,b.T,b.cs⟩).map (Box.mp (AV.fbs i cs)),s.V⟩
    else none
   | none=>none
  | none=>none
 | .mkb i off T k=>match s.B[i]? with
  | some b=>match b.cs[off]? with
   | some (.cv (.val (.slice none 0 0)))=>if (b.live&&!lk.b.contains i&&decide (T<aI))=true then some ⟨s.n,s.t,s.B.set i ⟨b.live,b.T,b.cs.set off (.own s.V.length 0)⟩,s.V++[⟨true,T,k,0,[]⟩]⟩ else none
   | _=>none
  | none=>none
section
variable {m:Emb} {nb nv:Nat}
mutual
theorem AV.fb_cz {i:Nat} {cs:List CV} (hi:i<nb) (hinj:∀ a b,a<nb→b<nb→m.fb a=m.fb b→a=b):∀ (x:AV),AV.inn nb nv x=true→(AV.fb i cs x).cz m=AV.fb (m.fb i) cs (x.cz m)∧AV.inn nb nv (AV.fb i cs x)=true
 | .ptr j o,h=>by
  have _:=G
  simp only [AV.inn,decide_eq_true_eq] at h
  simp only [AV.fb,AV.cz]
  by_cases hj:j=i
  ·subst hj;simp [AV.cz,AV.inn]
  ·have:m.fb j≠m.fb i:=fun he=>hj (hinj j i h hi he)
   simp [hj,this,AV.cz,AV.inn,h]
 | .agg xs,h=>by simp only [AV.inn] at h;obtain ⟨h1,h2⟩:=AV.fbs_cz (cs:=cs) hi hinj xs h;simp only [AV.fb,AV.cz,h1,AV.inn,h2,and_self]
 | .tup xs,h=>by simp only [AV.inn] at h;obtain ⟨h1,h2⟩:=AV.fbs_cz (cs:=cs) hi hinj xs h;simp only [AV.fb,AV.cz,h1,AV.inn,h2,and_self]
 | .fn f xs,h=>by simp only [AV.inn] at h;obtain ⟨h1,h2⟩:=AV.fbs_cz (cs:=cs) hi hinj xs h;simp only [AV.fb,AV.cz,h1,AV.inn,h2,and_self]
 | .gd [] x,h=>by simp only [AV.inn] at h;obtain ⟨h1,h2⟩:=AV.fb_cz (cs:=cs) hi hinj x h;simp only [AV.fb,AV.cz,h1,AV.inn,h2,and_self]
 | .gd (_::_) x,h=>by simp only [AV.fb,AV.cz];exact ⟨trivial,h⟩
 | .any,h=>by simp [AV.fb,AV.cz,AV.inn]
 | .cv _,h=>by simp [AV.fb,AV.cz,AV.inn]
 | .own _ _,h=>by simp only [AV.fb,AV.cz];exact ⟨trivial,h⟩
 | .opt _ _ _ _,h=>by simp only [AV.fb,AV.cz];exact ⟨trivial,h⟩
theorem AV.fbs_cz {i:Nat} {cs:List CV} (hi:i<nb) (hinj:∀ a b,a<nb→b<nb→m.fb a=m.fb b→a=b):∀ (xs:List AV),AV.inns nb nv xs=true→AV.czs m (AV.fbs i cs xs)=AV.fbs (m.fb i) cs (AV.czs m xs)∧AV.inns nb nv (AV.fbs i cs xs)=true
 | [],_=>by have _:=G;simp [AV.fbs,AV.czs,AV.inns]
 | x::xs,h=>by
  simp only [AV.inns,Bool.and_eq_true] at h
  obtain ⟨h1,h2⟩:=AV.fb_cz (cs:=cs) hi hinj x h.1
  obtain ⟨h3,h4⟩:=AV.fbs_cz (cs:=cs) hi hinj xs h.2
  simp only [AV.fbs,AV.czs,h1,h3,AV.inns,h2,h4,Bool.and_self,and_self]
end
mutual
theorem AV.fv_cz {i ver k:Nat} {es:List (List CV)} (hi:i<nv) (hinj:∀ a b,a<nv→b<nv→m.fv a=m.fv b→a=b):∀ (x:AV),AV.inn nb nv x=true→(AV.fv i ver k es x).cz m=AV.fv (m.fv i) (m.fo i+ver) k es (x.cz m)∧AV.inn nb nv (AV.fv i ver k es x)=true
 | .own j g,h=>by
  have _:=G
  simp only [AV.inn,decide_eq_true_eq] at h
  simp only [AV.fv,AV.cz]
  by_cases hj:j=i∧g=ver
  ·obtain ⟨rfl,rfl⟩:=hj;simp [AV.cz,AV.inn]
  ·have:¬(m.fv j=m.fv i∧m.fo j+g=m.fo i+ver):=by
    rintro ⟨h1,h2⟩
    have:=hinj j i h hi h1
    subst this
    exact hj ⟨rfl,by omega⟩
   simp [hj,this,AV.cz,AV.inn,h]
 | .agg xs,h=>by simp only [AV.inn] at h;obtain ⟨h1,h2⟩:=AV.fvs_cz (ver:=ver) (k:=k) (es:=es) hi hinj xs h;simp only [AV.fv,AV.cz,h1,AV.inn,h2,and_self]
 | .tup xs,h=>by simp only [AV.inn] at h;obtain ⟨h1,h2⟩:=AV.fvs_cz (ver:=ver) (k:=k) (es:=es) hi hinj xs h;simp only [AV.fv,AV.cz,h1,AV.inn,h2,and_self]
 | .fn f xs,h=>by simp only [AV.inn] at h;obtain ⟨h1,h2⟩:=AV.fvs_cz (ver:=ver) (k:=k) (es:=es) hi hinj xs h;simp only [AV.fv,AV.cz,h1,AV.inn,h2,and_self]
 | .gd [] x,h=>by simp only [AV.inn] at h;obtain ⟨h1,h2⟩:=AV.fv_cz (ver:=ver) (k:=k) (es:=es) hi hinj x h;simp only [AV.fv,AV.cz,h1,AV.inn,h2,and_self]
 | .gd (_::_) x,h=>by simp only [AV.fv,AV.cz];exact ⟨trivial,h⟩
 | .any,h=>by simp [AV.fv,AV.cz,AV.inn]
 | .cv _,h=>by simp [AV.fv,AV.cz,AV.inn]
 | .ptr _ _,h=>by simp only [AV.fv,AV.cz];exact ⟨trivial,h⟩
 | .opt _ _ _ _,h=>by simp only [AV.fv,AV.cz];exact ⟨trivial,h⟩
theorem AV.fvs_cz {i ver k:Nat} {es:List (List CV)} (hi:i<nv) (hinj:∀ a b,a<nv→b<nv→m.fv a=m.fv b→a=b):∀ (xs:List AV),AV.inns nb nv xs=true→AV.czs m (AV.fvs i ver k es xs)=AV.fvs (m.fv i) (m.fo i+ver) k es (AV.czs m xs)∧AV.inns nb nv (AV.fvs i ver k es xs)=true
 | [],_=>by have _:=G;simp [AV.fvs,AV.czs,AV.inns]
 | x::xs,h=>by
  simp only [AV.inns,Bool.and_eq_true] at h
  obtain ⟨h1,h2⟩:=AV.fv_cz (ver:=ver) (k:=k) (es:=es) hi hinj x h.1
  obtain ⟨h3,h4⟩:=AV.fvs_cz (ver:=ver) (k:=k) (es:=es) hi hinj xs h.2
  simp only [AV.fvs,AV.czs,h1,h3,AV.inns,h2,h4,Bool.and_self,and_self]
end
end
mutual
theorem AV.fb_no {i:Nat} {cs:List CV}:∀ (x:AV),AV.noB [i] x=true→AV.fb i cs x=x
 | .ptr j o,h=>by have _:=G;simp only [AV.noB,List.contains_cons,List.contains_nil,Bool.or_false,Bool.not_eq_true',beq_eq_false_iff_ne] at h;simp [AV.fb,h]
 | .agg xs,h=>by simp only [AV.noB] at h;simp only [AV.fb,AV.fbs_no xs h]
 | .tup xs,h=>by simp only [AV.noB] at h;simp only [AV.fb,AV.fbs_no xs h]
 | .fn f xs,h=>by simp only [AV.noB] at h;simp only [AV.fb,AV.fbs_no xs h]
 | .gd [] x,h=>by simp only [AV.noB] at h;simp only [AV.fb,AV.fb_no x h]
 | .gd (_::_) x,_=>by simp only [AV.fb]
 | .any,_=>by simp only [AV.fb]
 | .cv _,_=>by simp only [AV.fb]
 | .own _ _,_=>by simp only [AV.fb]
 | .opt _ _ _ _,_=>by simp only [AV.fb]
theorem AV.fbs_no {i:Nat} {cs:List CV}:∀ (xs:List AV),AV.noBs [i] xs=true→AV.fbs i cs xs=xs
 | [],_=>by have _:=G;simp [AV.fbs]
 | x::xs,h=>by simp only [AV.noBs,Bool.and_eq_true] at h;simp only [AV.fbs,AV.fb_no x h.1,AV.fbs_no xs h.2]
end
mutual
theorem AV.fv_no {i ver k:Nat} {es:List (List CV)}:∀ (x:AV),AV.noV [i] x=true→AV.fv i ver k es x=x
 | .own j o,h=>by have _:=G;simp only [AV.noV,List.contains_cons,List.contains_nil,Bool.or_false,Bool.not_eq_true',beq_eq_false_iff_ne] at h;simp [AV.fv,h]
 | .agg xs,h=>by simp only [AV.noV] at h;simp only [AV.fv,AV.fvs_no xs h]
 | .tup xs,h=>by simp only [AV.noV] at h;simp only [AV.fv,AV.fvs_no xs h]
 | .fn f xs,h=>by simp only [AV.noV] at h;simp only [AV.fv,AV.fvs_no xs h]
 | .gd [] x,h=>by simp only [AV.noV] at h;simp only [AV.fv,AV.fv_no x h]
 | .gd (_::_) x,_=>by simp only [AV.fv]
 | .any,_=>by simp only [AV.fv]
 | .cv _,_=>by simp only [AV.fv]
 | .ptr _ _,_=>by simp only [AV.fv]
 | .opt _ _ _ _,_=>by simp only [AV.fv]
theorem AV.fvs_no {i ver k:Nat} {es:List (List CV)}:∀ (xs:List AV),AV.noVs [i] xs=true→AV.fvs i ver k es xs=xs
 | [],_=>by have _:=G;simp [AV.fvs]
 | x::xs,h=>by simp only [AV.noVs,Bool.and_eq_true] at h;simp only [AV.fvs,AV.fv_no x h.1,AV.fvs_no xs h.2]
end
theorem BC (f:AV→AV) (hf:f .any=.any) (n:Nat) (l:List (Nat×AV)):(mkT n l).map f=mkT n (l.map fun p=>(p.1,f p.2)):=by
 simp only [mkT,List.map_map]
 exact List.map_congr_left fun d _=>(lK f hf l d).symm
theorem SS.get_map (s:SS) (f:AV→AV) (hf:f .any=.any) (B:List Box) (V:List Vec) (d:Nat):(⟨s.n,s.t.map fun p=>(p.1,f p.2),B,V⟩:SS).get d=f (s.get d):=by
 show (if d<s.n then Go.Sx.lk (s.t.map fun p=>(p.1,f p.2)) d else .any)=f (s.get d)
 by_cases hd:d<s.n
 ·rw [if_pos hd,lK f hf];simp [SS.get,hd]
 ·rw [if_neg hd];simp [SS.get,hd,hf]
section
variable {F:Fence} {n:Nat} {P:Program}
theorem aFl {p:Pa} {lk:Lk} {m:Emb} {s s1:SS} {st:St} {c:Code} {Q:Exit→St→Prop} (hE:Em m s st) (h:aAv p lk s=some s1)
  (hk:∀ m1 st1,Em m1 s1 st1→Adv lk m s st m1 s1 st1→W F n P c st1 Q):W F n P c st Q:=by
 unfold aAv at h
 split at h
 ·rename_i d T k
  split at h
  ·rename_i hg
   split at h
   ·rename_i hc
    obtain ⟨hdn,hlk,hTt⟩:=hc
    cases h
    have hslot:=hE.slot hdn
    rw [hg] at hslot
    simp only [AV.cz] at hslot
    intro n0 w0 e a w Qr hr hkk
    obtain ⟨e',hr',hx'⟩:=hr.ownNil (T:=T) (k:=k) hslot hTt
    have hl:m.vb.length=m.vm.length:=by rw [hE.m.ol,hE.m.vl]
    have hE1:Em (m.pushV st.V.length) ⟨s.n,(d,.own s.V.length 0)::s.t,s.B,s.V++[⟨true,T,k,0,[]⟩]⟩ ⟨st.t.set d (.own st.V.length 0),st.B,st.V++[⟨true,T,k,0,[]⟩]⟩:=by
     have:=hE.put (hE.m.pushV (v:=⟨true,T,k,0,[]⟩)) (Emb.pushV_up _ _) (Emb.pushV_fo _ hl) (Nat.le_refl _) (by simp) (x:=.own s.V.length 0) (by simp [AV.inn]) (some d)
     simp only [SS.put,St.put,AV.cz] at this
     rw [← hE.m.vl,Emb.pushV_new,Emb.pushV_new0 _ hl] at this
     simpa [hE.m.vl] using this
    have ha:Adv lk m s st (m.pushV st.V.length) ⟨s.n,(d,.own s.V.length 0)::s.t,s.B,s.V++[⟨true,T,k,0,[]⟩]⟩ ⟨st.t.set d (.own st.V.length 0),st.B,st.V++[⟨true,T,k,0,[]⟩]⟩:=
     ⟨Stp.pushV _,rfl,Nat.le_refl _,by simp,fun j hj=>SS.put_get (d:=some d) (lk:=lk) (by simp only [cL,hlk,Bool.not_false]) j hj,fun _ _ _=>rfl,fun i _ hi=>by simp only [List.getElem?_append_left hi],fun i _ hi=>Emb.pushV_fo _ hl i (by rw [hE.m.vl];exact hi)⟩
    exact hk _ _ hE1 ha n0 w0 e' a w Qr hr' fun ex e'' st' a' w'' hq hrel hdf hx''=>hkk ex e'' st' a' w'' hq hrel hdf (hx'.trans hx'')
   ·cases h
  ·cases h
 ·rename_i i
  split at h
  ·rename_i v hv
   split at h
   ·rename_i hc
    cases h
    simp only [Bool.and_eq_true,Bool.not_eq_true'] at hc
    obtain ⟨⟨⟨hl,hlk⟩,hlt⟩,hlb⟩:=hc
    have hil:=(List.getElem?_eq_some_iff.1 hv).1
    have hv1:=hE.m.v i v hv (.inl (Vec.sl_live hl))
    intro n0 w0 e a w Qr hr hkk
    obtain ⟨e',hr0,hx',hkey⟩:=hr.freezeV' hv1 (show (v.cz m i).sl=true from hl)
    let f:=AV.fvs (m.fv i) (m.fo i+v.ver) v.k v.es
    let p:Nat→Bool:=fun j=>m.bm.contains j
    have hr':=hr0.map p f (fun xs vs hx=>AV.fvs_holds hkey xs vs hx) (fun nb ws xs=>AV.fvs_scoped xs)
    let st1:St:=⟨f st.t,nI p f st.B,st.V.set (m.fv i) { v.cz m i with live:=false }⟩
    let s1:SS:=⟨s.n,s.t.map fun p=>(p.1,AV.fv i v.ver v.k v.es p.2),s.B.map (Box.mp (AV.fvs i v.ver v.k v.es)),s.V.set i ⟨false,v.T,v.k,v.ver,v.es⟩⟩
    have hany:AV.fv (m.fv i) (m.fo i+v.ver) v.k v.es .any=.any:=by simp [AV.fv]
    have hany':AV.fv i v.ver v.k v.es .any=.any:=by simp [AV.fv]
    have hsetV:=hE.m.setV (i:=i) (v:=⟨false,v.T,v.k,v.ver,v.es⟩) hil
    have hE1:Em m s1 st1:=by
     refine ⟨?_,fun p hp=>?_,⟨by simpa [s1] using hE.m.bl,by simpa [s1] using hE.m.vl,by simpa [s1] using hE.m.ol,fun j b hb=>?_,fun j x hx hxl=>hsetV.v j x hx hxl,fun j hj=>hsetV.vlt j hj,fun j k hj hk=>hE.m.bi j k (by simpa [s1] using hj) (by simpa [s1] using hk),fun j k hj hk=>hE.m.vi j k (by simpa [s1] using hj) (by simpa [s1] using hk)⟩⟩
     ·show AV.fvs _ _ _ _ st.t=mkT s.n _
      rw [AV.fvs_eq,hE.t,BC _ hany]
      congr 1
      simp only [s1,List.map_map]
      refine List.map_congr_left fun p hp=>?_
      simp only [Function.comp_def]
      rw [(AV.fv_cz hil hE.m.vi p.2 (hE.ti p hp)).1]
     ·simp only [s1,List.mem_map] at hp
      obtain ⟨q,hq,rfl⟩:=hp
      simp only [s1,List.length_map,List.length_set]
      exact (AV.fv_cz hil hE.m.vi q.2 (hE.ti q hq)).2
     ·simp only [s1] at hb
      rw [List.getElem?_map,Option.map_eq_some_iff] at hb
      obtain ⟨b0,hb0,rfl⟩:=hb
      obtain ⟨q1,q2⟩:=hE.m.b j b0 hb0
      obtain ⟨q3,q4⟩:=AV.fvs_cz (ver:=v.ver) (k:=v.k) (es:=v.es) hil hE.m.vi b0.cs q2
      refine ⟨?_,by simpa [s1,Box.mp] using q4⟩
      have hp:p (m.fb j)=true:=by
       simp only [p,List.contains_iff_mem]
       exact Emb.fb_mem (by rw [hE.m.bl];exact (List.getElem?_eq_some_iff.1 hb0).1)
      show (nI p f st.B)[m.fb j]? = _
      rw [iL,q1]
      simp only [Option.map_some,hp,if_true,Box.mp,Box.cz,q3,f]
    have ha:Adv lk m s st m s1 st1:=by
     refine ⟨⟨Emb.Up.refl _,by simp [st1,dU],by simp [st1],fun _ h=>.inl h,fun _ h=>.inl h,fun j hj hn=>?_,fun j hj hn=>?_⟩,rfl,by simp [s1],by simp [s1],fun d hd=>?_,fun j hj hjl=>?_,fun j hj hjl=>?_,fun _ _ _=>rfl⟩
     ·show (nI p f st.B)[j]? = _
      rw [iL]
      have hp:p j=false:=by simp only [p];simpa using hn
      simp [hp]
     ·show (st.V.set (m.fv i) _)[j]? = _
      rw [List.getElem?_set_ne]
      rintro rfl
      exact hn (Emb.fv_mem (by rw [hE.m.vl];exact hil))
     ·have h1:=List.all_eq_true.1 hlt d hd
      rw [show s1.get d=AV.fv i v.ver v.k v.es (s.get d) from SS.get_map s _ hany' _ _ d]
      exact AV.fv_no _ h1
     ·have h1:=List.all_eq_true.1 hlb j hj
      have hs0:s.B[j]? = some s.B[j]:=by simp [hjl]
      rw [getD_some hs0] at h1
      show (s.B.map _)[j]? = _
      rw [List.getElem?_map,hs0]
      simp only [Option.map_some,Box.mp,AV.fvs_no _ h1]
     ·show (s.V.set i _)[j]? = _
      rw [List.getElem?_set_ne]
      rintro rfl
      simp only [List.contains_eq_mem,decide_eq_false_iff_not] at hlk
      exact hlk hj
    have hx1:ExtS e st w e' st1.B st1.V w:=by
     have:st1.B.length=st.B.length:=dU _ _ _
     show Ext e w _ _ _ e' w st1.B.length _ _
     rw [this];exact hx'
    exact hk m st1 hE1 ha n0 w0 e' a w Qr hr' fun ex e'' st' a' w'' hq hrel hdf hx''=>hkk ex e'' st' a' w'' hq hrel hdf (hx1.trans hx'')
   ·cases h
  ·cases h
 ·rename_i i
  split at h
  ·rename_i b hb
   split at h
   ·rename_i cs hcs
    split at h
    ·rename_i hc
     cases h
     simp only [Bool.and_eq_true,Bool.not_eq_true'] at hc
     obtain ⟨⟨⟨hl,hlk⟩,hlt⟩,hlb⟩:=hc
     have hil:=(List.getElem?_eq_some_iff.1 hb).1
     obtain ⟨hb1,hb2⟩:=hE.m.b i b hb
     have hcs1:cV (b.cz m).cs=some cs:=by
      simp only [Box.cz,AV.czs_eq,cM hcs,hQ]
     intro n0 w0 e a w Qr hr hkk
     obtain ⟨e',hr0,hx',hkey⟩:=hr.freezeB' hb1 hl hcs1
     let f:=AV.fbs (m.fb i) cs
     let p:Nat→Bool:=fun j=>m.bm.contains j
     have hr':=hr0.map p f (fun xs vs hx=>AV.fbs_holds hkey xs vs hx) (fun nb ws xs=>AV.fbs_scoped xs)
     let st1:St:=⟨f st.t,nI p f (st.B.set (m.fb i) { b.cz m with live:=false }),st.V⟩
     let s1:SS:=⟨s.n,s.t.map fun p=>(p.1,AV.fb i cs p.2),(s.B.set i ⟨false,b.T,b.cs⟩).map (Box.mp (AV.fbs i cs)),s.V⟩
     have hany:AV.fb (m.fb i) cs .any=.any:=by simp [AV.fb]
     have hany':AV.fb i cs .any=.any:=by simp [AV.fb]
     have hsetB:=hE.m.setB (i:=i) (b:=⟨false,b.T,b.cs⟩) hil hb2
     have hE1:Em m s1 st1:=by
      refine ⟨?_,fun p hp=>?_,⟨by simpa [s1] using hE.m.bl,by simpa [s1] using hE.m.vl,by simpa [s1] using hE.m.ol,fun j c hc=>?_,fun j x hx hxl=>hE.m.v j x hx hxl,hE.m.vlt,fun j k hj hk=>hE.m.bi j k (by simpa [s1] using hj) (by simpa [s1] using hk),fun j k hj hk=>hE.m.vi j k (by simpa [s1] using hj) (by simpa [s1] using hk)⟩⟩
      ·show AV.fbs _ _ st.t=mkT s.n _
       rw [AV.fbs_eq,hE.t,BC _ hany]
       congr 1
       simp only [s1,List.map_map]
       refine List.map_congr_left fun p hp=>?_
       simp only [Function.comp_def]
       rw [(AV.fb_cz hil hE.m.bi p.2 (hE.ti p hp)).1]
      ·simp only [s1,List.mem_map] at hp
       obtain ⟨q,hq,rfl⟩:=hp
       simp only [s1,List.length_map,List.length_set]
       exact (AV.fb_cz hil hE.m.bi q.2 (hE.ti q hq)).2
      ·simp only [s1] at hc
       rw [List.getElem?_map,Option.map_eq_some_iff] at hc
       obtain ⟨b0,hb0,rfl⟩:=hc
       obtain ⟨q1,q2⟩:=hsetB.b j b0 hb0
       simp only [List.length_set] at q2
       obtain ⟨q3,q4⟩:=AV.fbs_cz (cs:=cs) hil hE.m.bi b0.cs q2
       refine ⟨?_,by simpa [s1,Box.mp] using q4⟩
       have hp:p (m.fb j)=true:=by
        simp only [p,List.contains_iff_mem]
        exact Emb.fb_mem (by rw [hE.m.bl];have:=(List.getElem?_eq_some_iff.1 hb0).1;simpa using this)
       show (nI p f _)[m.fb j]? = _
       rw [iL]
       have q1':(st.B.set (m.fb i) { b.cz m with live:=false })[m.fb j]? = some (b0.cz m):=q1
       rw [q1']
       simp only [Option.map_some,hp,if_true,Box.mp,Box.cz,q3,f]
     have ha:Adv lk m s st m s1 st1:=by
      refine ⟨⟨Emb.Up.refl _,by simp [st1,dU],Nat.le_refl _,fun _ h=>.inl h,fun _ h=>.inl h,fun j hj hn=>?_,fun j hj hn=>rfl⟩,rfl,by simp [s1],by simp [s1],fun d hd=>?_,fun j hj hjl=>?_,fun j hj hjl=>rfl,fun _ _ _=>rfl⟩
      ·show (nI p f _)[j]? = _
       rw [iL]
       have hp:p j=false:=by simp only [p];simpa using hn
       rw [List.getElem?_set_ne (by rintro rfl;exact hn (Emb.fb_mem (by rw [hE.m.bl];exact hil)))]
       simp [hp]
      ·have h1:=List.all_eq_true.1 hlt d hd
       rw [show s1.get d=AV.fb i cs (s.get d) from SS.get_map s _ hany' _ _ d]
       exact AV.fb_no _ h1
      ·have h1:=List.all_eq_true.1 hlb j hj
       have hs0:s.B[j]? = some s.B[j]:=by simp [hjl]
       rw [getD_some hs0] at h1
       show ((s.B.set i _).map _)[j]? = _
       rw [List.getElem?_map,List.getElem?_set_ne (by rintro rfl;simp only [List.contains_eq_mem,decide_eq_false_iff_not] at hlk;exact hlk hj),hs0]
       simp only [Option.map_some,Box.mp,AV.fbs_no _ h1]
     have hx1:ExtS e st w e' st1.B st1.V w:=by
      have:st1.B.length=(st.B.set (m.fb i) { b.cz m with live:=false }).length:=dU _ _ _
      show Ext e w _ _ _ e' w st1.B.length _ _
      rw [this];exact hx'
     exact hk m st1 hE1 ha n0 w0 e' a w Qr hr' fun ex e'' st' a' w'' hq hrel hdf hx''=>hkk ex e'' st' a' w'' hq hrel hdf (hx1.trans hx'')
    ·cases h
   ·cases h
  ·cases h
 ·rename_i i off T k
  split at h
  ·rename_i b hb
   split at h
   ·rename_i hcell
    split at h
    ·rename_i hc
     cases h
     simp only [Bool.and_eq_true,Bool.not_eq_true'] at hc
     obtain ⟨⟨hl,hlk⟩,hTt⟩:=hc
     replace hTt:=of_decide_eq_true hTt
     have hil:=(List.getElem?_eq_some_iff.1 hb).1
     obtain ⟨hb1,hb2⟩:=hE.m.b i b hb
     have hcell1:(b.cz m).cs[off]? = some (.cv (.val (.slice none 0 0))):=by
      simp only [Box.cz,AV.czs_eq,List.getElem?_map,hcell,Option.map_some,AV.cz]
     intro n0 w0 e a w Qr hr hkk
     obtain ⟨e',hr',hx'⟩:=hr.ownNilB (T:=T) (k:=k) hb1 hl hcell1 hTt
     have hvl:m.vb.length=m.vm.length:=by rw [hE.m.ol,hE.m.vl]
     let m1:=m.pushV st.V.length
     let s1:SS:=⟨s.n,s.t,s.B.set i ⟨b.live,b.T,b.cs.set off (.own s.V.length 0)⟩,s.V++[⟨true,T,k,0,[]⟩]⟩
     let st1:St:=⟨st.t,st.B.set (m.fb i) ⟨(b.cz m).live,(b.cz m).T,(b.cz m).cs.set off (.own st.V.length 0)⟩,st.V++[⟨true,T,k,0,[]⟩]⟩
     have hu:m.Up m1:=Emb.pushV_up _ _
     have ho:=Emb.pushV_fo (m:=m) st.V.length hvl
     have hM:=hE.m.pushV (v:=⟨true,T,k,0,[]⟩)
     have hinn:AV.inns s.B.length (s.V++[(⟨true,T,k,0,[]⟩:Vec)]).length (b.cs.set off (.own s.V.length 0))=true:=by
      have h0:=hb2
      rw [AV.inns_eq,List.all_eq_true] at h0 ⊢
      intro y hy
      rcases List.mem_or_eq_of_mem_set hy with hy | rfl
      ·exact AV.inn_mono (Nat.le_refl _) (by simp) y (h0 y hy)
      ·simp [AV.inn]
     have hM1:=hM.setB (i:=i) (b:=⟨b.live,b.T,b.cs.set off (.own s.V.length 0)⟩) hil hinn
     have hfb:m1.fb i=m.fb i:=hu.b i (by rw [hE.m.bl];exact hil)
     have hcs:AV.czs m1 (b.cs.set off (.own s.V.length 0))=(AV.czs m b.cs).set off (.own st.V.length 0):=by
      have h1:AV.czs m1 b.cs=AV.czs m b.cs:=AV.czs_up hu ho b.cs (by rw [hE.m.bl,hE.m.vl];exact hb2)
      have h2:(AV.own s.V.length 0).cz m1=.own st.V.length 0:=by
       simp only [AV.cz]
       rw [← hE.m.vl,Emb.pushV_new,Emb.pushV_new0 _ hvl]
      rw [AV.czs_eq,List.map_set,h2,← AV.czs_eq,h1]
     have hE1:Em m1 s1 st1:=by
      refine ⟨?_,fun p hp=>?_,?_⟩
      ·show st.t=mkT s.n (s.t.map fun p=>(p.1,p.2.cz m1))
       rw [hE.t]
       congr 1
       refine List.map_congr_left fun p hp=>?_
       rw [AV.cz_up hu ho p.2 (by rw [hE.m.bl,hE.m.vl];exact hE.ti p hp)]
      ·simp only [s1,List.length_set]
       exact AV.inn_mono (Nat.le_refl _) (by simp) _ (hE.ti p hp)
      ·have:st.B.set (m1.fb i) ((⟨b.live,b.T,b.cs.set off (.own s.V.length 0)⟩:Box).cz m1)=st1.B:=by
        simp only [st1,hfb,Box.cz,hcs]
       rw [this] at hM1
       exact hM1
     have ha:Adv lk m s st m1 s1 st1:=by
      refine ⟨⟨hu,by simp [st1],by simp [st1],fun j hj=>.inl hj,fun j hj=>?_,fun j hj hn=>?_,fun j hj hn=>by simp only [st1];rw [List.getElem?_append_left hj]⟩,rfl,by simp [s1],by simp [s1],fun d _=>rfl,fun j hj hjl=>?_,fun j hj hjl=>by simp only [s1];rw [List.getElem?_append_left hjl],fun j _ hj=>ho j (by rw [hE.m.vl];exact hj)⟩
      ·simp only [m1,Emb.pushV,List.mem_append,List.mem_singleton] at hj
       rcases hj with hj | rfl
       ·exact .inl hj
       ·exact .inr (Nat.le_refl _)
      ·simp only [st1]
       rw [List.getElem?_set_ne]
       rintro rfl
       exact hn (Emb.fb_mem (by rw [hE.m.bl];exact hil))
      ·simp only [s1]
       rw [List.getElem?_set_ne]
       rintro rfl
       simp only [List.contains_eq_mem,decide_eq_false_iff_not] at hlk
       exact hlk hj
     exact hk m1 st1 hE1 ha n0 w0 e' a w Qr hr' fun ex e'' st' a' w'' hq hrel hdf hx''=>hkk ex e'' st' a' w'' hq hrel hdf (Ext.trans hx' hx'')
    ·cases h
   ·cases h
  ·cases h
def nJ:List Pa→Lk→SS→Option SS
 | [],_,s=>some s
 | p::ps,lk,s=>match aAv p lk s with
  | some s1=>nJ ps lk s1
  | none=>none
theorem xK:∀ {ps:List Pa} {lk:Lk} {m:Emb} {s s1:SS} {st:St} {c:Code} {Q:Exit→St→Prop},Em m s st→nJ ps lk s=some s1 →
  (∀ m1 st1,Em m1 s1 st1→Adv lk m s st m1 s1 st1→W F n P c st1 Q)→W F n P c st Q
 | [],lk,m,s,s1,st,c,Q,hE,h,hk=>by
  simp only [nJ,Option.some.injEq] at h
  subst h
  exact hk m st hE (Adv.refl _ _ _ _)
 | p::ps,lk,m,s,s1,st,c,Q,hE,h,hk=>by
  simp only [nJ] at h
  split at h
  ·rename_i s2 h2
   exact aFl hE h2 fun m1 st1 hE1 ha1=>xK hE1 h fun m2 st2 hE2 ha2=>hk m2 st2 hE2 (ha1.trans ha2)
  ·cases h
end
end Go.Sx
namespace Go.Sx
open Go Go.RowKit
variable [G:Ghost]
section
variable {F:Fence} {n:Nat} {P:Program}
theorem aEs {p:Pa} {lk:Lk} {m:Emb} {s s1:SS} {st:St} {l:List Oper} {ops:Array Oper} {Q:St→Prop} (hE:Em m s st) (h:aAv p lk s=some s1)
  (hk:∀ m1 st1,Em m1 s1 st1→Adv lk m s st m1 s1 st1→cK F n P ops l st1 Q):cK F n P ops l st Q:=by
 unfold aAv at h
 split at h
 ·rename_i d T k
  split at h
  ·rename_i hg
   split at h
   ·rename_i hc
    obtain ⟨hdn,hlk,hTt⟩:=hc
    cases h
    have hslot:=hE.slot hdn
    rw [hg] at hslot
    simp only [AV.cz] at hslot
    intro n0 w0 e a w Qr hr hkk
    obtain ⟨e',hr',hx'⟩:=hr.ownNil (T:=T) (k:=k) hslot hTt
    have hl:m.vb.length=m.vm.length:=by rw [hE.m.ol,hE.m.vl]
    have hE1:Em (m.pushV st.V.length) ⟨s.n,(d,.own s.V.length 0)::s.t,s.B,s.V++[⟨true,T,k,0,[]⟩]⟩ ⟨st.t.set d (.own st.V.length 0),st.B,st.V++[⟨true,T,k,0,[]⟩]⟩:=by
     have:=hE.put (hE.m.pushV (v:=⟨true,T,k,0,[]⟩)) (Emb.pushV_up _ _) (Emb.pushV_fo _ hl) (Nat.le_refl _) (by simp) (x:=.own s.V.length 0) (by simp [AV.inn]) (some d)
     simp only [SS.put,St.put,AV.cz] at this
     rw [← hE.m.vl,Emb.pushV_new,Emb.pushV_new0 _ hl] at this
     simpa [hE.m.vl] using this
    have ha:Adv lk m s st (m.pushV st.V.length) ⟨s.n,(d,.own s.V.length 0)::s.t,s.B,s.V++[⟨true,T,k,0,[]⟩]⟩ ⟨st.t.set d (.own st.V.length 0),st.B,st.V++[⟨true,T,k,0,[]⟩]⟩:=
     ⟨Stp.pushV _,rfl,Nat.le_refl _,by simp,fun j hj=>SS.put_get (d:=some d) (lk:=lk) (by simp only [cL,hlk,Bool.not_false]) j hj,fun _ _ _=>rfl,fun i _ hi=>by simp only [List.getElem?_append_left hi],fun i _ hi=>Emb.pushV_fo _ hl i (by rw [hE.m.vl];exact hi)⟩
    exact hk _ _ hE1 ha n0 w0 e' a w Qr hr' fun e'' st' a' w'' hq hrel hdf hx''=>hkk e'' st' a' w'' hq hrel hdf (hx'.trans hx'')
   ·cases h
  ·cases h
 ·rename_i i
  split at h
  ·rename_i v hv
   split at h
   ·rename_i hc
    cases h
    simp only [Bool.and_eq_true,Bool.not_eq_true'] at hc
    obtain ⟨⟨⟨hl,hlk⟩,hlt⟩,hlb⟩:=hc
    have hil:=(List.getElem?_eq_some_iff.1 hv).1
    have hv1:=hE.m.v i v hv (.inl (Vec.sl_live hl))
    intro n0 w0 e a w Qr hr hkk
    obtain ⟨e',hr0,hx',hkey⟩:=hr.freezeV' hv1 (show (v.cz m i).sl=true from hl)
    let f:=AV.fvs (m.fv i) (m.fo i+v.ver) v.k v.es
    let p:Nat→Bool:=fun j=>m.bm.contains j
    have hr':=hr0.map p f (fun xs vs hx=>AV.fvs_holds hkey xs vs hx) (fun nb ws xs=>AV.fvs_scoped xs)
    let st1:St:=⟨f st.t,nI p f st.B,st.V.set (m.fv i) { v.cz m i with live:=false }⟩
    let s1:SS:=⟨s.n,s.t.map fun p=>(p.1,AV.fv i v.ver v.k v.es p.2),s.B.map (Box.mp (AV.fvs i v.ver v.k v.es)),s.V.set i ⟨false,v.T,v.k,v.ver,v.es⟩⟩
    have hany:AV.fv (m.fv i) (m.fo i+v.ver) v.k v.es .any=.any:=by simp [AV.fv]
    have hany':AV.fv i v.ver v.k v.es .any=.any:=by simp [AV.fv]
    have hsetV:=hE.m.setV (i:=i) (v:=⟨false,v.T,v.k,v.ver,v.es⟩) hil
    have hE1:Em m s1 st1:=by
     refine ⟨?_,fun p hp=>?_,⟨by simpa [s1] using hE.m.bl,by simpa [s1] using hE.m.vl,by simpa [s1] using hE.m.ol,fun j b hb=>?_,fun j x hx hxl=>hsetV.v j x hx hxl,fun j hj=>hsetV.vlt j hj,fun j k hj hk=>hE.m.bi j k (by simpa [s1] using hj) (by simpa [s1] using hk),fun j k hj hk=>hE.m.vi j k (by simpa [s1] using hj) (by simpa [s1] using hk)⟩⟩
     ·show AV.fvs _ _ _ _ st.t=mkT s.n _
      rw [AV.fvs_eq,hE.t,BC _ hany]
      congr 1
      simp only [s1,List.map_map]
      refine List.map_congr_left fun p hp=>?_
      simp only [Function.comp_def]
      rw [(AV.fv_cz hil hE.m.vi p.2 (hE.ti p hp)).1]
     ·simp only [s1,List.mem_map] at hp
      obtain ⟨q,hq,rfl⟩:=hp
      simp only [s1,List.length_map,List.length_set]
      exact (AV.fv_cz hil hE.m.vi q.2 (hE.ti q hq)).2
     ·simp only [s1] at hb
      rw [List.getElem?_map,Option.map_eq_some_iff] at hb
      obtain ⟨b0,hb0,rfl⟩:=hb
      obtain ⟨q1,q2⟩:=hE.m.b j b0 hb0
      obtain ⟨q3,q4⟩:=AV.fvs_cz (ver:=v.ver) (k:=v.k) (es:=v.es) hil hE.m.vi b0.cs q2
      refine ⟨?_,by simpa [s1,Box.mp] using q4⟩
      have hp:p (m.fb j)=true:=by
       simp only [p,List.contains_iff_mem]
       exact Emb.fb_mem (by rw [hE.m.bl];exact (List.getElem?_eq_some_iff.1 hb0).1)
      show (nI p f st.B)[m.fb j]? = _
      rw [iL,q1]
      simp only [Option.map_some,hp,if_true,Box.mp,Box.cz,q3,f]
    have ha:Adv lk m s st m s1 st1:=by
     refine ⟨⟨Emb.Up.refl _,by simp [st1,dU],by simp [st1],fun _ h=>.inl h,fun _ h=>.inl h,fun j hj hn=>?_,fun j hj hn=>?_⟩,rfl,by simp [s1],by simp [s1],fun d hd=>?_,fun j hj hjl=>?_,fun j hj hjl=>?_,fun _ _ _=>rfl⟩
     ·show (nI p f st.B)[j]? = _
      rw [iL]
      have hp:p j=false:=by simp only [p];simpa using hn
      simp [hp]
     ·show (st.V.set (m.fv i) _)[j]? = _
      rw [List.getElem?_set_ne]
      rintro rfl
      exact hn (Emb.fv_mem (by rw [hE.m.vl];exact hil))
     ·have h1:=List.all_eq_true.1 hlt d hd
      rw [show s1.get d=AV.fv i v.ver v.k v.es (s.get d) from SS.get_map s _ hany' _ _ d]
      exact AV.fv_no _ h1
     ·have h1:=List.all_eq_true.1 hlb j hj
      have hs0:s.B[j]? = some s.B[j]:=by simp [hjl]
      rw [getD_some hs0] at h1
      show (s.B.map _)[j]? = _
      rw [List.getElem?_map,hs0]
      simp only [Option.map_some,Box.mp,AV.fvs_no _ h1]
     ·show (s.V.set i _)[j]? = _
      rw [List.getElem?_set_ne]
      rintro rfl
      simp only [List.contains_eq_mem,decide_eq_false_iff_not] at hlk
      exact hlk hj
    have hx1:ExtS e st w e' st1.B st1.V w:=by
     have:st1.B.length=st.B.length:=dU _ _ _
     show Ext e w _ _ _ e' w st1.B.length _ _
     rw [this];exact hx'
    exact hk m st1 hE1 ha n0 w0 e' a w Qr hr' fun e'' st' a' w'' hq hrel hdf hx''=>hkk e'' st' a' w'' hq hrel hdf (hx1.trans hx'')
   ·cases h
  ·cases h
 ·rename_i i
  split at h
  ·rename_i b hb
   split at h
   ·rename_i cs hcs
    split at h
    ·rename_i hc
     cases h
     simp only [Bool.and_eq_true,Bool.not_eq_true'] at hc
     obtain ⟨⟨⟨hl,hlk⟩,hlt⟩,hlb⟩:=hc
     have hil:=(List.getElem?_eq_some_iff.1 hb).1
     obtain ⟨hb1,hb2⟩:=hE.m.b i b hb
     have hcs1:cV (b.cz m).cs=some cs:=by
      simp only [Box.cz,AV.czs_eq,cM hcs,hQ]
     intro n0 w0 e a w Qr hr hkk
     obtain ⟨e',hr0,hx',hkey⟩:=hr.freezeB' hb1 hl hcs1
     let f:=AV.fbs (m.fb i) cs
     let p:Nat→Bool:=fun j=>m.bm.contains j
     have hr':=hr0.map p f (fun xs vs hx=>AV.fbs_holds hkey xs vs hx) (fun nb ws xs=>AV.fbs_scoped xs)
     let st1:St:=⟨f st.t,nI p f (st.B.set (m.fb i) { b.cz m with live:=false }),st.V⟩
     let s1:SS:=⟨s.n,s.t.map fun p=>(p.1,AV.fb i cs p.2),(s.B.set i ⟨false,b.T,b.cs⟩).map (Box.mp (AV.fbs i cs)),s.V⟩
     have hany:AV.fb (m.fb i) cs .any=.any:=by simp [AV.fb]
     have hany':AV.fb i cs .any=.any:=by simp [AV.fb]
     have hsetB:=hE.m.setB (i:=i) (b:=⟨false,b.T,b.cs⟩) hil hb2
     have hE1:Em m s1 st1:=by
      refine ⟨?_,fun p hp=>?_,⟨by simpa [s1] using hE.m.bl,by simpa [s1] using hE.m.vl,by simpa [s1] using hE.m.ol,fun j c hc=>?_,fun j x hx hxl=>hE.m.v j x hx hxl,hE.m.vlt,fun j k hj hk=>hE.m.bi j k (by simpa [s1] using hj) (by simpa [s1] using hk),fun j k hj hk=>hE.m.vi j k (by simpa [s1] using hj) (by simpa [s1] using hk)⟩⟩
      ·show AV.fbs _ _ st.t=mkT s.n _
       rw [AV.fbs_eq,hE.t,BC _ hany]
       congr 1
       simp only [s1,List.map_map]
       refine List.map_congr_left fun p hp=>?_
       simp only [Function.comp_def]
       rw [(AV.fb_cz hil hE.m.bi p.2 (hE.ti p hp)).1]
      ·simp only [s1,List.mem_map] at hp
       obtain ⟨q,hq,rfl⟩:=hp
       simp only [s1,List.length_map,List.length_set]
       exact (AV.fb_cz hil hE.m.bi q.2 (hE.ti q hq)).2
      ·simp only [s1] at hc
       rw [List.getElem?_map,Option.map_eq_some_iff] at hc
       obtain ⟨b0,hb0,rfl⟩:=hc
       obtain ⟨q1,q2⟩:=hsetB.b j b0 hb0
       simp only [List.length_set] at q2
       obtain ⟨q3,q4⟩:=AV.fbs_cz (cs:=cs) hil hE.m.bi b0.cs q2
       refine ⟨?_,by simpa [s1,Box.mp] using q4⟩
       have hp:p (m.fb j)=true:=by
        simp only [p,List.contains_iff_mem]
        exact Emb.fb_mem (by rw [hE.m.bl];have:=(List.getElem?_eq_some_iff.1 hb0).1;simpa using this)
       show (nI p f _)[m.fb j]? = _
       rw [iL]
       have q1':(st.B.set (m.fb i) { b.cz m with live:=false })[m.fb j]? = some (b0.cz m):=q1
       rw [q1']
       simp only [Option.map_some,hp,if_true,Box.mp,Box.cz,q3,f]
     have ha:Adv lk m s st m s1 st1:=by
      refine ⟨⟨Emb.Up.refl _,by simp [st1,dU],Nat.le_refl _,fun _ h=>.inl h,fun _ h=>.inl h,fun j hj hn=>?_,fun j hj hn=>rfl⟩,rfl,by simp [s1],by simp [s1],fun d hd=>?_,fun j hj hjl=>?_,fun j hj hjl=>rfl,fun _ _ _=>rfl⟩
      ·show (nI p f _)[j]? = _
       rw [iL]
       have hp:p j=false:=by simp only [p];simpa using hn
       rw [List.getElem?_set_ne (by rintro rfl;exact hn (Emb.fb_mem (by rw [hE.m.bl];exact hil)))]
       simp [hp]
      ·have h1:=List.all_eq_true.1 hlt d hd
       rw [show s1.get d=AV.fb i cs (s.get d) from SS.get_map s _ hany' _ _ d]
       exact AV.fb_no _ h1
      ·have h1:=List.all_eq_true.1 hlb j hj
       have hs0:s.B[j]? = some s.B[j]:=by simp [hjl]
       rw [getD_some hs0] at h1
       show ((s.B.set i _).map _)[j]? = _
       rw [List.getElem?_map,List.getElem?_set_ne (by rintro rfl;simp only [List.contains_eq_mem,decide_eq_false_iff_not] at hlk;exact hlk hj),hs0]
       simp only [Option.map_some,Box.mp,AV.fbs_no _ h1]
     have hx1:ExtS e st w e' st1.B st1.V w:=by
      have:st1.B.length=(st.B.set (m.fb i) { b.cz m with live:=false }).length:=dU _ _ _
      show Ext e w _ _ _ e' w st1.B.length _ _
      rw [this];exact hx'
     exact hk m st1 hE1 ha n0 w0 e' a w Qr hr' fun e'' st' a' w'' hq hrel hdf hx''=>hkk e'' st' a' w'' hq hrel hdf (hx1.trans hx'')
    ·cases h
   ·cases h
  ·cases h
 ·rename_i i off T k
  split at h
  ·rename_i b hb
   split at h
   ·rename_i hcell
    split at h
    ·rename_i hc
     cases h
     simp only [Bool.and_eq_true,Bool.not_eq_true'] at hc
     obtain ⟨⟨hl,hlk⟩,hTt⟩:=hc
     replace hTt:=of_decide_eq_true hTt
     have hil:=(List.getElem?_eq_some_iff.1 hb).1
     obtain ⟨hb1,hb2⟩:=hE.m.b i b hb
     have hcell1:(b.cz m).cs[off]? = some (.cv (.val (.slice none 0 0))):=by
      simp only [Box.cz,AV.czs_eq,List.getElem?_map,hcell,Option.map_some,AV.cz]
     intro n0 w0 e a w Qr hr hkk
     obtain ⟨e',hr',hx'⟩:=hr.ownNilB (T:=T) (k:=k) hb1 hl hcell1 hTt
     have hvl:m.vb.length=m.vm.length:=by rw [hE.m.ol,hE.m.vl]
     let m1:=m.pushV st.V.length
     let s1:SS:=⟨s.n,s.t,s.B.set i ⟨b.live,b.T,b.cs.set off (.own s.V.length 0)⟩,s.V++[⟨true,T,k,0,[]⟩]⟩
     let st1:St:=⟨st.t,st.B.set (m.fb i) ⟨(b.cz m).live,(b.cz m).T,(b.cz m).cs.set off (.own st.V.length 0)⟩,st.V++[⟨true,T,k,0,[]⟩]⟩
     have hu:m.Up m1:=Emb.pushV_up _ _
     have ho:=Emb.pushV_fo (m:=m) st.V.length hvl
     have hM:=hE.m.pushV (v:=⟨true,T,k,0,[]⟩)
     have hinn:AV.inns s.B.length (s.V++[(⟨true,T,k,0,[]⟩:Vec)]).length (b.cs.set off (.own s.V.length 0))=true:=by
      have h0:=hb2
      rw [AV.inns_eq,List.all_eq_true] at h0 ⊢
      intro y hy
      rcases List.mem_or_eq_of_mem_set hy with hy | rfl
      ·exact AV.inn_mono (Nat.le_refl _) (by simp) y (h0 y hy)
      ·simp [AV.inn]
     have hM1:=hM.setB (i:=i) (b:=⟨b.live,b.T,b.cs.set off (.own s.V.length 0)⟩) hil hinn
     have hfb:m1.fb i=m.fb i:=hu.b i (by rw [hE.m.bl];exact hil)
     have hcs:AV.czs m1 (b.cs.set off (.own s.V.length 0))=(AV.czs m b.cs).set off (.own st.V.length 0):=by
      have h1:AV.czs m1 b.cs=AV.czs m b.cs:=AV.czs_up hu ho b.cs (by rw [hE.m.bl,hE.m.vl];exact hb2)
      have h2:(AV.own s.V.length 0).cz m1=.own st.V.length 0:=by
       simp only [AV.cz]
       rw [← hE.m.vl,Emb.pushV_new,Emb.pushV_new0 _ hvl]
      rw [AV.czs_eq,List.map_set,h2,← AV.czs_eq,h1]
     have hE1:Em m1 s1 st1:=by
      refine ⟨?_,fun p hp=>?_,?_⟩
      ·show st.t=mkT s.n (s.t.map fun p=>(p.1,p.2.cz m1))
       rw [hE.t]
       congr 1
       refine List.map_congr_left fun p hp=>?_
       rw [AV.cz_up hu ho p.2 (by rw [hE.m.bl,hE.m.vl];exact hE.ti p hp)]
      ·simp only [s1,List.length_set]
       exact AV.inn_mono (Nat.le_refl _) (by simp) _ (hE.ti p hp)
      ·have:st.B.set (m1.fb i) ((⟨b.live,b.T,b.cs.set off (.own s.V.length 0)⟩:Box).cz m1)=st1.B:=by
        simp only [st1,hfb,Box.cz,hcs]
       rw [this] at hM1
       exact hM1
     have ha:Adv lk m s st m1 s1 st1:=by
      refine ⟨⟨hu,by simp [st1],by simp [st1],fun j hj=>.inl hj,fun j hj=>?_,fun j hj hn=>?_,fun j hj hn=>by simp only [st1];rw [List.getElem?_append_left hj]⟩,rfl,by simp [s1],by simp [s1],fun d _=>rfl,fun j hj hjl=>?_,fun j hj hjl=>by simp only [s1];rw [List.getElem?_append_left hjl],fun j _ hj=>ho j (by rw [hE.m.vl];exact hj)⟩
      ·simp only [m1,Emb.pushV,List.mem_append,List.mem_singleton] at hj
       rcases hj with hj | rfl
       ·exact .inl hj
       ·exact .inr (Nat.le_refl _)
      ·simp only [st1]
       rw [List.getElem?_set_ne]
       rintro rfl
       exact hn (Emb.fb_mem (by rw [hE.m.bl];exact hil))
      ·simp only [s1]
       rw [List.getElem?_set_ne]
       rintro rfl
       simp only [List.contains_eq_mem,decide_eq_false_iff_not] at hlk
       exact hlk hj
     exact hk m1 st1 hE1 ha n0 w0 e' a w Qr hr' fun e'' st' a' w'' hq hrel hdf hx''=>hkk e'' st' a' w'' hq hrel hdf (Ext.trans hx' hx'')
    ·cases h
   ·cases h
  ·cases h
theorem JO:∀ {ps:List Pa} {lk:Lk} {m:Emb} {s s1:SS} {st:St} {l:List Oper} {ops:Array Oper} {Q:St→Prop},Em m s st→nJ ps lk s=some s1 →
  (∀ m1 st1,Em m1 s1 st1→Adv lk m s st m1 s1 st1→cK F n P ops l st1 Q)→cK F n P ops l st Q
 | [],lk,m,s,s1,st,l,ops,Q,hE,h,hk=>by
  simp only [nJ,Option.some.injEq] at h
  subst h
  exact hk m st hE (Adv.refl _ _ _ _)
 | p::ps,lk,m,s,s1,st,l,ops,Q,hE,h,hk=>by
  simp only [nJ] at h
  split at h
  ·rename_i s2 h2
   exact aEs hE h2 fun m1 st1 hE1 ha1=>JO hE1 h fun m2 st2 hE2 ha2=>hk m2 st2 hE2 (ha1.trans ha2)
  ·cases h
end
end Go.Sx
namespace Go.Sx
open Go Go.RowKit
variable [G:Ghost]
structure FP where
 rb:List Nat
 wb:Option Nat
 al:Option Nat
 v:Option Nat
 rv:List Nat
 mr:List Nat
 z:Bool
def MEq (P:Program) (a b:Option Vec):Prop:=a=b∨∃ v v',a=some v∧b=some v'∧v'.live=v.live∧v'.T=v.T∧v'.k=v.k∧v'.ver=v.ver ∧
 ∀ (T:TypeId) (mi:MI),gD P T=some mi→v.T=mi.tag T→(v'.es.all (okE mi)=v.es.all (okE mi))∧(v.es.all (okE mi)=true→∀ cs,gZ mi cs=true→bO mi.kl.length cs mi.z v'.es=bO mi.kl.length cs mi.z v.es)
theorem MEq.refl {P:Program} (a:Option Vec):MEq P a a:=have _:=G;.inl rfl
theorem MEq.symm {P:Program} {a b:Option Vec} (h:MEq P a b):MEq P b a:=by
 have _:=G
 rcases h with h | ⟨v,v',h1,h2,h3,h4,h5,h6,h7⟩
 ·exact .inl h.symm
 ·refine .inr ⟨v',v,h2,h1,h3.symm,h4.symm,h5.symm,h6.symm,fun T mi hm hT=>?_⟩
  obtain ⟨q1,q2⟩:=h7 T mi hm (by rw [← h4];exact hT)
  exact ⟨q1.symm,fun ho cs hc=>(q2 (by rw [← q1];exact ho) cs hc).symm⟩
theorem MEq.trans {P:Program} {a b c:Option Vec} (h:MEq P a b) (h':MEq P b c):MEq P a c:=by
 have _:=G
 rcases h with rfl | ⟨v,v',h1,h2,h3,h4,h5,h6,h7⟩
 ·exact h'
 ·rcases h' with rfl | ⟨x,x',g1,g2,g3,g4,g5,g6,g7⟩
  ·exact .inr ⟨v,v',h1,h2,h3,h4,h5,h6,h7⟩
  ·rw [h2] at g1;cases g1
   refine .inr ⟨v,x',h1,g2,g3.trans h3,g4.trans h4,g5.trans h5,g6.trans h6,fun T mi hm hT=>?_⟩
   obtain ⟨q1,q2⟩:=h7 T mi hm hT
   obtain ⟨p1,p2⟩:=g7 T mi hm (by rw [h4];exact hT)
   exact ⟨p1.trans q1,fun ho cs hc=>(p2 (by rw [q1];exact ho) cs hc).trans (q2 ho cs hc)⟩
structure Eff where
 b:Option (Nat×Box)
 p:Option Box
 v:Option (Nat×Vec)
def Eff.none':Eff:=⟨none,none,none⟩
def Eff.B (f:Eff) (B:List Box):List Box:=(match f.b with | some (i,x)=>B.set i x | none=>B)++f.p.toList
def Eff.V (f:Eff) (V:List Vec):List Vec:=match f.v with | some (i,x)=>V.set i x | none=>V
theorem Eff.V_length (f:Eff) (V:List Vec):(f.V V).length=V.length:=by have _:=G;unfold Eff.V;split <;> simp
theorem Eff.B_length (f:Eff) (B:List Box):(f.B B).length=B.length+f.p.toList.length:=by have _:=G;unfold Eff.B;split <;> simp
def apF (x y:FP):Bool:=
 (match x.wb with | some i=>!y.rb.contains i | none=>true)&&(match y.wb with | some i=>!x.rb.contains i | none=>true) &&
 (match x.al with | some i=>!y.rb.contains i&&y.al.isNone | none=>true)&&(match y.al with | some i=>!x.rb.contains i&&x.al.isNone | none=>true) &&
 (match x.v,y.v with | some i,some j=>i != j | _,_=>true)&&(match x.v with | some i=>!y.rv.contains i | none=>true)&&(match y.v with | some i=>!x.rv.contains i | none=>true)&&(match x.v with | some i=>x.z || !y.mr.contains i | none=>true)&&(match y.v with | some i=>y.z || !x.mr.contains i | none=>true)
theorem aAw {x y:FP} (h:apF x y=true):apF y x=true:=by
 have _:=G
 unfold apF at h ⊢
 simp only [Bool.and_eq_true] at h ⊢
 obtain ⟨⟨⟨⟨⟨⟨⟨⟨h1,h2⟩,h3⟩,h4⟩,h5⟩,h6⟩,h7⟩,h8⟩,h9⟩:=h
 refine ⟨⟨⟨⟨⟨⟨⟨⟨h2,h1⟩,h4⟩,h3⟩,?_⟩,h7⟩,h6⟩,h9⟩,h8⟩
 revert h5
 cases x.v <;> cases y.v <;> simp
 exact fun h=>Ne.symm h
def AL (lo:List Oper) (fps:List FP):Bool:=
 (List.range lo.length).all fun i=>(List.range lo.length).all fun j=>j≤i || (wl lo i).getD j false || (match fps[i]?,fps[j]? with | some x,some y=>apF x y | _,_=>false)
def aAx (w:List Bool):Nat→Nat→Bool
 | _,0=>true
 | j,f+1=>w.getD j false&&aAx w (j+1) f
def UE (lo:List Oper) (n:Nat):Nat→Nat→Bool
 | _,0=>true
 | i,f+1=>aAx (wl lo i) (i+1) (n - (i+1))&&UE lo n (i+1) f
def aCB (w:List Bool) (x:FP) (n:Nat):Nat→List FP→Bool
 | j,[]=>aAx w j (n - j)
 | j,y::ys=>(apF x y || w.getD j false)&&aCB w x n (j+1) ys
def aCC (lo:List Oper) (n:Nat):Nat→List FP→Bool
 | i,[]=>UE lo n i (n - i)
 | i,x::xs=>aCB (wl lo i) x n (i+1) xs&&aCC lo n (i+1) xs
def aCD (lo:List Oper) (fps:List FP):Bool:=aCC lo lo.length 0 fps
theorem xL {w:List Bool}:∀ {f j:Nat},aAx w j f=true→∀ k,j≤k→k<j+f→w.getD k false=true
 | 0,j,_,k,h1,h2=>by have _:=G;omega
 | f+1,j,h,k,h1,h2=>by
  simp only [aAx,Bool.and_eq_true] at h
  by_cases hk:k=j
  ·subst hk;exact h.1
  ·exact xL h.2 k (by omega) (by omega)
theorem CO {lo:List Oper} {n:Nat}:∀ {f i:Nat},UE lo n i f=true→∀ a b,i≤a→a<i+f→a<b→b<n→(wl lo a).getD b false=true
 | 0,i,_,a,b,h1,h2,_,_=>by omega
 | f+1,i,h,a,b,h1,h2,h3,h4=>by
  simp only [UE,Bool.and_eq_true] at h
  by_cases ha:a=i
  ·subst ha;exact xL h.1 b (by omega) (by omega)
  ·exact CO h.2 a b (by omega) (by omega) h3 h4
theorem GP {w:List Bool} {x:FP} {n:Nat}:∀ {ys:List FP} {j:Nat},aCB w x n j ys=true→∀ k,j≤k→k<n→w.getD k false=true∨∃ y,ys[k - j]? = some y∧apF x y=true
 | [],j,h,k,h1,h2=>.inl (xL h k h1 (by omega))
 | y::ys,j,h,k,h1,h2=>by
  simp only [aCB,Bool.and_eq_true,Bool.or_eq_true] at h
  by_cases hk:k=j
  ·subst hk
   rcases h.1 with h3 | h3
   ·exact .inr ⟨y,by simp,h3⟩
   ·exact .inl h3
  ·rcases GP h.2 k (by omega) h2 with h3 | ⟨z,h3,h4⟩
   ·exact .inl h3
   ·refine .inr ⟨z,?_,h4⟩
    rw [show k - j=(k - (j+1))+1 by omega]
    simpa using h3
theorem GQ {lo:List Oper} {n:Nat}:∀ {xs:List FP} {i:Nat},aCC lo n i xs=true→∀ a b,i≤a→a<b→b<n→(wl lo a).getD b false=true∨∃ x y,xs[a - i]? = some x∧xs[b - i]? = some y∧apF x y=true
 | [],i,h,a,b,h1,h2,h3=>.inl (CO h a b h1 (by omega) h2 h3)
 | x::xs,i,h,a,b,h1,h2,h3=>by
  simp only [aCC,Bool.and_eq_true] at h
  by_cases ha:a=i
  ·subst ha
   rcases GP h.1 b (by omega) h3 with h4 | ⟨y,h4,h5⟩
   ·exact .inl h4
   ·refine .inr ⟨x,y,by simp,?_,h5⟩
    rw [show b - a=(b - (a+1))+1 by omega]
    simpa using h4
  ·rcases GQ h.2 a b (by omega) h2 h3 with h4 | ⟨y,z,h4,h5,h6⟩
   ·exact .inl h4
   ·refine .inr ⟨y,z,?_,?_,h6⟩
    ·rw [show a - i=(a - (i+1))+1 by omega];simpa using h4
    ·rw [show b - i=(b - (i+1))+1 by omega];simpa using h5
theorem GR {lo:List Oper} {fps:List FP} (h:aCD lo fps=true):AL lo fps=true:=by
 unfold AL
 rw [List.all_eq_true]
 intro i hi
 rw [List.all_eq_true]
 intro j hj
 simp only [List.mem_range] at hi hj
 by_cases hji:j≤i
 ·simp [hji]
 ·rcases GQ h i j (Nat.zero_le _) (by omega) hj with h1 | ⟨x,y,h1,h2,h3⟩
  ·rw [h1];simp
  ·simp only [Nat.sub_zero] at h1 h2
   rw [h1,h2];simp [h3]
section
variable (F:Fence) (n:Nat) (P:Program) (lo:List Oper) (vb:Nat→Prop)
def aAy (o:Oper) (s:St) (A:AV) (B':List Box) (V':List Vec):Prop:=
 ∀ n0 w0 e a w (Q:Exit→Act→World→Prop) (K:Act→World→Prop),Rel n0 w0 e s a w →
  (∀ e' v w',Mem n0 w0 e' B' V' w'→ExtS e s w e' B' V' w'→AV.holds e' w' (kss V') A v→AV.sco B'.length (vers V') A→K (a.put o.dst v) w') →
  if Region.wanted o (yielded lo.toArray a.tmps)=true then o.wpIn F n P a w K Q else (∀ f,o.about P w a.eval=some f→F.fn f)∧K (a.put o.dst undef) w
structure AgrF (fp:FP) (o:Oper) (s s':St):Prop where
 sl:∀ d∈o.looksAt lo.toArray,s'.t[d]? = s.t[d]?
 B:∀ i∈fp.rb,s'.B[i]? = s.B[i]?
 Bl:fp.al.isSome=true→s'.B.length=s.B.length
 Vl:s'.V.length=s.V.length
 V0:∀ i,vb i→s'.V[i]? = s.V[i]?
 Vx:∀ j,fp.v=some j→s'.V[j]? = s.V[j]?
 Vr:∀ j∈fp.rv,s'.V[j]? = s.V[j]?
 Vm:∀ j∈fp.mr,MEq P (s.V[j]?) (s'.V[j]?)
theorem AgrF.refl (fp:FP) (o:Oper) (s:St):AgrF P lo vb fp o s s:=⟨fun _ _=>rfl,fun _ _=>rfl,fun _=>rfl,rfl,fun _ _=>rfl,fun _ _=>rfl,fun _ _=>rfl,fun _ _=>MEq.refl _⟩
theorem AgrF.trans {fp:FP} {o:Oper} {s s' s'':St} (h:AgrF P lo vb fp o s s') (h':AgrF P lo vb fp o s' s''):AgrF P lo vb fp o s s'':=
 ⟨fun d hd=>(h'.sl d hd).trans (h.sl d hd),fun i hi=>(h'.B i hi).trans (h.B i hi),fun hk=>(h'.Bl hk).trans (h.Bl hk),h'.Vl.trans h.Vl,fun i hi=>(h'.V0 i hi).trans (h.V0 i hi),fun j hj=>(h'.Vx j hj).trans (h.Vx j hj),fun j hj=>(h'.Vr j hj).trans (h.Vr j hj),fun j hj=>(h.Vm j hj).trans (h'.Vm j hj)⟩
theorem AgrF.symm {fp:FP} {o:Oper} {s s':St} (h:AgrF P lo vb fp o s s'):AgrF P lo vb fp o s' s:=
 ⟨fun d hd=>(h.sl d hd).symm,fun i hi=>(h.B i hi).symm,fun hk=>(h.Bl hk).symm,h.Vl.symm,fun i hi=>(h.V0 i hi).symm,fun j hj=>(h.Vx j hj).symm,fun j hj=>(h.Vr j hj).symm,fun j hj=>(h.Vm j hj).symm⟩
structure RF (fp:FP) (o:Oper) (s:St) (A:AV) (f:Eff):Prop where
 rl:∀ i∈fp.rb,i<s.B.length
 wb:∀ i x,f.b=some (i,x)→fp.wb=some i∧i∈fp.rb
 al:f.p.isSome=true→fp.al=some s.B.length
 v:∀ j x,f.v=some (j,x)→fp.v=some j∧¬vb j∧(fp.z=true→MEq P (s.V[j]?) (some x))
 sem:∀ s',AgrF P lo vb fp o s s'→aAy F n P lo o s' A (f.B s'.B) (f.V s'.V)
variable {F n P lo vb}
theorem RF.agr {fp:FP} {o:Oper} {s s':St} {A:AV} {f:Eff} (h:RF F n P lo vb fp o s A f) (ha:AgrF P lo vb fp o s s'):RF F n P lo vb fp o s' A f:=by
 refine ⟨fun i hi=>?_,h.wb,fun hp=>?_,fun j x hf=>?_,fun s'' h'=>h.sem s'' (ha.trans P lo vb h')⟩
 ·have h1:=h.rl i hi
  have h2:=ha.B i hi
  rw [List.getElem?_eq_getElem h1] at h2
  exact (List.getElem?_eq_some_iff.1 h2).1
 ·have h1:=h.al hp
  rw [ha.Bl (by rw [h1];rfl)];exact h1
 ·obtain ⟨q1,q2,q3⟩:=h.v j x hf
  exact ⟨q1,q2,fun hz=>by rw [ha.Vx j q1];exact q3 hz⟩
def stF (o:Oper) (s:St) (A:AV) (f:Eff):St:=s.put o.dst A (f.B s.B) (f.V s.V)
theorem MS {oi oj:Oper} {fi fj:FP} {s:St} {A:AV} {f:Eff} (hap:oi.apart lo.toArray oj=true) (hm:apF fi fj=true) (h:RF F n P lo vb fi oi s A f) (hj:∀ i∈fj.rb,i<s.B.length∨fi.al=some i) :
  AgrF P lo vb fj oj s (stF oi s A f):=by
 obtain ⟨h1,h2,h3⟩:=Oper.apart_spec hap
 unfold apF at hm
 simp only [Bool.and_eq_true] at hm
 obtain ⟨⟨⟨⟨⟨⟨⟨⟨m1,m2⟩,m3⟩,m4⟩,m5⟩,m6⟩,m7⟩,m8⟩,m9⟩:=hm
 refine ⟨fun d hd=>put_get fun x hx he=>h1 x hx (he▸hd),fun i hi=>?_,fun hal=>?_,f.V_length _,fun q hq=>?_,fun j hj=>?_,fun q hq=>?_,fun q hq=>?_⟩
 ·have hil:i<s.B.length:=by
   rcases hj i hi with h' | h'
   ·exact h'
   ·rw [h'] at m3
    simp only [Bool.and_eq_true,Bool.not_eq_true',List.contains_eq_mem,decide_eq_false_iff_not] at m3
    exact absurd hi m3.1
  show (f.B s.B)[i]? = _
  unfold Eff.B
  split
  ·rename_i k x hb
   obtain ⟨hw,_⟩:=h.wb k x hb
   rw [hw] at m1
   simp only [Bool.not_eq_true',List.contains_eq_mem,decide_eq_false_iff_not] at m1
   rw [List.getElem?_append_left (by simpa using hil),List.getElem?_set_ne (by rintro rfl;exact m1 hi)]
  ·rw [List.getElem?_append_left hil]
 ·show (f.B s.B).length=_
  rw [f.B_length]
  cases hp:f.p with
  | none=>rfl
  | some x =>
   have:=h.al (by rw [hp];rfl)
   rw [this] at m3
   simp only [Bool.and_eq_true] at m3
   cases hq:fj.al with
   | none=>rw [hq] at hal;cases hal
   | some q=>rw [hq] at m3;simp at m3
 ·show (f.V s.V)[q]? = _
  unfold Eff.V
  split
  ·rename_i k x hv
   obtain ⟨_,hk,_⟩:=h.v k x hv
   rw [List.getElem?_set_ne (by rintro rfl;exact hk hq)]
  ·rfl
 ·show (f.V s.V)[j]? = _
  unfold Eff.V
  split
  ·rename_i k x hv
   obtain ⟨hk,_⟩:=h.v k x hv
   rw [hk,hj] at m5
   rw [List.getElem?_set_ne (by simpa using m5)]
  ·rfl
 ·show (f.V s.V)[q]? = _
  unfold Eff.V
  split
  ·rename_i k x hv
   obtain ⟨hk,_⟩:=h.v k x hv
   rw [hk] at m6
   simp only [Bool.not_eq_true',List.contains_eq_mem,decide_eq_false_iff_not] at m6
   rw [List.getElem?_set_ne (by rintro rfl;exact m6 hq)]
  ·rfl
 ·show MEq P (s.V[q]?) ((f.V s.V)[q]?)
  unfold Eff.V
  split
  ·rename_i k x hv
   obtain ⟨hk,_,hz⟩:=h.v k x hv
   rw [hk] at m8
   by_cases hkq:k=q
   ·subst hkq
    have hzz:fi.z=true:=by
     simp only [Bool.or_eq_true,Bool.not_eq_true',List.contains_eq_mem,decide_eq_false_iff_not] at m8
     rcases m8 with m8 | m8
     ·exact m8
     ·exact absurd hq m8
    have hm':=hz hzz
    have hlt:k<s.V.length:=by
     rcases hm' with hm' | ⟨v,v',hm',_⟩
     ·exact (List.getElem?_eq_some_iff.1 hm').1
     ·exact (List.getElem?_eq_some_iff.1 hm').1
    rw [List.getElem?_set_self hlt]
    exact hm'
   ·rw [List.getElem?_set_ne hkq];exact MEq.refl _
  ·exact MEq.refl _
end
end Go.Sx
namespace Go.Sx
open Go Go.RowKit
variable [G:Ghost]
section
variable {F:Fence} {n:Nat} {P:Program} {lo:List Oper} {vb:Nat→Prop}
theorem RB {oi oj:Oper} (hap:oi.apart lo.toArray oj=true):oj.apart lo.toArray oi=true:=by
 have _:=G
 obtain ⟨h1,h2,h3⟩:=Oper.apart_spec hap
 unfold Oper.apart
 simp only [Bool.and_eq_true]
 refine ⟨?_,?_⟩
 ·cases hd:oj.dst with
  | none=>rfl
  | some d =>
   have:=h3 d hd
   have h2':oi.dst≠some d:=fun he=>h2 d he hd
   simpa using ⟨this,h2'⟩
 ·cases hd:oi.dst with
  | none=>rfl
  | some d=>have:=h1 d hd;simpa using this
theorem aAz {oi oj:Oper} {fi fj:FP} {s:St} {Ai Aj:AV} {gi gj:Eff} (hap:oi.apart lo.toArray oj=true) (hm:apF fi fj=true) (hi:RF F n P lo vb fi oi s Ai gi) (hj:RF F n P lo vb fj oj s Aj gj) :
  stF oj (stF oi s Ai gi) Aj gj=stF oi (stF oj s Aj gj) Ai gi:=by
 obtain ⟨h1,h2,h3⟩:=Oper.apart_spec hap
 unfold apF at hm
 simp only [Bool.and_eq_true] at hm
 obtain ⟨⟨⟨⟨⟨⟨⟨⟨m1,m2⟩,m3⟩,m4⟩,m5⟩,m6⟩,m7⟩,m8⟩,m9⟩:=hm
 have hB:gj.B (gi.B s.B)=gi.B (gj.B s.B):=by
  have hpp:gi.p=none∨gj.p=none:=by
   cases hp:gi.p with
   | none=>exact .inl rfl
   | some x =>
    right
    have:=hi.al (by rw [hp];rfl)
    rw [this] at m3
    simp only [Bool.and_eq_true] at m3
    cases hq:gj.p with
    | none=>rfl
    | some y =>
     have:=hj.al (by rw [hq];rfl)
     rw [this] at m3
     simp at m3
  have lt:∀ {fp:FP} {o:Oper} {A:AV} {g:Eff},RF F n P lo vb fp o s A g→∀ i x,g.b=some (i,x)→i<s.B.length:=fun h i x hb=>h.rl i (h.wb i x hb).2
  have ne:∀ i x j y,gi.b=some (i,x)→gj.b=some (j,y)→i≠j:=by
   rintro i x j y h h' rfl
   rw [(hi.wb _ _ h).1] at m1
   simp only [Bool.not_eq_true',List.contains_eq_mem,decide_eq_false_iff_not] at m1
   exact m1 (hj.wb _ _ h').2
  unfold Eff.B
  cases hbi:gi.b with
  | none =>
   cases hbj:gj.b with
   | none=>rcases hpp with h | h <;> rw [h] <;> simp
   | some q =>
    obtain ⟨j,y⟩:=q
    have hl:=lt hj j y hbj
    rcases hpp with h | h <;> rw [h] <;> simp [List.set_append_left _ _ hl]
  | some q =>
   obtain ⟨i,x⟩:=q
   have hl:=lt hi i x hbi
   cases hbj:gj.b with
   | none=>rcases hpp with h | h <;> rw [h] <;> simp [List.set_append_left _ _ hl]
   | some q =>
    obtain ⟨j,y⟩:=q
    have hl':=lt hj j y hbj
    have hne:=ne i x j y hbi hbj
    rcases hpp with h | h <;> rw [h] <;> simp [List.set_append_left _ _ (show i<(s.B.set j y).length by simpa using hl),List.set_append_left _ _ (show j<(s.B.set i x).length by simpa using hl'),List.set_comm _ _ hne]
 have hV:gj.V (gi.V s.V)=gi.V (gj.V s.V):=by
  unfold Eff.V
  cases hvi:gi.v with
  | none=>rfl
  | some q =>
   obtain ⟨i,x⟩:=q
   cases hvj:gj.v with
   | none=>rfl
   | some q =>
    obtain ⟨j,y⟩:=q
    rw [(hi.v _ _ hvi).1,(hj.v _ _ hvj).1] at m5
    have:i≠j:=by simpa using m5
    simp only [List.set_comm _ _ this]
 simp only [stF,St.put,hB,hV,St.mk.injEq,and_true]
 cases hdi:oi.dst with
 | none=>rfl
 | some d =>
  cases hdj:oj.dst with
  | none=>rfl
  | some d' =>
   have:d'≠d:=by intro he;exact h2 d hdi (by rw [hdj,he])
   simp only
   rw [List.set_comm _ _ (Ne.symm this)]
end
def DOpF (F:Fence) (n:Nat) (P:Program) (lo:List Oper) (vb:Nat→Prop) (fps:List FP) (i:Nat) (K:St→Prop) (s:St):Prop:=
 match lo.toArray[i]?,fps[i]? with
 | none,_=>K s
 | some o,some fp=>∃ A f,RF F n P lo vb fp o s A f∧K (stF o s A f)
 | some _,none=>False
section
variable {F:Fence} {n:Nat} {P:Program} {lo:List Oper} {vb:Nat→Prop} {fps:List FP}
theorem DOpF.mono {i:Nat} {K K':St→Prop} {s:St} (h:∀ s,K s→K' s) (hh:DOpF F n P lo vb fps i K s):DOpF F n P lo vb fps i K' s:=by
 unfold DOpF at *
 split
 ·rename_i ho;simp only [ho] at hh;exact h _ hh
 ·rename_i o fp ho hf;simp only [ho,hf] at hh;obtain ⟨A,be,h1,h2⟩:=hh;exact ⟨A,be,h1,h _ h2⟩
 ·rename_i ho hf;simp only [ho,hf] at hh
theorem aAA {j:Nat} {oi oj:Oper} {fi fj:FP} {A:AV} {f:Eff} (hj:lo.toArray[j]? = some oj) (hfj:fps[j]? = some fj) (hap:oi.apart lo.toArray oj=true) (hm:apF fi fj=true) {K:St→Prop} {s:St}
  (hy:RF F n P lo vb fi oi s A f) (h:DOpF F n P lo vb fps j K (stF oi s A f)) :
  DOpF F n P lo vb fps j (fun s'=>RF F n P lo vb fi oi s' A f∧K (stF oi s' A f)) s:=by
 unfold DOpF at *
 simp only [hj,hfj] at *
 obtain ⟨Aj,gj,h1,h2⟩:=h
 have hrl:∀ i∈fj.rb,i<s.B.length∨fi.al=some i:=by
  intro i hi
  have h3:=h1.rl i hi
  have h4:(stF oi s A f).B.length=s.B.length+f.p.toList.length:=f.B_length _
  cases hp:f.p with
  | none=>left;rw [hp] at h4;simp at h4;omega
  | some x =>
   rw [hp] at h4
   simp at h4
   rcases Nat.lt_or_ge i s.B.length with h5 | h5
   ·exact .inl h5
   ·right;rw [hy.al (by rw [hp];rfl)];congr 1;omega
 have hj':RF F n P lo vb fj oj s Aj gj:=h1.agr (MS hap hm hy hrl).symm
 refine ⟨Aj,gj,hj',hy.agr (MS (RB hap) (aAw hm) hj' fun i hi=>.inl (hy.rl i hi)),?_⟩
 rw [← aAz hap hm hy hj']
 exact h2
def Fo (F:Fence) (n:Nat) (P:Program) (lo:List Oper) (fuel:Nat) (listed:Array Bool) (s:St) (Q:St→Prop):Prop:=
 ∃ (k:Nat) (l:List Oper),l.length=fuel∧(∀ j,l[j]? = lo.toArray[k+j]?)∧(∀ j,j<k→listed.getD j true=true)∧(∀ j,k≤j→j<lo.length→listed.getD j true=false)∧Down lo listed∧Region.lexFrom .any lo.toArray l.length k listed=true ∧
  (∀ j,k≤j→j<lo.length→∀ i,i<j→(wl lo i).getD j false=true)∧cK F n P lo.toArray l s Q
def GS (F:Fence) (n:Nat) (P:Program) (lo:List Oper) (vb:Nat→Prop) (fps:List FP) (Q:St→Prop):Nat→Array Bool→St→Prop
 | 0,listed,s=>Region.ready .any lo.toArray listed=[]∧Q s
 | fuel+1,listed,s =>
  ((Region.ready .any lo.toArray listed=[]→Q s) ∧
  ∀ i∈Region.ready .any lo.toArray listed,DOpF F n P lo vb fps i (GS F n P lo vb fps Q fuel (listed.setIfInBounds i true)) s)∨Fo F n P lo (fuel+1) listed s Q
theorem MT {Q:St→Prop} {i:Nat} {oi:Oper} {fi:FP} {A:AV} {f:Eff} (hi:lo.toArray[i]? = some oi) (hfi:fps[i]? = some fi) :
  ∀ (fuel:Nat) (listed:Array Bool) (s:St),
   (∀ j oj,lo.toArray[j]? = some oj→j≠i→listed.getD j true=false→(∀ e∈oj.after,Region.binds .any e=true→e.on≠i)→(wl lo i).getD j false=false→oi.apart lo.toArray oj=true∧∃ fj,fps[j]? = some fj∧apF fi fj=true) →
   Down lo listed→i∈Region.ready .any lo.toArray listed→RF F n P lo vb fi oi s A f →
   GS F n P lo vb fps Q fuel (listed.setIfInBounds i true) (stF oi s A f)→GS F n P lo vb fps Q (fuel+1) listed s:=by
 intro fuel
 induction fuel with
 | zero =>
  intro listed s _ _ hr hy H
  refine .inl ⟨fun h=>(by rw [h] at hr;cases hr),fun j hj=>?_⟩
  by_cases hji:j=i
  ·subst hji;unfold DOpF;simp only [hi,hfi];exact ⟨A,f,hy,H⟩
  ·have:=ready_mono hj hji
   rw [H.1] at this
   cases this
 | succ fuel ih =>
  intro listed s hfree hdn hr hy H
  refine .inl ⟨fun h=>(by rw [h] at hr;cases hr),fun j hj=>?_⟩
  by_cases hji:j=i
  ·subst hji;unfold DOpF;simp only [hi,hfi];exact ⟨A,f,hy,H⟩
  ·have H':(Region.ready .any lo.toArray (listed.setIfInBounds i true)=[]→Q (stF oi s A f))∧∀ q∈Region.ready .any lo.toArray (listed.setIfInBounds i true),DOpF F n P lo vb fps q (GS F n P lo vb fps Q fuel ((listed.setIfInBounds i true).setIfInBounds q true)) (stF oi s A f):=by
    rcases H with H | H
    ·exact H
    ·exfalso
     obtain ⟨k,l,f1,f2,f3,fu,f4,f5,f6,f7⟩:=H
     obtain ⟨hjun,oj,hoj,hall⟩:=mem_ready.1 hj
     have hjl:j<lo.length:=by have:=(Array.getElem?_eq_some_iff.1 hoj).1;simpa using this
     have hil:i<lo.length:=by have:=(Array.getElem?_eq_some_iff.1 hi).1;simpa using this
     have hkj:k≤j:=by
      rcases Nat.lt_or_ge j k with h' | h'
      ·have:=f3 j h'
       rw [getD_set_ne true (Ne.symm hji),hjun] at this;cases this
      ·exact h'
     have hik:i<k:=by
      rcases Nat.lt_or_ge i k with h' | h'
      ·exact h'
      ·have h1:=fu i h' hil
       have:i<listed.size:=by
        rcases Nat.lt_or_ge i listed.size with h' | h'
        ·exact h'
        ·have:=(mem_ready.1 hr).1;simp [h'] at this
       simp [this] at h1
     have hwl:=f6 j hkj hjl i (by omega)
     have:=hdn.ready (mem_ready.1 hr).1 (by simpa using hoj) (fun e he hb=>uU (hall e he hb))
     rw [hwl] at this;cases this
   have h1:=H'.2 j (ready_mono hj hji)
   obtain ⟨hjun,oj,hoj,hall⟩:=mem_ready.1 hj
   have hnot:∀ e∈oj.after,Region.binds .any e=true→e.on≠i:=fun e he hb heq=>by
    have h1:=hall e he hb
    have h0:=(mem_ready.1 hr).1
    rw [heq] at h1
    rcases Nat.lt_or_ge i listed.size with h' | h'
    ·simp [h'] at h0 h1;rw [h0] at h1;cases h1
    ·simp [Array.getElem?_eq_none h'] at h1
   have hoj':lo[j]? = some oj:=by simpa using hoj
   have hall':∀ e∈oj.after,Region.binds .any e=true→listed.getD e.on true=true:=fun e he hb=>uU (hall e he hb)
   obtain ⟨hap,fj,hfj,hm⟩:=hfree j oj hoj hji hjun hnot (hdn.ready (mem_ready.1 hr).1 hoj' hall')
   have h2:=aAA hoj hfj hap hm hy h1
   have hfree':∀ k ok,lo.toArray[k]? = some ok→k≠i→(listed.setIfInBounds j true).getD k true=false →
     (∀ e∈ok.after,Region.binds .any e=true→e.on≠i)→(wl lo i).getD k false=false→oi.apart lo.toArray ok=true∧∃ fj,fps[k]? = some fj∧apF fi fj=true:=fun k ok hk hki hun hno hwl=>by
    refine hfree k ok hk hki ?_ hno hwl
    by_cases hjk:j=k
    ·subst hjk;exact hjun
    ·rw [getD_set_ne true hjk] at hun;exact hun
   refine DOpF.mono (fun s' h3=>ih (listed.setIfInBounds j true) s' hfree' (hdn.set hoj' hall') (ready_mono hr (Ne.symm hji)) h3.1 ?_) h2
   rw [Array.setIfInBounds_comm _ _ hji]
   exact h3.2
def aAB (F:Fence) (n:Nat) (P:Program) (lo:List Oper) (vb:Nat→Prop):List Oper→List FP→St→(St→Prop)→Prop
 | [],_,s,Q=>Q s
 | o::l,fp::fps,s,Q=>∃ A f,RF F n P lo vb fp o s A f∧aAB F n P lo vb l fps (stF o s A f) Q
 | o::l,[],s,Q=>cK F n P lo.toArray (o::l) s Q
theorem GU {Q:St→Prop} (hmem:AL lo fps=true):∀ (l:List Oper) (k:Nat) (listed:Array Bool) (s:St),(∀ j,l[j]? = lo.toArray[k+j]?)→(∀ j,j<k→listed.getD j true=true)→(∀ j,k≤j→j<lo.length→listed.getD j true=false)→Down lo listed →
  Region.lexFrom .any lo.toArray l.length k listed=true→aAB F n P lo vb l (fps.drop k) s Q→GS F n P lo vb fps Q l.length listed s
 | [],k,listed,s,hl,hlow,hun,hdn,hB,h=>by
  refine ⟨by simpa [Region.lexFrom] using hB,?_⟩
  cases hd:fps.drop k <;> rw [hd] at h <;> exact h
 | o::l,k,listed,s,hl,hlow,hun,hdn,hB,h=>by
  have h0:lo.toArray[k]? = some o:=by simpa using (hl 0).symm
  simp only [List.length_cons,Region.lexFrom,Bool.and_eq_true] at hB
  obtain ⟨⟨hr,hf⟩,hB'⟩:=hB
  have hr':k∈Region.ready .any lo.toArray listed:=by simpa using hr
  have h0k:lo[k]? = some o:=by simpa using h0
  obtain ⟨_,ok,hok,hallk⟩:=mem_ready.1 hr'
  rw [h0] at hok;cases hok
  have hdn':Down lo (listed.setIfInBounds k true):=hdn.set h0k fun e he hb=>uU (hallk e he hb)
  cases hd:fps.drop k with
  | nil =>
   rw [hd] at h
   have hlen:fps.length≤k:=by simpa using hd
   refine .inr ⟨k,o::l,rfl,hl,hlow,hun,hdn,by simp only [List.length_cons,Region.lexFrom,Bool.and_eq_true];exact ⟨⟨hr,hf⟩,hB'⟩,fun j hkj hjl i hij=>?_,h⟩
   unfold AL at hmem
   rw [List.all_eq_true] at hmem
   have h1:=hmem i (List.mem_range.2 (by omega))
   rw [List.all_eq_true] at h1
   have h2:=h1 j (List.mem_range.2 hjl)
   have hfj:fps[j]? = none:=by simp;omega
   simp only [Bool.or_eq_true,decide_eq_true_eq,hfj] at h2
   rcases h2 with (h2 | h2) | h2
   ·omega
   ·exact h2
   ·cases fps[i]? <;> simp at h2
  | cons fp rest =>
   rw [hd] at h
   obtain ⟨A,f,hy,hK⟩:=h
   have hfk:fps[k]? = some fp:=by rw [← List.head?_drop,hd];rfl
   have hrest:fps.drop (k+1)=rest:=by rw [← List.drop_drop,hd];rfl
   rw [← hrest] at hK
   refine MT h0 hfk l.length listed s ?_ hdn hr' hy
    (GU hmem l (k+1) _ _ (fun j=>by have:=hl (j+1);simpa [Nat.add_assoc,Nat.add_comm 1 j] using this) ?_ (fun j hj hjl=>by rw [getD_set_ne true (by omega)];exact hun j (by omega) hjl) hdn' hB' hK)
   ·intro j oj hj hne hun hno hwl
    refine ⟨Region.free_spec h0 hf j oj hj hne hun hno,?_⟩
    have hjk:k<j:=by
     rcases Nat.lt_or_ge k j with h | h
     ·exact h
     ·have hlt:j<k:=by omega
      rw [hlow j hlt] at hun;cases hun
    unfold AL at hmem
    rw [List.all_eq_true] at hmem
    have hj':lo[j]? = some oj:=by simpa using hj
    have h1:=hmem k (List.mem_range.2 (List.getElem?_eq_some_iff.1 h0k).1)
    rw [List.all_eq_true] at h1
    have h2:=h1 j (List.mem_range.2 (List.getElem?_eq_some_iff.1 hj').1)
    simp only [Bool.or_eq_true,decide_eq_true_eq,hfk] at h2
    rcases h2 with (h2 | h2) | h2
    ·omega
    ·rw [hwl] at h2;cases h2
    ·cases hfj:fps[j]? with
     | none=>rw [hfj] at h2;simp at h2
     | some fj=>rw [hfj] at h2;exact ⟨fj,rfl,h2⟩
   ·intro j hj
    by_cases hjk:j=k
    ·subst hjk
     have hkun:=(mem_ready.1 hr').1
     rcases Nat.lt_or_ge j listed.size with h' | h'
     ·simp [h']
     ·simp [h'] at hkun
    ·rw [getD_set_ne true (Ne.symm hjk)]
     exact hlow j (by omega)
theorem CP {Qr:Exit→Act→World→Prop}:∀ (l:List Oper) (k:Nat) (listed:Array Bool) (a:Act) (w:World),(∀ j,l[j]? = lo.toArray[k+j]?)→(∀ j,j<k→listed.getD j true=true)→(∀ j,k≤j→j<lo.length→listed.getD j true=false)→Down lo listed →
  Region.lexFrom .any lo.toArray l.length k listed=true→(∀ j,k≤j→j<lo.length→∀ i,i<j→(wl lo i).getD j false=true)→wpListIn F n P lo.toArray Qr l a w→wpAnyIn F n P .any lo.toArray Qr l.length listed a w
 | [],k,listed,a,w,hl,hlow,hun,hdn,hB,hwl,h=>⟨by simpa [Region.lexFrom] using hB,h⟩
 | o::l,k,listed,a,w,hl,hlow,hun,hdn,hB,hwl,h=>by
  have h0:lo.toArray[k]? = some o:=by simpa using (hl 0).symm
  simp only [List.length_cons,Region.lexFrom,Bool.and_eq_true] at hB
  obtain ⟨⟨hr,hf⟩,hB'⟩:=hB
  have hr':k∈Region.ready .any lo.toArray listed:=by simpa using hr
  have h0k:lo[k]? = some o:=by simpa using h0
  obtain ⟨_,ok,hok,hallk⟩:=mem_ready.1 hr'
  rw [h0] at hok;cases hok
  have hdn':Down lo (listed.setIfInBounds k true):=hdn.set h0k fun e he hb=>uU (hallk e he hb)
  refine ⟨(fun h0'=>by rw [h0'] at hr';cases hr'),fun j hj=>?_⟩
  have hjk:j=k:=by
   obtain ⟨hjun,oj,hoj,hall⟩:=mem_ready.1 hj
   have hjl:j<lo.length:=by have:=(Array.getElem?_eq_some_iff.1 hoj).1;simpa using this
   rcases Nat.lt_trichotomy j k with h' | h' | h'
   ·rw [hlow j h'] at hjun;cases hjun
   ·exact h'
   ·have h1:=hwl j (by omega) hjl k h'
    have h2:=hdn.ready (mem_ready.1 hr').1 (by simpa using hoj) (fun e he hb=>uU (hall e he hb))
    rw [h1] at h2;cases h2
  subst hjk
  have ih:∀ a w,wpListIn F n P lo.toArray Qr l a w→wpAnyIn F n P .any lo.toArray Qr l.length (listed.setIfInBounds j true) a w:=fun a w h' =>
   CP l (j+1) _ a w (fun q=>by have:=hl (q+1);simpa [Nat.add_assoc,Nat.add_comm 1 q] using this)
    (fun q hq=>by
     by_cases hqj:q=j
     ·subst hqj
      have hkun:=(mem_ready.1 hr').1
      rcases Nat.lt_or_ge q listed.size with h' | h'
      ·simp [h']
      ·simp [h'] at hkun
     ·rw [getD_set_ne true (Ne.symm hqj)];exact hlow q (by omega))
    (fun q hq hql=>by rw [getD_set_ne true (by omega)];exact hun q (by omega) hql) hdn' hB' (fun q hq hql=>hwl q (by omega) hql) h'
  unfold wpOpIn
  simp only [h0]
  simp only [wpListIn] at h
  split
  ·rename_i hw
   rw [if_pos hw] at h
   exact Oper.wpIn_mono ih h
  ·rename_i hw
   rw [if_neg hw] at h
   exact ⟨h.1,ih _ _ h.2⟩
theorem MU {Q:St→Prop}:∀ (fuel:Nat) (listed:Array Bool) (s:St),GS F n P lo vb fps Q fuel listed s→∀ n0 w0 e a w (Qr:Exit→Act→World→Prop),Rel n0 w0 e s a w →
  (∀ e' s' a' w',Q s'→Rel n0 w0 e' s' a' w'→a'.defers=a.defers→ExtS e s w e' s'.B s'.V w'→Qr .normal a' w')→wpAnyIn F n P .any lo.toArray Qr fuel listed a w:=by
 intro fuel
 induction fuel with
 | zero=>intro listed s h n0 w0 e a w Qr hr hk;exact ⟨h.1,hk e s a w h.2 hr rfl (Ext.refl _ _ _ _ _)⟩
 | succ fuel ih =>
  intro listed s h n0 w0 e a w Qr hr hk
  rcases h with h | h
  case inr =>
   obtain ⟨k,l,f1,f2,f3,fu,f4,f5,f6,f7⟩:=h
   rw [← f1]
   exact CP l k listed a w f2 f3 fu f4 f5 f6 (f7 n0 w0 e a w Qr hr fun e' s' a' w' hq hrel hdf hx=>hk e' s' a' w' hq hrel hdf hx)
  refine ⟨fun h0=>hk e s a w (h.1 h0) hr rfl (Ext.refl _ _ _ _ _),fun i hi=>?_⟩
  have h1:=h.2 i hi
  unfold DOpF at h1
  unfold wpOpIn
  cases ho:lo.toArray[i]? with
  | none=>simp only [ho] at h1 ⊢;exact ih _ _ h1 n0 w0 e a w Qr hr hk
  | some o =>
   cases hf:fps[i]? with
   | none=>simp only [ho,hf] at h1
   | some fp =>
    simp only [ho,hf] at h1 ⊢
    obtain ⟨A,f,hy,hK⟩:=h1
    refine hy.sem s (AgrF.refl _ _ _ _ _ _) n0 w0 e a w Qr _ hr ?_
    intro e' v w' hm hx hv hsc
    have hr':=hr.put hm hx hv hsc o.dst
    exact ih _ _ hK n0 w0 e' _ w' Qr hr' fun e'' s' a' w'' hq hrel hdf hx'=>hk e'' s' a' w'' hq hrel (by rw [hdf,put_defers]) (hx.trans hx')
def GV (F:Fence) (n:Nat) (P:Program) (lo:List Oper) (vb:Nat→Prop):List Oper→List FP→St→(St→Prop)→Prop
 | [],acc,s,Q=>AL lo acc=true∧Q s
 | o::l,acc,s,Q=>(∃ fp A f,RF F n P lo vb fp o s A f∧GV F n P lo vb l (acc++[fp]) (stF o s A f) Q)∨(AL lo acc=true∧cK F n P lo.toArray (o::l) s Q)
theorem UF {Q:St→Prop}:∀ (l:List Oper) (acc:List FP) (s:St),GV F n P lo vb l acc s Q→∃ fps,AL lo (acc++fps)=true∧aAB F n P lo vb l fps s Q
 | [],acc,s,h=>⟨[],by simpa using h.1,h.2⟩
 | o::l,acc,s,.inl ⟨fp,A,f,h1,h2⟩=>by
  obtain ⟨fps,h3,h4⟩:=UF l _ _ h2
  exact ⟨fp::fps,by simpa using h3,A,f,h1,h4⟩
 | o::l,acc,s,.inr ⟨h2,h3⟩=>⟨[],by simpa using h2,h3⟩
theorem aCE {id:Nat} {l:List Oper} {st:St} {Q:Exit→St→Prop} (hm:P.follows .mixedOrders=true) (hB:Region.lexB .any l.toArray=true)
  (h:GV F n P l vb l [] st (Q .normal)):W F n P (.region id l.toArray true) st Q:=by
 intro n0 w0 e a w Qr hr hk
 refine wpIn_region_any hm ?_
 simp only [Region.lexB,Bool.and_eq_true] at hB
 obtain ⟨fps,hmem,hG⟩:=UF _ _ _ h
 simp only [List.nil_append] at hmem
 have h1:=GU hmem l 0 (Array.replicate l.toArray.size false) st (by simp) (by intro j hj;omega) (by intro j _ hj;simp [hj]) (by intro j oj hj hl;have:j<l.length:=(List.getElem?_eq_some_iff.1 hj).1;simp [this] at hl) (by simpa using hB.2) (by simpa using hG)
 have hm':=hr.mem.drew
 have hx:ExtS e st w e st.B st.V w.drew:=ZV
 have hr':Rel n0 w0 e st a w.drew:=⟨AV.all.mono hx _ _ hr.sc hr.tm,hr.sc,hm'⟩
 exact MU _ _ _ (by simpa using h1) n0 w0 e a w.drew Qr hr' fun e' s' a' w' hq hrel hdf hx'=>hk .normal e' s' a' w' hq hrel hdf (hx.trans hx')
end
end Go.Sx
namespace Go.Sx
open Go Go.RowKit
variable [G:Ghost]
section
variable {F:Fence} {n:Nat} {P:Program} {lo:List Oper} {vb:Nat→Prop}
theorem Eff.none_B (B:List Box):Eff.none'.B B=B:=by have _:=G;simp [Eff.B,Eff.none']
theorem Eff.none_V (V:List Vec):Eff.none'.V V=V:=have _:=G;rfl
theorem RF.le {fp:FP} {o:Oper} {s:St} {A A':AV} {f:Eff} (h:RF F n P lo vb fp o s A f) (hle:AV.le A A') (hsc:∀ nb vs,AV.sco nb vs A→AV.sco nb vs A'):RF F n P lo vb fp o s A' f:=
 ⟨h.rl,h.wb,h.al,h.v,fun s' ha n0 w0 e a w Q K hr hk=>h.sem s' ha n0 w0 e a w Q K hr fun e' v w' hm hx hv hs=>hk e' v w' hm hx (hle _ _ _ _ hv) (hsc _ _ hs)⟩
theorem RF.quiet {fp:FP} {o:Oper} {s:St} {A:AV} (hrl:∀ i∈fp.rb,i<s.B.length) (h:∀ s',AgrF P lo vb fp o s s'→aEl F n P lo o s' A s'.B):RF F n P lo vb fp o s A Eff.none':=
 ⟨hrl,(fun i x h=>by cases h),(fun h=>by cases h),(fun j x h=>by cases h),fun s' ha=>by rw [Eff.none_B,Eff.none_V];exact h s' ha⟩
theorem aCF (hF:Free F) {o:Oper} {s:St} (hw:Wants lo o s false):RF F n P lo vb ⟨[],none,none,none,[],[],false⟩ o s (.gd [false] .any) Eff.none':=by
 refine RF.quiet (by simp) fun s' ha=>?_
 intro n0 w0 e a w Q K hr hkk
 rw [if_neg (by rw [hw s' ha.sl _ _ _ _ _ hr];simp)]
 exact ⟨fun f _=>hF.fn f,hkk e undef w hr.mem (Ext.refl _ _ _ _ _) (by simp [AV.holds]) (by simp [AV.sco])⟩
def gK:AV→Option Nat
 | .own i _=>some i
 | .opt i _ _ _=>some i
 | _=>none
theorem MV {s s':St} {T:TypeId} {x:AV} (hB:∀ i o,x=.ptr i o→s'.B[i]? = s.B[i]?) (hV:∀ i,gK x=some i→s'.V[i]? = s.V[i]?):bZ P s' T x=bZ P s T x:=by
 have _:=G
 unfold bZ
 cases bM P T with
 | none=>rfl
 | some ti =>
  cases x with
  | ptr i off=>simp only [hB i off rfl]
  | opt i u el o=>simp only [hV i rfl]
  | cv c=>cases c <;> rfl
  | _=>rfl
theorem xM {s s':St} {T:TypeId} {x i:AV} (hV:∀ i,gK x=some i→s'.V[i]? = s.V[i]?):dA P s' T x i=dA P s T x i:=by
 have _:=G
 cases x with
 | own j u=>unfold dA;simp only [hV j rfl]
 | fn f caps=>unfold dA;repeat (first | rfl | contradiction | split)
 | cv c=>cases c <;> rfl
 | _=>rfl
theorem RC {s s':St} {T:TypeId} {x:AV} (hV:∀ i,gK x=some i→s'.V[i]? = s.V[i]?):kN P s' T x=kN P s T x:=by
 have _:=G
 cases x with
 | own j u=>unfold kN;simp only [hV j rfl]
 | cv c =>
  simp only [kN]
  rcases bM P T with _ | ⟨a,b,k⟩
  ·rfl
  ·cases k <;> try rfl
   cases c <;> try rfl
   rename_i v
   cases v <;> try rfl
   rename_i ao l c
   cases ao <;> try rfl
   cases l <;> try rfl
   cases c <;> rfl
 | _=>rfl
def rdV:Op→Bool
 | .load ..=>true
 | .indexAddr ..=>true
 | .call { callee:=.builtin .len,.. }=>true
 | _=>false
theorem WT {op:Op} {s s':St} {A:AV} {B':List Box} {V':List Vec} (hk:gA op≤1) (hnb:JB op=false) (hev:∀ x∈op.operands,s'.ev x=s.ev x)
  (hB:∀ T x i o,op=.load T x→s.ev x=.ptr i o→s'.B[i]? = s.B[i]?) (hV:rdV op=true→∀ x∈op.operands,∀ i,gK (s.ev x)=some i→s'.V[i]? = s.V[i]?)
  (h:bC P s op=some (A,B',V')):B'=s.B∧V'=s.V∧bC P s' op=some (A,s'.B,s'.V):=by
 cases op <;> try (simp [gA] at hk;done)
 case buildSlice=>simp [JB] at hnb
 case move x=>simp [bC] at h ⊢;obtain ⟨rfl,rfl,rfl⟩:=h;exact ⟨rfl,rfl,hev x (by simp [Op.operands])⟩
 case assign x=>simp [bC] at h ⊢;obtain ⟨rfl,rfl,rfl⟩:=h;exact ⟨rfl,rfl,hev x (by simp [Op.operands])⟩
 case pick c a b =>
  simp only [bC] at h ⊢
  rw [hev c (by simp [Op.operands]),hev a (by simp [Op.operands]),hev b (by simp [Op.operands])]
  obtain ⟨h1,h2,h3⟩:=aY h
  exact ⟨h2,h3,by rw [h1];rfl⟩
 case build T ps =>
  simp only [bC] at h ⊢
  have:(ps.toList.map fun p=>(p.1,s'.ev p.2))=ps.toList.map fun p=>(p.1,s.ev p.2):=by
   refine List.map_congr_left fun p hp=>?_
   rw [hev p.2 (by simp only [Op.operands,List.mem_toArray,List.mem_map];exact ⟨p,hp,rfl⟩)]
  rw [this]
  obtain ⟨h1,h2,h3⟩:=aY h
  exact ⟨h2,h3,by rw [h1];rfl⟩
 case binOp op T x y yT =>
  simp only [bC] at h ⊢
  rw [hev x (by simp [Op.operands]),hev y (by simp [Op.operands])]
  obtain ⟨h1,h2,h3⟩:=aY h
  exact ⟨h2,h3,by rw [h1];rfl⟩
 case unOp op T x =>
  simp only [bC] at h ⊢
  rw [hev x (by simp [Op.operands])]
  obtain ⟨h1,h2,h3⟩:=aY h
  exact ⟨h2,h3,by rw [h1];rfl⟩
 case fieldAddr T x f =>
  simp only [bC] at h ⊢
  rw [hev x (by simp [Op.operands])]
  obtain ⟨h1,h2,h3⟩:=aY h
  exact ⟨h2,h3,by rw [h1];rfl⟩
 case index T x i =>
  simp only [bC] at h ⊢
  rw [hev x (by simp [Op.operands]),hev i (by simp [Op.operands])]
  obtain ⟨h1,h2,h3⟩:=aY h
  exact ⟨h2,h3,by rw [h1];rfl⟩
 case convert T T' x =>
  simp only [bC] at h ⊢
  rw [hev x (by simp [Op.operands])]
  obtain ⟨h1,h2,h3⟩:=aY h
  exact ⟨h2,h3,by rw [h1];rfl⟩
 case field T x f =>
  simp only [bC] at h ⊢
  rw [hev x (by simp [Op.operands])]
  obtain ⟨h1,h2,h3⟩:=aY h
  exact ⟨h2,h3,by rw [h1];rfl⟩
 case nilCheck x =>
  simp only [bC] at h ⊢
  rw [hev x (by simp [Op.operands])]
  obtain ⟨h1,h2,h3⟩:=aY h
  exact ⟨h2,h3,by rw [h1];rfl⟩
 case extract x i =>
  simp only [bC] at h ⊢
  rw [hev x (by simp [Op.operands])]
  obtain ⟨h1,h2,h3⟩:=aY h
  exact ⟨h2,h3,by rw [h1];rfl⟩
 case load T x =>
  simp only [bC] at h ⊢
  rw [hev x (by simp [Op.operands])]
  obtain ⟨h1,h2,h3⟩:=aY h
  refine ⟨h2,h3,?_⟩
  rw [MV (fun i o hx=>hB T x i o rfl hx) (hV rfl x (by simp [Op.operands])),h1]
  rfl
 case slice T x lo hi mx =>
  cases mx with
  | some mm =>
   obtain ⟨p,q,rfl,rfl⟩:∃ p q,hi=some (.tmp p)∧mm=.tmp q:=by
    cases hi with
    | none=>simp [gA] at hk
    | some hh=>cases hh <;> cases mm <;> simp [gA] at hk ⊢
   simp only [bC] at h ⊢
   have hlo:eL s' lo=eL s lo:=by cases lo <;> simp [eL] <;> exact hev _ (by simp [Op.operands])
   rw [hev x (by simp [Op.operands]),hlo,hev (.tmp p) (by simp [Op.operands]),hev (.tmp q) (by simp [Op.operands])]
   obtain ⟨h1,h2,h3⟩:=aY h
   exact ⟨h2,h3,by rw [h1];rfl⟩
  | none =>
   simp only [bC] at h ⊢
   have hlo:eL s' lo=eL s lo:=by cases lo <;> simp [eL] <;> exact hev _ (by simp [Op.operands])
   have hhi:eL s' hi=eL s hi:=by cases hi <;> simp [eL] <;> exact hev _ (by simp [Op.operands])
   rw [hev x (by simp [Op.operands]),hlo,hhi]
   obtain ⟨h1,h2,h3⟩:=aY h
   exact ⟨h2,h3,by rw [h1];rfl⟩
 case indexAddr T x i =>
  simp only [bC] at h ⊢
  rw [hev x (by simp [Op.operands]),hev i (by simp [Op.operands])]
  obtain ⟨h1,h2,h3⟩:=aY h
  exact ⟨h2,h3,by rw [xM (hV rfl x (by simp [Op.operands])),h1];rfl⟩
 case call c =>
  obtain ⟨callee,args,ts⟩:=c
  cases callee with
  | value f=>simp [bC] at h
  | invoke r m=>simp [gA] at hk
  | builtin b =>
   have hargs:args.toList.map s'.ev=args.toList.map s.ev:=List.map_congr_left fun x hx=>hev x (by simpa [Op.operands,Call.operands] using hx)
   cases b <;> try (simp [gA] at hk;done)
   case len =>
    simp only [bC] at h ⊢
    split at h
    ·rename_i x T hx hT
     obtain ⟨h1,h2,h3⟩:=aY h
     have hxe:s'.ev x=s.ev x:=by rw [hx] at hargs;simpa using hargs
     have hxm:x∈(Op.call { callee:=.builtin .len,args:=args,argTypes:=ts }).operands:=by
      have:x∈args.toList:=by rw [hx];simp
      simpa [Op.operands,Call.operands] using this
     exact ⟨h2,h3,by rw [hxe,RC (hV rfl x hxm),h1];rfl⟩
    ·cases h
   case max =>
    simp only [bC] at h ⊢
    obtain ⟨h1,h2,h3⟩:=aY h
    exact ⟨h2,h3,by rw [hargs,h1];rfl⟩
   case min =>
    simp only [bC] at h ⊢
    obtain ⟨h1,h2,h3⟩:=aY h
    exact ⟨h2,h3,by rw [hargs,h1];rfl⟩
 all_goals try (simp [gA] at hk;done)
 all_goals try (simp [JB] at hnb;done)
end
end Go.Sx
namespace Go.Sx
open Go Go.RowKit
variable [G:Ghost]
section
variable {F:Fence} {n:Nat} {P:Program} {lo:List Oper} {vb:Nat→Prop}
theorem aFm (hF:Free F) {o:Oper} {s:St} {A:AV} {B':List Box} {V':List Vec} (rb rv:List Nat) (hw:Wants lo o s true) (hk:gA o.op≤1) (hnb:JB o.op=false) (hrl:∀ i∈rb,i<s.B.length)
  (hB:∀ T x i off,o.op=.load T x→s.ev x=.ptr i off→i∈rb) (hV:rdV o.op=true→∀ x∈o.op.operands,∀ i,gK (s.ev x)=some i→i∈rv) (h:bC P s o.op=some (A,B',V')) :
  RF F n P lo vb ⟨rb,none,none,none,rv,[],false⟩ o s A Eff.none'∧B'=s.B∧V'=s.V:=by
 have key:∀ s',AgrF P lo vb ⟨rb,none,none,none,rv,[],false⟩ o s s'→B'=s.B∧V'=s.V∧bC P s' o.op=some (A,s'.B,s'.V):=fun s' ha =>
  WT hk hnb (gR ha.sl) (fun T x i off hop hx=>ha.B i (hB T x i off hop hx)) (fun hrd x hx i hi=>ha.Vr i (hV hrd x hx i hi)) h
 refine ⟨RF.quiet hrl fun s' ha=>lO (hw.agr ha.sl) (JA hF (key s' ha).2.2),(key s (AgrF.refl _ _ _ _ _ _)).1,(key s (AgrF.refl _ _ _ _ _ _)).2.1⟩
theorem aAC (hF:Free F) {o:Oper} {s:St} {T:TypeId} {x y:Operand} {i off:Nat} {b:Box} {A:AV} {B':List Box} {V':List Vec} (hw:Wants lo o s true) (hop:o.op=.store T x y) (hx:s.ev x=.ptr i off) (hb:s.B[i]? = some b)
  (h:bC P s o.op=some (A,B',V')):∃ b',RF F n P lo vb ⟨[i],some i,none,none,[],[],false⟩ o s A ⟨some (i,b'),none,none⟩∧B'=s.B.set i b'∧V'=s.V:=by
 have hil:=(List.getElem?_eq_some_iff.1 hb).1
 rw [hop] at h
 simp only [bC,hx] at h
 cases hst:eP P s T (.ptr i off) (s.ev y) with
 | none=>rw [hst] at h;cases h
 | some q =>
  rw [hst] at h
  simp only [Option.map_some,Option.some.injEq,Prod.mk.injEq] at h
  obtain ⟨rfl,rfl⟩:=h
  unfold eP at hst
  split at hst
  ·rename_i ti i' off' new hti hxx hnew
   simp only [AV.ptr.injEq] at hxx
   obtain ⟨rfl,rfl⟩:=hxx
   simp only [hb] at hst
   split at hst
   ·rename_i hc
    simp only [Option.some.injEq,Prod.mk.injEq] at hst
    obtain ⟨rfl,rfl⟩:=hst
    refine ⟨_,⟨by simpa using hil,?_,(fun h=>by cases h),(fun j x h=>by cases h),fun s' ha=>?_⟩,rfl,rfl⟩
    ·intro k z hk;simp only [Option.some.injEq,Prod.mk.injEq] at hk;obtain ⟨rfl,_⟩:=hk;simp
    ·have hev:=gR ha.sl
     have hb':s'.B[i]? = some b:=by rw [ha.B i (by simp)];exact hb
     have h1:bC P s' o.op=some (.any,s'.B.set i { b with cs:=splice b.cs off new },s'.V):=by
      rw [hop] at hev ⊢
      simp only [bC,hev x (by simp [Op.operands]),hx,hev y (by simp [Op.operands]),eP,hti,hnew,hb',hc,if_true,Option.map_some]
     have h2:=lO (hw.agr ha.sl) (JA (F:=F) (n:=n) hF h1)
     have e1:Eff.B ⟨some (i,{ b with cs:=splice b.cs off new }),none,none⟩ s'.B=s'.B.set i { b with cs:=splice b.cs off new }:=by simp [Eff.B]
     rw [e1]
     exact h2
   ·cases hst
  ·cases hst
theorem aAD (hF:Free F) {o:Oper} {s:St} {T:TypeId} {A:AV} {B':List Box} {V':List Vec} (hw:Wants lo o s true) (hop:o.op=.alloc T)
  (h:bC P s o.op=some (A,B',V')):∃ b',RF F n P lo vb ⟨[],none,some s.B.length,none,[],[],false⟩ o s A ⟨none,some b',none⟩∧B'=s.B++[b']∧V'=s.V:=by
 rw [hop] at h
 simp only [bC,iK] at h
 split at h
 ·rename_i ti hti
  split at h
  ·rename_i hc
   simp only [Option.some.injEq,Prod.mk.injEq] at h
   obtain ⟨rfl,rfl,rfl⟩:=h
   refine ⟨_,⟨by simp,(fun i x h=>by cases h),(fun _=>rfl),(fun j x h=>by cases h),fun s' ha=>?_⟩,rfl,rfl⟩
   have hl:s'.B.length=s.B.length:=ha.Bl rfl
   have h1:bC P s' o.op=some (.ptr s.B.length 0,s'.B++[Box.mk true T (cW ti.zero)],s'.V):=by
    rw [hop]
    simp only [bC,iK,hti,if_pos hc,hl]
   have h2:=lO (hw.agr ha.sl) (JA (F:=F) (n:=n) hF h1)
   have e1:Eff.B ⟨none,some (Box.mk true T (cW ti.zero)),none⟩ s'.B=s'.B++[Box.mk true T (cW ti.zero)]:=by simp [Eff.B]
   rw [e1]
   exact h2
  ·cases h
 ·cases h
theorem aAE (hF:Free F) {o:Oper} {s:St} {A:AV} {x:Operand} {args:Array Operand} {ts:Array TypeId} {f:FuncId} {caps:List AV} (rb rv:List Nat)
  (hop:o.op=.call { callee:=.value x,args,argTypes:=ts }) (hw:Wants lo o s true) (hx:aV (s.ev x)=some (f,caps)) (hrl:∀ i∈rb,i<s.B.length)
  (hen:dM P f=true) (hB:∀ i∈AV.bnms (args.toList.map s.ev++caps),i∈rb) (hV:∀ i∈AV.vnms (args.toList.map s.ev++caps),i∈rv)
  (h:SpecR P f (AV.lends s.B s.V (args.toList.map s.ev++caps)) A) (hA:AV.closed A=true) (hfl:AV.flat A=true):RF F n P lo vb ⟨rb,none,none,none,rv,[],false⟩ o s A Eff.none':=by
 refine RF.quiet hrl fun s' ha=>?_
 have hev:=gR ha.sl
 have hx':aV (s'.ev x)=some (f,caps):=by rw [hev x (by rw [hop];simp [Op.operands,Call.operands])];exact hx
 have has':args.toList.map s'.ev++caps=args.toList.map s.ev++caps:=by
  congr 1
  exact List.map_congr_left fun y hy=>hev y (by rw [hop];simp only [Op.operands,Call.operands,Array.mem_append];exact .inr (by simpa using hy))
 refine lO (hw.agr ha.sl) (wW (A:=A) hF hop hx' (enters hen) ?_)
 rw [has']
 refine SpecR.lent h ?_ hA hfl
 exact AV.lends_agr _ (fun i hi=>ha.B i (hB i hi)) (fun i hi=>ha.Vr i (hV i hi))
theorem aCG (hF:Free F) {o:Oper} {s:St} {A:AV} {x:Operand} {args:Array Operand} {ts:Array TypeId} {f:FuncId} {caps as':List AV}
  (hop:o.op=.call { callee:=.value x,args,argTypes:=ts }) (hw:Wants lo o s true) (hx:aV (s.ev x)=some (f,caps))
  (hen:dM P f=true) (hle:AV.les (args.toList.map s.ev++caps) as') (hcl:AV.closeds as'=true)
  (h:SpecR P f as' A) (hA:AV.closed A=true):RF F n P lo vb ⟨[],none,none,none,[],[],false⟩ o s A Eff.none':=by
 refine RF.quiet (by simp) fun s' ha=>?_
 have hev:=gR ha.sl
 have hx':aV (s'.ev x)=some (f,caps):=by rw [hev x (by rw [hop];simp [Op.operands,Call.operands])];exact hx
 have has':args.toList.map s'.ev++caps=args.toList.map s.ev++caps:=by
  congr 1
  exact List.map_congr_left fun y hy=>hev y (by rw [hop];simp only [Op.operands,Call.operands,Array.mem_append];exact .inr (by simpa using hy))
 refine lO (hw.agr ha.sl) (wW (A:=A) hF hop hx' (enters hen) ?_)
 rw [has']
 exact CallP.args (SpecR.frame h hcl hA _ _) hle (AV.scos_closed _ _ _ hcl)
end
end Go.Sx
namespace Go.Sx
open Go Go.RowKit
variable [G:Ghost]
section
variable {n0:Nat} {w0:World} {e:Env} {B:List Box} {V:List Vec} {w w':World}
theorem Mem.fillVec (h:Mem n0 w0 e B V w) {i:Nat} {x:Vec} (hi:V[i]? = some x) (hdead:x.live=false) (T:TypeId) (v':Value) (es':List (List CV)) (xs':List Value)
  (hown:OwnsV w' n0 T x.k v' es'.length xs') (hvals:CV.vals w e.S es'.flatten xs') (hk:∀ l∈es',l.length=x.k)
  (hg:w.grownBy w' none) (hblk:∀ g,aX v'=some g→w.heap.size≤g) :
  ∃ e',Mem n0 w0 e' B (V.set i (Vec.mk true T x.k (x.ver+1) es')) w' ∧
   Ext e w B.length (vers V) (kss V) e' w' B.length (vers (V.set i (Vec.mk true T x.k (x.ver+1) es'))) (kss (V.set i (Vec.mk true T x.k (x.ver+1) es'))) ∧
   e'.hdr i (x.ver+1)=v'∧e'.ρ=e.ρ∧e'.S=e.S:=by
 have hlt:i<V.length:=(List.getElem?_eq_some_iff.1 hi).1
 let e':Env:={ e with hdr:=fun j u=>if j=i∧u=x.ver+1 then v' else e.hdr j u }
 have hhdr:∀ j u,j≠i∨u≤x.ver→e'.hdr j u=e.hdr j u:=by
  intro j u hju
  show (if j=i∧u=x.ver+1 then v' else e.hdr j u)=_
  rw [if_neg (by omega)]
 have hnew:e'.hdr i (x.ver+1)=v':=by show (if _ then v' else _)=_;simp
 have hkeep:∀ b,b<w.heap.size→w'.heap[b]? = w.heap[b]?:=fun b hb=>hg.block b hb (by simp)
 have hget:∀ (j:Nat) (y:Vec),(V.set i (Vec.mk true T x.k (x.ver+1) es'))[j]? = some y→(j≠i∧V[j]? = some y∧e'.hdr j y.ver=e.hdr j y.ver)∨(j=i∧y=Vec.mk true T x.k (x.ver+1) es'∧e'.hdr j y.ver=v'):=by
  intro j y hy
  rw [List.getElem?_set] at hy
  split at hy
  ·rename_i hij
   subst hij
   simp only [Option.some.injEq] at hy
   subst hy
   exact .inr ⟨rfl,rfl,hnew⟩
  ·rename_i hij
   exact .inl ⟨fun h=>hij h.symm,hy,hhdr j _ (.inl fun h=>hij h.symm)⟩
 have hx:Ext e w B.length (vers V) (kss V) e' w' B.length (vers (V.set i (Vec.mk true T x.k (x.ver+1) es'))) (kss (V.set i (Vec.mk true T x.k (x.ver+1) es'))):=by
  have hvi:(vers V).getD i 0=x.ver:=by simp [vers,List.getD,hi]
  refine ⟨⟨fun _ hb=>hb,fun b hb=>hkeep b (h.ro b hb)⟩,fun _ _=>rfl,fun j u hj hu=>hhdr j u ?_,Nat.le_refl _,by simp,fun j hj=>?_,fun j hj=>?_,hg.size,fun _ h=>.inl h,rfl,fun _=>rfl,rfl⟩
  ·by_cases hji:j=i
   ·subst hji;right;rw [hvi] at hu;exact hu
   ·exact .inl hji
  ·by_cases hji:i=j
   ·subst hji
    rw [hvi]
    simp [vers,List.getD,hlt]
   ·simp [vers,List.getD,List.getElem?_set_ne hji]
  ·by_cases hji:i=j
   ·subst hji
    have hVi:V[i]=x:=(List.getElem?_eq_some_iff.1 hi).2
    simp [kss,List.getD,hlt,hVi]
   ·simp [kss,List.getD,List.getElem?_set_ne hji]
 have hlo:∀ (j:Nat) (y:Vec),V[j]? = some y→y.live=true→∀ g,aX (e.hdr j y.ver)=some g→g<w.heap.size:=by
  intro j y hy hyl g hg'
  obtain ⟨ys,a1,_⟩:=h.vec j y hy hyl
  exact (a1.lt g hg').2
 refine ⟨e',⟨?_,?_,h.boxlo,h.boxinj,?_,?_,?_,?_,?_,?_,?_,h.bl,h.hid.of rfl ⟨rfl,rfl⟩ (fun _ h=>.inl h) (SameG.set (show T≠ghT from hown.ne)) (fun b hb' _=>hkeep b hb') (fun i b hb hl=>.inl ⟨i,b,hb,hl,rfl⟩) (fun j y g hj hyl hgy=>?_)⟩,hx,hnew,rfl,rfl⟩
 rotate_left 9
 ·rcases hget j y hj with ⟨hj,hy,he⟩ | ⟨rfl,rfl,he⟩
  ·rw [he] at hgy;exact .inl ⟨j,y,hy,hyl,hgy⟩
  ·rw [he] at hgy;exact .inr (hblk g hgy)
 ·intro j b hb hbl
  obtain ⟨vs,a1,a2⟩:=h.box j b hb hbl
  exact ⟨vs,(hkeep _ (Array.getElem?_eq_some_iff.1 a1).1).trans a1,AV.all.mono hx _ _ (h.boxsc j b hb) a2⟩
 ·intro j b hb;exact hx.scos (h.boxsc j b hb)
 ·intro j y hy hyl
  rcases hget j y hy with ⟨hj,hy,he⟩ | ⟨rfl,rfl,he⟩
  ·obtain ⟨ys,a1,a2,a3⟩:=h.vec j y hy hyl
   refine ⟨ys,?_,CV.vals.mono hx.ro _ _ a2,a3⟩
   rw [he]
   exact a1.keep fun g hob=>hkeep g (a1.lt g hob).2
  ·exact ⟨xs',by rw [he];exact hown,CV.vals.mono hx.ro _ _ hvals,hk⟩
 ·intro j y g hy hyl hgy
  rcases hget j y hy with ⟨hj,hy,he⟩ | ⟨rfl,rfl,he⟩
  ·rw [he] at hgy;exact h.vecS j y g hy hyl hgy
  ·rw [he] at hgy
   intro hc
   have:=hblk g hgy;have:=h.ro g hc;omega
 ·intro j y l b g hy hyl hb hbl hgy
  rcases hget j y hy with ⟨hj,hy,he⟩ | ⟨rfl,rfl,he⟩
  ·rw [he] at hgy;exact h.vecbox j y l b g hy hyl hb hbl hgy
  ·rw [he] at hgy
   have:=hblk g hgy;have:=h.lt_box hb hbl
   intro hc
   have hc':e.ρ l=g:=hc
   omega
 ·intro j y l z g hy hyl hz hzl hgy hgz
  rcases hget j y hy with ⟨hne,hy1,he⟩ | ⟨h1,h2,he⟩ <;> rcases hget l z hz with ⟨hne',hz1,he'⟩ | ⟨h1',h2',he'⟩
  ·rw [he] at hgy;rw [he'] at hgz;exact h.vecinj j y l z g hy1 hyl hz1 hzl hgy hgz
  ·rw [he] at hgy;rw [he'] at hgz
   have:=hblk g hgz;have:=hlo j y hy1 hyl g hgy;omega
  ·rw [he] at hgy;rw [he'] at hgz
   have:=hblk g hgy;have:=hlo l z hz1 hzl g hgz;omega
  ·rw [h1,h1']
 ·intro b hb;exact Nat.lt_of_lt_of_le (h.ro b hb) hg.size
 ·exact h.below.grown hg h.nbase fun k hk=>by cases hk
 ·exact Nat.le_trans h.base hg.size
end
end Go.Sx
namespace Go.Sx
open Go Go.RowKit
variable [G:Ghost]
section
variable {F:Fence} {n:Nat} {P:Program} {lo:List Oper} {vb:Nat→Prop}
theorem aCH (hF:Free F) {o:Oper} {s:St} {A:AV} {B':List Box} {V':List Vec} (hw:Wants lo o s true) (h:bC P s o.op=some (A,B',V')):aAy F n P lo o s A B' V':=by
 intro n0 w0 e a w Q K hr hk
 rw [if_pos (hw s (fun _ _=>rfl) _ _ _ _ _ hr)]
 obtain ⟨nx,v,w',e',h1,h2,h3,h4,h5,h6⟩:=oJ h n0 w0 e a w hr
 refine ⟨fun f _=>hF.fn f,?_⟩
 rw [Oper.semAt_plain F _ _ (by intro c hc;rw [hc] at h;simp [bC] at h),h1]
 have hgo:=hk e' v w' h3 h4 h5 h6
 rcases h2 with rfl | ⟨rfl,rfl⟩
 ·exact hgo
 ·exact hgo
theorem rS (hF:Free F) {o:Oper} {s:St} {A:AV} {B':List Box} {V':List Vec} (hw:Wants lo o s true) (hnd:∀ c,o.op≠.defer c) (hst:Step P o s A B' V'):aAy F n P lo o s A B' V':=by
 intro n0 w0 e a w Q K hr hk
 rw [if_pos (hw s (fun _ _=>rfl) _ _ _ _ _ hr)]
 obtain ⟨nx,v,w',e',h1,h2,h3,h4,h5,h6⟩:=hst n0 w0 e a w hr
 refine ⟨fun f _=>hF.fn f,?_⟩
 rw [Oper.semAt_plain F _ _ hnd,h1]
 have hgo:=hk e' v w' h3 h4 h5 h6
 rcases h2 with rfl | ⟨rfl,rfl⟩
 ·exact hgo
 ·exact hgo
theorem WU (hF:Free F) {o:Oper} {s:St} {T:TypeId} {ao xo:Operand} {i u el off:Nat} {v:Vec} {ti:TI} {new:List AV} {cs:List CV} (hw:Wants lo o s true) (hop:o.op=.store T ao xo) (ha:s.ev ao=.opt i u el off)
  (hv:s.V[i]? = some v) (hl:v.sl=true) (hu:v.ver=u) (hel:el<v.es.length) (hti:bM P T=some ti) (hnew:(s.ev xo).cells=some new) (hcs:cV new=some cs) (hsz:cs.length=ti.size) (hoff:off+cs.length≤v.k) (hvb:¬vb i) :
  RF F n P lo vb ⟨[],none,none,some i,[],[],false⟩ o s .any ⟨none,none,some (i,{ v with es:=v.es.set el (spl (v.es.getD el []) off cs) })⟩:=by
 refine ⟨by simp,(fun i x h=>by cases h),(fun h=>by cases h),?_,fun s' ha'=>?_⟩
 ·intro k z hk;simp only [Option.some.injEq,Prod.mk.injEq] at hk;obtain ⟨rfl,_⟩:=hk;exact ⟨rfl,hvb,fun h=>by cases h⟩
 ·have hev:=gR ha'.sl
  have hv':s'.V[i]? = some v:=by rw [ha'.Vx i rfl];exact hv
  have h1:=rS (F:=F) (n:=n) (P:=P) hF (hw.agr ha'.sl) (by intro c hc;rw [hop] at hc;cases hc) (sN (P:=P) (st:=s') hop (by rw [hev ao (by rw [hop];simp [Op.operands])];exact ha) hv' hl hu hel hti (by rw [hev xo (by rw [hop];simp [Op.operands])];exact hnew) hcs hsz hoff)
  have e1:Eff.B ⟨none,none,some (i,{ v with es:=v.es.set el (spl (v.es.getD el []) off cs) })⟩ s'.B=s'.B:=by simp [Eff.B]
  rw [e1]
  exact h1
theorem aEt (hF:Free F) {o:Oper} {s:St} {T:TypeId} {x y:Operand} {args:Array Operand} {ats:Array TypeId} {j u:Nat} {A:AV} {B':List Box} {V':List Vec} (hw:Wants lo o s true) (hop:o.op=.call { callee:=.builtin .append,args:=args,argTypes:=ats })
  (hargs:args.toList=[x,y]) (hats:ats.toList=[T,T]) (hx:s.ev x=.own j u) (hj:¬vb j) (rv:List Nat) (hy:∀ i,gK (s.ev y)=some i→i∈rv) (h:bC P s o.op=some (A,B',V')) :
  ∃ v',RF F n P lo vb ⟨[],none,none,some j,rv,[],false⟩ o s A ⟨none,none,some (j,v')⟩∧B'=s.B∧V'=s.V.set j v':=by
 rw [hop] at h
 simp only [bC,hargs,hats,if_true,hx] at h
 unfold lG at h
 split at h
 ·rename_i a1 a2 et k by_ i' u' hti hxx
  simp only [AV.own.injEq] at hxx
  obtain ⟨rfl,rfl⟩:=hxx
  split at h
  ·rename_i te v new hte hv hnew
   split at h
   ·rename_i c1
    split at h
    ·rename_i c2
     split at h
     ·rename_i c3
      simp only [Option.some.injEq,Prod.mk.injEq] at h
      obtain ⟨rfl,rfl,rfl⟩:=h
      refine ⟨_,⟨by simp,(fun i x h=>by cases h),(fun h=>by cases h),?_,fun s' ha=>?_⟩,rfl,rfl⟩
      ·intro k z hk;simp only [Option.some.injEq,Prod.mk.injEq] at hk;obtain ⟨rfl,_⟩:=hk;exact ⟨rfl,hj,fun h=>by cases h⟩
      ·have hev:=gR ha.sl
       have hv':s'.V[j]? = some v:=by rw [ha.Vx j rfl];exact hv
       have hxm:x∈o.op.operands:=by
        have:x∈args.toList:=by rw [hargs];simp
        rw [hop];simpa [Op.operands,Call.operands] using this
       have hym:y∈o.op.operands:=by
        have:y∈args.toList:=by rw [hargs];simp
        rw [hop];simpa [Op.operands,Call.operands] using this
       have hsrc:oZ s' k (s.ev y)=some new:=by
        rw [← hnew]
        generalize s.ev y=yy at hy
        cases yy with
        | own i g=>simp only [oZ,ha.Vr i (hy i rfl)]
        | cv c =>
         cases c <;> try rfl
         rename_i v
         cases v <;> try rfl
         rename_i ao l c
         cases ao <;> try rfl
         cases l <;> try rfl
         cases c <;> rfl
        | _=>rfl
       have h1:bC P s' o.op=some (.own j (v.ver+1),s'.B,s'.V.set j { v with ver:=v.ver+1,es:=v.es++new }):=by
        rw [hop]
        simp only [bC,hargs,hats,if_true,hev x hxm,hx,hev y hym,lG,hti,hte,hv',hsrc]
        rw [if_pos c1,if_pos c2,if_pos c3]
       have h2:=aCH (F:=F) (n:=n) hF (hw.agr ha.sl) h1
       have e1:Eff.B ⟨none,none,some (j,{ v with ver:=v.ver+1,es:=v.es++new })⟩ s'.B=s'.B:=by simp [Eff.B]
       rw [e1]
       exact h2
     ·cases h
    ·cases h
   ·cases h
  ·cases h
 ·cases h
theorem CQ {T:TypeId} {r:Out} (h:bA P ⟨[],[],[]⟩ T 0 []=some r) :
  ∃ s z et k by_,bM P T=some ⟨s,z,.slc et k by_⟩∧r=(.own 0 0,[],[⟨true,et,k,0,[]⟩])∧∀ w,∃ vout,(Instr.buildSlice T 0 #[]).run P w=.ok (.slice (some ⟨w.heap.size,0,none⟩) 0 0) (w.alloc (.cells vout et)):=by
 unfold bA at h
 split at h
 ·rename_i s z et k by_ hti
  obtain ⟨hT,hk,_⟩:=dI hti
  split at h
  ·rename_i te hte
   split at h
   ·rename_i hc
    obtain ⟨hz,hsz,hk0,hone,hsmall⟩:=hc
    split at h
    ·rename_i out hout
     cases hcv:cV out with
     | none=>simp [hcv] at h
     | some cs =>
      simp only [hcv,Option.map_some,Option.some.injEq] at h
      refine ⟨s,z,et,k,by_,hti,?_,fun w=>⟨#[],?_⟩⟩
      ·rw [← h];simp [aS]
      ·have r0:Array.range 0=#[]:=rfl
       simp [Instr.buildSlice,run_underlying hT,run_sizeOf hte,hsz,r0,newRow,Instr.fill]
    ·cases h
   ·cases h
  ·cases h
 ·cases h
theorem aCI (hF:Free F) {o:Oper} {s:St} {T:TypeId} {parts:Array (Nat×Operand)} {j:Nat} {x:Vec} {et k:Nat} (hw:Wants lo o s true) (hop:o.op=.buildSlice T 0 parts) (hp:parts.toList=[])
  (h:bA P ⟨[],[],[]⟩ T 0 []=some (.own 0 0,[],[⟨true,et,k,0,[]⟩])) (hx:s.V[j]? = some x) (hdead:x.live=false) (hxk:x.k=k) (hj:¬vb j) :
  RF F n P lo vb ⟨[],none,none,some j,[],[],false⟩ o s (.own j (x.ver+1)) ⟨none,none,some (j,⟨true,et,x.k,x.ver+1,[]⟩)⟩:=by
 refine ⟨by simp,(fun i x h=>by cases h),(fun h=>by cases h),?_,fun s' ha=>?_⟩
 ·intro k z hk;simp only [Option.some.injEq,Prod.mk.injEq] at hk;obtain ⟨rfl,_⟩:=hk;exact ⟨rfl,hj,fun h=>by cases h⟩
 ·have hx':s'.V[j]? = some x:=by rw [ha.Vx j rfl];exact hx
  obtain ⟨_,_,et',k',_,hti,hr0,hrun⟩:=CQ h
  simp only [Prod.mk.injEq,List.cons.injEq,Vec.mk.injEq,true_and,and_true] at hr0
  obtain ⟨rfl,rfl⟩:=hr0
  have e1:Eff.B ⟨none,none,some (j,(⟨true,et,x.k,x.ver+1,[]⟩:Vec))⟩ s'.B=s'.B:=by simp [Eff.B]
  rw [e1]
  show aAy F n P lo o s' _ s'.B (s'.V.set j ⟨true,et,x.k,x.ver+1,[]⟩)
  intro n0 w0 e a w Q K hr hk
  rw [if_pos (hw.agr ha.sl s' (fun _ _=>rfl) _ _ _ _ _ hr)]
  obtain ⟨vout,hrun⟩:=hrun w
  obtain ⟨e',b1,b2,b3,_⟩:=hr.mem.fillVec (w':=w.alloc (.cells vout et)) hx' hdead et (.slice (some ⟨w.heap.size,0,none⟩) 0 0) [] []
   (.inl ⟨eK hti,.inl ⟨_,rfl,rfl,rfl⟩⟩) (by simp [CV.vals]) (by simp) (World.grownBy_alloc _ _ _) (fun g hg=>by simp [aX] at hg)
  refine ⟨fun f _=>hF.fn f,?_⟩
  have hpp:parts=#[]:=by rw [← Array.toArray_toList (xs:=parts),hp]
  have hrun':(execOp a.eval o).run P w=.ok (.value (.slice (some ⟨w.heap.size,0,none⟩) 0 0)) (w.alloc (.cells vout et)):=by
   simp [execOp,hop,hpp,hrun]
  rw [Oper.semAt_plain F _ _ (by intro c hc;rw [hc] at hop;cases hop),hrun']
  have hjl:j<s'.V.length:=(List.getElem?_eq_some_iff.1 hx').1
  exact hk e' _ _ b1 b2 (by simp [AV.holds,b3,Value.oneCell']) (by simp [AV.sco,List.getD,vers,hjl])
theorem aCJ (hF:Free F) {o:Oper} {s:St} {A:AV} (hw:Wants lo o s true) (h:tI P s o.op=some A):RF F n P lo vb ⟨[],none,none,none,[],[],false⟩ o s A Eff.none':=by
 refine RF.quiet (by simp) fun s' ha=>?_
 refine lO (hw.agr ha.sl) (WL hF ?_)
 rw [← h]
 have hev:=gR ha.sl
 unfold tI
 cases hop:o.op <;> try rfl
 rename_i T len parts
 rw [hop] at hev
 have hp:∀ p∈parts.toList,s'.ev p.2=s.ev p.2:=fun p hp=>hev p.2 (by simp only [Op.operands,List.mem_toArray,List.mem_map];exact ⟨p,hp,rfl⟩)
 have h1:(parts.toList.map fun p=>s'.ev p.2)=parts.toList.map fun p=>s.ev p.2:=List.map_congr_left hp
 have h2:(parts.toList.map fun p=>(p.1,s'.ev p.2))=parts.toList.map fun p=>(p.1,s.ev p.2):=List.map_congr_left fun p h=>by rw [hp p h]
 simp only [h1,h2]
theorem MW {kn:Nat} {key e:List CV}:∀ (es:List (List CV)),bD kn key (es++[e])=if bD kn key es<es.length then bD kn key es else if eqB (key.map cvV) ((e.take kn).map cvV)=true then es.length else es.length+1
 | []=>by have _:=G;simp only [List.nil_append,bD,List.length_nil,Nat.lt_irrefl,if_false,Nat.zero_add]
 | x::es=>by
  simp only [List.cons_append,bD,List.length_cons]
  by_cases h:eqB (key.map cvV) ((x.take kn).map cvV)=true
  ·rw [if_pos h,if_pos h,if_pos (show 0<es.length+1 by omega)]
  ·rw [if_neg h,if_neg h,MW es]
   by_cases h2:bD kn key es<es.length
   ·rw [if_pos h2,if_pos (show bD kn key es+1<es.length+1 by omega)]
   ·rw [if_neg h2,if_neg (show ¬bD kn key es+1<es.length+1 by omega)]
    split <;> rfl
theorem RD {mi:MI} {cs cs':List CV} {es:List (List CV)} (hk:cs.length=mi.kl.length):bO mi.kl.length cs' mi.z (mG mi.kl.length cs mi.z es)=bO mi.kl.length cs' mi.z es:=by
 unfold mG
 split
 ·rfl
 ·unfold bO
  rw [MW]
  by_cases h2:bD mi.kl.length cs' es<es.length
  ·rw [if_pos h2]
   congr 1
   simp [List.getD,List.getElem?_append_left h2]
  ·rw [if_neg h2]
   have hn:es[bD mi.kl.length cs' es]? = none:=by simp;omega
   have hz:(es.getD (bD mi.kl.length cs' es) []).getD mi.kl.length (.val mi.z)=.val mi.z:=by simp [List.getD,hn]
   rw [hz]
   split
   ·simp [List.getD,← hk]
   ·simp [List.getD]
theorem WV {mi:MI} {cs:List CV} (h:gZ mi cs=true):cs.length=mi.kl.length:=by
 have _:=G
 have:=congrArg List.length (beq_iff_eq.1 h);simpa using this
theorem aCK {T T':TypeId} {mi mi':MI} {P P':Program} (h1:gD P T=some mi) (h2:gD P' T'=some mi') (h:mi.tag T=mi'.tag T'):mi.kl.length=mi'.kl.length:=by
 have a:=MI.tag_div (mi:=mi) (dB h1).2.2.2.2.2.2
 have b:=MI.tag_div (mi:=mi') (dB h2).2.2.2.2.2.2
 rw [← a,← b,h]
theorem RE (hF:Free F) {o:Oper} {s:St} {T:TypeId} {mi:MI} {x k:Operand} {i u:Nat} {v:Vec} {cs:List CV} (hw:Wants lo o s true) (hm:gD P T=some mi) (hop:o.op=.lookup T x k false) (hx:s.ev x=.own i u) (hv:s.V[i]? = some v) (hI:IsM mi T v) (hu:v.ver=u) (hk:iY mi (s.ev k)=some cs) (hok:gZ mi cs=true) :
  RF F n P lo vb ⟨[],none,none,none,[],[i],false⟩ o s (.cv (bO mi.kl.length cs mi.z v.es)) Eff.none':=by
 refine RF.quiet (by simp) fun s' ha=>?_
 have hev:=gR ha.sl
 have hx':s'.ev x=.own i u:=by rw [hev x (by rw [hop];simp [Op.operands])];exact hx
 have hk':iY mi (s'.ev k)=some cs:=by rw [hev k (by rw [hop];simp [Op.operands])];exact hk
 have key:∀ v',s'.V[i]? = some v'→IsM mi T v'→v'.ver=u→bO mi.kl.length cs mi.z v'.es=bO mi.kl.length cs mi.z v.es→aEl F n P lo o s' (.cv (bO mi.kl.length cs mi.z v.es)) s'.B:=by
  intro v' hv' hI' hu' he
  rw [← he]
  exact rS (F:=F) (n:=n) (P:=P) (lo:=lo) hF (hw.agr ha.sl) (by intro c hc;rw [hop] at hc;cases hc) (uW (o:=o) (st:=s') hm hop hx' hv' hI' hu' hk' hok)
 rcases ha.Vm i (by simp) with h | ⟨v1,v',h1,h2,h3,h4,h5,h6,h7⟩
 ·exact key v (by rw [← h];exact hv) hI hu rfl
 ·rw [hv] at h1;cases h1
  obtain ⟨q1,q2⟩:=h7 T mi hm hI.T
  exact key v' h2 ⟨h3.trans hI.live,h4.trans hI.T,h5.trans hI.k,by rw [q1];exact hI.ok⟩ (h6.trans hu) (q2 hI.ok cs hok)
theorem WW (hF:Free F) {o:Oper} {s:St} {T:TypeId} {mi:MI} {x k:Operand} {i u:Nat} {v:Vec} {cs:List CV} (hw:Wants lo o s true) (hm:gD P T=some mi) (hop:o.op=.mapEntry T x k) (hx:s.ev x=.own i u) (hv:s.V[i]? = some v) (hI:IsM mi T v) (hu:v.ver=u) (hk:iY mi (s.ev k)=some cs) (hok:gZ mi cs=true) (hvb:¬vb i) :
  RF F n P lo vb ⟨[],none,none,some i,[],[],true⟩ o s (.tup [.cv (bO mi.kl.length cs mi.z v.es),.cv (.val (.int .i64 (bD mi.kl.length cs v.es)))]) ⟨none,none,some (i,{ v with es:=mG mi.kl.length cs mi.z v.es })⟩:=by
 refine ⟨by simp,(fun i x h=>by cases h),(fun h=>by cases h),?_,fun s' ha=>?_⟩
 ·intro j z hj
  simp only [Option.some.injEq,Prod.mk.injEq] at hj
  obtain ⟨rfl,rfl⟩:=hj
  refine ⟨rfl,hvb,fun _=>.inr ⟨v,_,hv,rfl,rfl,rfl,rfl,rfl,fun T' mi' hm' hT'=>?_⟩⟩
  have hTT:T'=T∧mi'=mi:=by
   have h1:mi.tag T=mi'.tag T':=by rw [← hI.T];exact hT'
   have hkn:=aCK hm hm' h1
   have hT1:T'=T:=by
    unfold MI.tag at h1
    rw [hkn] at h1
    have h2:aI*(mi'.kl.length+1)+T=aI*(mi'.kl.length+1)+T':=h1
    exact (Nat.add_left_cancel h2).symm
   subst hT1
   rw [hm] at hm'
   injection hm' with hm'
   exact ⟨rfl,hm'.symm⟩
  obtain ⟨rfl,rfl⟩:=hTT
  exact ⟨by rw [hI.ok];exact TX hm hI.ok hok,fun _ cs' _=>RD (WV hok)⟩
 ·have hev:=gR ha.sl
  have hv':s'.V[i]? = some v:=by rw [ha.Vx i rfl];exact hv
  have h1:=rS (F:=F) (n:=n) (P:=P) (lo:=lo) hF (hw.agr ha.sl) (by intro c hc;rw [hop] at hc;cases hc) (yW (o:=o) (st:=s') hm hop (by rw [hev x (by rw [hop];simp [Op.operands])];exact hx) hv' hI hu (by rw [hev k (by rw [hop];simp [Op.operands])];exact hk) hok)
  have e1:Eff.B ⟨none,none,some (i,{ v with es:=mG mi.kl.length cs mi.z v.es })⟩ s'.B=s'.B:=by simp [Eff.B]
  rw [e1]
  exact h1
theorem RG (hF:Free F) {o:Oper} {s:St} {T:TypeId} {mi:MI} {x sx y:Operand} {i u:Nat} {v:Vec} {q:IntKind} {c:Int} {d:CV} (hw:Wants lo o s true) (hm:gD P T=some mi) (hop:o.op=.entryStore T x sx y) (hx:s.ev x=.own i u) (hv:s.V[i]? = some v) (hI:IsM mi T v) (hu:v.ver=u)
  (hs:s.ev sx=.cv (.val (.int q c))) (hy:s.ev y=.cv d) (hd:kC d=some mi.vl) (h0:0≤c) (hc:c.toNat<v.es.length) (hvb:¬vb i) :
  RF F n P lo vb ⟨[],none,none,some i,[],[],false⟩ o s .any ⟨none,none,some (i,{ v with es:=v.es.set c.toNat ((v.es.getD c.toNat []).take mi.kl.length++[d]) })⟩:=by
 refine ⟨by simp,(fun i x h=>by cases h),(fun h=>by cases h),?_,fun s' ha=>?_⟩
 ·intro j z hj;simp only [Option.some.injEq,Prod.mk.injEq] at hj;obtain ⟨rfl,_⟩:=hj;exact ⟨rfl,hvb,fun h=>by cases h⟩
 ·have hev:=gR ha.sl
  have hv':s'.V[i]? = some v:=by rw [ha.Vx i rfl];exact hv
  have h1:=rS (F:=F) (n:=n) (P:=P) (lo:=lo) hF (hw.agr ha.sl) (by intro c hc;rw [hop] at hc;cases hc) (uX (q:=q) (c:=c) (d:=d) (o:=o) (st:=s') hm hop (by rw [hev x (by rw [hop];simp [Op.operands])];exact hx) hv' hI hu (by rw [hev sx (by rw [hop];simp [Op.operands])];exact hs) (by rw [hev y (by rw [hop];simp [Op.operands])];exact hy) hd h0 hc)
  have e1:Eff.B ⟨none,none,some (i,{ v with es:=v.es.set c.toNat ((v.es.getD c.toNat []).take mi.kl.length++[d]) })⟩ s'.B=s'.B:=by simp [Eff.B]
  rw [e1]
  exact h1
end
end Go.Sx
namespace Go.Sx
open Go Go.RowKit
variable [G:Ghost]
section
variable {n0:Nat} {w0:World} {e:Env} {B:List Box} {V:List Vec} {w:World}
theorem Mem.fill2 (h:Mem n0 w0 e B V w) {i:Nat} {x:Vec} (hi:V[i]? = some x) (hdead:x.live=false) (T:TypeId) (v':Value) (es':List (List CV)) (xs':List Value)
  (hown:OwnsV w n0 T x.k v' es'.length xs') (hvals:CV.vals w e.S es'.flatten xs') (hk:∀ l∈es',l.length=x.k)
  (hS:∀ g,aX v'=some g→¬e.S g) (hbx:∀ g,aX v'=some g→∀ (j:Nat) (b:Box),B[j]? = some b→b.live=true→e.ρ j≠g)
  (hvx:∀ g,aX v'=some g→∀ (j:Nat) (y:Vec),V[j]? = some y→y.live=true→aX (e.hdr j y.ver)≠some g) (hH:∀ g,aX v'=some g→e.H g=none) :
  ∃ e',Mem n0 w0 e' B (V.set i (Vec.mk true T x.k (x.ver+1) es')) w ∧
   Ext e w B.length (vers V) (kss V) e' w B.length (vers (V.set i (Vec.mk true T x.k (x.ver+1) es'))) (kss (V.set i (Vec.mk true T x.k (x.ver+1) es'))) ∧
   e'.hdr i (x.ver+1)=v'∧e'.ρ=e.ρ∧e'.S=e.S:=by
 have hlt:i<V.length:=(List.getElem?_eq_some_iff.1 hi).1
 let e':Env:={ e with hdr:=fun j u=>if j=i∧u=x.ver+1 then v' else e.hdr j u }
 have hhdr:∀ j u,j≠i∨u≤x.ver→e'.hdr j u=e.hdr j u:=by
  intro j u hju
  show (if j=i∧u=x.ver+1 then v' else e.hdr j u)=_
  rw [if_neg (by omega)]
 have hnew:e'.hdr i (x.ver+1)=v':=by show (if _ then v' else _)=_;simp
 have hget:∀ (j:Nat) (y:Vec),(V.set i (Vec.mk true T x.k (x.ver+1) es'))[j]? = some y→(j≠i∧V[j]? = some y∧e'.hdr j y.ver=e.hdr j y.ver)∨(j=i∧y=Vec.mk true T x.k (x.ver+1) es'∧e'.hdr j y.ver=v'):=by
  intro j y hy
  rw [List.getElem?_set] at hy
  split at hy
  ·rename_i hij
   subst hij
   simp only [hlt,if_true,Option.some.injEq] at hy
   subst hy
   exact .inr ⟨rfl,rfl,hnew⟩
  ·rename_i hij
   exact .inl ⟨fun h=>hij h.symm,hy,hhdr j _ (.inl fun h=>hij h.symm)⟩
 have hx:Ext e w B.length (vers V) (kss V) e' w B.length (vers (V.set i (Vec.mk true T x.k (x.ver+1) es'))) (kss (V.set i (Vec.mk true T x.k (x.ver+1) es'))):=by
  have hvi:(vers V).getD i 0=x.ver:=by simp [vers,List.getD,hi]
  refine ⟨⟨fun _ hb=>hb,fun b hb=>rfl⟩,fun _ _=>rfl,fun j u hj hu=>hhdr j u ?_,Nat.le_refl _,by simp,fun j hj=>?_,fun j hj=>?_,Nat.le_refl _,fun _ h=>.inl h,rfl,fun _=>rfl,rfl⟩
  ·by_cases hji:j=i
   ·subst hji;right;rw [hvi] at hu;exact hu
   ·exact .inl hji
  ·by_cases hji:i=j
   ·subst hji
    rw [hvi]
    simp [vers,List.getD,hlt]
   ·simp [vers,List.getD,List.getElem?_set_ne hji]
  ·by_cases hji:i=j
   ·subst hji
    have hVi:V[i]=x:=(List.getElem?_eq_some_iff.1 hi).2
    simp [kss,List.getD,hlt,hVi]
   ·simp [kss,List.getD,List.getElem?_set_ne hji]
 refine ⟨e',⟨?_,?_,h.boxlo,h.boxinj,?_,?_,?_,?_,h.ro,h.below,h.base,h.bl,⟨h.hid.obj,h.hid.box,fun j y g hj hyl hgy=>?_,fun j y hj hT=>by obtain ⟨x0,q1,q2,q3⟩:=SameG.set (V:=V) (i:=i) (y:=Vec.mk true T x.k (x.ver+1) es') (show T≠ghT from hown.ne) j y hj hT;rw [← q3];exact h.hid.gh j x0 q1 q2,h.hid.own⟩⟩,hx,hnew,rfl,rfl⟩
 rotate_left 6
 ·rcases hget j y hj with ⟨hne,hy,he⟩ | ⟨rfl,rfl,he⟩
  ·rw [he] at hgy;exact h.hid.vec j y g hy hyl hgy
  ·rw [he] at hgy;exact hH g hgy
 ·intro j b hb hbl
  obtain ⟨vs,a1,a2⟩:=h.box j b hb hbl
  exact ⟨vs,a1,AV.all.mono hx _ _ (h.boxsc j b hb) a2⟩
 ·intro j b hb;exact hx.scos (h.boxsc j b hb)
 ·intro j y hy hyl
  rcases hget j y hy with ⟨hj,hy,he⟩ | ⟨rfl,rfl,he⟩
  ·obtain ⟨ys,a1,a2,a3⟩:=h.vec j y hy hyl
   refine ⟨ys,?_,CV.vals.mono hx.ro _ _ a2,a3⟩
   rw [he]
   exact a1
  ·exact ⟨xs',by rw [he];exact hown,CV.vals.mono hx.ro _ _ hvals,hk⟩
 ·intro j y g hy hyl hgy
  rcases hget j y hy with ⟨hj,hy,he⟩ | ⟨rfl,rfl,he⟩
  ·rw [he] at hgy;exact h.vecS j y g hy hyl hgy
  ·rw [he] at hgy;exact hS g hgy
 ·intro j y l b g hy hyl hb hbl hgy
  rcases hget j y hy with ⟨hj,hy,he⟩ | ⟨rfl,rfl,he⟩
  ·rw [he] at hgy;exact h.vecbox j y l b g hy hyl hb hbl hgy
  ·rw [he] at hgy;exact hbx g hgy l b hb hbl
 ·intro j y l z g hy hyl hz hzl hgy hgz
  rcases hget j y hy with ⟨hne,hy1,he⟩ | ⟨h1,h2,he⟩ <;> rcases hget l z hz with ⟨hne',hz1,he'⟩ | ⟨h1',h2',he'⟩
  ·rw [he] at hgy;rw [he'] at hgz;exact h.vecinj j y l z g hy1 hyl hz1 hzl hgy hgz
  ·rw [he] at hgy;rw [he'] at hgz
   exact absurd hgy (hvx g hgz j y hy1 hyl)
  ·rw [he] at hgy;rw [he'] at hgz
   exact absurd hgz (hvx g hgy l z hz1 hzl)
  ·rw [h1,h1']
end
section
variable {P:Program}
theorem CallP.fill {f:FuncId} {args:List AV} {T:TypeId} {k:Nat} {es:List (List CV)} (h:sP P f args T k es) (hargs:AV.scos 0 [] args) (B:List Box) (V:List Vec) {j:Nat} {x:Vec} (hx:V[j]? = some x) (hdead:x.live=false) (hxk:x.k=k) :
  CallP P f args B V fun r B' V'=>r=.own j (x.ver+1)∧B'=B∧V'=V.set j ⟨true,T,x.k,x.ver+1,es⟩:=by
 intro F n hF hro n0 w0 e w vs hm hv hs
 have hx0:Ext e w 0 [] (kss V) e w 0 [] []:=⟨RO.refl _ _,fun _ _=>rfl,fun _ _ _ _=>rfl,Nat.le_refl _,Nat.le_refl _,fun _ _=>Nat.le_refl _,fun i hi=>by simp at hi,Nat.le_refl _,fun _ h=>.inl h,rfl,fun _=>rfl,rfl⟩
 refine CallsIn.mono (h F n hF hro w.heap.size w { e with base:=w.heap.size,H:=fun _=>none,y:=false } w vs ⟨rfl,rfl⟩ (Mem.nothing e w hm.ro) (AV.rebases _ _ _ (AV.all.mono hx0 _ _ hargs hv)) hargs) ?_
 rintro en w' ⟨e1,B1,V0,r0,v,rfl,⟨i,y,rfl,hy,hyl,rfl,rfl,rfl⟩,h1,hx1,hr,hsc⟩
 have h2:Mem w.heap.size w e1 [] [] w':=⟨by simp,by simp,by simp,by simp,by simp,by simp,by simp,by simp,h1.ro,h1.below,h1.base,h1.bl,h1.hid.of rfl ⟨rfl,rfl⟩ (fun _ h=>.inl h) (fun i x h=>by simp at h) (fun _ _ _=>rfl) (by simp) (by simp)⟩
 obtain ⟨e',hρ,hS,hh1,hh2,hm',hxx⟩:=hm.beside h2 hx1.ye e1.S (fun b hb=>hx1.ro.sub b hb) (fun b hb=>(hx1.snew b hb).elim .inl fun hl=>.inr ⟨hl,h1.ro b hb,hb⟩) (fun _ _ _ _ _ h=>h)
 rw [List.append_nil] at hm' hxx
 obtain ⟨xs,a1,a2,a3⟩:=h1.vec i y hy hyl
 simp only [AV.holds] at hr
 have hlo:∀ g,aX (e1.hdr i y.ver)=some g→w.heap.size≤g:=fun g hg=>(a1.lt g hg).1
 obtain ⟨e2,m1,m2,m3,_⟩:=hm'.fill2 hx hdead y.T (e1.hdr i y.ver) y.es xs (by rw [hxk];exact a1.base hm.base) (by rw [hS];exact a2) (by rw [hxk];exact a3)
  (fun g hg=>by rw [hS];exact h1.vecS i y g hy hyl hg)
  (fun g hg l b hb hbl hc=>by
   have:=hm.lt_box hb hbl
   have:=hlo g hg
   rw [hρ.1] at hc
   omega)
  (fun g hg l z hz hzl hc=>by
   obtain ⟨zs,c1,_⟩:=hm.vec l z hz hzl
   have hl:=(List.getElem?_eq_some_iff.1 hz).1
   rw [hh1 l _ hl] at hc
   have:=(c1.lt g hc).2
   have:=hlo g hg
   omega)
  (fun g hg=>by rw [hρ.2];exact hm.hid.new (hlo g hg))
 have hjl:=(List.getElem?_eq_some_iff.1 hx).1
 refine ⟨e2,B,_,.own j (x.ver+1),v,rfl,⟨rfl,rfl,rfl⟩,m1,hxx.trans m2,?_,?_⟩
 ·simp only [AV.holds]
  rw [m3];exact hr
 ·simp [AV.sco,vers,List.getD,hjl]
theorem rT {F:Fence} {n:Nat} {lo:List Oper} (hF:Free F) {o:Oper} {s:St} {A:AV} {B1:List Box} {V1:List Vec} {x:Operand} {args:Array Operand} {ts:Array TypeId} {f:FuncId} {caps:List AV} (hw:Wants lo o s true)
  (hop:o.op=.call { callee:=.value x,args,argTypes:=ts }) (hx:aV (s.ev x)=some (f,caps))
  (hen:∀ (as:Array Value) (w:World),(callFunc f as).run P w=.ok (.enter f as) w)
  (h:CallP P f (args.toList.map s.ev++caps) s.B s.V fun r B' V'=>r=A∧B'=B1∧V'=V1):aAy F n P lo o s A B1 V1:=by
 intro n0 w0 e a w Q K hr hk
 rw [if_pos (hw s (fun _ _=>rfl) _ _ _ _ _ hr)]
 have hxv:=hr.ev x
 obtain ⟨cvs,hf,hcv,hcs⟩:∃ cvs:Array Value,a.eval x=.func (.func f) #[] cvs∧AV.all e w (kss s.V) caps cvs.toList∧AV.scos s.B.length (vers s.V) caps:=by
  unfold aV at hx
  split at hx
  ·rename_i g cs hg
   simp only [Option.some.injEq,Prod.mk.injEq] at hx
   obtain ⟨rfl,rfl⟩:=hx
   rw [hg] at hxv
   simp only [AV.holds,CV.holds] at hxv
   obtain ⟨⟨vs,h1,h2⟩,_⟩:=hxv
   exact ⟨vs,h1,AV.all.of_vals h2,AV.scos_cv _ _ _⟩
  ·rename_i g cs hg
   split at hx
   ·cases hx
   ·rename_i hmk
    simp only [Option.some.injEq,Prod.mk.injEq] at hx
    obtain ⟨rfl,rfl⟩:=hx
    rw [hg] at hxv
    simp only [AV.holds,AV.sco] at hxv
    obtain ⟨⟨vs,h1,h2⟩,h3⟩:=hxv
    rw [eq_false_of_ne_true hmk] at h1
    exact ⟨vs,h1,h2,h3⟩
  ·cases hx
 have hes:=hr.evs args.toList
 refine ⟨fun f _=>hF.fn f,?_⟩
 rw [Oper.semAt_plain F _ _ (by intro c hc;rw [hc] at hop;cases hop)]
 have hrun:(execOp a.eval o).run P w=.ok (.enter f (args.map a.eval++cvs)) w:=by
  simp [execOp,hop,resolve,hf,Deferred.ofValue,invoke,hen]
 rw [hrun]
 refine ⟨fun hd=>by rw [hF.depth] at hd;simp at hd,?_⟩
 refine CallsIn.anyRound (CallsIn.mono (h F.plain (n - 1) hF.plain rfl n0 w0 e w (args.map a.eval++cvs) hr.mem (by simpa using hes.1.append hcv) (by
  rw [AV.scos_iff] at hcs ⊢
  have h2:=AV.scos_iff.1 hes.2
  intro y hy
  rcases List.mem_append.1 hy with hy | hy
  ·exact h2 y hy
  ·exact hcs y hy)) ?_)
 rintro en w' ⟨e',B',V',r,v,rfl,⟨rfl,rfl,rfl⟩,hm,hxt,hrv,hsc⟩
 exact hk e' v w' hm hxt hrv hsc
theorem aAF {F:Fence} {n:Nat} {lo:List Oper} {vb:Nat→Prop} (hF:Free F) {o:Oper} {s:St} {x:Operand} {args:Array Operand} {ts:Array TypeId} {f:FuncId} {cs:List CV} {T:TypeId} {k:Nat} {es:List (List CV)} {j:Nat} {z:Vec}
  (hop:o.op=.call { callee:=.value x,args,argTypes:=ts }) (hw:Wants lo o s true) (hx:aV (s.ev x)=some (f,[]))
  (hen:dM P f=true) (has:args.toList.map s.ev=cs.map .cv) (h:sP P f (cs.map .cv) T k es) (hz:s.V[j]? = some z) (hdead:z.live=false) (hzk:z.k=k) (hj:¬vb j) :
  RF F n P lo vb ⟨[],none,none,some j,[],[],false⟩ o s (.own j (z.ver+1)) ⟨none,none,some (j,⟨true,T,z.k,z.ver+1,es⟩)⟩:=by
 refine ⟨by simp,(fun i x h=>by cases h),(fun h=>by cases h),?_,fun s' ha=>?_⟩
 ·intro k z hk;simp only [Option.some.injEq,Prod.mk.injEq] at hk;obtain ⟨rfl,_⟩:=hk;exact ⟨rfl,hj,fun h=>by cases h⟩
 ·have hev:=gR ha.sl
  have hx':aV (s'.ev x)=some (f,[]):=by rw [hev x (by rw [hop];simp [Op.operands,Call.operands])];exact hx
  have has':args.toList.map s'.ev=cs.map .cv:=by
   rw [← has]
   exact List.map_congr_left fun y hy=>hev y (by rw [hop];simp only [Op.operands,Call.operands,Array.mem_append];exact .inr (by simpa using hy))
  have hz':s'.V[j]? = some z:=by rw [ha.Vx j rfl];exact hz
  have e1:Eff.B ⟨none,none,some (j,(⟨true,T,z.k,z.ver+1,es⟩:Vec))⟩ s'.B=s'.B:=by simp [Eff.B]
  rw [e1]
  refine rT hF (hw.agr ha.sl) hop hx' (enters hen) ?_
  rw [has',List.append_nil]
  exact CallP.fill h (AV.scos_cv _ _ _) s'.B s'.V hz' hdead hzk
end
end Go.Sx
namespace Go.Sx
open Go Go.RowKit
variable [G:Ghost]
def vns:AV→List Nat
 | .own i _=>[i]
 | .opt i _ _ _=>[i]
 | .gd [] x=>vns x
 | _=>[]
def fp0:FP:=⟨[],none,none,none,[],[],false⟩
def WX (v0:Nat) (V:List Vec) (k:Nat):Option Nat:=
 (List.range V.length).find? fun j=>decide (v0≤j)&&(match V[j]? with | some v=>!v.live&&v.k == k | none=>false)
def aAG (ops:List Oper) (o:Oper):Bool:=match o.dst with
 | some d=>ops.any fun o2=>match o2.op with
  | .call { callee:=.builtin .append,args,.. }=>(match args.toList with
   | .tmp d'::_=>d' == d
   | _=>false)
  | _=>false
 | none=>false
def xN (k:Nat) (hdr:Bool):List CV→Bool
 | [.row k' _,.val (.bool b)]=>k' == k&&b == hdr
 | _=>false
section
variable (P:Program) (sg:FuncId→Option Sig) (M:Den)
def rU (ops:List Oper) (o:Oper):Option Vec:=match o.op with
 | .buildSlice T 0 parts=>if (aAG ops o&&parts.toList.isEmpty)=true then
   match bA P ⟨[],[],[]⟩ T 0 [] with
   | some (.own 0 0,[],[⟨true,et,k,0,[]⟩])=>some ⟨true,et,k,0,[]⟩
   | _=>none
  else none
 | _=>none
def WY (o:Oper):Option (FuncId×List Operand×TypeId×Nat):=match o.op with
 | .call { callee:=.value (.func f),args,.. }=>match sg f with
  | some _=>none
  | none=>match bM P o.type with
   | some ⟨_,_,.slc et k _⟩=>some (f,args.toList,et,k)
   | _=>none
 | _=>none
def MX (s:SS) (x:Operand) (args:List Operand):Option (Sig×FuncId×List CV):=match x with
 | .func f=>match sg f with
  | some g=>match eC s.B s.V g.ps (args.map s.ev) with
   | some (l,true)=>some (g,f,l)
   | _=>none
  | none=>none
 | _=>none
def aDT:List AV→Option Nat
 | []=>none
 | .own i _::_=>some i
 | _::xs=>aDT xs
def fzI (v0:Nat) (g:Sig) (xs:List AV):Option Nat:=match g.rs.all Sc.flat with
 | true=>none
 | false=>match aDT xs with
  | some j=>if v0≤j then some j else none
  | none=>none
def fzC (j:Nat) (v:Vec):List AV→Option (List AV)
 | []=>some []
 | .own i u::xs=>if (i == j&&u == v.ver)=true then (match fzC j v xs with
  | some ys=>some (.cv (.row v.k v.es)::ys)
  | none=>none) else none
 | x::xs=>if x.clo=true then (match fzC j v xs with
  | some ys=>some (x::ys)
  | none=>none) else none
def aDU (V:List Vec):AV→Option (Nat×Nat)
 | .own i u=>match V[i]? with
  | some v=>if aI<v.T then some (i,u) else none
  | none=>none
 | _=>none
def aDV (V:List Vec):List AV→Option (Nat×Nat)
 | []=>none
 | x::xs=>match aDU V x with
  | some p=>some p
  | none=>aDV V xs
def aAH (V:List Vec):List AV→Option (Nat×Nat)
 | []=>none
 | .agg ys::xs=>match aDV V ys with
  | some p=>some p
  | none=>aAH V xs
 | x::xs=>match aDU V x with
  | some p=>some p
  | none=>aAH V xs
def fm1 (i u:Nat) (c:CV):AV→Option AV
 | .cv d=>some (.cv d)
 | .own j g=>if (j == i&&g == u)=true then some (.cv c) else none
 | _=>none
def aAI (i u:Nat) (c:CV):List AV→Option (List AV)
 | []=>some []
 | x::xs=>match fm1 i u c x,aAI i u c xs with
  | some y,some ys=>some (y::ys)
  | _,_=>none
def fmA (i u:Nat) (c:CV):AV→Option AV
 | .agg ys=>match aAI i u c ys with
  | some zs=>some (.agg zs)
  | none=>none
 | x=>fm1 i u c x
def fmL (i u:Nat) (c:CV):List AV→Option (List AV)
 | []=>some []
 | x::xs=>match fmA i u c x,fmL i u c xs with
  | some y,some ys=>some (y::ys)
  | _,_=>none
open Classical in
noncomputable def MY (h:CV→Option (List CV)) (K:List CV→Option Ou):Option Ou:=if ∀ c,h c=h dC then aC (h dC) K else none
theorem WZ {h:CV→Option (List CV)} {K:List CV→Option Ou} {r:Ou} (hh:MY h K=some r):∃ out,(∀ c,h c=some out)∧K out=some r:=by
 unfold MY at hh
 split at hh
 ·rename_i hc
  obtain ⟨out,h1,h2⟩:=cS hh
  exact ⟨out,fun c=>(hc c).trans h1,h2⟩
 ·cases hh
def JP (k:Nat) (et:TypeId):List CV→Bool
 | [.row k' _,.fn T []]=>k' == k&&T == et
 | _=>false
noncomputable def aAJ (ops:List Oper) (v0:Nat) (lk:Lk) (s:SS) (o:Oper) (K:FP→AV→List Box→List Vec→Option Ou):Option Ou:=
 match rU P ops o with
 | some v=>match WX v0 s.V v.k with
  | some j=>match s.V[j]? with
   | some x=>if lk.v.contains j=true then none else K ⟨[],none,none,some j,[],[],false⟩ (.own j (x.ver+1)) s.B (s.V.set j ⟨true,v.T,x.k,x.ver+1,[]⟩)
   | none=>none
  | none=>none
 | none =>
 match WY P sg o with
 | some (f,args,et,k)=>(match cV (args.map s.ev),WX v0 s.V k with
  | some cs,some j=>match s.V[j]? with
   | some z=>if lk.v.contains j=true then none else
    aC (M f cs) fun out=>chk (JP k et out) (K ⟨[],none,none,some j,[],[],false⟩ (.own j (z.ver+1)) s.B (s.V.set j ⟨true,et,z.k,z.ver+1,cR (out.getD 0 dC)⟩))
   | none=>none
  | _,_=>none)
 | none =>
 match o.op with
 | .call { callee:=.value x,args,argTypes }=>match MX sg s x args.toList with
  | some (g,f,l)=>(match fzI v0 g (args.toList.map s.ev) with
   | some j=>(match s.V[j]? with
    | some v=>(match fzC j v (args.toList.map s.ev) with
     | some xs=>if (lk.v.contains j || !v.sl)=true then none else (match eC s.B s.V g.ps xs with
      | some (l',false)=>aC (M f l') fun out=>K ⟨[],none,none,some j,[],[],false⟩ (Sc.res g.rs out) s.B (s.V.set j ⟨false,v.T,v.k,v.ver,v.es⟩)
      | _=>none)
     | none=>none)
    | none=>none)
   | none=>aC (M f l) fun out=>K ⟨AV.bnms (args.toList.map s.ev),none,none,none,AV.vnms (args.toList.map s.ev),[],false⟩ (Sc.resF g.rs out) s.B s.V)
  | none=>(match x,aAH s.V (args.toList.map s.ev) with
   | .func f,some (i,u)=>(match sg f,s.V[i]? with
    | some g,some v=>if (v.live&&v.ver == u)=true then MY (fun c=>match fmL i u c (args.toList.map s.ev) with
      | some xs=>(match eC s.B s.V g.ps xs with
       | some (l,false)=>M f l
       | _=>none)
      | none=>none) fun out=>K ⟨[],none,none,none,[i],[],false⟩ (Sc.res g.rs out) s.B s.V else none
    | _,_=>none)
   | _,_=>JK P sg M true s x args.toList argTypes.toList o.type fun r=>K fp0 r s.B s.V)
 | .call { callee:=.builtin .append,args,argTypes } =>
  match args.toList,argTypes.toList with
  | [x,y],[T,T']=>match s.ev x with
   | .own j u=>if T=T' then uZ P lk s.B s.V T (.own j u) (s.ev y) (K ⟨[],none,none,some j,vns (s.ev y),[],false⟩) else none
   | _=>none
  | _,_=>none
 | .buildSlice T len parts=>match UB P s T len parts with
  | some A=>K fp0 A s.B s.V
  | none=>none
 | .store T a x=>match s.ev a with
  | .ptr i _=>sOp P lk s (.store T a x) (K ⟨[i],some i,none,none,[],[],false⟩)
  | .gd [] (.ptr i _)=>sOp P lk s (.store T a x) (K ⟨[i],some i,none,none,[],[],false⟩)
  | .opt i _ _ _=>match tQ P lk s (.store T a x) (K ⟨[],none,none,some i,[],[],false⟩) with
   | some r=>r
   | none=>none
  | _=>none
 | .lookup T x k false=>match s.ev x with
  | .own i _=>match tQ P lk s (.lookup T x k false) (K ⟨[],none,none,none,[],[i],false⟩) with
   | some r=>r
   | none=>none
  | _=>none
 | .mapEntry T x k=>match s.ev x with
  | .own i _=>match tQ P lk s (.mapEntry T x k) (K ⟨[],none,none,some i,[],[],true⟩) with
   | some r=>r
   | none=>none
  | _=>none
 | .entryStore T x st y=>match s.ev x with
  | .own i _=>match tQ P lk s (.entryStore T x st y) (K ⟨[],none,none,some i,[],[],false⟩) with
   | some r=>r
   | none=>none
  | _=>none
 | .alloc T=>sOp P lk s (.alloc T) (K ⟨[],none,some s.B.length,none,[],[],false⟩)
 | .load T a=>match s.ev a with
  | .ptr i _=>sOp P lk s (.load T a) (K ⟨[i],none,none,none,[],[],false⟩)
  | .gd [] (.ptr i _)=>sOp P lk s (.load T a) (K ⟨[i],none,none,none,[],[],false⟩)
  | .cv _=>sOp P lk s (.load T a) (K fp0)
  | .opt i _ _ _=>sOp P lk s (.load T a) (K ⟨[],none,none,none,[i],[],false⟩)
  | _=>none
 | op=>if gA op≤1 then sOp P lk s op (K ⟨[],none,none,none,if rdV op=true then op.operands.toList.flatMap fun x=>vns (s.ev x) else [],[],false⟩) else none
def aCL:Code→List FuncId
 | .region _ ops _=>ops.toList.filterMap fun o=>match o.op with
  | .makeFunc (.func g) _ _=>some g
  | _=>none
 | .seq a b=>aCL a++aCL b
 | .scope c=>aCL c
 | _=>[]
def isW:List CV→Bool
 | [.fn 0 []]=>true
 | _=>false
def aEu (o:Oper):Option (FuncId×Operand×TypeId×List FuncId):=match o.op with
 | .call { callee:=.value (.func f),args,.. }=>match sg f,args.toList,bM P o.type with
  | none,[x],some ⟨_,_,.slc et 1 _⟩=>(match P.funcs[f]? with
   | some fn=>(match fn.body with
    | some c=>(match aCL c with
     | []=>none
     | g::gs=>some (f,x,et,g::gs))
    | none=>none)
   | none=>none)
  | _,_,_=>none
 | _=>none
def aEv (v0:Nat) (s:SS) (o:Oper):Option (FuncId×Nat×Nat×List AV):=match o.op with
 | .call { callee:=.value (.func f),args,.. }=>match sg f,args.toList.map s.ev,bM P o.type with
  | none,.own i u::ys,some ⟨_,_,.slc _ _ _⟩=>if v0≤i then some (f,i,u,ys) else none
  | _,_,_=>none
 | _=>none
noncomputable def XA (ops:List Oper) (v0:Nat) (lk:Lk) (s:SS) (o:Oper) (K:FP→AV→List Box→List Vec→Option Ou):Option Ou:=
 match aEu P sg o with
 | some (f,x,T,fs)=>(match s.ev x with
  | .agg [a,b,c]=>if ([a,b,c].all AV.one)=true then aC (M f (.fn T []::fs.map fun g=>.fn g [])) fun out=>chk (isW out) (K ⟨[],none,some s.B.length,none,[],[],false⟩ (.slb fs.length s.B.length 0) (s.B++[vA T fs [a,b,c]]) s.V) else none
  | _=>none)
 | none=>match aEv P sg v0 s o with
  | some (f,i,u,ys)=>(match s.V[i]?,cV ys with
   | some v,some cs=>if (v.sl&&(v.ver == u&&!lk.v.contains i))=true then
     aC (M f (.row v.k v.es::.fn v.T []::cs)) fun out=>chk (xN v.k true out) (K ⟨[],none,none,some i,[],[],false⟩ (.own i (v.ver+1)) s.B (s.V.set i ⟨v.live,v.T,v.k,v.ver+1,cR (out.getD 0 dC)⟩))
    else none
   | _,_=>none)
  | none=>aAJ P sg M ops v0 lk s o K
noncomputable def BD (lk:Lk) (v0:Nat) (ops:List Oper) (o:Oper) (s:SS) (next:FP→SS→Option Ou):Option Ou:=
 if cL lk o.dst=true then
  match o.guard with
  | none=>XA P sg M ops v0 lk s o fun fp x B V=>next fp (s.put o.dst x B V)
  | some (j,want) =>
   match (ops[j]?).bind (·.dst) with
   | none=>none
   | some d =>
    if d<s.n then
     match s.get d with
     | .cv (.val (.bool c))=>if lk.t.contains d=true then none else
      aB c
       (match want with
        | true=>XA P sg M ops v0 lk (s.set d (.cv (.val (.bool true)))) o fun fp x B V=>next fp ((s.set d (.cv (.val (.bool true)))).put o.dst x B V)
        | false=>next fp0 ((s.set d (.cv (.val (.bool true)))).put o.dst unA s.B s.V))
       (match want with
        | false=>XA P sg M ops v0 lk (s.set d (.cv (.val (.bool false)))) o fun fp x B V=>next fp ((s.set d (.cv (.val (.bool false)))).put o.dst x B V)
        | true=>next fp0 ((s.set d (.cv (.val (.bool false)))).put o.dst unA s.B s.V))
     | .gd [false] _=>next fp0 (s.put o.dst unA s.B s.V)
     | _=>none
    else none
 else none
noncomputable def aAK (inl:IN) (lk:Lk) (v0:Nat) (ops:List Oper):List Oper→List FP→SS→(SS→Option Ou)→Option Ou
 | [],acc,s,K=>if aCD ops acc=true then K s else none
 | o::rest,acc,s,K=>match inl lk s o (fun _=>none) with
  | some _=>if aCD ops acc=true then evR P sg M inl lk false 0 ops (o::rest) s K else none
  | none=>BD P sg M lk v0 ops o s fun fp s'=>aAK inl lk v0 ops rest (acc++[fp]) s' K
def phs (ops:List Oper):List Vec:=ops.filterMap fun o=>match rU P ops o with
 | some v=>some ⟨false,v.T,v.k,0,[]⟩
 | none=>match WY P sg o with
  | some (_,_,et,k)=>some ⟨false,et,k,0,[]⟩
  | none=>none
def UG (P:Program) (ops:Array Oper):Bool:=P.follows .mixedOrders&&Region.lexB .any ops
noncomputable def RH (inl:IN) (lk:Lk) (ops:Array Oper) (s:SS) (K:SS→Option Ou):Option Ou:=
 if UG P ops=true then aAK P sg M inl lk s.V.length ops.toList ops.toList [] ⟨s.n,s.t,s.B,s.V++phs P sg ops.toList⟩ K else none
end
end Go.Sx
