/-
 What the beasts of a pound have lU by their pens is what they are charged for, and those who stand in the pens are those who are inside: at every input, without any condition.
-/
import Derived.Test.YtnnifohchhjkhaaP07
namespace Go.Sx
open Go Go.RowKit
variable [G:Ghost]
def intsOf:List CV→Option (List Int)
 | []=>some []
 | .val (.int .i64 x)::r=>match intsOf r with
  | some l=>some (x::l)
  | none=>none
 | _=>none
def mM:List (List CV)→YF→List (List CV)→Option (List (List CV))
 | [],_,es=>some es
 | x::r,yf,es=>match yf es x with
  | some (true,es')=>mM r yf es'
  | some (false,es')=>some es'
  | none=>none
structure Its (P:Program) (sg:FuncId→Option Sig) (M:Den):Prop where
 itj:∀ f caps rows sh,sg f=none→M f caps=some [.row 0 rows,shC sh]→dM P f=true∧sQ P f caps sh (mM rows)
 it:∀ f caps out xs,sg f=none→M f caps=some out→intsOf out=some xs→dM P f=true∧NN P f caps xs
def qG:Code→Bool
 | .rangeFunc ..=>true
 | .seq a b=>qG a || qG b
 | .block _ c=>qG c
 | .cond _ a b=>qG a || qG b
 | .loop c=>qG c
 | .scope c=>qG c
 | _=>false
def cU (step:Int→List CV→Option Ou):List Int→List CV→Option Ou
 | [],vs=>some (.nx vs)
 | x::xs,vs=>match step x vs with
  | some (.nx vs')=>cU step xs vs'
  | o=>o
open Classical in
noncomputable def oN (it:Option (List Int)) (step:Int→List CV→Option Ou) (vs:List CV):Option Ou:=match it with
 | some xs=>if ∀ l,cU step l vs≠none then cU step xs vs else none
 | none=>none
theorem NO {it:Option (List Int)} {step:Int→List CV→Option Ou} {vs:List CV} {r:Ou} (h:oN it step vs=some r):∃ xs,it=some xs∧(∀ l,cU step l vs≠none)∧cU step xs vs=some r:=by
 have _:=G
 unfold oN at h
 split at h
 ·split at h
  ·rename_i xs hl;exact ⟨xs,rfl,hl,h⟩
  ·cases h
 ·cases h
theorem lQ {step:Int→List CV→Option Ou}:∀ (l l':List Int) (vs:List CV),cU step (l++l') vs=match cU step l vs with
  | some (.nx vs')=>cU step l' vs'
  | o=>o
 | [],l',vs=>have _:=G;rfl
 | x::l,l',vs=>by
  simp only [List.cons_append,cU]
  cases step x vs with
  | none=>rfl
  | some o=>cases o with
   | nx vs'=>exact lQ l l' vs'
   | _=>rfl
def itV (sg:FuncId→Option Sig) (M:Den) (c:CV):Option (List Int):=match c with
 | .fn f caps=>match sg f with
  | none=>match M f caps with
   | some out=>intsOf out
   | none=>none
  | some _=>none
 | _=>none
theorem aA3 {sg:FuncId→Option Sig} {M:Den} {c:CV} {xs:List Int} (h:itV sg M c=some xs):∃ f caps out,c=.fn f caps∧sg f=none∧M f caps=some out∧intsOf out=some xs:=by
 have _:=G
 unfold itV at h
 split at h
 ·rename_i f caps
  split at h
  ·rename_i hs
   split at h
   ·rename_i out ho;exact ⟨f,caps,out,rfl,hs,ho,h⟩
   ·cases h
  ·cases h
 ·cases h
def dW (step:List CV→List CV→Option Ou):List (List CV)→List CV→Option Ou
 | [],vs=>some (.nx vs)
 | x::xs,vs=>match step x vs with
  | some (.nx vs')=>dW step xs vs'
  | o=>o
def jS (it:Option (List (List CV))) (step:List CV→List CV→Option Ou) (vs:List CV):Option Ou:=match it with
 | some rows=>dW step rows vs
 | none=>none
open Classical in
noncomputable def CY (sg:FuncId→Option Sig) (M:Den) (c:CV) (sh:YSh):Option (List (List CV)):=match c with
 | .fn f caps=>match sg f with
  | none=>match M f caps with
   | some [.row 0 rows,c']=>if c'=shC sh then some rows else none
   | _=>none
  | some _=>none
 | _=>none
theorem XV {sg:FuncId→Option Sig} {M:Den} {c:CV} {sh:YSh} {rows:List (List CV)} (h:CY sg M c sh=some rows):∃ f caps,c=.fn f caps∧sg f=none∧M f caps=some [.row 0 rows,shC sh]:=by
 have _:=G
 unfold CY at h
 split at h
 ·rename_i f caps
  split at h
  ·rename_i hs
   split at h
   ·rename_i rows' c' ho
    split at h
    ·rename_i hc
     cases h
     exact ⟨f,caps,rfl,hs,by rw [ho,hc]⟩
    ·cases h
   ·cases h
  ·cases h
 ·cases h
def brO:Option Ou→Option Ou
 | some (.br _ vs)=>some (.nx vs)
 | o=>o
def ouE:Ou→Bool×List (List CV)
 | .nx vs=>(true,[vs])
 | .br _ vs=>(false,[[],vs])
 | .ret l=>(false,[[],[],l])
def yfO (step:List CV→List CV→Option Ou):YF:=fun es x=>match es with
 | [vs]=>(step x vs).map ouE
 | _=>none
def pE (id:Nat):List (List CV)→Option Code
 | [_,_]=>some (.exit id)
 | [_,_,_]=>some .ret
 | _=>none
theorem zC {step:List CV→List CV→Option Ou}:∀ {rows:List (List CV)} {vs:List CV} {o:Ou},dW step rows vs=some o→mM rows (yfO step) [vs]=some (ouE o).2
 | [],vs,o,h=>by have _:=G;simp only [dW,Option.some.injEq] at h;subst h;rfl
 | x::r,vs,o,h=>by
  simp only [dW] at h
  simp only [mM,yfO]
  cases hs:step x vs with
  | none=>rw [hs] at h;cases h
  | some o' =>
   rw [hs] at h
   cases o' with
   | nx vs'=>exact zC h
   | br i vs'=>simp only [Option.some.injEq] at h;subst h;rfl
   | ret l=>simp only [Option.some.injEq] at h;subst h;rfl
def sYs:List Nat→List AV→SS→SS
 | p::ps,x::xs,s=>sYs ps xs (s.put (some p) x s.B s.V)
 | _,_,s=>s
def CZ (sh:YSh) (x:List CV) (ps:List Nat) (s:SS):SS:=match sh with
 | .clo cs=>sYs ps (Sc.avs cs x 0) s
 | .lent T k=>sYs ps [.own s.V.length 1] ⟨s.n,s.t,s.B,s.V++[⟨true,T,k,1,cR (x.getD 0 dC)⟩]⟩
def SS.killY (sh:YSh) (nv:Nat) (s:SS):SS:=match sh with
 | .clo _=>s
 | .lent _ _=>⟨s.n,s.t,s.B,eN nv s.V⟩
def nK (sh:YSh) (nv:Nat) (l:Lk):Lk:=match sh with
 | .clo _=>l
 | .lent _ _=>⟨l.t,l.b,nv::l.v,nv::l.o⟩
def aEG (n:Nat) (ps:List Nat) (sh:YSh):Bool:=ps.all (fun p=>decide (p<n))&&(decide (sh.np=ps.length)&&match sh with
 | .clo _=>true
 | .lent T _=>decide (T<aI))
def aDZ (sh:YSh) (s3:St) (j:Nat):Prop:=match sh with
 | .clo _=>True
 | .lent _ _=>∀ v,s3.V[j]? = some v→v.live=false
def lkX (h:Hint) (lk:Lk) (s:SS):Lk:=⟨lk.t,lk.b,lk.v,(List.range s.V.length).filter fun i=>!h.vxu.contains i⟩
def SS.back (s:SS) (ks:List Nat) (s':SS):SS:=⟨s.n,(s.kept ks).t,s'.B,s'.V⟩
def noM (V:List Vec):Bool:=V.all fun v=>decide (v.T<aI)
def sIn (p:Nat) (dd:Option Nat) (x:Int) (s:SS):SS:=(s.put (some p) (.cv (.val (.int .i64 x))) s.B s.V).put dd (.cv (.val (.int .i64 x))) s.B s.V
section
variable (P:Program) (sg:FuncId→Option Sig) (M:Den)
noncomputable def evT (inl:List (Option Nat×Hint×HT)→IN) (rt:SS→Option Ou):Code→HT→Lk→SS→(SS→Option Ou)→Option Ou
 | .seq a b,.two x y,lk,s,K=>match qG (.seq a b) with
  | true=>evT inl rt a x lk s fun s'=>evT inl rt b y lk s' K
  | false=>evC P sg M inl rt (.seq a b) (.two x y) lk [] s K
 | .cond c a b,.cond none x y,lk,s,K=>match qG (.cond c a b) with
  | true=>match s.ev c with
   | .cv (.val (.bool t))=>aB t (evT inl rt a x lk s K) (evT inl rt b y lk s K)
   | _=>none
  | false=>evC P sg M inl rt (.cond c a b) (.cond none x y) lk [] s K
 | .block id c,.thru x,lk,s,K=>match qG (.block id c) with
  | true=>evT inl rt c x lk s K
  | false=>evC P sg M inl rt (.block id c) (.thru x) lk [] s K
 | .block id c,.rg sh h x y,lk,s,K=>match c with
  | .rangeFunc g ps assign body =>
   if (gE h lk s&&gE h (lkX h lk s) s&&h.vars.isEmpty&&(fD s.V.length (h.vx.map (·.1)) == 0)&&aEG s.n ps.toList sh)=true then
    match kJ h s with
    | some v0=>match (aP h lk s v0).ev g with
     | .cv c=>aJ (brO (jS (CY sg M c sh) (fun x1 vs=>evC P sg M inl (fun _=>none) assign x (nK sh s.V.length (cT h lk s)) [] (CZ sh x1 ps.toList (aP h lk s vs)) fun s1 =>
       evC P sg M inl (fun s'=>rt ((s.back (h.keep++lk.t) s').killY sh s.V.length)) body y (nK sh s.V.length (cT h lk s)) [(id,h)] s1 fun s'=>(kJ h (s.back (h.keep++lk.t) s')).map .nx) v0)) fun vs=>K (aP h lk s vs)
     | _=>none
    | none=>none
   else none
  | _=>none
 | .scope c,x,lk,s,K=>match qG (.scope c) with
  | true=>evT inl rt c x lk s K
  | false=>evC P sg M inl rt (.scope c) x lk [] s K
 | .rangeFunc g ps assign body,.lp [] h y,lk,s,K=>match ps.toList with
   | [p]=>match vG p assign with
    | some dd=>if (gE h lk s&&gE h (lkX h lk s) s&&h.vars.isEmpty&&decide (p<s.n)&&noM s.V&&h.vx.all fun p=>decide (p.2.1<aI))=true then
      match kJ h s with
      | some v0=>match (aP h lk s v0).ev g with
       | .cv c=>aJ (oN (itV sg M c) (fun x vs=>evC P sg M inl (fun s'=>if noM s'.V=true then rt (s.back (h.keep++lk.t) s') else none) body y (cT h lk s) [] (sIn p dd x (aP h lk s vs)) fun s'=>(kJ h (s.back (h.keep++lk.t) s')).map .nx) v0) fun vs=>K (aP h lk s vs)
       | _=>none
      | none=>none
     else none
    | none=>none
   | _=>none
 | c,ht,lk,s,K=>evC P sg M inl rt c ht lk [] s K
end
section
variable {P:Program} {sg:FuncId→Option Sig} {M:Den} {F:Fence} {n:Nat}
theorem Em.dm {m:Emb} {s:SS} {st:St} (h:Em m s st) (hn:noM s.V=true):Em m s (dmS st):=by
 have _:=G
 refine ⟨h.t,h.ti,⟨h.m.bl,h.m.vl,h.m.ol,h.m.b,fun i v hi hl=>?_,fun i hi=>?_,h.m.bi,h.m.vi⟩⟩
 ·have h1:=h.m.v i v hi hl
  have hT:v.T<aI:=of_decide_eq_true (List.all_eq_true.1 hn v (List.mem_of_getElem? hi))
  show (dmV st.V)[m.fv i]? = _
  simp only [dmV,List.getElem?_map,h1,Option.map_some,Vec.cz,hT,decide_true,Bool.and_true]
 ·show m.fv i<(dmV st.V).length
  simpa [dmV] using h.m.vlt i hi
theorem aCV (V:List Vec):dmV (dmV V)=dmV V:=by
 have _:=G
 simp only [dmV,List.map_map]
 refine List.map_congr_left fun v _=>?_
 simp only [Function.comp,Bool.and_assoc,Bool.and_self]
theorem Adv.dm {lk:Lk} {m m':Emb} {s s':SS} {st st':St} (h:Adv lk m s (dmS st) m' s' st'):Adv lk m s (dmS st) m' s' (dmS st'):=by
 refine ⟨⟨h.stp.up,h.stp.bl,?_,h.stp.bn,h.stp.vn,h.stp.bf,fun j hj hn=>?_⟩,h.n,h.bl,h.vl,h.t,h.b,h.v,h.o⟩
 ·show (dmS st).V.length≤(dmV st'.V).length
  rw [show (dmV st'.V).length=st'.V.length by simp [dmV]];exact h.stp.vl
 ·have h1:=h.stp.vf j hj hn
  show (dmV st'.V)[j]? = (dmV st.V)[j]?
  have h2:st'.V[j]? = (dmV st.V)[j]?:=h1
  rw [← aCV st.V,dmV,List.getElem?_map,h2,← List.getElem?_map]
  rfl
theorem XW {h:Hint} {lk:Lk} {s:SS} (h1:noM s.V=true) (h2:(h.vx.all fun p=>decide (p.2.1<aI))=true) (vs:List CV):noM (aP h lk s vs).V=true:=by
 have _:=G
 have bld:∀ (l:List (Nat×TypeId×Nat×Option Nat)) (i p:Nat) (v:Vec),(l.all fun p=>decide (p.2.1<aI))=true→vE l i vs p=some v→v.T<aI:=by
  intro l
  induction l with
  | nil=>intro i p v _ h;simp [vE] at h
  | cons q r ih =>
   obtain ⟨j,T,k,g⟩:=q
   intro i p v hall h
   simp only [List.all_cons,Bool.and_eq_true,decide_eq_true_eq] at hall
   simp only [vE] at h
   split at h
   ·cases h;exact hall.1
   ·exact ih i (p+1) v hall.2 h
 unfold noM
 rw [List.all_eq_true]
 intro v hv
 simp only [aP,MN,List.mem_map,List.mem_range] at hv
 obtain ⟨i,_,rfl⟩:=hv
 rw [decide_eq_true_eq]
 split
 ·rename_i v hv;exact bld _ _ _ v h2 hv
 ·by_cases hi:i<s.V.length
  ·rw [List.getD,List.getElem?_eq_getElem hi]
   exact of_decide_eq_true (List.all_eq_true.1 h1 _ (List.getElem_mem hi))
  ·rw [List.getD,List.getElem?_eq_none (by omega)]
   show 0<aI
   decide
theorem Em.sYs {m:Emb}:∀ {ps:List Nat} {xs:List AV} {s:SS} {st:St},Em m s st→AV.inns s.B.length s.V.length xs=true→Em m (Go.Sx.sYs ps xs s) ⟨fE st.t ps (AV.czs m xs),st.B,st.V⟩
 | [],_,s,st,h,_=>by simpa [Go.Sx.sYs,fE] using h
 | p::ps,[],s,st,h,_=>by simpa [Go.Sx.sYs,fE,AV.czs] using h
 | p::ps,x::xs,s,st,h,hx=>by
  simp only [AV.inns,Bool.and_eq_true] at hx
  simp only [Go.Sx.sYs,fE,AV.czs]
  exact Em.sYs (h.put h.m (Emb.Up.refl _) (fun _ _=>rfl) (Nat.le_refl _) (Nat.le_refl _) hx.1 (some p)) hx.2
theorem RV:∀ (ps:List Nat) (xs:List AV) (s:SS),(sYs ps xs s).B=s.B∧(sYs ps xs s).V=s.V∧(sYs ps xs s).n=s.n
 | [],_,s=>by have _:=G;simp [sYs]
 | p::ps,[],s=>by simp [sYs]
 | p::ps,x::xs,s=>RV ps xs _
theorem Adv.lkle {lk lk':Lk} {m m':Emb} {s s':SS} {st st':St} (h:Adv lk m s st m' s' st') (ht:∀ d∈lk'.t,d∈lk.t) (hb:∀ d∈lk'.b,d∈lk.b) (hv:∀ d∈lk'.v,d∈lk.v) (ho:∀ d∈lk'.o,d∈lk.o):Adv lk' m s st m' s' st':=have _:=G;
 ⟨h.stp,h.n,h.bl,h.vl,fun d hd=>h.t d (ht d hd),fun d hd=>h.b d (hb d hd),fun d hd=>h.v d (hv d hd),fun d hd=>h.o d (ho d hd)⟩
theorem Em.killSt {m:Emb} {s:SS} {st:St} (h:Em m s st) {j:Nat} (hj:∀ i,i<s.V.length→m.fv i≠j):Em m s ⟨st.t,st.B,eN j st.V⟩:=by
 refine ⟨h.t,h.ti,⟨h.m.bl,h.m.vl,h.m.ol,h.m.b,fun i v hi hl=>?_,fun i hi=>?_,h.m.bi,h.m.vi⟩⟩
 ·have hil:=(List.getElem?_eq_some_iff.1 hi).1
  show (eN j st.V)[m.fv i]? = _
  rw [jF,h.m.v i v hi hl]
  simp [hj i hil]
 ·show m.fv i<(eN j st.V).length
  rw [iO];exact h.m.vlt i hi
theorem Em.killSS {m:Emb} {s:SS} {st:St} (h:Em m s st) {nv:Nat} (hnv:nv<s.V.length) {x:Vec} (hx:s.V[nv]? = some x) (hT:x.T≠ghT):Em m ⟨s.n,s.t,s.B,eN nv s.V⟩ ⟨st.t,st.B,eN (m.fv nv) st.V⟩:=by
 have hl:(eN nv s.V).length=s.V.length:=iO _ _
 refine ⟨h.t,fun p hp=>by show AV.inn s.B.length (eN nv s.V).length p.2=true;rw [hl];exact h.ti p hp,⟨h.m.bl,by rw [hl];exact h.m.vl,by rw [hl];exact h.m.ol,fun i b hb=>by rw [hl];exact h.m.b i b hb,fun i v hi hlv=>?_,fun i hi=>?_,h.m.bi,fun i j hi hj=>h.m.vi i j (by rw [← hl];exact hi) (by rw [← hl];exact hj)⟩⟩
 ·have hi:(eN nv s.V)[i]? = some v:=hi
  rw [jF,Option.map_eq_some_iff] at hi
  obtain ⟨v0,h1,rfl⟩:=hi
  have hil:=(List.getElem?_eq_some_iff.1 h1).1
  by_cases hin:i=nv
  ·subst hin
   rw [hx] at h1;cases h1
   simp only [if_true] at hlv
   rcases hlv with hlv | hlv
   ·cases hlv
   ·exact absurd hlv hT
  ·simp only [hin,if_false] at hlv ⊢
   show (eN (m.fv nv) st.V)[m.fv i]? = _
   rw [jF,h.m.v i v0 h1 hlv]
   have:m.fv i≠m.fv nv:=fun he=>hin (h.m.vi i nv hil hnv he)
   simp [this]
 ·show m.fv i<(eN _ st.V).length
  have hi:i<(eN nv s.V).length:=hi
  rw [iO];rw [hl] at hi;exact h.m.vlt i hi
theorem Adv.killSt {lk:Lk} {m m':Emb} {s s':SS} {st st':St} (h:Adv lk m s st m' s' st') {j:Nat} (hj:st.V.length≤j):Adv lk m s st m' s' ⟨st'.t,st'.B,eN j st'.V⟩:=by
 refine ⟨⟨h.stp.up,h.stp.bl,?_,h.stp.bn,h.stp.vn,h.stp.bf,fun i hi hn=>?_⟩,h.n,h.bl,h.vl,h.t,h.b,h.v,h.o⟩
 ·show st.V.length≤(eN j st'.V).length
  rw [iO];exact h.stp.vl
 ·show (eN j st'.V)[i]? = _
  rw [jF,h.stp.vf i hi hn]
  have:i≠j:=by omega
  simp [this]
theorem aA4 {c:Code} {st:St} {Q:Exit→St→Prop} (h:W2 F n P c st (aCr Q)):W2 F n P (.scope c) st Q:=by
 intro n0 w0 m0 e a w Qr hr hm hm0 hk
 refine CE (h n0 w0 m0 e a w _ hr hm hm0 ?_)
 intro ex e' st' a' w' hq hrel hdf hx
 cases ex with
 | goto l=>exact hq.elim
 | _=>exact hk _ e' st' a' w' hq hrel hdf hx
open Classical in
theorem aEH (hM:Fns P sg M) (hT:Its P sg M) (hF:Free F) (hro:F.round=none) {inl:List (Option Nat×Hint×HT)→IN} (hI:∀ (F:Fence) (n:Nat),Free F→∀ il,AI F n P (inl il)) {rt:SS→Option Ou} (hrt:∀ s o,rt s=some o→∃ l,o=.ret l)
  {id:Nat} {g:Operand} {ps:Array Tmp} {assign body:Code} {sh:YSh} {h0:Hint} {x y:HT} {lk:Lk} {sA:SS} {K:SS→Option Ou} {r:Ou} {mA:Emb} {stA:St} {Q:Exit→St→Prop} (hEA:Em mA sA stA)
  (h:(if (gE h0 lk sA&&gE h0 (lkX h0 lk sA) sA&&h0.vars.isEmpty&&(fD sA.V.length (h0.vx.map (·.1)) == 0)&&aEG sA.n ps.toList sh)=true then
      match kJ h0 sA with
      | some v0=>match (aP h0 lk sA v0).ev g with
       | .cv c=>aJ (brO (jS (CY sg M c sh) (fun x1 vs=>evC P sg M inl (fun _=>none) assign x (nK sh sA.V.length (cT h0 lk sA)) [] (CZ sh x1 ps.toList (aP h0 lk sA vs)) fun s1 =>
         evC P sg M inl (fun s'=>rt ((sA.back (h0.keep++lk.t) s').killY sh sA.V.length)) body y (nK sh sA.V.length (cT h0 lk sA)) [(id,h0)] s1 fun s'=>(kJ h0 (sA.back (h0.keep++lk.t) s')).map .nx) v0)) fun vs=>K (aP h0 lk sA vs)
       | _=>none
      | none=>none
   else none)=some r)
  (hK:∀ m' s' st',K s'=some r→Em m' s' st'→Q .normal st')
  (hR:∀ m' s' st',rt s'=some r→Em m' s' st'→Q .ret st'):W2 F n P (.block id (.rangeFunc g ps assign body)) stA Q:=by
 split at h
 case isFalse=>cases h
 rename_i hc
 simp only [Bool.and_eq_true,beq_iff_eq,List.isEmpty_iff] at hc
 obtain ⟨⟨⟨⟨hok,hokX⟩,hvars⟩,hcnt⟩,hsh⟩:=hc
 simp only [aEG,Bool.and_eq_true,decide_eq_true_eq] at hsh
 obtain ⟨hps,hnp,hshT⟩:=hsh
 split at h
 case h_2=>cases h
 rename_i v0 hv0
 split at h
 case h_2=>cases h
 rename_i c hg
 generalize hstep:(fun (x1 vs:List CV)=>evC P sg M inl (fun _=>none) assign x (nK sh sA.V.length (cT h0 lk sA)) [] (CZ sh x1 ps.toList (aP h0 lk sA vs)) fun s1 =>
       evC P sg M inl (fun s'=>rt ((sA.back (h0.keep++lk.t) s').killY sh sA.V.length)) body y (nK sh sA.V.length (cT h0 lk sA)) [(id,h0)] s1 fun s'=>(kJ h0 (sA.back (h0.keep++lk.t) s')).map .nx)=step at h
 obtain ⟨r0,hr0⟩:∃ r0,jS (CY sg M c sh) step v0=some r0:=by
  cases hh:jS (CY sg M c sh) step v0 with
  | none=>rw [hh] at h;simp [brO,aJ] at h
  | some r0=>exact ⟨r0,rfl⟩
 have hr0':=hr0
 unfold jS at hr0
 split at hr0
 case h_2=>cases hr0
 rename_i rows hit
 obtain ⟨f,caps,rfl,hsf,hMf⟩:=XV hit
 obtain ⟨hen,hIter⟩:=hT.itj f caps rows sh hsf hMf
 have hfold:=zC hr0
 rw [hr0'] at h
 have hnv:∀ vs,(aP h0 lk sA vs).V.length=sA.V.length:=fun vs=>by simp [aP,MN,hcnt]
 obtain ⟨o1,o2,o3,o4,o5,o6,o7,o8,o9,o10⟩:=kB hok
 have hslots:∀ vs,(aP h0 lk sA vs).t=(sA.kept (h0.keep++lk.t)).t:=by
  intro vs
  simp only [aP,hvars,xG,List.append_nil,SS.kept]
 have hext:∀ s':SS,kJ h0 s'=kJ h0 (sA.back (h0.keep++lk.t) s'):=by
  intro s'
  have hE:∀ (s1 s2:SS) (l:List (Nat×TypeId×List Sh)),s1.B=s2.B→s1.V=s2.V→AJ s1 l=AJ s2 l:=by
   intro s1 s2 l hb hv
   induction l with
   | nil=>rfl
   | cons q l ih=>obtain ⟨i,T,hs⟩:=q;simp only [AJ,hb,hv,ih]
  have hE2:∀ (s1 s2:SS) (l:List (Nat×TypeId×Nat×Option Nat)),s1.V=s2.V→JM s1 l=JM s2 l:=by
   intro s1 s2 l hv
   induction l with
   | nil=>rfl
   | cons q l ih=>obtain ⟨i,T,k,g⟩:=q;simp only [JM,hv,ih]
  unfold kJ
  rw [hvars]
  simp only [List.map_nil,SS.back]
  rw [hE s' ⟨sA.n,(sA.kept (h0.keep++lk.t)).t,s'.B,s'.V⟩ _ rfl rfl,hE2 s' ⟨sA.n,(sA.kept (h0.keep++lk.t)).t,s'.B,s'.V⟩ _ rfl]
 obtain ⟨m1,st1,q1,q2,q3⟩:=jR (st0:=stA) (lk:=lkX h0 lk sA) hEA hEA (Adv.refl _ _ _ _) hv0 hokX
 refine aA1 q1 (NL ?_)
 refine XU hF hro (sh:=sh) (R:=mM rows) (yf:=yfO step) (es0:=[v0]) (es1:=(ouE r0).2) (f:=f) (caps:=caps)
  (fun es st'=>(∃ vs m',(es=[vs]∨es=[[],vs])∧Em m' (aP h0 lk sA vs) st'∧Adv (eR h0 (lkX h0 lk sA) sA) mA sA stA m' (aP h0 lk sA vs) st')∨(∃ l m' s',es=[[],[],l]∧rt s'=some (.ret l)∧Em m' s' st')) (pE id)
  (by rw [hnp];simp) ?_ hen hIter hfold (.inl ⟨v0,m1,.inl rfl,q2,q3⟩) rfl ?_ ?_
 ·rw [q2.ev];show AV.cz m1 ((aP h0 lk sA v0).ev g)=_;rw [hg];simp [AV.cz]
 ·
  intro F' n' hF' es x1 b es' st' hyf hIs
  obtain ⟨vs,rfl⟩:∃ vs,es=[vs]:=by
   unfold yfO at hyf
   split at hyf
   ·exact ⟨_,rfl⟩
   ·cases hyf
  simp only [yfO,Option.map_eq_some_iff] at hyf
  obtain ⟨o,ho,hoe⟩:=hyf
  obtain ⟨vs2,m',hvs,g2,g3⟩ | ⟨l,m',s',hvs,_⟩:=hIs
  rotate_left
  ·simp at hvs
  obtain rfl:vs=vs2:=by rcases hvs with hvs | hvs <;> simp at hvs <;> exact hvs
  refine ⟨rfl,?_⟩
  rw [← hstep] at ho
  simp only at ho
  obtain ⟨mB,hEB,hAB,hnew⟩:∃ mB,Em mB (CZ sh x1 ps.toList (aP h0 lk sA vs)) (stY sh x1 ps.toList st')∧Adv (cT h0 lk sA) m' (aP h0 lk sA vs) st' mB (CZ sh x1 ps.toList (aP h0 lk sA vs)) (stY sh x1 ps.toList st') ∧
    (match sh with | .clo _=>True | .lent T k=>mB.fv sA.V.length=st'.V.length∧mB.fo sA.V.length=0∧(CZ sh x1 ps.toList (aP h0 lk sA vs)).V=(aP h0 lk sA vs).V++[⟨true,T,k,1,cR (x1.getD 0 dC)⟩]):=by
   cases sh with
   | clo cs =>
    obtain ⟨p1,p2⟩:=Sc.avs_pl cs x1 0 m' (aP h0 lk sA vs).B.length (aP h0 lk sA vs).V.length
    have hE1:=g2.sYs (ps:=ps.toList) p2
    rw [p1] at hE1
    obtain ⟨z1,z2,z3⟩:=RV ps.toList (Sc.avs cs x1 0) (aP h0 lk sA vs)
    refine ⟨m',hE1,⟨Stp.refl _ _ _,z3,by show _≤(sYs _ _ _).B.length;rw [z1];exact Nat.le_refl _,by show _≤(sYs _ _ _).V.length;rw [z2];exact Nat.le_refl _,fun d hd=>by simp [cT] at hd,fun i _ _=>by show (sYs _ _ _).B[i]? = _;rw [z1],fun i _ _=>by show (sYs _ _ _).V[i]? = _;rw [z2],fun _ _ _=>rfl⟩,trivial⟩
   | lent T k =>
    have hl:m'.vb.length=m'.vm.length:=by rw [g2.m.ol,g2.m.vl]
    have hfo:=Emb.pushV_fo (m:=m') st'.V.length hl
    have hup:=Emb.pushV_up m' st'.V.length
    have hlen:m'.vm.length=sA.V.length:=by rw [g2.m.vl,hnv]
    have hE1:Em (m'.pushV st'.V.length) ⟨(aP h0 lk sA vs).n,(aP h0 lk sA vs).t,(aP h0 lk sA vs).B,(aP h0 lk sA vs).V++[⟨true,T,k,1,cR (x1.getD 0 dC)⟩]⟩ ⟨st'.t,st'.B,st'.V++[⟨true,T,k,1,cR (x1.getD 0 dC)⟩]⟩:=by
     have:=g2.put (g2.m.pushV (v:=⟨true,T,k,1,cR (x1.getD 0 dC)⟩)) hup hfo (Nat.le_refl _) (by simp) (x:=.any) rfl none
     simpa [SS.put,St.put] using this
    have hE2:=hE1.sYs (ps:=ps.toList) (xs:=[.own (aP h0 lk sA vs).V.length 1]) (by simp [AV.inns,AV.inn])
    have hv1:(m'.pushV st'.V.length).fv sA.V.length=st'.V.length:=by rw [← hlen];exact Emb.pushV_new _ _
    have hv2:(m'.pushV st'.V.length).fo sA.V.length=0:=by rw [← hlen];exact Emb.pushV_new0 _ hl
    obtain ⟨z1,z2,z3⟩:=RV ps.toList [.own (aP h0 lk sA vs).V.length 1] ⟨(aP h0 lk sA vs).n,(aP h0 lk sA vs).t,(aP h0 lk sA vs).B,(aP h0 lk sA vs).V++[⟨true,T,k,1,cR (x1.getD 0 dC)⟩]⟩
    refine ⟨m'.pushV st'.V.length,?_,⟨Stp.pushV _,z3,by show _≤(sYs _ _ _).B.length;rw [z1];exact Nat.le_refl _,by show _≤(sYs _ _ _).V.length;rw [z2];simp,fun d hd=>by simp [cT] at hd,fun i _ _=>by show (sYs _ _ _).B[i]? = _;rw [z1],fun i _ hi=>by show (sYs _ _ _).V[i]? = _;rw [z2];exact List.getElem?_append_left hi,fun i _ hi=>hfo i (by rw [g2.m.vl];exact hi)⟩,hv1,hv2,?_⟩
    ·have hcz:AV.czs (m'.pushV st'.V.length) [.own (aP h0 lk sA vs).V.length 1]=[.own st'.V.length 1]:=by
      simp [AV.czs,AV.cz,hnv,hv1,hv2]
     rw [hcz] at hE2
     exact hE2
    ·exact z2
  have hlkt:∀ (m2:Emb) (s2:SS) (st2:St),Adv (nK sh sA.V.length (cT h0 lk sA)) mB (CZ sh x1 ps.toList (aP h0 lk sA vs)) (stY sh x1 ps.toList st') m2 s2 st2→Adv (cT h0 lk sA) m' (aP h0 lk sA vs) st' m2 s2 st2:=by
   intro m2 s2 st2 ha
   refine hAB.trans (ha.lkle ?_ ?_ ?_ ?_) <;> cases sh <;> simp [nK] <;> intro d hd <;> simp [hd]
  have back:∀ {m2:Emb} {s2:SS} {st2:St},Em m2 s2 st2→Adv (cT h0 lk sA) m' (aP h0 lk sA vs) st' m2 s2 st2 →
    Em m2 (sA.back (h0.keep++lk.t) s2) ⟨st'.t,st2.B,st2.V⟩∧Adv (eR h0 (lkX h0 lk sA) sA) mA sA stA m2 (sA.back (h0.keep++lk.t) s2) ⟨st'.t,st2.B,st2.V⟩:=by
   intro m2 s2 st2 hE2 ha
   have hbl:sA.B.length≤(aP h0 lk sA vs).B.length:=g3.bl
   have hvl:sA.V.length≤(aP h0 lk sA vs).V.length:=g3.vl
   have hcz:∀ d∈h0.keep++lk.t,(sA.get d).cz m'=(sA.get d).cz m2:=fun d hd =>
    AV.cz_noV (nb:=sA.B.length) (nv:=sA.V.length) (fun j hj=>(ha.stp.up.b j (by rw [g2.m.bl];omega)).symm) (fun j hj=>(ha.stp.up.v j (by rw [g2.m.vl];omega)).symm)
     (fun j hj hcj=>(ha.o j (by simp only [cT,List.mem_filter,List.mem_range,hcj];exact ⟨hj,rfl⟩) (by omega)).symm) _ (hEA.inn d) (o1 d hd)
   refine ⟨⟨?_,fun q hq=>?_,hE2.m⟩,?_⟩
   ·show st'.t=mkT sA.n ((sA.kept (h0.keep++lk.t)).t.map fun p=>(p.1,p.2.cz m2))
    rw [g2.t,hslots]
    show mkT sA.n _=_
    congr 1
    simp only [SS.kept,List.map_map]
    exact List.map_congr_left fun d hd=>by simp only [Function.comp];rw [hcz d hd]
   ·simp only [SS.back,SS.kept,List.mem_map] at hq
    obtain ⟨d,_,rfl⟩:=hq
    have h1:=ha.bl
    have h2:=ha.vl
    exact AV.inn_mono (Nat.le_trans hbl h1) (Nat.le_trans hvl h2) _ (hEA.inn d)
   ·have h1:=ha.bl
    have h2:=ha.vl
    refine ⟨g3.stp.trans ha.stp,rfl,Nat.le_trans hbl h1,Nat.le_trans hvl h2,fun d hd=>?_,fun i hi hil=>?_,fun i hi hil=>?_,fun i hi hil=>?_⟩
    ·exact SS.kept_get hd
    ·exact (ha.b i hi (by omega)).trans (g3.b i hi hil)
    ·exact (ha.v i hi (by omega)).trans (g3.v i hi hil)
    ·exact (ha.o i hi (by omega)).trans (g3.o i hi hil)
  have hstV:stA.V.length≤st'.V.length:=g3.stp.vl
  have hlent:∀ (m2:Emb) (s2:SS) (st2:St),Em m2 s2 st2→Adv (nK sh sA.V.length (cT h0 lk sA)) mB (CZ sh x1 ps.toList (aP h0 lk sA vs)) (stY sh x1 ps.toList st') m2 s2 st2 →
    (match sh with | .clo _=>True | .lent T k=>s2.V[sA.V.length]? = some ⟨true,T,k,1,cR (x1.getD 0 dC)⟩∧m2.fv sA.V.length=st'.V.length∧st2.V[st'.V.length]? = some ⟨true,T,k,1,cR (x1.getD 0 dC)⟩):=by
   intro m2 s2 st2 hE2 ha
   cases sh with
   | clo cs=>trivial
   | lent T k =>
    obtain ⟨w1,w2,w3⟩:=hnew
    have hlt:sA.V.length<(CZ (.lent T k) x1 ps.toList (aP h0 lk sA vs)).V.length:=by rw [w3];simp [hnv]
    have e1:=ha.v sA.V.length (by simp [nK]) hlt
    rw [w3,List.getElem?_append_right (by rw [hnv];exact Nat.le_refl _),hnv,Nat.sub_self] at e1
    have e2:=ha.o sA.V.length (by simp [nK]) hlt
    have e3:=ha.stp.up.v sA.V.length (by rw [hEB.m.vl];exact hlt)
    have e4:=hE2.m.v _ _ e1 (.inl rfl)
    rw [e3,w1] at e4
    refine ⟨e1,e3.trans w1,?_⟩
    rw [e4]
    simp [Vec.cz,e2,w2]
  have hrt':∀ (s:SS) (o:Ou),(fun s'=>rt ((sA.back (h0.keep++lk.t) s').killY sh sA.V.length)) s=some o→∃ l,o=.ret l:=fun s o hs=>hrt _ o hs
  have again:∀ (m2:Emb) (s2:SS) (st2:St) (vs2:List CV),Em m2 s2 st2→Adv (nK sh sA.V.length (cT h0 lk sA)) mB (CZ sh x1 ps.toList (aP h0 lk sA vs)) (stY sh x1 ps.toList st') m2 s2 st2→kJ h0 (sA.back (h0.keep++lk.t) s2)=some vs2 →
    ∃ s3 m3,Wkd ⟨st'.t,st2.B,st2.V⟩ s3∧Em m3 (aP h0 lk sA vs2) s3∧Adv (eR h0 (lkX h0 lk sA) sA) mA sA stA m3 (aP h0 lk sA vs2) s3∧aDZ sh s3 st'.V.length:=by
   intro m2 s2 st2 vs2 hE2 ha hx
   obtain ⟨b1,b2⟩:=back hE2 (hlkt _ _ _ ha)
   obtain ⟨m3,st3,w1,w2,w3,w4⟩:=MR (lk:=lkX h0 lk sA) hEA b1 b2 hx hokX
   have w4':∀ i,i<sA.V.length→m3.fv i=m2.fv i:=fun i hi=>w4 i (by rw [show (aP h0 (lkX h0 lk sA) sA vs2).V.length=sA.V.length from hnv vs2];exact hi)
   cases sh with
   | clo cs=>exact ⟨st3,m3,w1.d,w2,w3,trivial⟩
   | lent T k =>
    obtain ⟨l1,l2,l3⟩:=hlent _ _ _ hE2 ha
    have hs2:sA.V.length<s2.V.length:=(List.getElem?_eq_some_iff.1 l1).1
    refine ⟨⟨st3.t,st3.B,eN st'.V.length st3.V⟩,m3,w1.d.trans (Wkd.kill st3 _ ?_),w2.killSt ?_,w3.killSt hstV,?_⟩
    ·intro v hv
     rw [w1.V] at hv
     have hv:st2.V[st'.V.length]? = some v:=hv
     rw [l3] at hv;cases hv
     exact Nat.ne_of_lt (of_decide_eq_true hshT)
    ·intro i hi he
     have hi':i<sA.V.length:=by rw [← hnv vs2];exact hi
     rw [w4' i hi',← l2] at he
     have:=hE2.m.vi i sA.V.length (by omega) hs2 he
     omega
    ·intro v hv
     have hv:(eN st'.V.length st3.V)[st'.V.length]? = some v:=hv
     rw [jF,Option.map_eq_some_iff] at hv
     obtain ⟨v',_,rfl⟩:=hv
     simp
  have hBl:st'.B.length≤(stY sh x1 ps.toList st').B.length∧st'.V.length≤(stY sh x1 ps.toList st').V.length:=⟨hAB.stp.bl,hAB.stp.vl⟩
  have endY:∀ (m2:Emb) (s2:SS) (st2:St) (ex:Exit),Em m2 s2 st2→Adv (nK sh sA.V.length (cT h0 lk sA)) mB (CZ sh x1 ps.toList (aP h0 lk sA vs)) (stY sh x1 ps.toList st') m2 s2 st2 →
    (∃ s3,Wkd ⟨st'.t,st2.B,st2.V⟩ s3∧((∃ vs m',(es'=[vs]∨es'=[[],vs])∧Em m' (aP h0 lk sA vs) s3∧Adv (eR h0 (lkX h0 lk sA) sA) mA sA stA m' (aP h0 lk sA vs) s3)∨(∃ l m' s',es'=[[],[],l]∧rt s'=some (.ret l)∧Em m' s' s3))∧aDZ sh s3 st'.V.length) →
    ((ex=.normal∧pE id es'=none∧b=true)∨(ex=.ret∧pE id es'=some .ret∧b=false)∨(∃ i,ex=.exit i∧pE id es'=some (.exit i)∧b=false)) →
    aEF sh x1 st' (fun st'=>(∃ vs m',(es'=[vs]∨es'=[[],vs])∧Em m' (aP h0 lk sA vs) st'∧Adv (eR h0 (lkX h0 lk sA) sA) mA sA stA m' (aP h0 lk sA vs) st')∨(∃ l m' s',es'=[[],[],l]∧rt s'=some (.ret l)∧Em m' s' st')) b (pE id es') ex st2:=by
   rintro m2 s2 st2 ex hE2 ha ⟨s3,y1,y2,y3⟩ hex
   refine ⟨s3,y1,?_,?_,y2,hex,?_⟩
   ·rw [y1.Bl];exact Nat.le_trans hBl.1 ha.stp.bl
   ·rw [y1.Vl];exact Nat.le_trans hBl.2 ha.stp.vl
   ·have:=hlent _ _ _ hE2 ha
    cases sh with
    | clo cs=>trivial
    | lent T k=>exact ⟨this.2.2,y3⟩
  refine lD hM hF' (hI F' n' hF') (fun s o h=>by cases h) assign x _ [] _ _ o mB _ _ hEB ho ?_ (fun _ _ _ _ _ _ h=>by simp [pC] at h) (fun _ _ _ h=>by cases h)
  intro m2 s2 st2 e1 e2 e3
  refine ⟨rfl,?_⟩
  refine lD hM hF' (hI F' n' hF') hrt' body y _ [(id,h0)] _ _ o m2 _ _ e2 e1 ?_ ?_ ?_
  ·intro m3 s3 st3 f1 f2 f3
   simp only [Option.map_eq_some_iff] at f1
   obtain ⟨vs2,f1,rfl⟩:=f1
   cases hoe
   obtain ⟨s4,m4,j1,j2,j3,j4⟩:=again m3 s3 st3 vs2 f2 (e3.trans f3) f1
   exact endY m3 s3 st3 _ f2 (e3.trans f3) ⟨s4,j1,.inl ⟨vs2,m4,.inl rfl,j2,j3⟩,j4⟩ (.inl ⟨rfl,rfl,rfl⟩)
  ·intro i hh vs2 m3 s3 st3 f0 f1 f4 f2 f3
   subst f4
   simp only [pC] at f0
   split at f0
   case isFalse=>cases f0
   rename_i hi
   subst hi
   cases f0
   cases hoe
   rw [hext] at f1
   obtain ⟨s4,m4,j1,j2,j3,j4⟩:=again m3 s3 st3 vs2 f2 (e3.trans f3) f1
   exact endY m3 s3 st3 _ f2 (e3.trans f3) ⟨s4,j1,.inl ⟨vs2,m4,.inr rfl,j2,j3⟩,j4⟩ (.inr (.inr ⟨_,rfl,rfl,rfl⟩))
  ·intro m3 s3 st3 f1 f2 f3
   obtain ⟨l,rfl⟩:=hrt _ _ f1
   cases hoe
   obtain ⟨b1,b2⟩:=back f2 (hlkt _ _ _ (e3.trans f3))
   refine endY m3 s3 st3 _ f2 (e3.trans f3) ?_ (.inr (.inl ⟨rfl,rfl,rfl⟩))
   have hl3:=hlent _ _ _ f2 (e3.trans f3)
   cases sh with
   | clo cs=>exact ⟨_,(Wk.refl _).d,.inr ⟨l,m3,_,rfl,f1,b1⟩,trivial⟩
   | lent T k =>
    obtain ⟨l1,l2,l3⟩:=hl3
    refine ⟨⟨st'.t,st3.B,eN st'.V.length st3.V⟩,Wkd.kill ⟨st'.t,st3.B,st3.V⟩ _ ?_,.inr ⟨l,m3,_,rfl,f1,?_⟩,?_⟩
    ·intro v hv
     have hv:st3.V[st'.V.length]? = some v:=hv
     rw [l3] at hv;cases hv
     exact Nat.ne_of_lt (of_decide_eq_true hshT)
    ·have:=b1.killSS (nv:=sA.V.length) (by exact (List.getElem?_eq_some_iff.1 l1).1) (x:=⟨true,T,k,1,cR (x1.getD 0 dC)⟩) l1 (Nat.ne_of_lt (of_decide_eq_true hshT))
     rw [l2] at this
     exact this
    ·intro v hv
     have hv:(eN st'.V.length st3.V)[st'.V.length]? = some v:=hv
     rw [jF,Option.map_eq_some_iff] at hv
     obtain ⟨v',_,rfl⟩:=hv
     simp
 ·
  intro st' hIs
  cases r0 with
  | nx vs0 =>
   simp only [brO,aJ] at h
   refine ⟨fun _=>?_,fun hp=>absurd hp (by simp [ouE,pE]),fun i hp=>absurd hp (by simp [ouE,pE]),.inl rfl⟩
   obtain ⟨vs,m',hvs,g2,g3⟩ | ⟨l,m',s',hvs,_⟩:=hIs
   ·simp only [ouE] at hvs
    obtain rfl:vs0=vs:=by rcases hvs with hvs | hvs <;> simp at hvs <;> exact hvs
    exact hK _ _ _ h g2
   ·simp [ouE] at hvs
  | br i vs0 =>
   refine ⟨fun hp=>absurd hp (by simp [ouE,pE]),fun hp=>absurd hp (by simp [ouE,pE]),fun j hp=>?_,.inr (.inr ⟨_,rfl⟩)⟩
   simp only [ouE,pE,Option.some.injEq,Code.exit.injEq] at hp
   subst hp
   obtain ⟨vs,m',hvs,g2,g3⟩ | ⟨l,m',s',hvs,_⟩:=hIs
   ·simp only [ouE] at hvs
    obtain rfl:vs0=vs:=by rcases hvs with hvs | hvs <;> simp at hvs <;> exact hvs
    simp only [brO,aJ] at h
    simp only [if_true]
    exact hK _ _ _ h g2
   ·simp [ouE] at hvs
  | ret l0 =>
   simp only [brO,aJ,Option.some.injEq] at h
   subst h
   refine ⟨fun hp=>absurd hp (by simp [ouE,pE]),fun _=>?_,fun i hp=>absurd hp (by simp [ouE,pE]),.inr (.inl rfl)⟩
   obtain ⟨vs,m',hvs,g2,g3⟩ | ⟨l,m',s',hvs,g2,g3⟩:=hIs
   ·simp only [ouE] at hvs;simp at hvs
   ·simp only [ouE] at hvs
    simp at hvs
    subst hvs
    exact hR _ _ _ g2 g3
theorem HC (hM:Fns P sg M) (hT:Its P sg M) (hF:Free F) (hro:F.round=none) {inl:List (Option Nat×Hint×HT)→IN} (hI:∀ (F:Fence) (n:Nat),Free F→∀ il,AI F n P (inl il)) {rt:SS→Option Ou} (hrt:∀ s o,rt s=some o→∃ l,o=.ret l):∀ (c:Code) (ht:HT) (lk:Lk) (s:SS) (K:SS→Option Ou) (r:Ou) (m:Emb) (st:St) (Q:Exit→St→Prop),
  Em m s st→evT P sg M inl rt c ht lk s K=some r →
  (∀ m' s' st',K s'=some r→Em m' s' st'→Q .normal st') →
  (∀ m' s' st',rt s'=some r→Em m' s' st'→Q .ret st') →
  W2 F n P c st Q:=by
 intro c
 have plain:∀ (c:Code) (ht:HT) (lk:Lk) (s:SS) (K:SS→Option Ou) (r:Ou) (m:Emb) (st:St) (Q:Exit→St→Prop),
  Em m s st→evC P sg M inl rt c ht lk [] s K=some r →
  (∀ m' s' st',K s'=some r→Em m' s' st'→Q .normal st') →
  (∀ m' s' st',rt s'=some r→Em m' s' st'→Q .ret st')→W2 F n P c st Q:=
  fun c ht lk s K r m st Q hE h hK hR=>(lD hM hF (hI F n hF) hrt c ht lk [] s K r m st Q hE h (fun m' s' st' g1 g2 _=>hK m' s' st' g1 g2) (fun id h vs m' s' st' h0=>by simp [pC] at h0) fun m' s' st' g1 g2 _=>hR m' s' st' g1 g2).w2
 induction c with
 | seq a b iha ihb =>
  intro ht lk s K r m st Q hE h hK hR
  cases ht with
  | two x y =>
   simp only [evT] at h
   split at h
   ·refine aEE (iha x lk s _ r m st _ hE h ?_ ?_)
    ·intro m' s' st' h1 h2
     exact ihb y lk s' K r m' st' Q h2 h1 hK hR
    ·exact hR
   ·exact plain _ _ _ _ _ _ _ _ _ hE h hK hR
  | _=>simp only [evT] at h;exact plain _ _ _ _ _ _ _ _ _ hE h hK hR
 | cond c a b iha ihb =>
  intro ht lk s K r m st Q hE h hK hR
  cases ht with
  | cond j x y =>
   cases j with
   | none =>
    simp only [evT] at h
    split at h
    ·split at h
     ·rename_i t hc
      refine aCT (b:=t) (by rw [hE.ev,hc];simp [AV.cz]) (fun ht=>?_) (fun ht=>?_)
      ·subst ht;exact iha x lk s K r m st Q hE h hK hR
      ·subst ht;exact ihb y lk s K r m st Q hE h hK hR
     ·cases h
    ·exact plain _ _ _ _ _ _ _ _ _ hE h hK hR
   | some h0=>simp only [evT] at h;exact plain _ _ _ _ _ _ _ _ _ hE h hK hR
  | _=>simp only [evT] at h;exact plain _ _ _ _ _ _ _ _ _ hE h hK hR
 | block id c ih =>
  intro ht lk s K r m st Q hE h hK hR
  cases ht with
  | rg sh h0 x y =>
   simp only [evT] at h
   split at h
   case h_2=>cases h
   rename_i g ps assign body
   exact aEH hM hT hF hro hI hrt hE h hK hR
  | thru x =>
   simp only [evT] at h
   split at h
   ·refine NL (ih x lk s K r m st _ hE h ?_ ?_)
    ·exact hK
    ·exact hR
   ·exact plain _ _ _ _ _ _ _ _ _ hE h hK hR
  | _=>simp only [evT] at h;exact plain _ _ _ _ _ _ _ _ _ hE h hK hR
 | scope c ih =>
  intro ht lk s K r m st Q hE h hK hR
  simp only [evT] at h
  split at h
  ·exact aA4 (ih ht lk s K r m st (aCr Q) hE h hK hR)
  ·exact plain _ _ _ _ _ _ _ _ _ hE h hK hR
 | rangeFunc g ps assign body iha ihb =>
  intro ht lk s K r m st Q hE h hK hR
  cases ht with
  | lp as h0 y =>
   cases as with
   | cons q as=>simp only [evT] at h;exact plain _ _ _ _ _ _ _ _ _ hE h hK hR
   | nil =>
   simp only [evT] at h
   obtain ⟨sA,rfl⟩:∃ sA,sA=s:=⟨_,rfl⟩
   obtain ⟨stA0,rfl⟩:∃ stA0,stA0=st:=⟨_,rfl⟩
   obtain ⟨mA,rfl⟩:∃ mA,mA=m:=⟨_,rfl⟩
   have hK':=hK
   have hR':=hR
   split at h
   case h_2=>cases h
   rename_i p hps
   split at h
   case h_2=>cases h
   rename_i dd has
   split at h
   case isFalse=>cases h
   rename_i hc
   simp only [Bool.and_eq_true,decide_eq_true_eq,List.isEmpty_iff] at hc
   obtain ⟨⟨⟨⟨⟨hok,hokX⟩,hvars⟩,hp⟩,hnm⟩,hnx⟩:=hc
   refine aDW ?_
   have hEA:=hE.dm hnm
   generalize hdm:dmS stA0=stA at hEA
   have hnT:=fun vs=>XW (lk:=lk) hnm hnx vs
   split at h
   case h_2=>cases h
   rename_i v0 hv0
   split at h
   case h_2=>cases h
   rename_i c hg
   generalize hstep:(fun (x:Int) (vs:List CV)=>evC P sg M inl (fun s'=>if noM s'.V=true then rt (sA.back (h0.keep++lk.t) s') else none) body y (cT h0 lk sA) [] (sIn p dd x (aP h0 lk sA vs)) fun s'=>(kJ h0 (sA.back (h0.keep++lk.t) s')).map .nx)=step at h
   have hr0:∃ r0,oN (itV sg M c) step v0=some r0:=by
    rcases xO h with ⟨vs,h1,_⟩ | ⟨h1,_⟩
    ·exact ⟨_,h1⟩
    ·exact ⟨_,h1⟩
   obtain ⟨r0,hr0⟩:=hr0
   obtain ⟨xs,hit,htot,hrun⟩:=NO hr0
   obtain ⟨f,caps,out,rfl,hsf,hMf,hints⟩:=aA3 hit
   obtain ⟨hen,hIter⟩:=hT.it f caps out xs hsf hMf hints
   rw [hr0] at h
   obtain ⟨m1,st1,q1,q2,q3⟩:=jR (st0:=stA) (lk:=lkX h0 lk sA) hEA hEA (Adv.refl _ _ _ _) hv0 hokX
   have hrt':∀ (s:SS) (o:Ou),(fun s'=>if noM s'.V=true then rt (sA.back (h0.keep++lk.t) s') else none) s=some o→∃ l,o=.ret l:=by
    intro s o hs
    simp only at hs
    split at hs
    ·exact hrt _ o hs
    ·cases hs
   refine aA1 q1 (aDW ?_)
   have q2d:=q2.dm (hnT v0)
   have q3d:Adv (eR h0 (lkX h0 lk sA) sA) mA sA stA m1 (aP h0 lk sA v0) (dmS st1):=by subst hdm;exact q3.dm
   have hps':ps=#[p]:=by rw [← Array.toArray_toList (xs:=ps),hps]
   obtain ⟨o1,o2,o3,o4,o5,o6,o7,o8,o9,o10⟩:=kB hok
   have hslots:∀ vs,(aP h0 lk sA vs).t=(sA.kept (h0.keep++lk.t)).t:=by
    intro vs
    simp only [aP,hvars,xG,List.append_nil,SS.kept]
   refine aA2 hF hro (p:=p) (dd:=dd) (xs:=xs) (fun pre st'=>∃ vs m',cU step pre v0=some (.nx vs)∧Em m' (aP h0 lk sA vs) st'∧Adv (eR h0 (lkX h0 lk sA) sA) mA sA stA m' (aP h0 lk sA vs) st'∧NJ st'.V) hps' (fun pre st' h=>by obtain ⟨_,_,_,_,_,h⟩:=h;exact h) ?_ ?_ hen hIter has ⟨v0,m1,rfl,q2d,q3d,xQ _⟩ ?_ ?_
   ·rw [q2d.t];simpa [aP] using hp
   ·rw [q2d.ev];show AV.cz m1 ((aP h0 lk sA v0).ev g)=_;rw [hg];simp [AV.cz]
   ·rintro F' n' hF' pre x st' ⟨vs,m',g1,g2,g3,_⟩
    have htot':=htot (pre++[x])
    rw [lQ,g1] at htot'
    simp only [cU] at htot'
    obtain ⟨r',hr'⟩:∃ r',step x vs=some r':=by
     cases hs:step x vs with
     | none=>rw [hs] at htot';exact absurd rfl htot'
     | some r'=>exact ⟨r',rfl⟩
    have hst:=hr'
    rw [← hstep] at hst
    simp only at hst
    have hE1:Em m' (sIn p dd x (aP h0 lk sA vs)) (xR p dd x st'):=by
     have e1:=g2.put g2.m (Emb.Up.refl _) (fun _ _=>rfl) (Nat.le_refl _) (Nat.le_refl _) (x:=.cv (.val (.int .i64 x))) rfl (some p)
     have e2:=e1.put g2.m (Emb.Up.refl _) (fun _ _=>rfl) (Nat.le_refl _) (Nat.le_refl _) (x:=.cv (.val (.int .i64 x))) rfl dd
     simp only [AV.cz] at e2
     exact e2
    have hsB:(sIn p dd x (aP h0 lk sA vs)).B=(aP h0 lk sA vs).B:=by unfold sIn;cases dd <;> rfl
    have hsV:(sIn p dd x (aP h0 lk sA vs)).V=(aP h0 lk sA vs).V:=by unfold sIn;cases dd <;> rfl
    have htB:(xR p dd x st').B=st'.B:=by unfold xR;cases dd <;> rfl
    have htV:(xR p dd x st').V=st'.V:=by unfold xR;cases dd <;> rfl
    have back:∀ {m2:Emb} {s2:SS} {st2:St},Em m2 s2 st2→Adv (cT h0 lk sA) m' (sIn p dd x (aP h0 lk sA vs)) (xR p dd x st') m2 s2 st2 →
      Em m2 (sA.back (h0.keep++lk.t) s2) ⟨st'.t,st2.B,st2.V⟩∧Adv (eR h0 (lkX h0 lk sA) sA) mA sA stA m2 (sA.back (h0.keep++lk.t) s2) ⟨st'.t,st2.B,st2.V⟩:=by
     intro m2 s2 st2 hE2 ha
     have hbl:sA.B.length≤(aP h0 lk sA vs).B.length:=g3.bl
     have hvl:sA.V.length≤(aP h0 lk sA vs).V.length:=g3.vl
     have hcz:∀ d∈h0.keep++lk.t,(sA.get d).cz m'=(sA.get d).cz m2:=fun d hd =>
      AV.cz_noV (nb:=sA.B.length) (nv:=sA.V.length) (fun j hj=>(ha.stp.up.b j (by rw [g2.m.bl];omega)).symm) (fun j hj=>(ha.stp.up.v j (by rw [g2.m.vl];omega)).symm)
       (fun j hj hcj=>(ha.o j (by simp only [cT,List.mem_filter,List.mem_range,hcj];exact ⟨hj,rfl⟩) (by rw [hsV];omega)).symm) _ (hEA.inn d) (o1 d hd)
     refine ⟨⟨?_,fun q hq=>?_,hE2.m⟩,?_⟩
     ·show st'.t=mkT sA.n ((sA.kept (h0.keep++lk.t)).t.map fun p=>(p.1,p.2.cz m2))
      rw [g2.t,hslots]
      show mkT sA.n _=_
      congr 1
      simp only [SS.kept,List.map_map]
      exact List.map_congr_left fun d hd=>by simp only [Function.comp];rw [hcz d hd]
     ·simp only [SS.back,SS.kept,List.mem_map] at hq
      obtain ⟨d,_,rfl⟩:=hq
      have h1:=ha.bl;rw [hsB] at h1
      have h2:=ha.vl;rw [hsV] at h2
      exact AV.inn_mono (Nat.le_trans hbl h1) (Nat.le_trans hvl h2) _ (hEA.inn d)
     ·have hstp:=ha.stp
      rw [htB,htV] at hstp
      have h1:=ha.bl;rw [hsB] at h1
      have h2:=ha.vl;rw [hsV] at h2
      refine ⟨g3.stp.trans hstp,rfl,Nat.le_trans hbl h1,Nat.le_trans hvl h2,fun d hd=>?_,fun i hi hil=>?_,fun i hi hil=>?_,fun i hi hil=>?_⟩
      ·exact SS.kept_get hd
      ·have:=ha.b i hi (by rw [hsB];omega)
       rw [hsB] at this
       exact this.trans (g3.b i hi hil)
      ·have:=ha.v i hi (by rw [hsV];omega)
       rw [hsV] at this
       exact this.trans (g3.v i hi hil)
      ·exact (ha.o i hi (by rw [hsV];omega)).trans (g3.o i hi hil)
    refine lD hM hF' (hI F' n' hF') hrt' body y (cT h0 lk sA) [] _ _ r' m' _ _ hE1 hst ?_ ?_ ?_
    ·intro m2 s2 st2 e1 e2 e3
     simp only [Option.map_eq_some_iff] at e1
     obtain ⟨vs2,e1,e4⟩:=e1
     subst e4
     obtain ⟨b1,b2⟩:=back e2 e3
     obtain ⟨m3,st3,w1,w2,w3⟩:=jR (lk:=lkX h0 lk sA) hEA b1 b2 e1 hokX
     refine ⟨st3,w1,vs2,m3,?_,w2.dm (hnT vs2),?_,xQ _⟩
     rotate_left
     ·subst hdm;exact w3.dm
     rw [lQ,g1]
     simp only [cU,hr']
    ·intro id h vs2 m2 s2 st2 e0 e1 e2 e3 e4;simp [pC] at e0
    ·intro m2 s2 st2 e1 e2 e3
     obtain ⟨b1,b2⟩:=back e2 e3
     split at e1
     case isFalse=>cases e1
     rename_i hn2
     obtain ⟨l,rfl⟩:=hrt _ _ e1
     intro hpre
     obtain ⟨suf,hsuf⟩:=hpre
     have:cU step xs v0=some (.ret l):=by
      rw [← hsuf,lQ,lQ,g1]
      simp only [cU,hr']
     rw [this] at hrun
     cases hrun
     have hrr:r=.ret l:=by simp only [aJ,Option.some.injEq] at h;exact h.symm
     subst hrr
     exact hR' m2 _ _ e1 (b1.dm hn2)
   ·rintro st' ⟨vs,m',g1,g2,g3,_⟩
    rw [hrun] at g1
    cases g1
    simp only [aJ] at h
    exact hK' m' _ st' h g2
  | _=>simp only [evT] at h;exact plain _ _ _ _ _ _ _ _ _ hE h hK hR
 | _=>intro ht lk s K r m st Q hE h hK hR;simp only [evT] at h;exact plain _ _ _ _ _ _ _ _ _ hE h hK hR
end
end Go.Sx
namespace Go.Sx
open Go Go.RowKit
variable [G:Ghost]
section
variable (P:Program) (sg:FuncId→Option Sig) (M:Den)
noncomputable def evF (fe:FE) (c:Code) (vs:List CV):Option (List CV):=
 if (Sc.avs fe.g.ps vs 0).length≤fe.n then
  aO (evT P sg M (inN P sg M 8) (rtF P fe.rs fe.g.rs) c fe.ht ⟨[],[],[],[]⟩ ⟨fe.n,gS 0 (Sc.avs fe.g.ps vs 0),[],[]⟩ (rtF P fe.rs fe.g.rs))
 else none
end
section
variable {P:Program} {sg:FuncId→Option Sig} {M:Den}
theorem XX (hM:Fns P sg M) (hY:Yls P M) (hT:Its P sg M) {f:FuncId} {fn:Func} {fe:FE} {c:Code} {vs out:List CV} (hf:P.funcs[f]? = some fn) (hb:fn.body=some c) (hn:fn.ntmps=fe.n) (hr:fn.results.toList=fe.rs) (h:evF P sg M fe c vs=some out) :
  SpecR P f (Sc.avs fe.g.ps vs 0) (Sc.res fe.g.rs out):=by
 unfold evF at h
 split at h
 ·rename_i hlen
  have h':evT P sg M (inN P sg M 8) (rtF P fe.rs fe.g.rs) c fe.ht ⟨[],[],[],[]⟩ ⟨fe.n,gS 0 (Sc.avs fe.g.ps vs 0),[],[]⟩ (rtF P fe.rs fe.g.rs)=some (.ret out):=by
   unfold aO at h
   split at h
   ·rename_i l hl;cases h;exact hl
   ·cases h
  have hcl:=Sc.avs_closed fe.g.ps vs 0
  have key:IY P f (Sc.avs fe.g.ps vs 0) fun r B V=>∃ (m:Emb) (s:SS) (st:St) (xs:List AV) (l:List CV) (b:Bool),st.B=B∧st.V=V∧Em m s st∧pD P s fe.rs=some xs∧eC s.B s.V fe.g.rs xs=some (l,b)∧AM (Sc.lvs fe.g.rs) l=out ∧
    r=hU (AV.czs m xs):=by
   refine zB hf hb fun F n hF hro=>?_
   rw [hn,start_eq _ _ hlen]
   have hE:Em ⟨[],[],[]⟩ ⟨fe.n,gS 0 (Sc.avs fe.g.ps vs 0),[],[]⟩ ⟨mkT fe.n (gS 0 (Sc.avs fe.g.ps vs 0)),[],[]⟩:=by
    obtain ⟨p1,p2⟩:=Sc.avs_pl fe.g.ps vs 0 ⟨[],[],[]⟩ 0 0
    refine ⟨?_,qF _ _ p2,⟨rfl,rfl,rfl,by simp,by simp,by simp,by simp,by simp⟩⟩
    rw [qE,← AV.czs_eq,p1]
   have fin:∀ (m':Emb) (s':SS) (st':St),rtF P fe.rs fe.g.rs s'=some (.ret out)→Em m' s' st'→∃ r,sM P st' fn.results.toList=some r ∧
     ∃ (m:Emb) (s:SS) (st:St) (xs:List AV) (l:List CV) (b:Bool),st.B=st'.B∧st.V=st'.V∧Em m s st∧pD P s fe.rs=some xs∧eC s.B s.V fe.g.rs xs=some (l,b)∧AM (Sc.lvs fe.g.rs) l=out∧r=hU (AV.czs m xs):=by
    intro m' s' st' h1 hE'
    unfold rtF at h1
    split at h1
    ·rename_i xs hxs
     split at h1
     ·rename_i l b hl
      cases h1
      refine ⟨_,?_,m',s',st',xs,l,b,rfl,rfl,hE',hxs,hl,rfl,rfl⟩
      rw [hr]
      exact xP (oM hE' hxs)
     ·cases h1
    ·cases h1
   refine HC hM hT hF hro (fun F n hF=>JX hM hY 8 hF) (aCP) c fe.ht _ _ _ _ _ _ _ hE h' ?_ ?_
   ·intro m' s' st' h1 h2;exact ⟨.inl rfl,fin m' s' st' h1 h2⟩
   ·intro m' s' st' h1 h2;exact ⟨.inr rfl,fin m' s' st' h1 h2⟩
  refine CallP.res (CallP.freeze key (AV.scos_closed _ _ _ hcl)) ?_
  rintro r B V ⟨rfl,rfl,r0,B0,V0,⟨m,s,st,xs,l,b,rfl,rfl,hE,hxs,hl,rfl,rfl⟩,rfl⟩
  refine ⟨Sc.res fe.g.rs l,?_,(aAV _ _).symm,rfl,rfl⟩
  obtain ⟨q1,_⟩:=dV hE.m hl
  have hcr:=Sc.res_closed fe.g.rs l
  exact ⟨aAW q1,fun _ _ _=>AV.sco_closed _ _ _ hcr⟩
 ·cases h
def rtO (P:Program) (rs:List ResultVar) (s:SS):Option Ou:=match pD P s rs with
 | some [.own i u]=>match s.V[i]? with
  | some v=>if (v.live&&v.ver == u)=true then some (.ret [.row v.k v.es,.fn v.T []]) else none
  | none=>none
 | _=>none
theorem aCW {rs:List ResultVar} (s:SS) (o:Ou) (h:rtO P rs s=some o):∃ l,o=.ret l:=by
 have _:=G
 unfold rtO at h
 split at h
 ·split at h
  ·split at h
   ·cases h;exact ⟨_,rfl⟩
   ·cases h
  ·cases h
 ·cases h
noncomputable def aCX (P:Program) (sg:FuncId→Option Sig) (M:Den) (fe:FE) (c:Code) (vs:List CV):Option (List CV):=
 if vs.length≤fe.n then
  aO (evT P sg M (inN P sg M 8) (rtO P fe.rs) c fe.ht ⟨[],[],[],[]⟩ ⟨fe.n,gS 0 (vs.map .cv),[],[]⟩ (rtO P fe.rs))
 else none
theorem RW (hM:Fns P sg M) (hY:Yls P M) (hT:Its P sg M) {f:FuncId} {fn:Func} {fe:FE} {c:Code} {vs:List CV} {k:Nat} {es:List (List CV)} {T:TypeId} (hf:P.funcs[f]? = some fn) (hb:fn.body=some c) (hn:fn.ntmps=fe.n) (hr:fn.results.toList=fe.rs)
  (h:aCX P sg M fe c vs=some [.row k es,.fn T []]):sP P f (vs.map .cv) T k es:=by
 unfold aCX at h
 split at h
 ·rename_i hlen
  have h':evT P sg M (inN P sg M 8) (rtO P fe.rs) c fe.ht ⟨[],[],[],[]⟩ ⟨fe.n,gS 0 (vs.map .cv),[],[]⟩ (rtO P fe.rs)=some (.ret [.row k es,.fn T []]):=by
   unfold aO at h
   split at h
   ·rename_i l hl;cases h;exact hl
   ·cases h
  refine zB hf hb fun F n hF hro=>?_
  rw [hn,start_eq _ _ (by simpa using hlen)]
  have hE:Em ⟨[],[],[]⟩ ⟨fe.n,gS 0 (vs.map .cv),[],[]⟩ ⟨mkT fe.n (gS 0 (vs.map .cv)),[],[]⟩:=by
   refine ⟨?_,qF _ _ (by rw [AV.inns_eq,List.all_eq_true];intro y hy;obtain ⟨c,_,rfl⟩:=List.mem_map.1 hy;rfl),⟨rfl,rfl,rfl,by simp,by simp,by simp,by simp,by simp⟩⟩
   rw [qE,List.map_map]
   have:(vs.map ((fun x=>x.cz ⟨[],[],[]⟩)∘AV.cv))=vs.map .cv:=List.map_congr_left fun y _=>by simp [AV.cz]
   rw [this]
  have fin:∀ (m':Emb) (s':SS) (st':St),rtO P fe.rs s'=some (.ret [.row k es,.fn T []])→Em m' s' st'→∃ r,sM P st' fn.results.toList=some r ∧
    ∃ i v,r=.own i v.ver∧st'.V[i]? = some v∧v.live=true∧v.T=T∧v.k=k∧v.es=es:=by
   intro m' s' st' h1 hE'
   unfold rtO at h1
   split at h1
   ·rename_i i u hxs
    split at h1
    ·rename_i v hv
     split at h1
     ·rename_i hc
      simp only [Bool.and_eq_true,beq_iff_eq] at hc
      obtain ⟨hl,rfl⟩:=hc
      simp only [Option.some.injEq,Ou.ret.injEq,List.cons.injEq,CV.row.injEq,CV.fn.injEq,and_true] at h1
      obtain ⟨⟨rfl,rfl⟩,rfl⟩:=h1
      refine ⟨hU (AV.czs m' [.own i v.ver]),?_,m'.fv i,v.cz m' i,?_,hE'.m.v i v hv (.inl hl),hl,rfl,rfl,rfl⟩
      ·rw [hr]
       exact xP (oM hE' hxs)
      ·simp [hU,AV.czs,AV.cz,Vec.cz]
     ·cases h1
    ·cases h1
   ·cases h1
  refine HC hM hT hF hro (fun F n hF=>JX hM hY 8 hF) (aCW) c fe.ht _ _ _ _ _ _ _ hE h' ?_ ?_
  ·intro m' s' st' h1 h2;exact ⟨.inl rfl,fin m' s' st' h1 h2⟩
  ·intro m' s' st' h1 h2;exact ⟨.inr rfl,fin m' s' st' h1 h2⟩
 ·cases h
theorem Fns.none' (P:Program):Fns P (fun _=>none) (fun _ _=>none) where
 own:=fun _ _ _ _ _ _ h=>by cases h
 ins:=fun _ _ _ _ _ h=>by cases h
 mtt:=fun _ _ _ _ _ _ _ _ h=>by cases h
 way:=fun _ _ _ _ h=>by cases h
 ent:=fun _ _ h=>by cases h
 spec:=fun _ _ _ _ h=>by cases h
theorem Its.none' (P:Program):Its P (fun _=>none) (fun _ _=>none):=have _:=G;⟨fun _ _ _ _ _ h=>(by cases h),fun _ _ _ _ _ h=>by cases h⟩
end
end Go.Sx
namespace Go.Sx
open Go Go.RowKit
theorem UM:∀ {a b:Lf},lfC a=lfC b→a=b:=by
 intro a b h
 cases a <;> cases b <;> simp_all [lfC]
theorem aA5 (l:Lf):lfC l≠dC:=by cases l <;> simp [lfC,dC]
theorem aCY:∀ {a b:Sc},scC a=scC b→a=b:=by
 intro a b h
 cases a <;> cases b
 ·simp only [scC,List.cons.injEq,and_true] at h;rw [UM h]
 ·simp only [scC,List.cons.injEq] at h;exact absurd h.1 (aA5 _)
 ·simp only [scC,List.cons.injEq] at h;exact absurd h.1.symm (aA5 _)
 ·simp only [scC,List.cons.injEq,true_and] at h
  rw [List.map_inj_right fun x y hxy=>UM hxy] at h
  rw [h]
theorem UN:∀ {a b:YSh},shC a=shC b→a=b:=by
 intro a b h
 cases a <;> cases b
 ·simp only [shC,CV.row.injEq,true_and] at h
  rw [List.map_inj_right fun x y hxy=>aCY hxy] at h
  rw [h]
 ·simp [shC] at h
 ·simp [shC] at h
 ·simp only [shC,CV.fn.injEq,List.cons.injEq,CV.row.injEq,and_true] at h
  rw [h.1,h.2]
open Classical in
noncomputable def withY (M:Den) (l:Nat) (sh:YSh) (yf:YF):Den:=fun f vs =>
 if f=ghT then
  match vs with
  | .val (.func (.yield l') _ _)::c::.row _ es::x=>if l'=l∧c=shC sh then (match yf es x with
   | some (b,es')=>some [.val (.bool b),.row 0 es']
   | none=>none) else none
  | _=>none
 else M f vs
def rtY (s:SS):Option Ou:=match s.V[0]? with
 | some v=>if (v.T == ghT)=true then some (.ret [.row 0 v.es]) else none
 | none=>none
theorem aCZ (s:SS) (o:Ou) (h:rtY s=some o):∃ l,o=.ret l:=by
 unfold rtY at h
 split at h
 ·split at h
  ·cases h;exact ⟨_,rfl⟩
  ·cases h
 ·cases h
noncomputable def evY (P:Program) (sg:FuncId→Option Sig) (M:Den) (dp:Nat) (fe:FE) (c:Code) (l:Nat) (vs:List CV) (es:List (List CV)):Option (List CV):=
 if vs.length+1≤fe.n then
  aO (evC P sg M (inN P sg M dp) rtY c fe.ht ⟨[],[],[],[]⟩ [] ⟨fe.n,gS 0 (.cv (.val (.func (.yield l) #[] #[]))::vs.map .cv),[],[⟨false,ghT,0,0,es⟩]⟩ rtY)
 else none
section
variable {P:Program} {sg:FuncId→Option Sig} {M:Den}
theorem Fns.withY [G:Ghost] (h:Fns P sg M) (hg:sg ghT=none) (hMg:∀ vs,M ghT vs=none) (l:Nat) (sh:YSh) (yf:YF):Fns P sg (Go.Sx.withY M l sh yf):=by
 have key:∀ f vs out,f≠ghT→Go.Sx.withY M l sh yf f vs=some out→M f vs=some out:=fun f vs out hf h=>by
  unfold Go.Sx.withY at h;rwa [if_neg hf] at h
 have gh:∀ vs out,Go.Sx.withY M l sh yf ghT vs=some out→∃ b es',out=[.val (.bool b),.row 0 es']:=by
  intro vs out h
  unfold Go.Sx.withY at h
  rw [if_pos rfl] at h
  split at h
  ·split at h
   ·split at h
    ·cases h;exact ⟨_,_,rfl⟩
    ·cases h
   ·cases h
  ·cases h
 refine ⟨fun f vs k es T hs hm=>?_,fun f k T by_ hs hm=>?_,fun f T k cs es es' hdr hs hm=>?_,fun f T fs hs hm=>?_,h.ent,fun f g vs out hs hm=>?_⟩
 ·by_cases hf:f=ghT
  ·subst hf
   obtain ⟨b,es',he⟩:=gh _ _ hm
   simp at he
  ·exact h.own f vs k es T hs (key _ _ _ hf hm)
 ·by_cases hf:f=ghT
  ·subst hf
   obtain ⟨b,es',he⟩:=gh _ _ hm
   simp at he
  ·exact h.ins f k T by_ hs (key _ _ _ hf hm)
 ·by_cases hf:f=ghT
  ·subst hf
   obtain ⟨b,es',he⟩:=gh _ _ hm
   simp at he
  ·exact h.mtt f T k cs es es' hdr hs (key _ _ _ hf hm)
 ·by_cases hf:f=ghT
  ·subst hf
   obtain ⟨b,es',he⟩:=gh _ _ hm
   simp at he
  ·exact h.way f T fs hs (key _ _ _ hf hm)
 ·by_cases hf:f=ghT
  ·subst hf;rw [hg] at hs;cases hs
  ·exact h.spec f g vs out hs (key _ _ _ hf hm)
theorem NP (hM:∀ [Ghost],Fns P sg M) (hg:sg ghT=none) (hMg:∀ vs,M ghT vs=none) {f:FuncId} {fn:Func} {c:Code} {fe:FE} {dp:Nat} {caps:List CV} {sh:YSh} {R:YF→List (List CV)→Option (List (List CV))} (hf:P.funcs[f]? = some fn) (hb:fn.body=some c) (hn:fn.ntmps=fe.n) (hr:fn.results.toList=[])
  (hR:∀ l yf es es',R yf es=some es'→evY P sg (withY M l sh yf) dp fe c l caps es=some [.row 0 es']):sQ P f caps sh R:=by
 intro G l yf es es' hy hRe F n hF hro H S w lb hlb hS hH hSo hJ hlo hgw
 have hFn:=Fns.withY (G:=G) hM hg hMg l sh yf
 have hYl:Yls P (withY M l sh yf):=by
  intro l' sh' es x out h
  simp only [withY,if_true] at h
  split at h
  ·rename_i hc
   obtain ⟨rfl,hc⟩:=hc
   have:=UN hc
   subst this
   split at h
   ·rename_i b es2 h1
    cases h
    exact hy _ _ _ _ h1
   ·cases h
  ·cases h
 have hev:=hR l yf es es' hRe
 unfold evY at hev
 split at hev
 case isFalse=>cases hev
 rename_i hlen
 have hev':evC P sg (withY M l sh yf) (inN P sg (withY M l sh yf) dp) rtY c fe.ht ⟨[],[],[],[]⟩ [] ⟨fe.n,gS 0 (.cv (.val (.func (.yield l) #[] #[]))::caps.map .cv),[],[⟨false,ghT,0,0,es⟩]⟩ rtY=some (.ret [.row 0 es']):=by
  unfold aO at hev
  split at hev
  ·rename_i l hl;cases hev;exact hl
  ·cases hev
 refine callsIn_of_wp hf hb (hF.fn f) ?_ hro
 let e0:Env:=⟨fun _=>0,fun _ _=>undef,S,w.heap.size,H,true⟩
 have hnb:e0.nb w.heap.size=0:=rfl
 have hmem:Mem w.heap.size w e0 [] [⟨false,ghT,0,0,es⟩] w:=by
  refine ⟨by simp,by simp,by simp,by simp,?_,?_,by simp,?_,hS,Below.refl _ _,Nat.le_refl _,⟨Nat.le_refl _,fun _=>hgw⟩,⟨hH,by simp,?_,?_,hSo⟩⟩
  ·intro i x hi hl
   have:=List.mem_of_getElem? hi
   simp only [List.mem_singleton] at this
   subst this;cases hl
  ·intro i x g hi hl
   have:=List.mem_of_getElem? hi
   simp only [List.mem_singleton] at this
   subst this;cases hl
  ·intro i x j y g hi hl
   have:=List.mem_of_getElem? hi
   simp only [List.mem_singleton] at this
   subst this;cases hl
  ·intro i x g hi hl
   have:=List.mem_of_getElem? hi
   simp only [List.mem_singleton] at this
   subst this;cases hl
  ·intro i x hi hT
   have h0:=List.mem_of_getElem? hi
   simp only [List.mem_singleton] at h0
   subst h0
   have:i<1:=(List.getElem?_eq_some_iff.1 hi).1
   exact ⟨by omega,rfl,hJ,hlo⟩
 have hargs:AV.all e0 w (kss [⟨false,ghT,0,0,es⟩]) (.cv (.val (.func (.yield l) #[] #[]))::caps.map .cv) (#[Value.func (.yield l) #[] #[]]++lb).toList:=by
  simp only [Array.toList_append,List.singleton_append,AV.all]
  exact ⟨by simp [AV.holds,CV.holds,Value.oneCell'],AV.all.of_vals hlb⟩
 have hsz:(#[Value.func (.yield l) #[] #[]]++lb).size=(AV.cv (.val (.func (.yield l) #[] #[]))::caps.map .cv).length:=by
  have:=hargs.length;simp at this ⊢;omega
 have hE:Em ⟨[],[0],[0]⟩ ⟨fe.n,gS 0 (.cv (.val (.func (.yield l) #[] #[]))::caps.map .cv),[],[⟨false,ghT,0,0,es⟩]⟩ ⟨mkT fe.n (gS 0 (.cv (.val (.func (.yield l) #[] #[]))::caps.map .cv)),[],[⟨false,ghT,0,0,es⟩]⟩:=by
  refine ⟨?_,qF _ _ (by rw [AV.inns_eq,List.all_eq_true];intro y hy;simp only [List.mem_cons,List.mem_map] at hy;rcases hy with rfl | ⟨c,_,rfl⟩ <;> rfl),⟨rfl,rfl,rfl,by simp,?_,?_,by simp,?_⟩⟩
  ·rw [qE]
   simp [AV.cz,Function.comp_def]
  ·intro i v hi _
   have h1:i<1:=(List.getElem?_eq_some_iff.1 hi).1
   obtain rfl:i=0:=by omega
   simp only [List.getElem?_cons_zero,Option.some.injEq] at hi
   subst hi
   simp [Emb.fv,Vec.cz,Emb.fo]
  ·intro i hi
   simp only [List.length_singleton] at hi
   obtain rfl:i=0:=by omega
   simp [Emb.fv]
  ·intro i j hi hj _
   simp only [List.length_singleton] at hi hj
   omega
 have hrel:Rel w.heap.size w e0 ⟨mkT fe.n (gS 0 (.cv (.val (.func (.yield l) #[] #[]))::caps.map .cv)),[],[⟨false,ghT,0,0,es⟩]⟩ { tmps:=(#[Value.func (.yield l) #[] #[]]++lb)++Array.replicate (fn.ntmps - (#[Value.func (.yield l) #[] #[]]++lb).size) undef,defers:=[] } w:=by
  rw [← start_eq _ _ (by simpa using hlen)]
  refine ⟨?_,?_,hmem⟩
  ·rw [Array.toList_append,Array.toList_replicate,hsz,hn]
   refine hargs.append ?_
   generalize fe.n - _=k
   induction k with
   | zero=>simp [AV.all]
   | succ k ih=>simpa [List.replicate_succ,AV.all,AV.holds] using ih
  ·rw [AV.scos_iff]
   intro y hy
   rcases List.mem_append.1 hy with hy | hy
   ·simp only [List.mem_cons,List.mem_map] at hy
    rcases hy with rfl | ⟨c,_,rfl⟩ <;> simp [AV.sco]
   ·obtain rfl:=List.eq_of_mem_replicate hy
    simp [AV.sco]
 have hW:=lD (F:=F) (n:=n) hFn hF (fun il=>JX hFn hYl dp hF il) aCZ c fe.ht ⟨[],[],[],[]⟩ [] _ _ _ _ _ (fun ex st'=>(ex=.normal∨ex=.ret)∧∃ m' s',rtY s'=some (.ret [.row 0 es'])∧Em m' s' st') hE hev'
  (fun m' s' st' h1 h2 _=>⟨.inl rfl,m',s',h1,h2⟩) (fun id h vs m' s' st' h0=>by simp [pC] at h0) (fun m' s' st' h1 h2 _=>⟨.inr rfl,m',s',h1,h2⟩)
 refine hW w.heap.size w e0 _ w _ hrel ?_
 rintro ex e' st' a' w' ⟨hex,m',s',h1,h2⟩ hrel' hdf hx
 have hres:(results fn a'.tmps).run P w'=.ok (.tuple #[]) w':=by
  have:fn.results=#[]:=Array.toList_inj.1 (by rw [hr])
  simp [results,this]
 have fin:(∃ v,Ending.returned (Value.tuple #[])=.returned v)∧w.heap.size≤w'.heap.size∧@GW G w'∧∃ H',G.J es' H'∧qB H' w':=by
  unfold rtY at h1
  split at h1
  case h_2=>cases h1
  rename_i v hv
  split at h1
  case isFalse=>cases h1
  rename_i hT
  simp only [Option.some.injEq,Ou.ret.injEq,List.cons.injEq,CV.row.injEq,true_and,and_true] at h1
  subst h1
  simp only [beq_iff_eq] at hT
  have hv1:=h2.m.v 0 v hv (.inr hT)
  obtain ⟨g1,g2,g3,g4⟩:=hrel'.mem.hid.gh _ _ hv1 hT
  have hbl:=hrel'.mem.below
  exact ⟨⟨_,rfl⟩,hx.sz,⟨hbl.os.trans hgw.1,hbl.tape.trans hgw.2.1,hbl.output.trans hgw.2.2⟩,e'.H,g3,hrel'.mem.hid.obj⟩
 rcases hex with rfl | rfl
 ·exact ⟨hdf,_,hres,fin⟩
 ·exact ⟨hdf,_,hres,fin⟩
end
end Go.Sx
namespace Go.Sx
open Go Go.RowKit
variable [G:Ghost]
def aA (f:Func):Code:=f.body.getD .skip
def ci (n:Int):CV:=.val (.int .i64 n)
def cb (b:Bool):CV:=.val (.bool b)
def gi (v:List CV) (i:Nat):Int:=cI (List.getD v i dC)
def gb (v:List CV) (i:Nat):Bool:=cB (List.getD v i dC)
def gr (v:List CV) (i:Nat):List (List CV):=cR (List.getD v i dC)
def el (es:List (List CV)) (i:Int):List CV:=List.getD es (Int.toNat i) []
def il {A:Type} (es:List A):Int:=Int.ofNat (List.length es)
def wr (x:Int):Int:=IntKind.wrap .i64 x
def inb {A:Type} (i:Int) (es:List A):Bool:=decide (0≤i)&&decide (i<il es)
def cis (v:List CV):Nat→Nat→List CV
 | _,0=>[]
 | i,n+1=>ci (gi v i)::cis v (i+1) n
def cat:List (List CV)→List CV
 | []=>[]
 | [x]=>x
 | x::xs=>x++cat xs
def bAN (a b:Int):Nat:=(BitVec.ofInt 64 a &&& BitVec.ofInt 64 b).toNat
def bON (a b:Int):Nat:=(BitVec.ofInt 64 a ||| BitVec.ofInt 64 b).toNat
abbrev li:Lf:=.int .i64
abbrev lb:Lf:=.bool
def qH {A:Type} (k:Nat):List (Nat×A)→Option A
 | []=>none
 | (j,x)::r=>if j=k then some x else qH k r
def xT (tb:List (Nat×FE×Code)):FuncId→Option Sig:=fun f=>(qH f tb).map (·.1.g)
noncomputable def den (P:Program) (tb:List (Nat×FE×Code)) (its:List (Nat×(List CV→Option (List CV)))):Nat→Den
 | 0=>fun _ _=>none
 | n+1=>fun f vs=>match qH f tb with
  | some (fe,c)=>evF P (xT tb) (den P tb its n) fe c vs
  | none=>match qH f its with
   | some it=>it vs
   | none=>none
structure EntOk (P:Program) (f:Nat) (fe:FE) (fn:Func):Prop where
 ent:dM P f=true
 isf:P.funcs[f]? = some fn
 body:fn.body.isSome=true
 n:fn.ntmps=fe.n
 rs:fn.results.toList=fe.rs
theorem rV {A:Type} {k:Nat} {x:A}:∀ {l:List (Nat×A)},qH k l=some x→(k,x)∈l
 | [],h=>by have _:=G;simp [qH] at h
 | (j,y)::r,h=>by
  simp only [qH] at h
  split at h
  ·rename_i hj;cases h;subst hj;simp
  ·simp [rV h]
def UO (P:Program) (its:List (Nat×(List CV→Option (List CV)))):Prop:=∀ e∈its,∀ caps out,e.2 caps=some out →
 (∀ rows sh,out=[.row 0 rows,shC sh]→dM P e.1=true∧sQ P e.1 caps sh (mM rows)) ∧
 (∀ xs,intsOf out=some xs→dM P e.1=true∧NN P e.1 caps xs) ∧
 (∀ k es T,out=[.row k es,.fn T []]→dM P e.1=true∧sP P e.1 (caps.map .cv) T k es) ∧
 (∀ T k cs es es' hdr,caps=.row k es::.fn T []::cs→out=[.row k es',.val (.bool hdr)]→dM P e.1=true∧QU P e.1 T k cs es es' hdr) ∧
 (∀ k T by_,caps=[]→out=[.row k [],.fn T [],.fn by_ []]→dM P e.1=true∧aCy P e.1 T k by_) ∧
 (∀ T fs,caps=.fn T []::fs.map (fun g=>.fn g [])→out=[.fn 0 []]→dM P e.1=true∧QV P e.1 T fs)
theorem xU {P:Program} {tb:List (Nat×FE×Code)} {its:List (Nat×(List CV→Option (List CV)))} {n f:Nat} {caps out:List CV} (hs:xT tb f=none) (h:den P tb its n f caps=some out):∃ it,(f,it)∈its∧it caps=some out:=by
 cases n with
 | zero=>simp [den] at h
 | succ n =>
  simp only [xT,Option.map_eq_none_iff] at hs
  simp only [den,hs] at h
  split at h
  ·rename_i it hl;exact ⟨it,rV hl,h⟩
  ·cases h
theorem aC0 {P:Program} {tb:List (Nat×FE×Code)} {its:List (Nat×(List CV→Option (List CV)))} (hi:UO P its):∀ n,Its P (xT tb) (den P tb its n):=
 fun n=>⟨fun f caps rows sh hs h=>by
  obtain ⟨it,h1,h2⟩:=xU hs h
  exact (hi _ h1 caps _ h2).1 rows sh rfl,fun f caps out xs hs h hx=>by
  obtain ⟨it,h1,h2⟩:=xU hs h
  exact (hi _ h1 caps out h2).2.1 xs hx⟩
theorem aA6 {P:Program} {tb:List (Nat×FE×Code)} {its:List (Nat×(List CV→Option (List CV)))} (hg:qH ghT tb=none∧qH ghT its=none):∀ n vs,den P tb its n ghT vs=none
 | 0,_=>have _:=G;rfl
 | n+1,vs=>by simp only [den,hg.1,hg.2]
theorem Yls.none {P:Program} {M:Den} (h:∀ vs,M ghT vs=.none):Yls P M:=by
 intro l sh es x out hh
 rw [h] at hh;cases hh
theorem UP {P:Program} {tb:List (Nat×FE×Code)} {its:List (Nat×(List CV→Option (List CV)))} (hi:UO P its) (hg:qH ghT tb=none∧qH ghT its=none) (ht:∀ e∈tb,∃ fn,EntOk P e.1 e.2.1 fn∧e.2.2=aA fn):∀ n,Fns P (xT tb) (den P tb its n):=by
 have hown:∀ n f vs k es T,xT tb f=none→den P tb its n f vs=some [.row k es,.fn T []]→dM P f=true∧sP P f (vs.map .cv) T k es:=fun n f vs k es T hs h=>by
  obtain ⟨it,h1,h2⟩:=xU hs h
  exact (hi _ h1 vs _ h2).2.2.1 k es T rfl
 have hins:∀ n f k T by_,xT tb f=none→den P tb its n f []=some [.row k [],.fn T [],.fn by_ []]→dM P f=true∧aCy P f T k by_:=fun n f k T by_ hs h=>by
  obtain ⟨it,h1,h2⟩:=xU hs h
  exact (hi _ h1 [] _ h2).2.2.2.2.1 k T by_ rfl rfl
 have hmut:∀ n f T k cs es es' hdr,xT tb f=none→den P tb its n f (.row k es::.fn T []::cs)=some [.row k es',.val (.bool hdr)]→dM P f=true∧QU P f T k cs es es' hdr:=fun n f T k cs es es' hdr hs h=>by
  obtain ⟨it,h1,h2⟩:=xU hs h
  exact (hi _ h1 _ _ h2).2.2.2.1 T k cs es es' hdr rfl rfl
 have hway:∀ n f T fs,xT tb f=none→den P tb its n f (.fn T []::fs.map fun g=>.fn g [])=some [.fn 0 []]→dM P f=true∧QV P f T fs:=fun n f T fs hs h=>by
  obtain ⟨it,h1,h2⟩:=xU hs h
  exact (hi _ h1 _ _ h2).2.2.2.2.2 T fs rfl rfl
 have hent:∀ f g,xT tb f=some g→dM P f=true:=fun f g hg=>by
  simp only [xT,Option.map_eq_some_iff] at hg
  obtain ⟨⟨fe,c⟩,h1,_⟩:=hg
  obtain ⟨fn,h2,_⟩:=ht _ (rV h1)
  exact h2.ent
 intro n
 induction n with
 | zero=>exact ⟨hown 0,hins 0,hmut 0,hway 0,hent,fun f g vs out hg h=>by simp [den] at h⟩
 | succ n ih =>
  refine ⟨hown _,hins _,hmut _,hway _,hent,fun f g vs out hgg h=>?_⟩
  simp only [xT,Option.map_eq_some_iff] at hgg
  obtain ⟨⟨fe,c⟩,h1,h2⟩:=hgg
  simp only [den,h1] at h
  obtain ⟨fn,h3,h4⟩:=ht _ (rV h1)
  simp only at h2 h4
  subst h2
  have hb:fn.body=some c:=by
   rw [h4,aA]
   cases hh:fn.body with
   | none=>have:=h3.body;rw [hh] at this;cases this
   | some c'=>rfl
  exact XX ih (Yls.none (aA6 hg n)) (aC0 hi n) h3.isf hb h3.n h3.rs h
end Go.Sx
namespace Go.Sx
open Go Go.RowKit
variable [G:Ghost]
section
variable {F:Fence} {n:Nat} {P:Program} {ops:Array Oper}
def lR (P:Program) (st:St) (T:TypeId) (len:Nat) (parts:List (Nat×AV)):Option Out:=
 match bM P T with
 | some ⟨_,_,.slc e k _⟩ =>
  match bM P e with
  | some te =>
   if te.zero.length=k∧te.size=k∧k≠0∧te.zero.all Value.oneCell'=true∧len*k≤2 ^ 24∧len*k≠0 then
    match dJ (fun i=>some (i*k,k)) (cW (eQ te.zero len)) parts with
    | some out=>some (.slb len st.B.length 0,st.B++[Box.mk true e out],st.V)
    | none=>none
   else none
  | none=>none
 | _=>none
theorem xV {st:St} {T:TypeId} {len:Nat} {parts:List (Nat×AV)} {av:AV} {B':List Box} {V':List Vec} (h:lR P st T len parts=some (av,B',V'))
  {n0:Nat} {w0:World} {e:Env} {a:Act} {w:World} (hr:Rel n0 w0 e st a w) {vparts:Array (Nat×Value)}
  (hi:parts.map (·.1)=vparts.toList.map (·.1)) (hv:AV.all e w (kss st.V) (parts.map (·.2)) (vparts.toList.map (·.2))) (hs:AV.scos st.B.length (vers st.V) (parts.map (·.2))) :
  ∃ v w' e',(Instr.buildSlice T len vparts).run P w=.ok v w'∧Mem n0 w0 e' B' V' w'∧ExtS e st w e' B' V' w'∧AV.holds e' w' (kss V') av v∧AV.sco B'.length (vers V') av:=by
 unfold lR at h
 split at h
 ·rename_i s z et k by_ hti
  obtain ⟨hT,hk,_⟩:=dI hti
  split at h
  ·rename_i te hte
   split at h
   ·rename_i hc
    obtain ⟨hz,hsz,hk0,hone,hsmall,hlen⟩:=hc
    split at h
    ·rename_i out hout
     simp only [Option.some.injEq,Prod.mk.injEq] at h
     obtain ⟨rfl,rfl,rfl⟩:=h
     obtain ⟨ie,d,h1,h2,h3,h4,h5⟩:=fA hte
     obtain ⟨zv,hz2,hz3⟩:∃ z,ie.zero=some z∧z.cells.toList=te.zero:=by
      cases hi:ie.zero with
      | none=>rw [hi] at h4;rw [h4] at hz;simp at hz;omega
      | some z=>exact ⟨z,rfl,by rw [h4,hi]⟩
     have hies:ie.size=k:=by rw [h3,hsz]
     have hzs:zv.cells.size=k:=by rw [← hz,← hz3];simp
     have hrange:=oI zv.cells (by omega) len
     rw [hzs,hz3] at hrange
     obtain ⟨vout,a1,a2,a3⟩:=iJ (vcells:=(Array.range (len*k)).map (zv.cells[· % k]!)) hout
      (by rw [hrange];exact jE (uR _ hone _)) hi hv
     have hrun:=run_buildSlice (P:=P) w T et len vparts vout ie zv hT h1 hz2 (by rw [hies];omega) (by rw [hies];exact hlen) (by rw [hies,hzs];exact a1)
     obtain ⟨e',b1,b2,b3,_⟩:=hr.mem.newBox et out vout (jM hout (jN _ _ _) hs) a2
     exact ⟨_,_,e',hrun,b1,b2,AV.slb_holds.2 (by rw [b3]),by simp [AV.slb,AV.sco,AV.scos]⟩
    ·cases h
   ·cases h
  ·cases h
 ·cases h
theorem aA7 (hF:Free F) {o:Oper} {rest:List Oper} {st:St} {Q:St→Prop} {T:TypeId} {len:Nat} {parts:Array (Nat×Operand)} {av:AV} {B':List Box} {V':List Vec} (hop:o.op=.buildSlice T len parts)
  (hb:lR P st T len (parts.toList.map fun p=>(p.1,st.ev p.2))=some (av,B',V')) (h:cK F n P ops rest (st.put o.dst av B' V') Q):FD F n P ops o rest st Q:=by
 intro n0 w0 e a w Qr hr hk
 have hes:=hr.evs (parts.toList.map (·.2))
 obtain ⟨v,w',e',g1,g2,g3,g4,g5⟩:=xV hb hr (vparts:=(parts.toList.map fun p=>(p.1,a.eval p.2)).toArray) (by simp [List.map_map,Function.comp_def]) (by simpa [List.map_map,Function.comp_def] using hes.1) (by simpa [List.map_map,Function.comp_def] using hes.2)
 refine ⟨fun f _=>hF.fn f,?_⟩
 have hrun:(execOp a.eval o).run P w=.ok (.value v) w':=by
  simp only [execOp,hop]
  have:(parts.map fun x=>(x.1,a.eval x.2))=(parts.toList.map fun p=>(p.1,a.eval p.2)).toArray:=by
   apply Array.ext'
   simp
  simp [this,g1]
 rw [Oper.semAt_plain F _ _ (by intro c hc;rw [hc] at hop;cases hop),hrun]
 have hr':=hr.put g2 g3 g4 g5 o.dst
 exact h n0 w0 e' _ w' Qr hr' fun e'' st' a' w'' hq hrel hdf hx=>hk e'' st' a' w'' hq hrel (by rw [hdf];cases o.dst <;> rfl) (g3.trans hx)
theorem CallP.drop1 {f:FuncId} {args:List AV} {B:List Box} {V:List Vec} {k:Nat} {b0 b1:Box} (hb:∀ nB vs,AV.scos nB vs args→AV.scos nB vs b1.cs)
  (h:CallP P f args B V fun r B' V'=>r=.slb k (B.length+1) 0∧B'=B++[b0,b1]∧V'=V):CallP P f args B V fun r B' V'=>r=.slb k B.length 0∧B'=B++[b1]∧V'=V:=by
 intro F n hF hro n0 w0 e w vs hm ha hs
 refine CallsIn.mono (h F n hF hro n0 w0 e w vs hm ha hs) ?_
 rintro en w' ⟨e',B',V',r,v,rfl,⟨rfl,rfl,rfl⟩,h1,h2,h3,h4⟩
 have hv:=AV.slb_holds.1 h3
 let e2:Env:={ e' with ρ:=fun i=>if i=B.length then e'.ρ (B.length+1) else e'.ρ i }
 let up:Nat→Nat:=fun i=>if i=B.length then B.length+1 else i
 have hget:∀ (i:Nat) (b:Box),(B++[b1])[i]? = some b→(B++[b0,b1])[up i]? = some b∧e2.ρ i=e'.ρ (up i)∧AV.scos B.length (vers V') b.cs:=by
  intro i b hi
  rcases Nat.lt_trichotomy i B.length with hl | hl | hl
  ·rw [List.getElem?_append_left hl] at hi
   refine ⟨?_,?_,hm.boxsc i b hi⟩
   ·simp only [up,if_neg (Nat.ne_of_lt hl)]
    rw [List.getElem?_append_left hl];exact hi
   ·simp only [e2,up,if_neg (Nat.ne_of_lt hl)]
  ·subst hl
   simp only [List.getElem?_concat_length,Option.some.injEq] at hi
   subst hi
   refine ⟨by simp [up],by simp [e2,up],hb _ _ hs⟩
  ·rw [List.getElem?_eq_none (by simp;omega)] at hi;cases hi
 have hinj:∀ i j,up i=up j→i<B.length+1→j<B.length+1→i=j:=by
  intro i j hij h1 h2
  simp only [up] at hij
  split at hij <;> split at hij <;> omega
 have hlt:∀ {i:Nat} {b:Box},(B++[b1])[i]? = some b→i<B.length+1:=by
  intro i b hi
  have:=(List.getElem?_eq_some_iff.1 hi).1
  simpa using this
 have hx0:Ext e' w' B.length (vers V') (kss V') e2 w' B.length (vers V') (kss V'):=
  ⟨RO.refl _ _,fun i hi=>by simp [e2,Nat.ne_of_lt hi],fun _ _ _ _=>rfl,Nat.le_refl _,Nat.le_refl _,fun _ _=>Nat.le_refl _,fun _ _=>rfl,Nat.le_refl _,fun _ h=>.inl h,rfl,fun _=>rfl,rfl⟩
 have hm2:Mem n0 w0 e2 (B++[b1]) V' w':=by
  refine ⟨?_,?_,?_,?_,h1.vec,h1.vecS,?_,h1.vecinj,h1.ro,h1.below,h1.base,h1.bl,?_⟩
  ·intro i b hi hl
   obtain ⟨q1,q2,q3⟩:=hget i b hi
   obtain ⟨us,g1,g2⟩:=h1.box _ b q1 hl
   exact ⟨us,by rw [q2];exact g1,AV.all.mono hx0 _ _ q3 g2⟩
  ·intro i b hi
   obtain ⟨q1,q2,q3⟩:=hget i b hi
   exact AV.scos.mono (by simp) (Nat.le_refl _) (fun _ _=>Nat.le_refl _) _ q3
  ·intro i b hi hl
   obtain ⟨q1,q2,q3⟩:=hget i b hi
   rw [q2]
   exact h1.boxlo _ b q1 hl
  ·intro i j b b' hi hj hl hl' he
   obtain ⟨q1,q2,_⟩:=hget i b hi
   obtain ⟨p1,p2,_⟩:=hget j b' hj
   rw [q2,p2] at he
   exact hinj i j (h1.boxinj _ _ b b' q1 p1 hl hl' he) (hlt hi) (hlt hj)
  ·intro i x j b g hi hl hj hbl hg
   obtain ⟨q1,q2,_⟩:=hget j b hj
   rw [q2]
   exact h1.vecbox i x _ b g hi hl q1 hbl hg
  ·refine ⟨h1.hid.obj,fun i b hi hl=>?_,h1.hid.vec,h1.hid.gh,h1.hid.own⟩
   obtain ⟨q1,q2,_⟩:=hget i b hi
   rw [q2]
   exact h1.hid.box _ b q1 hl
 refine ⟨e2,B++[b1],V',_,v,rfl,⟨rfl,rfl,rfl⟩,hm2,?_,?_,by simp [AV.slb,AV.sco,AV.scos]⟩
 ·exact ⟨h2.ro,fun i hi=>by rw [show e2.ρ i=e'.ρ i by simp [e2,Nat.ne_of_lt hi]];exact h2.ρ i hi,h2.hdr,by simp,h2.nV,h2.verle,h2.kseq,h2.sz,h2.snew,h2.be,h2.he,h2.ye⟩
 ·exact AV.slb_holds.2 (by rw [hv];simp [e2])
theorem stepW (hF:Free F) {o:Oper} {rest:List Oper} {st st':St} {Q:St→Prop} {av:AV} {B':List Box} {V':List Vec} (hg:o.guard=none) (hop:bC P st o.op=some (av,B',V')) (hst:st.put o.dst av B' V'=st')
  (h:cK F n P ops rest st' Q):cK F n P ops (o::rest) st Q:=CB hg (WK hF hop (by rw [hst];exact h))
theorem aFq (hF:Free F) {o:Oper} {rest:List Oper} {st st':St} {Q:St→Prop} {T:TypeId} {len:Nat} {parts:Array (Nat×Operand)} {av:AV} {B':List Box} {V':List Vec} (hg:o.guard=none) (hop:o.op=.buildSlice T len parts)
  (hb:lR P st T len (parts.toList.map fun p=>(p.1,st.ev p.2))=some (av,B',V')) (hst:st.put o.dst av B' V'=st') (h:cK F n P ops rest st' Q):cK F n P ops (o::rest) st Q:=
 CB hg (aA7 hF hop hb (by rw [hst];exact h))
end
end Go.Sx
namespace Go.Sx
instance ghost0:Ghost:=⟨fun _ _=>True,0,default⟩
def upto (a b:Int):List Int:=(List.range (b+1 - a).toNat).map fun i=>a+(i:Nat)
theorem aA8 {a b:Int} (h:b<a):upto a b=[]:=by
 have:(b+1 - a).toNat=0:=by omega
 simp [upto,this]
theorem XY {a b:Int} (h:a≤b):upto a b=a::upto (a+1) b:=by
 have:(b+1 - a).toNat=(b+1 - (a+1)).toNat+1:=by omega
 simp only [upto,this,List.range_succ_eq_map,List.map_cons,List.map_map]
 congr 1
 ·simp
 ·refine List.map_congr_left fun i _=>?_
  simp only [Function.comp_apply]
  omega
theorem upto_length (a b:Int):(upto a b).length=(b+1 - a).toNat:=by simp [upto]
theorem DA {a b x:Int}:x∈upto a b↔a≤x∧x≤b:=by
 simp only [upto,List.mem_map,List.mem_range]
 constructor
 ·rintro ⟨i,hi,rfl⟩;omega
 ·rintro ⟨h1,h2⟩;exact ⟨(x - a).toNat,by omega,by omega⟩
end Go.Sx
namespace Go.Sx
open Go
@[simp] theorem aIw (n:Int):cI (ci n)=n:=rfl
@[simp] theorem aFr (b:Bool):cB (cb b)=b:=rfl
@[simp] theorem aHh (k:Nat) (es:List (List CV)):cR (.row k es)=es:=rfl
@[simp] theorem aZ (n:Int) (l:List CV):gi (ci n::l) 0=n:=rfl
@[simp] theorem dE (c:CV) (l:List CV) (n:Nat):gi (c::l) (n+1)=gi l n:=rfl
@[simp] theorem cY (b:Bool) (l:List CV):gb (cb b::l) 0=b:=rfl
@[simp] theorem aEI (c:CV) (l:List CV) (n:Nat):gb (c::l) (n+1)=gb l n:=rfl
@[simp] theorem bN (k:Nat) (es:List (List CV)) (l:List CV):gr (.row k es::l) 0=es:=rfl
@[simp] theorem dY (c:CV) (l:List CV) (n:Nat):gr (c::l) (n+1)=gr l n:=rfl
@[simp] theorem aFs (v:List CV) (i:Nat):cis v i 0=[]:=rfl
@[simp] theorem aFt (v:List CV) (i n:Nat):cis v i (n+1)=ci (gi v i)::cis v (i+1) n:=rfl
@[simp] theorem aIx:cat []=[]:=rfl
@[simp] theorem aFu (x:List CV):cat [x]=x:=rfl
@[simp] theorem aFv (x y:List CV) (l:List (List CV)):cat (x::y::l)=x++cat (y::l):=rfl
@[simp] theorem kU (b:Bool) (x y:Option Ou):aB b x y=if b=true then x else y:=by cases b <;> rfl
@[simp] theorem aE (x:Option Ou):chk true x=x:=rfl
theorem aEJ {b:Bool} {x:Option Ou} (h:b=true):chk b x=x:=by rw [h];rfl
@[simp] theorem aD (vs:List CV) (K:List CV→Option Ou):aC (some vs) K=K vs:=rfl
@[simp] theorem bL (vs:List CV) (K:List CV→Option Ou):dD (some (.ret vs)) K=K vs:=rfl
@[simp] theorem cJ (vs:List CV) (K:List CV→Option Ou):aJ (some (.nx vs)) K=K vs:=rfl
@[simp] theorem aFw (vs:List CV) (K:List CV→Option Ou):aJ (some (.ret vs)) K=some (.ret vs):=rfl
@[simp] theorem aG6 (i:Nat) (vs:List CV) (K:List CV→Option Ou):aJ (some (.br i vs)) K=some (.br i vs):=rfl
@[simp] theorem aG7 (i:Nat) (vs:List CV) (K:List CV→Option Ou):cA i (some (.nx vs)) K=some (.nx vs):=rfl
@[simp] theorem aA9 (i:Nat) (vs:List CV) (K:List CV→Option Ou):cA i (some (.ret vs)) K=some (.ret vs):=rfl
@[simp] theorem cD (i:Nat) (vs:List CV) (K:List CV→Option Ou):cA i (some (.br i vs)) K=K vs:=by simp [cA]
@[simp] theorem DB (vs:List CV):aO (some (.ret vs))=some vs:=rfl
@[simp] theorem aFx (a:Option Ou):eqO a a=a:=aAn a
theorem UQ {es:List (List CV)} {kt kf:Option Ou} (h:es=[]→kt=kf):tP es kt kf=kf:=by
 cases es with
 | nil=>simp [tP,h rfl]
 | cons=>rfl
@[simp] theorem vI (a b:Int):(a == b)=decide (a=b):=rfl
@[simp] theorem vJ (a b:Int):(a != b)=!decide (a=b):=rfl
section
variable (c:Prop) [Decidable c]
@[simp] theorem aHi (xs ys:List CV):(if c then some (Ou.nx xs) else some (Ou.nx ys))=some (Ou.nx (if c then xs else ys)):=by split <;> rfl
@[simp] theorem aG8 (xs ys:List CV):(if c then some (Ou.ret xs) else some (Ou.ret ys))=some (Ou.ret (if c then xs else ys)):=by split <;> rfl
@[simp] theorem aHj (i:Nat) (xs ys:List CV):(if c then some (Ou.br i xs) else some (Ou.br i ys))=some (Ou.br i (if c then xs else ys)):=by split <;> rfl
@[simp] theorem XZ (a b:CV) (az bs:List CV):(if c then a::az else b::bs)=(if c then a else b)::(if c then az else bs):=by split <;> rfl
@[simp] theorem aEK (a b:Int):(if c then ci a else ci b)=ci (if c then a else b):=by split <;> rfl
@[simp] theorem aHk (a b:Bool):(if c then cb a else cb b)=cb (if c then a else b):=by split <;> rfl
@[simp] theorem aG9 (k:Nat) (a b:List (List CV)):(if c then CV.row k a else CV.row k b)=CV.row k (if c then a else b):=by split <;> rfl
theorem aBa (x y:Option Ou) (K:List CV→Option Ou):aJ (if c then x else y) K=if c then aJ x K else aJ y K:=by split <;> rfl
theorem aBb (i:Nat) (x y:Option Ou) (K:List CV→Option Ou):cA i (if c then x else y) K=if c then cA i x K else cA i y K:=by split <;> rfl
theorem kD (x y:Option Ou):aO (if c then x else y)=if c then aO x else aO y:=by split <;> rfl
end
@[simp] theorem mX {A B:Type} (f:A→B) (l:List A):il (l.map f)=l.length:=by simp [il]
theorem xW {A:Type} (l:List A):il l=l.length:=rfl
theorem aR {A:Type} {f:A→List CV} {l:List A} {i:Nat} (h:i<l.length):inb (i:Int) (l.map f)=true:=by simp [inb,h]
theorem bK {A:Type} {f:A→List CV} {l:List A} {i:Nat} (h:i<l.length):el (l.map f) (i:Int)=f l[i]:=by simp [el,h]
theorem nL {A:Type} {f:A→List CV} {l:List A} (h:0<l.length):inb 0 (l.map f)=true:=aR (i:=0) h
theorem rW {A:Type} {f:A→List CV} {l:List A} (h:0<l.length):el (l.map f) 0=f l[0]:=bK (i:=0) h
theorem bE {x:Int} (h:-9223372036854775808≤x) (h':x<9223372036854775808):wr x=x:=by
 simp only [wr,IntKind.wrap_i64];omega
theorem aQ {x:Nat} (h:x<9223372036854775807):wr ((x:Int)+1)=((x+1:Nat):Int):=by rw [bE] <;> omega
theorem jT {x:Nat} (h0:0<x) (h:x<9223372036854775807):wr ((x:Int) - 1)=((x - 1:Nat):Int):=by rw [bE] <;> omega
theorem dZ {n k by_:Nat} (h:(n+k)*by_≤140737488355328) (h':n+k≤9223372036854775807):cX n k by_=true:=by
 have e:maxLen=9223372036854775807:=by decide
 simp [cX,h,e,h']
@[simp] theorem vK (k:Nat) (l:List CV):aS k 0 l=[]:=rfl
@[simp] theorem vL (k n:Nat) (l:List CV):aS k (n+1) l=l.take k::aS k n (l.drop k):=rfl
@[simp] theorem aFy (cs:List CV) (o:Nat):oks [] cs o=true:=rfl
@[simp] theorem HD (n:Int):Lf.ok li (ci n)=true:=rfl
@[simp] theorem aIy (b:Bool):Lf.ok lb (cb b)=true:=rfl
@[simp] theorem vM (ls:List Lf) (c:CV) (cs:List CV) (o:Nat):oks ls (c::cs) (o+1)=oks ls cs o:=by
  induction ls generalizing o with
  | nil=>rfl
  | cons l ls ih=>simp only [oks,List.getElem?_cons_succ,ih]
@[simp] theorem YA (l:Lf) (ls:List Lf) (c:CV) (cs:List CV):oks (l::ls) (c::cs) 0=(l.ok c&&oks ls cs 0):=by
  simp only [oks,List.getElem?_cons_zero,vM ls c cs 0]
def kE (cs:List CV):Bool:=cs.all fun c=>Lf.ok (.int .i64) c
theorem nM {cs:List CV}:∀ {n o:Nat},kE cs=true→o+n≤cs.length→oks (List.replicate n li) cs o=true
 | 0,o,_,_=>by simp
 | n+1,o,h,hn=>by
  have ho:o<cs.length:=by omega
  have h1:Lf.ok (.int .i64) cs[o]=true:=List.all_eq_true.1 h _ (List.getElem_mem ho)
  simp only [List.replicate_succ,oks,List.getElem?_eq_getElem ho,h1,Bool.true_and]
  exact nM h (by omega)
theorem NQ {cs:List CV} {o:Nat} (h:kE cs=true) (hn:o<cs.length):oks [li] cs o=true:=nM (n:=1) h hn
theorem eA {step:List CV→Option Ou} {vs vs':List CV} (h:step vs=some (.nx vs')):aG step vs=aG step vs':=by rw [NF,h]
theorem bS {step:List CV→Option Ou} {vs:List CV} {r:Option Ou} (h:step vs=r) (hr:∀ l,r≠some (.nx l)):aG step vs=r:=by
 rw [NF,h]
 match r,hr with
 | none,_=>rfl
 | some (.nx l),hr=>exact absurd rfl (hr l)
 | some (.br _ _),_=>rfl
 | some (.ret _),_=>rfl
theorem BF {step:List CV→Option Ou} (T:Nat→List CV):∀ (n:Nat),(∀ i,i<n→step (T i)=some (.nx (T (i+1))))→aG step (T 0)=aG step (T n)
 | 0,_=>rfl
 | n+1,h=>by rw [BF T n fun i hi=>h i (by omega)];exact eA (h n (by omega))
theorem RX {A S:Type} {step:List CV→Option Ou} (l:List A) (E:Nat→S→List CV) (f:S→A→S) (P:S→Prop) (b:Nat) (G:S→List CV) (s:S) {vs:List CV} (hv:vs=E 0 s) (h0:P s)
  (hs:∀ i (h:i<l.length) s,P s→step (E i s)=some (.nx (E (i+1) (f s l[i])))∧P (f s l[i])) (he:∀ s,step (E l.length s)=some (.br b (G s))) :
  aG step vs=some (.br b (G (l.foldl f s)))∧P (l.foldl f s):=by
 subst hv
 have key:∀ n,n≤l.length→aG step (E 0 s)=aG step (E n ((l.take n).foldl f s))∧P ((l.take n).foldl f s):=by
  intro n
  induction n with
  | zero=>intro _;exact ⟨by simp,by simpa using h0⟩
  | succ n ih =>
   intro hn
   obtain ⟨h1,h2⟩:=ih (by omega)
   obtain ⟨h3,h4⟩:=hs n (by omega) _ h2
   have e:(l.take (n+1)).foldl f s=f ((l.take n).foldl f s) l[n]:=by
    rw [← List.take_append_getElem (show n<l.length by omega),List.foldl_append];rfl
   rw [e]
   exact ⟨h1.trans (eA h3),h4⟩
 obtain ⟨h1,h2⟩:=key l.length (Nat.le_refl _)
 rw [List.take_length] at h1 h2
 exact ⟨h1.trans (bS (he _) (by simp)),h2⟩
theorem jG {A S:Type} {step:List CV→Option Ou} (l:List A) (E:Nat→S→List CV) (f:S→A→S) (b:Nat) (G:S→List CV) (s:S) {vs:List CV} (hv:vs=E 0 s)
  (hs:∀ i (h:i<l.length) s,step (E i s)=some (.nx (E (i+1) (f s l[i])))) (he:∀ s,step (E l.length s)=some (.br b (G s))) :
  aG step vs=some (.br b (G (l.foldl f s))):=
 (RX l E f (fun _=>True) b G s hv trivial (fun i h s _=>⟨hs i h s,trivial⟩) he).1
theorem hZ {step:List CV→Option Ou} (n:Nat) (T:Nat→List CV) (p:Nat→Bool) (R:Nat→Option Ou) (X:Option Ou) {vs:List CV} (hv:vs=T 0) (hR:∀ i,i<n→p i=true→∀ l,R i≠some (.nx l)) (hX:∀ l,X≠some (.nx l))
  (h1:∀ i,i<n→p i=false→step (T i)=some (.nx (T (i+1)))) (h2:∀ i,i<n→p i=true→step (T i)=R i) (h3:step (T n)=X) :
  aG step vs=match (List.range n).find? p with
   | some i=>R i
   | none=>X:=by
 subst hv
 cases hf:(List.range n).find? p with
 | none =>
  rw [List.find?_eq_none] at hf
  rw [BF T n fun i hi=>h1 i hi (by simpa using hf i (by simpa using hi))]
  exact bS h3 hX
 | some i =>
  rw [List.find?_range_eq_some] at hf
  obtain ⟨hp,hi,hq⟩:=hf
  have hi':i<n:=by simpa using hi
  rw [BF T i fun j hj=>h1 j (by omega) (by simpa using hq j hj)]
  exact bS (h2 i hi' hp) (hR i hi' hp)
theorem tV {A:Type} {step:List CV→Option Ou} (p:A→Bool) (R:A→Option Ou) (X:Option Ou):∀ (m:List A) (T:Nat→List CV) {vs:List CV},vs=T 0→(∀ x l,p x=true→R x≠some (.nx l))→(∀ l,X≠some (.nx l)) →
  (∀ i (h:i<m.length),p m[i]=false→step (T i)=some (.nx (T (i+1))))→(∀ i (h:i<m.length),p m[i]=true→step (T i)=R m[i])→step (T m.length)=X →
  aG step vs=match m.find? p with
   | some x=>R x
   | none=>X
 | [],T,vs,hv,hR,hX,h1,h2,h3=>by subst hv;exact bS h3 hX
 | a::m,T,vs,hv,hR,hX,h1,h2,h3=>by
  subst hv
  cases hp:p a with
  | true=>rw [List.find?_cons_of_pos hp];exact bS (h2 0 (by simp) hp) fun l=>hR a l hp
  | false =>
   rw [List.find?_cons_of_neg (by simp [hp]),eA (h1 0 (by simp) hp)]
   exact tV p R X m (fun i=>T (i+1)) rfl hR hX (fun i h hq=>h1 (i+1) (by simpa using h) hq) (fun i h hq=>h2 (i+1) (by simpa using h) hq) h3
theorem DC {A:Type} (k:Nat) (cv:A→List CV) (keep:A→Bool) (l:List A) {step:List CV→Option Ou} (b:Nat)
  (h1:∀ (i j:Nat) (az:List A) (hj:j<az.length),i<j→az.length=l.length→az[j]∈l→step [ci i,ci j,.row k (az.map cv)]=some (.nx (if keep az[j]=true then [ci (i+1:Nat),ci (j+1:Nat),.row k ((az.set i az[j]).map cv)] else [ci i,ci (j+1:Nat),.row k (az.map cv)])))
  (h2:∀ (i:Nat) (az:List A),az.length=l.length→step [ci i,ci az.length,.row k (az.map cv)]=some (.br b [ci i,.row k (az.map cv)])) :
  ∀ (m i j:Nat) (az:List A),j+m=l.length→i<j→az.length=l.length→az.take i=(l.take j).filter keep→az.drop j=l.drop j →
  ∃ (az':List A) (i':Nat),aG step [ci i,ci j,.row k (az.map cv)]=some (.br b [ci i',.row k (az'.map cv)])∧az'.length=l.length∧az'.take i'=l.filter keep∧i'≤l.length
 | 0,i,j,az,hm,hij,hl,ht,hd=>by
  have hj:j=az.length:=by omega
  refine ⟨az,i,?_,hl,?_,by omega⟩
  ·rw [hj];exact bS (h2 i az hl) (by simp)
  ·rw [ht,hj,hl,List.take_length]
 | m+1,i,j,az,hm,hij,hl,ht,hd=>by
  have hj:j<az.length:=by omega
  have hjl:j<l.length:=by omega
  have he:az[j]=l[j]:=by
   have h3:=congrArg (fun x=>x[0]?) hd
   simpa [List.getElem?_drop,hj,hjl] using h3
  have hdj:az.drop (j+1)=l.drop (j+1):=by
   have h3:=congrArg (List.drop 1) hd
   simpa [List.drop_drop,Nat.add_comm] using h3
  have htj:l.take (j+1)=l.take j++[l[j]]:=(List.take_append_getElem hjl).symm
  rw [eA (h1 i j az hj hij hl (he▸List.getElem_mem hjl))]
  cases hk:keep az[j] with
  | true =>
   simp only [if_true]
   refine DC k cv keep l b h1 h2 m (i+1) (j+1) _ (by omega) (by omega) (by simpa using hl) ?_ ?_
   ·have hi:i<(az.set i az[j]).length:=by simp;omega
    rw [htj,List.filter_append,← ht,← he,← List.take_append_getElem hi,List.take_set_of_le (Nat.le_refl _)]
    simp [hk]
   ·rw [List.drop_set_of_lt (by omega)];exact hdj
  | false =>
   simp only [Bool.false_eq_true,if_false]
   refine DC k cv keep l b h1 h2 m i (j+1) _ (by omega) (by omega) hl ?_ hdj
   rw [htj,List.filter_append,← ht,← he]
   simp [hk]
theorem rX {A:Type} (k by_:Nat) (cv:A→List CV) (l:List A) (h:l.length*by_≤140737488355328) (h':l.length≤9223372036854775807) :
  tP (l.map cv) (some (.ret [.row k []])) (chk (cX 0 (l.map cv).length by_) (some (.ret [.row k (l.map cv)])))=some (.ret [.row k (l.map cv)]):=by
 have hf:cX 0 (l.map cv).length by_=true:=dZ (by simpa using h) (by simpa using h')
 rw [UQ,hf,aE]
 intro he;rw [hf,aE,he]
theorem nN {A:Type} {step:List CV→Option Ou} (p:A→Bool):∀ (m:List A) (R:Nat→Option Ou) (X:Option Ou) (T:Nat→List CV) {vs:List CV},vs=T 0→(∀ i l,R i≠some (.nx l))→(∀ l,X≠some (.nx l)) →
  (∀ i (h:i<m.length),p m[i]=false→step (T i)=some (.nx (T (i+1))))→(∀ i (h:i<m.length),p m[i]=true→step (T i)=R i)→step (T m.length)=X →
  aG step vs=match m.findIdx? p with
   | some i=>R i
   | none=>X
 | [],R,X,T,vs,hv,hR,hX,h1,h2,h3=>by subst hv;exact bS h3 hX
 | a::m,R,X,T,vs,hv,hR,hX,h1,h2,h3=>by
  subst hv
  rw [List.findIdx?_cons]
  cases hp:p a with
  | true=>simp only [if_true];exact bS (h2 0 (by simp) hp) fun l=>hR 0 l
  | false =>
   rw [eA (h1 0 (by simp) hp),nN p m (fun i=>R (i+1)) X (fun i=>T (i+1)) rfl (fun i l=>hR (i+1) l) hX (fun i h hq=>h1 (i+1) (by simpa using h) hq) (fun i h hq=>h2 (i+1) (by simpa using h) hq) h3]
   simp only [Bool.false_eq_true,if_false]
   cases m.findIdx? p <;> rfl
noncomputable def BG (call:List CV→Option (List CV)) (k:Nat):List CV→Option Ou:=fun v2 =>
      aB (decide ((gi v2 1)<(il (gr v2 2))))
       (chk (inb (gi v2 1) (gr v2 2)) <|
       chk (decide ((Int.toNat (gi v2 1))<(List.length (gr v2 2)))) <|
       chk (oks (List.replicate k li) (el (gr v2 2) (gi v2 1)) 0) <|
       aC (call (cis (el (gr v2 2) (gi v2 1)) 0 k)) fun v3 =>
       aJ (aB (!(gb v3 0))
           (chk (inb (gi v2 0) (gr v2 2)) <|
           chk ((decide ((Int.toNat (gi v2 0))<(List.length (gr v2 2))))&&(decide (k≤k))) <|
           some (.nx [ci (wr ((gi v2 0)+1)),CV.row k (List.set (gr v2 2) (Int.toNat (gi v2 0)) (spl (el (gr v2 2) (gi v2 0)) 0 (cis (el (gr v2 2) (gi v2 1)) 0 k)))]))
           (some (.nx [ci (gi v2 0),CV.row k (gr v2 2)]))) fun v4 =>
       some (.nx [ci (gi v4 0),ci (wr ((gi v2 1)+1)),CV.row k (gr v4 1)]))
       (some (.br 0 [ci (gi v2 0),CV.row k (gr v2 2)]))
noncomputable def YB (ix:Option (List CV)) (call:List CV→Option (List CV)) (k:Nat) (z:List CV) (es:List (List CV)):Option Ou:=
 aC ix fun v1 =>
   aB ((gi v1 0) == (-1))
    (some (.ret [CV.row k es]))
    (cA 0 (aG (BG call k) [ci (gi v1 0),ci (wr ((gi v1 0)+1)),CV.row k es]) fun v2 =>
    chk ((decide (0≤(gi v2 0)))&&(decide ((gi v2 0)≤(il (gr v2 1))))) <|
    chk ((decide (0≤(gi v2 0)))&&(decide ((gi v2 0)≤(il ((List.take (Int.toNat (gi v2 0)) (gr v2 1))++(List.replicate ((List.length (gr v2 1)) - (Int.toNat (gi v2 0))) z)))))) <|
    some (.ret ([CV.row k (List.take (Int.toNat (gi v2 0)) ((List.take (Int.toNat (gi v2 0)) (gr v2 1))++(List.replicate ((List.length (gr v2 1)) - (Int.toNat (gi v2 0))) z)))])))
def tW (o:Option Nat):Int:=match o with
 | some i=>i
 | none=>-1
theorem BH {A:Type} (k:Nat) (cv:A→List CV) (z:List CV) (hk:∀ a,(cv a).length=k) (hoks:∀ a,oks (List.replicate k li) (cv a) 0=true) (hcis:∀ a,cis (cv a) 0 k=cv a) (del:A→Bool) (l:List A) (hl:l.length<9223372036854775807)
  {ix:Option (List CV)} {call:List CV→Option (List CV)} (hix:ix=some [ci (tW (l.findIdx? del))]) (hc:∀ a∈l,call (cv a)=some [cb (del a)]) :
  YB ix call k z (l.map cv)=some (.ret [.row k ((l.filter fun a=>!del a).map cv)]):=by
 subst hix
 simp only [YB,aD,aZ]
 cases hf:l.findIdx? del with
 | none =>
  rw [List.findIdx?_eq_none_iff] at hf
  have:l.filter (fun a=>!del a)=l:=List.filter_eq_self.2 fun a ha=>by simp [hf a ha]
  simp [tW,this]
 | some i0 =>
  obtain ⟨hi,hd,hb⟩:=List.findIdx?_eq_some_iff_getElem.1 hf
  have hw:=aQ (show i0<9223372036854775807 by omega)
  simp only [tW,vI,show ¬((i0:Int)=-1) by omega,decide_false,kU,Bool.false_eq_true,if_false,hw]
  have hpre:l.take i0=(l.take (i0+1)).filter fun a=>!del a:=by
   rw [← List.take_append_getElem hi,List.filter_append]
   have h1:(l.take i0).filter (fun a=>!del a)=l.take i0:=List.filter_eq_self.2 fun a ha=>by
    obtain ⟨j,hj,rfl⟩:=List.mem_iff_getElem.1 ha
    rw [List.length_take] at hj
    have:=hb j (by omega)
    simpa using this
   rw [h1];simp [hd]
  obtain ⟨az,i',h1,h2,h3,h4⟩:=DC (step:=BG call k) k cv (fun a=>!del a) l 0 (fun i j az hj hij hl' hm=>by
    have hi:i<az.length:=by omega
    have hwi:=aQ (show i<9223372036854775807 by omega)
    have hwj:=aQ (show j<9223372036854775807 by omega)
    have hsp:spl (cv az[i]) 0 (cv az[j])=cv az[j]:=by simp [spl,hk]
    have hjj:(j:Int)<az.length:=by omega
    have hin:=aR (f:=cv) hj
    have hin':=aR (f:=cv) hi
    have hel:=bK (f:=cv) hj
    have hel':=bK (f:=cv) hi
    simp only [BG,aZ,dE,bN,dY,mX,hjj,decide_true,kU,if_true,hin,hin',hel,hel',hoks,hcis,hc _ hm,aE,aD,cY,Int.toNat_natCast,List.length_map,hj,hi,Nat.le_refl,Bool.and_self,hwi,hwj,hsp]
    cases del az[j] <;> simp [List.map_set]) (fun i az hl'=>by
    simp only [BG,aZ,dE,bN,dY,mX,Int.lt_irrefl,decide_false,kU,Bool.false_eq_true,if_false]) (l.length - (i0+1)) i0 (i0+1) l (by omega) (by omega) rfl hpre rfl
  simp only [h1,cD,aZ,bN,dY,mX,Int.toNat_natCast]
  have e1:(i':Int)≤az.length:=by omega
  have e2:((List.take i' (az.map cv))++List.replicate ((az.map cv).length - i') z).length=az.length:=by simp;omega
  simp only [il,e2,Int.natCast_nonneg,e1,decide_true,Bool.and_self,aE,Int.ofNat_eq_natCast]
  have e3:List.take i' ((List.take i' (az.map cv))++List.replicate ((az.map cv).length - i') z)=((l.filter fun a=>!del a).map cv):=by
   rw [List.take_append_of_le_length (by simp;omega),List.take_take,Nat.min_self,← List.map_take,h3]
  rw [e3]
theorem UR {step:List CV→Option Ou} (n:Nat) (T:Nat→List CV) (r:Option Ou) {vs:List CV} (hv:vs=T 0) (hs:∀ i,i<n→step (T i)=some (.nx (T (i+1)))) (he:step (T n)=r) (hr:∀ l,r≠some (.nx l)):aG step vs=r:=by
 subst hv
 rw [BF T n hs]
 exact bS he hr
theorem YC {A:Type} {l:List A} {i:Nat} (h:i<l.length):l.take (i+1)=l.take i++[l[i]]:=(List.take_append_getElem h).symm
theorem vN {A:Type} {P:List A→Prop} (h0:P []) (h1:∀ l a,P l→P (l++[a])):∀ l,P l:=by
 intro l
 have key:∀ (m:List A),P m.reverse:=by
  intro m
  induction m with
  | nil=>exact h0
  | cons a m ih=>rw [List.reverse_cons];exact h1 _ _ ih
 have:=key l.reverse
 rwa [List.reverse_reverse] at this
theorem qI {S:Type} {step:Int→List CV→Option Ou} (E:S→List CV) (hs:∀ x s,(∃ s',step x (E s)=some (.nx (E s')))∨∃ r,step x (E s)=some r∧∀ l,r≠.nx l):∀ (l:List Int) (s:S),cU step l (E s)≠none
 | [],s=>by simp [cU]
 | x::l,s=>by
  rcases hs x s with ⟨s',h⟩ | ⟨r,h,hr⟩
  ·simp only [cU,h];exact qI E hs l s'
  ·simp only [cU,h]
   cases r with
   | nx l=>exact absurd rfl (hr l)
   | _=>simp
theorem HE {xs:List Int} {step:Int→List CV→Option Ou} {vs:List CV} (h:∀ l,cU step l vs≠none):oN (some xs) step vs=cU step xs vs:=by
 simp only [oN];rw [if_pos h]
theorem zD {S:Type} {step:Int→List CV→Option Ou} (E:S→List CV) (f:S→Int→S) (hs:∀ x s,step x (E s)=some (.nx (E (f s x)))):∀ (xs:List Int) (s:S),cU step xs (E s)=some (.nx (E (xs.foldl f s)))
 | [],s=>rfl
 | x::xs,s=>by simp only [cU,hs,List.foldl_cons];exact zD E f hs xs _
theorem RY {S:Type} {step:Int→List CV→Option Ou} (E:S→List CV) (f:S→Int→S) (s:S) {xs:List Int} {vs:List CV} (hv:vs=E s) (hs:∀ x s,step x (E s)=some (.nx (E (f s x)))):oN (some xs) step vs=some (.nx (E (xs.foldl f s))):=by
 subst hv
 rw [HE (qI E (fun x s=>.inl ⟨_,hs x s⟩) · s),zD E f hs]
theorem aEL (c d:Bool) (K:List CV→Option Ou):aJ (aB c (some (.nx [cb true])) (some (.nx [cb d]))) K=K [cb (c || d)]:=by cases c <;> rfl
theorem US (c d:Bool) (K:List CV→Option Ou):aJ (aB c (some (.nx [cb d])) (some (.nx [cb false]))) K=K [cb (c&&d)]:=by cases c <;> rfl
theorem aBc (c:Bool) (x y:List CV) (K:List CV→Option Ou):aJ (aB c (some (.nx x)) (some (.nx y))) K=K (if c=true then x else y):=by cases c <;> rfl
end Go.Sx
namespace Go.Fine
open Go.Sx
structure Tariff where
 frm:Int
 (h0 h1 h2 h3 h4 h5 h6 h7 h8 h9:Int)
 (d0 d1 d2 d3 d4 d5 d6 d7 d8 d9:Int)
 (feed hay drv:Int)
structure Held where
 (src beast sort eats worth drv day known til:Int)
structure Note where
 (src stay kind owner day known til:Int)
structure Acc where
 ts:List Tariff
 ss:List Held
 ns:List Note
structure Lot where
 (owner stop fin day:Int)
structure Charge where
 (head feed fine:Int)
def Tariff.cv (t:Tariff):List CV:=[ci t.frm,ci t.h0,ci t.h1,ci t.h2,ci t.h3,ci t.h4,ci t.h5,ci t.h6,ci t.h7,ci t.h8,ci t.h9,ci t.d0,ci t.d1,ci t.d2,ci t.d3,ci t.d4,ci t.d5,ci t.d6,ci t.d7,ci t.d8,ci t.d9,ci t.feed,ci t.hay,ci t.drv]
def Held.cv (s:Held):List CV:=[ci s.src,ci s.beast,ci s.sort,ci s.eats,ci s.worth,ci s.drv,ci s.day,ci s.known,ci s.til]
def Note.cv (n:Note):List CV:=[ci n.src,ci n.stay,ci n.kind,ci n.owner,ci n.day,ci n.known,ci n.til]
def tz:Tariff:=⟨0,0,0,0,0,0,0,0,0,0,0,0,0,0,0,0,0,0,0,0,0,0,0,0⟩
def hz:Held:=⟨0,0,0,0,0,0,0,0,0⟩
def ints (l:List Int):List (List CV):=l.map fun x=>[ci x]
def within (n lo hi:Int):Bool:=decide (lo≤n)&&decide (n≤hi)
def eO (n:Int):Bool:=within n 0 100000
def rowOk (l:List Int):Bool:=(l.headD 1 == 0)&&l.all fun n=>within n 0 10000
def Tariff.hs (t:Tariff):List Int:=[t.h0,t.h1,t.h2,t.h3,t.h4,t.h5,t.h6,t.h7,t.h8,t.h9]
def Tariff.ds (t:Tariff):List Int:=[t.d0,t.d1,t.d2,t.d3,t.d4,t.d5,t.d6,t.d7,t.d8,t.d9]
def Tariff.ok (t:Tariff):Bool:=eO t.frm&&rowOk t.hs&&rowOk t.ds&&within t.feed 0 10000&&within t.hay 0 60&&within t.drv 0 60&&decide (t.hay+t.drv≤60)
def nO (day known til:Int):Bool:=eO day&&eO known&&(til == 0 || decide (known<til)&&decide (til≤100000))
def Held.ok (s:Held):Bool:=within s.src 1 99999&&within s.beast 1 9999&&within s.sort 1 9&&within s.eats 0 100&&within s.worth 0 100000&&within s.drv 0 99&&nO s.day s.known s.til
def Note.ok (n:Note):Bool:=(n.kind == 2&&n.owner == 0 || (n.kind == 1 || n.kind == 3)&&within n.owner 1 99)&&within n.src 1 99999&&within n.stay 1 99999&&nO n.day n.known n.til
def rising:List Int→Bool
 | []=>true
 | x::l=>(match l with | []=>true | y::_=>decide (x<y))&&rising l
def qJ {A:Type} (ok:A→Bool) (num:A→Int) (most:Nat) (l:List A):Bool:=l.all ok&&rising (l.map num)&&decide (l.length≤most)
def Acc.ok (p:Acc):Bool:=qJ Tariff.ok Tariff.frm 8 p.ts&&qJ Held.ok Held.src 60 p.ss&&qJ Note.ok Note.src 60 p.ns
def Acc.fits (p:Acc):Prop:=p.ts.length<100000000000000∧p.ss.length<100000000000000∧p.ns.length<100000000000000
def check (p:Acc):Int:=if p.ok then 0 else 63
def asked (p:Acc) (known:Int):Int:=if p.ok then (if eO known then 0 else 6) else 63
def inF (p:Acc) (d:Int):Option Tariff:=(p.ts.filter fun t=>decide (t.frm≤d)).getLast?
def bH (p:Acc) (d:Int):Tariff:=(inF p d).getD tz
def counts (since til known:Int):Bool:=decide (since≤known)&&(til == 0 || decide (til > known))
def stays (p:Acc) (known:Int):List Held:=p.ss.filter fun s=>counts s.known s.til known
def notes (p:Acc) (s:Held) (known:Int):List Note:=p.ns.filter fun n=>counts n.known n.til known&&n.stay == s.src&&within n.day s.day known
def dN (p:Acc) (stay known:Int):Held×Int:=
 if asked p known=0 then (match (stays p known).find? fun s=>s.src == stay with | some s=>(s,0) | none=>(hz,65)) else (hz,asked p known)
def fM (p:Acc) (s:Held) (d:Int):Int:=(s.eats*(bH p d).feed).tdiv 10
def vO (p:Acc) (s:Held):Int→List Int→Int
 | _,[]=>-1
 | sum,d::r=>if sum+fM p s d≥s.worth then d else vO p s (sum+fM p s d) r
def DD (p:Acc) (s:Held) (known:Int):Int:=if s.worth=0 then -1 else vO p s 0 (upto s.day (min known (s.day+720)))
def least (k:Int) (l:List Note):Int:=l.foldl (fun d n=>if n.kind=k∧(d<0∨n.day<d) then n.day else d) (-1)
def lS (l:List Note):Int:=if least 1 l<0∨0≤least 3 l∧least 3 l<least 1 l then least 3 l else least 1 l
def xX (l:List Note):Int×Int:=l.foldl (fun b n=>if n.kind=3∧b.1≤n.known then (n.known,n.owner) else b) (-1,0)
def vP (l:List Note):Int:=((l.find? fun n=>n.kind == 1&&n.day == least 1 l).map Note.owner).getD 0
def vQ (l:List Note):Int:=if 0<(xX l).2 then (xX l).2 else vP l
def gO (known:Int) (x:Int×Int) (e:Int×Int):Int×Int:=if 0≤e.2∧e.2≤known∧(x.2<0∨e.2<x.2) then e else x
def vR (s:Held) (l:List Note):Int:=if lS l<0∨lS l > s.day+360 then s.day+361 else -1
def ends (p:Acc) (s:Held) (known:Int):List (Int×Int):=[(1,least 2 (notes p s known)),(2,DD p s known),(3,vR s (notes p s known)),(4,s.day+720)]
def lot (p:Acc) (s:Held) (known:Int):Lot:=
 let e:=(ends p s known).foldl (gO known) (0,-1)
 ⟨vQ (notes p s known),lS (notes p s known),e.1,e.2⟩
def jU (x:Lot) (known:Int):Int:=if x.fin=2 then x.day else if x.fin=0 then known else x.day - 1
def oO (s:Held) (x:Lot) (known:Int):List Int:=upto s.day (jU x known)
def xY (t:Tariff) (sort:Int):Int:=gi t.cv (1+sort.toNat*1)
def kV (t:Tariff) (sort:Int):Int:=gi t.cv (11+sort.toNat*1)
def sumOf (f:Int→Int) (l:List Int):Int:=l.foldl (fun a d=>a+f d) 0
def qK (p:Acc) (s:Held) (x:Lot) (d:Int):Int:=if x.stop<0∨d<x.stop then kV (bH p d) s.sort else 0
def iP (p:Acc) (s:Held) (x:Lot) (known:Int):Charge:=
 ⟨if s.day≤known then xY (bH p s.day) s.sort else 0,sumOf (fM p s) (oO s x known),sumOf (qK p s x) (oO s x known)⟩
end Go.Fine
namespace Go.Fine
open Go.Sx
theorem Acc.ok_t {p:Acc} (h:p.ok=true) {t:Tariff} (ht:t∈p.ts):t.ok=true:=by
 simp only [Acc.ok,qJ,Bool.and_eq_true] at h
 exact List.all_eq_true.1 h.1.1.1.1 t ht
theorem Acc.ok_s {p:Acc} (h:p.ok=true) {s:Held} (ht:s∈p.ss):s.ok=true:=by
 simp only [Acc.ok,qJ,Bool.and_eq_true] at h
 exact List.all_eq_true.1 h.1.2.1.1 s ht
theorem Acc.ok_n {p:Acc} (h:p.ok=true) {n:Note} (ht:n∈p.ns):n.ok=true:=by
 simp only [Acc.ok,qJ,Bool.and_eq_true] at h
 exact List.all_eq_true.1 h.2.1.1 n ht
theorem Acc.ok_len {p:Acc} (h:p.ok=true):p.ts.length≤8∧p.ss.length≤60∧p.ns.length≤60:=by
 simp only [Acc.ok,qJ,Bool.and_eq_true,decide_eq_true_eq] at h
 exact ⟨h.1.1.2,h.1.2.2,h.2.2⟩
theorem Acc.ok_fits {p:Acc} (h:p.ok=true):p.fits:=by
 have:=Acc.ok_len h
 unfold Acc.fits;omega
theorem NR (p:Acc) (d:Int):bH p d=tz∨bH p d∈p.ts:=by
 unfold bH inF
 cases h:(p.ts.filter fun t=>decide (t.frm≤d)).getLast? with
 | none=>exact .inl rfl
 | some t =>
  refine .inr ?_
  have:=List.mem_of_getLast? h
  exact (List.mem_filter.1 this).1
theorem DE {p:Acc} (h:p.ok=true) (d:Int):bH p d=tz∨(bH p d).ok=true:=(NR p d).imp id fun ht=>p.ok_t h ht
theorem NS {p:Acc} (h:p.ok=true) (d:Int):0≤(bH p d).feed∧(bH p d).feed≤10000:=by
 rcases DE h d with e | e
 ·rw [e];decide
 ·simp only [Tariff.ok,within,Bool.and_eq_true,decide_eq_true_eq] at e;omega
theorem Held.ok_b {s:Held} (h:s.ok=true):(1≤s.src∧s.src≤99999)∧(1≤s.sort∧s.sort≤9)∧(0≤s.eats∧s.eats≤100)∧(0≤s.worth∧s.worth≤100000)∧(0≤s.drv∧s.drv≤99)∧(0≤s.day∧s.day≤100000)∧(0≤s.known∧s.known≤100000)∧(s.til=0∨s.known<s.til∧s.til≤100000):=by
 simp only [Held.ok,nO,eO,within,Bool.and_eq_true,Bool.or_eq_true,decide_eq_true_eq,beq_iff_eq] at h;omega
theorem Note.ok_b {s:Note} (h:s.ok=true):(1≤s.src∧s.src≤99999)∧(1≤s.stay∧s.stay≤99999)∧(s.kind=2∧s.owner=0∨(s.kind=1∨s.kind=3)∧1≤s.owner∧s.owner≤99)∧(0≤s.day∧s.day≤100000)∧(0≤s.known∧s.known≤100000)∧(s.til=0∨s.known<s.til∧s.til≤100000):=by
 simp only [Note.ok,nO,eO,within,Bool.and_eq_true,Bool.or_eq_true,decide_eq_true_eq,beq_iff_eq] at h;omega
theorem fT {p:Acc} (h:p.ok=true) {s:Held} (hs:s.ok=true) (d:Int):0≤fM p s d∧fM p s d≤100000∧0≤s.eats*(bH p d).feed∧s.eats*(bH p d).feed≤1000000:=by
 obtain ⟨h1,h2⟩:=NS h d
 have h3:=(Held.ok_b hs).2.2.1
 have h4:0≤s.eats*(bH p d).feed:=Int.mul_nonneg h3.1 h1
 have h5:s.eats*(bH p d).feed≤100*10000:=Int.mul_le_mul h3.2 h2 h1 (by omega)
 refine ⟨?_,?_,h4,by omega⟩ <;> unfold fM <;> rw [Int.tdiv_eq_ediv_of_nonneg h4] <;> omega
theorem lT {A:Type} (q:A→Bool) (l:List A):(l.filter q).length≤l.length:=List.length_filter_le _ _
theorem HF {p:Acc} {k:Int} {s:Held} (h:s∈stays p k):s∈p.ss:=(List.mem_filter.1 h).1
theorem YD {p:Acc} {s:Held} {k:Int} {x:Note} (h:x∈notes p s k):x∈p.ns:=(List.mem_filter.1 h).1
end Go.Fine
namespace Go.Fine
open Go.Sx
def qL (k:Int) (d:Int) (n:Note):Int:=if n.kind=k∧(d<0∨n.day<d) then n.day else d
theorem HG (k:Int) (l:List Note):least k l=l.foldl (qL k) (-1):=rfl
theorem rY (k:Int) (l:List Note) (n:Note):least k (l++[n])=qL k (least k l) n:=by simp [HG]
theorem fN (k:Int):∀ (l:List Note),(∀ n∈l,0≤n.day)→-1≤least k l∧(least k l<0→∀ n∈l,n.kind≠k)∧(0≤least k l→∃ n∈l,n.kind=k∧n.day=least k l)∧∀ n∈l,n.kind=k→0≤least k l∧least k l≤n.day:=by
 refine vN ?_ ?_
 ·intro _;simp [least]
 ·intro l a ih h
  obtain ⟨h0,h1,h2,h3⟩:=ih fun n hn=>h n (by simp [hn])
  have ha:=h a (by simp)
  rw [rY]
  unfold qL
  split
  ·rename_i hc
   refine ⟨by omega,fun hlt=>by omega,fun _=>⟨a,by simp,hc.1,rfl⟩,fun n hn hk=>?_⟩
   rcases List.mem_append.1 hn with hn | hn
   ·have:=h3 n hn hk;omega
   ·simp at hn;subst hn;omega
  ·rename_i hc
   refine ⟨h0,fun hlt n hn=>?_,fun hge=>?_,fun n hn hk=>?_⟩
   ·rcases List.mem_append.1 hn with hn | hn
    ·exact h1 hlt n hn
    ·simp at hn;subst hn;intro hk;exact hc ⟨hk,.inl hlt⟩
   ·obtain ⟨n,hn,e⟩:=h2 hge;exact ⟨n,by simp [hn],e⟩
   ·rcases List.mem_append.1 hn with hn | hn
    ·exact h3 n hn hk
    ·simp at hn;subst hn
     have:¬(least k l<0∨n.day<least k l):=fun e=>hc ⟨hk,e⟩
     omega
def sR (d:Int) (n:Note):Int:=if n.kind=2 then d else if d<0∨n.day<d then n.day else d
theorem YE:∀ (l:List Note),(∀ n∈l,n.ok=true)→l.foldl sR (-1)=lS l:=by
 refine vN ?_ ?_
 ·intro _;simp [lS,least]
 ·intro l a ih h
  have ih:=ih fun n hn=>h n (by simp [hn])
  have hd:∀ n∈l,0≤n.day:=fun n hn=>(Note.ok_b (h n (by simp [hn]))).2.2.2.1.1
  have h1:=(fN 1 l hd).1
  have h3:=(fN 3 l hd).1
  obtain ⟨_,_,hk,ha,_⟩:=Note.ok_b (h a (by simp))
  rw [List.foldl_append,ih]
  simp only [List.foldl_cons,List.foldl_nil,lS,rY,sR,qL]
  rcases hk with ⟨hk,_⟩ | ⟨hk | hk,_⟩ <;> simp only [hk] <;> grind
def jH (c n:Note):Note:=if n.kind=1∧n.day<c.day then n else c
def c0:Note:=⟨0,0,0,0,100001,0,0⟩
theorem RZ:∀ (l:List Note),(∀ n∈l,n.ok=true)→(l.foldl jH c0).owner=vP l∧(l.foldl jH c0).day=(if least 1 l<0 then 100001 else least 1 l):=by
 refine vN ?_ ?_
 ·intro _;simp [vP,least,c0]
 ·intro l a ih h
  obtain ⟨i1,i2⟩:=ih fun n hn=>h n (by simp [hn])
  have hd:∀ n∈l,0≤n.day:=fun n hn=>(Note.ok_b (h n (by simp [hn]))).2.2.2.1.1
  obtain ⟨l0,l1,l2,l3⟩:=fN 1 l hd
  obtain ⟨_,_,hk,ha,_⟩:=Note.ok_b (h a (by simp))
  rw [List.foldl_append]
  simp only [List.foldl_cons,List.foldl_nil]
  by_cases hc:a.kind=1∧a.day<(l.foldl jH c0).day
  ·have hlt:a.kind=1∧(least 1 l<0∨a.day<least 1 l):=by
    refine ⟨hc.1,?_⟩
    rw [i2] at hc
    have:=hc.2
    split at this <;> omega
   have e:least 1 (l++[a])=a.day:=by rw [rY,qL,if_pos hlt]
   rw [jH,if_pos hc,e]
   refine ⟨?_,by rw [if_neg (by omega)]⟩
   simp only [vP,e]
   rw [List.find?_append]
   have:l.find? (fun n=>n.kind == 1&&n.day == a.day)=none:=by
    rw [List.find?_eq_none]
    intro n hn hq
    simp only [vI,Bool.and_eq_true,decide_eq_true_eq] at hq
    have:=l3 n hn hq.1
    omega
   rw [this]
   simp [hc.1]
  ·have hge:¬(a.kind=1∧(least 1 l<0∨a.day<least 1 l)):=by
    intro hq
    refine hc ⟨hq.1,?_⟩
    rw [i2]
    split <;> omega
   have e:least 1 (l++[a])=least 1 l:=by rw [rY,qL,if_neg hge]
   rw [jH,if_neg hc,e,i1,i2]
   refine ⟨?_,rfl⟩
   simp only [vP,e,List.find?_append]
   cases hf:l.find? (fun n=>n.kind == 1&&n.day == least 1 l) with
   | some n=>simp
   | none =>
    have hq:(a.kind == 1&&a.day == least 1 l)=false:=by
     rw [Bool.eq_false_iff];intro hq
     simp only [vI,Bool.and_eq_true,decide_eq_true_eq] at hq
     have:0≤least 1 l:=by omega
     obtain ⟨n,hn,e1,e2⟩:=l2 this
     rw [List.find?_eq_none] at hf
     exact hf n hn (by simp [e1,e2])
    simp only [List.find?_cons,hq,List.find?_nil,Option.or_none]
def iQ (c n:Note):Note:=if n.kind=3∧c.known≤n.known then n else c
def j0:Note:=⟨0,0,0,0,0,-1,0⟩
theorem SA (l:List Note):xX l=((l.foldl iQ j0).known,(l.foldl iQ j0).owner):=by
 have key:∀ (l:List Note) (c:Note),l.foldl (fun (b:Int×Int) n=>if n.kind=3∧b.1≤n.known then (n.known,n.owner) else b) (c.known,c.owner)=((l.foldl iQ c).known,(l.foldl iQ c).owner):=by
  intro l
  induction l with
  | nil=>intro c;rfl
  | cons a l ih =>
   intro c
   simp only [List.foldl_cons]
   by_cases h:a.kind=3∧c.known≤a.known
   ·rw [if_pos h,iQ,if_pos h];exact ih a
   ·rw [if_neg h,iQ,if_neg h];exact ih c
 exact key l j0
theorem NT:∀ (l:List Note),(∀ n∈l,n.ok=true)→0≤(xX l).2:=by
 refine vN ?_ ?_
 ·intro _;simp [xX]
 ·intro l a ih h
  have ih:=ih fun n hn=>h n (by simp [hn])
  obtain ⟨_,_,hk,_⟩:=Note.ok_b (h a (by simp))
  simp only [xX,List.foldl_append,List.foldl_cons,List.foldl_nil] at ih ⊢
  split <;> omega
theorem DF (f:Int→Int) (d:Int) (l:List Int):sumOf f (d::l)=f d+sumOf f l:=by
 have key:∀ (l:List Int) (a:Int),l.foldl (fun a d=>a+f d) a=a+l.foldl (fun a d=>a+f d) 0:=by
  intro l
  induction l with
  | nil=>intro a;simp
  | cons x l ih=>intro a;simp only [List.foldl_cons];rw [ih (a+f x),ih (0+f x)];omega
 unfold sumOf
 rw [List.foldl_cons,key];omega
end Go.Fine
namespace Go.Fine
open Go.Sx
theorem KA (k:Int):∀ (l:List (Int×Int)) (s:Int×Int),(s=(0,-1)∨0≤s.2∧s.2≤k)→(l.foldl (gO k) s=s∨∃ e∈l,l.foldl (gO k) s=e∧0≤e.2∧e.2≤k)∧(0≤s.2→(l.foldl (gO k) s).2≤s.2)∧∀ e∈l,0≤e.2→e.2≤k→0≤(l.foldl (gO k) s).2∧(l.foldl (gO k) s).2≤e.2
 | [],s,_=>by simp
 | a::l,s,hs=>by
  simp only [List.foldl_cons]
  by_cases hc:0≤a.2∧a.2≤k∧(s.2<0∨a.2<s.2)
  ·rw [gO,if_pos hc]
   obtain ⟨h1,h2,h3⟩:=KA k l a (.inr ⟨hc.1,hc.2.1⟩)
   have h2:=h2 hc.1
   refine ⟨.inr ?_,fun h=>by omega,fun e he h4 h5=>?_⟩
   ·rcases h1 with h1 | ⟨e,he,h1,h4,h5⟩
    ·exact ⟨a,by simp,h1,hc.1,hc.2.1⟩
    ·exact ⟨e,by simp [he],h1,h4,h5⟩
   ·rcases List.mem_cons.1 he with rfl | he
    ·refine ⟨?_,h2⟩
     rcases h1 with h1 | ⟨e',_,h1,h6,_⟩
     ·rw [h1];exact h4
     ·rw [h1];exact h6
    ·exact h3 e he h4 h5
  ·rw [gO,if_neg hc]
   obtain ⟨h1,h2,h3⟩:=KA k l s hs
   refine ⟨?_,h2,fun e he h4 h5=>?_⟩
   ·rcases h1 with h1 | ⟨e,he,h1⟩
    ·exact .inl h1
    ·exact .inr ⟨e,by simp [he],h1⟩
   ·rcases List.mem_cons.1 he with rfl | he
    ·have h6:¬(s.2<0∨e.2<s.2):=fun h=>hc ⟨h4,h5,h⟩
     have h7:=h2 (by omega)
     refine ⟨?_,by omega⟩
     rcases h1 with h1 | ⟨e',_,h1,h8,_⟩
     ·rw [h1];omega
     ·rw [h1];exact h8
    ·exact h3 e he h4 h5
theorem aBd (p:Acc) (s:Held) (k:Int):((lot p s k).fin=0∧(lot p s k).day=-1∨∃ e∈ends p s k,(lot p s k).fin=e.1∧(lot p s k).day=e.2∧0≤e.2∧e.2≤k)∧∀ e∈ends p s k,0≤e.2→e.2≤k→0≤(lot p s k).day∧(lot p s k).day≤e.2:=by
 obtain ⟨h1,_,h3⟩:=KA k (ends p s k) (0,-1) (.inl rfl)
 refine ⟨?_,h3⟩
 rcases h1 with h1 | ⟨e,he,h1,h2⟩
 ·exact .inl ⟨congrArg Prod.fst h1,congrArg Prod.snd h1⟩
 ·exact .inr ⟨e,he,congrArg Prod.fst h1,congrArg Prod.snd h1,h2⟩
theorem aBe {p:Acc} {s:Held} {k:Int} {e:Int×Int} (h:e∈ends p s k):1≤e.1∧e.1≤4:=by
 simp only [ends,List.mem_cons,List.not_mem_nil,or_false] at h
 rcases h with rfl | rfl | rfl | rfl <;> simp
theorem UT (p:Acc) (s:Held) (k:Int) (hk:-1≤k):-1≤(lot p s k).day∧(lot p s k).day≤k∧0≤(lot p s k).fin∧(lot p s k).fin≤4∧((lot p s k).fin=0↔(lot p s k).day=-1):=by
 rcases (aBd p s k).1 with ⟨h1,h2⟩ | ⟨e,he,h1,h2,h3,h4⟩
 ·omega
 ·have:=aBe he;omega
theorem HH {p:Acc} {s:Held} {k:Int} {x:Note} (h:x∈notes p s k):s.day≤x.day∧x.day≤k:=by
 have:=(List.mem_filter.1 h).2
 simp only [within,Bool.and_eq_true,decide_eq_true_eq] at this
 exact this.2
theorem HI (p:Acc) (s:Held):∀ (l:List Int) (a:Int),vO p s a l=-1∨vO p s a l∈l
 | [],_=>.inl rfl
 | d::l,a=>by
  rw [vO]
  split
  ·exact .inr (by simp)
  ·rcases HI p s l (a+fM p s d) with h | h
   ·exact .inl h
   ·exact .inr (by simp [h])
theorem YG (p:Acc) (s:Held) (k:Int):DD p s k=-1∨s.day≤DD p s k∧DD p s k≤k∧DD p s k≤s.day+720:=by
 unfold DD
 split
 ·exact .inl rfl
 ·rcases HI p s (upto s.day (min k (s.day+720))) 0 with h | h
  ·exact .inl h
  ·right;have:=DA.1 h;omega
theorem aHa {p:Acc} (hp:p.ok=true) {s:Held} (hs:s.ok=true) {k:Int} {e:Int×Int} (h:e∈ends p s k):e.2=-1∨s.day≤e.2:=by
 have hb:=Held.ok_b hs
 simp only [ends,List.mem_cons,List.not_mem_nil,or_false] at h
 rcases h with rfl | rfl | rfl | rfl
 ·have h0:∀ n∈notes p s k,0≤n.day:=fun n hn=>by have:=HH hn;omega
  obtain ⟨h1,h2,h3,h4⟩:=fN 2 (notes p s k) h0
  by_cases h5:0≤least 2 (notes p s k)
  ·obtain ⟨n,hn,_,e⟩:=h3 h5
   have:=HH hn
   simp only;omega
  ·simp only;omega
 ·have:=YG p s k;simp only;omega
 ·simp only [vR];split <;> omega
 ·simp only;omega
theorem SB (t:Tariff) (i:Nat) (h:i<10):gi t.cv (1+i*1)=t.hs.getD i 0:=by
 have:i=0∨i=1∨i=2∨i=3∨i=4∨i=5∨i=6∨i=7∨i=8∨i=9:=by omega
 rcases this with rfl | rfl | rfl | rfl | rfl | rfl | rfl | rfl | rfl | rfl <;> rfl
theorem NU (t:Tariff) (i:Nat) (h:i<10):gi t.cv (11+i*1)=t.ds.getD i 0:=by
 have:i=0∨i=1∨i=2∨i=3∨i=4∨i=5∨i=6∨i=7∨i=8∨i=9:=by omega
 rcases this with rfl | rfl | rfl | rfl | rfl | rfl | rfl | rfl | rfl | rfl <;> rfl
theorem UU {l:List Int} (h:rowOk l=true) (i:Nat):0≤l.getD i 0∧l.getD i 0≤10000:=by
 simp only [rowOk,Bool.and_eq_true,List.all_eq_true] at h
 by_cases hi:i<l.length
 ·have:=h.2 l[i] (List.getElem_mem hi)
  simp only [within,Bool.and_eq_true,decide_eq_true_eq] at this
  simpa [hi] using this
 ·simp [List.getD,List.getElem?_eq_none (Nat.le_of_not_lt hi)]
theorem qM {p:Acc} (hp:p.ok=true) {s:Held} (hs:s.ok=true) (d:Int):(0≤xY (bH p d) s.sort∧xY (bH p d) s.sort≤10000)∧0≤kV (bH p d) s.sort∧kV (bH p d) s.sort≤10000:=by
 have hb:=(Held.ok_b hs).2.1
 have hi:s.sort.toNat<10:=by omega
 unfold xY kV
 rw [SB _ _ hi,NU _ _ hi]
 have:rowOk (bH p d).hs=true∧rowOk (bH p d).ds=true:=by
  rcases DE hp d with e | e
  ·rw [e];decide
  ·simp only [Tariff.ok,Bool.and_eq_true] at e;exact ⟨e.1.1.1.1.1.2,e.1.1.1.1.2⟩
 exact ⟨UU this.1 _,UU this.2 _⟩
theorem sS {p:Acc} (hp:p.ok=true) {s:Held} (hs:s.ok=true) (x:Lot) (d:Int):0≤qK p s x d∧qK p s x d≤10000:=by
 have:=(qM hp hs d).2
 unfold qK;split <;> omega
theorem oP (f:Int→Int) (B:Int):∀ (l:List Int),(∀ d,0≤f d∧f d≤B)→0≤sumOf f l∧sumOf f l≤l.length*B
 | [],_=>by simp [sumOf]
 | d::l,hf=>by
  have:=oP f B l hf
  have h1:=hf d
  have hl:(((d::l).length:Nat):Int)*B=l.length*B+B:=by simp [Int.add_mul]
  rw [DF,hl];omega
theorem UV (s:Held) (x:Lot) (k:Int) (hs:0≤s.day) (hk:k≤100000) (hx:x.day≤100000):(oO s x k).length≤100001:=by
 unfold oO jU
 rw [upto_length]
 split
 ·omega
 ·split <;> omega
theorem aCi {p:Acc} (hp:p.ok=true) {s:Held} (hs:s.ok=true) (x:Lot) (k:Int) (hk:k≤100000) (hx:x.day≤100000) :
  (0≤(iP p s x k).head∧(iP p s x k).head≤10000)∧(0≤(iP p s x k).feed∧(iP p s x k).feed≤20000000000)∧(0≤(iP p s x k).fine∧(iP p s x k).fine≤20000000000):=by
 have hb:=Held.ok_b hs
 have hl:=UV s x k hb.2.2.2.2.2.1.1 hk hx
 have h1:=oP (fM p s) 100000 (oO s x k) fun d=>⟨(fT hp hs d).1,(fT hp hs d).2.1⟩
 have h2:=oP (qK p s x) 10000 (oO s x k) fun d=>sS hp hs x d
 have h3:=(qM hp hs s.day).1
 refine ⟨?_,?_,?_⟩
 ·unfold iP;simp only;split <;> omega
 ·unfold iP;simp only;omega
 ·unfold iP;simp only;omega
end Go.Fine
namespace Go.Fine
open Go.Sx
end Go.Fine
namespace Go.Fine
open Go.Sx
theorem aD0 {x:Int} {l:List Int} (h:rising (x::l)=true):rising l=true∧∀ y∈l,x<y:=by
 induction l generalizing x with
 | nil=>simp [rising]
 | cons y l ih =>
  rw [rising,Bool.and_eq_true] at h
  simp only [decide_eq_true_eq] at h
  obtain ⟨h1,h2⟩:=h
  obtain ⟨_,h3⟩:=ih h2
  refine ⟨h2,fun z hz=>?_⟩
  rcases List.mem_cons.1 hz with rfl | hz
  ·exact h1
  ·have:=h3 z hz;omega
end Go.Fine
namespace Go.Pen
structure Kd where
 (sort room eats apart:Int)
structure Yard where
 pens:List Int
 kinds:List Kd
def within (n lo hi:Int):Bool:=decide (lo≤n)&&decide (n≤hi)
def Kd.ok (k:Kd):Bool:=within k.sort 1 9&&within k.room 1 1000&&within k.eats 0 1000&&within k.apart 0 1023&&decide (k.apart % 2=0)
def rising:List Int→Bool
 | []=>true
 | x::l=>(match l with | []=>true | y::_=>decide (x<y))&&rising l
def Yard.ok (y:Yard):Bool:=decide (y.pens.length≤5)&&y.pens.all (fun n=>within n 0 1000)&&y.kinds.all Kd.ok&&rising (y.kinds.map Kd.sort)
def kindOf (y:Yard) (s:Int):Option Kd:=y.kinds.find? fun k=>k.sort == s
def kz:Kd:=⟨0,0,0,0⟩
def kd (y:Yard) (s:Int):Kd:=(kindOf y s).getD kz
def has (y:Yard) (s:Int):Bool:=(kindOf y s).isSome
def rm (y:Yard) (s:Int):Int:=(kd y s).room
def bit (n b:Int):Bool:=n.toNat.testBit b.toNat
def apt (y:Yard) (a b:Int):Bool:=bit (kd y a).apart b || bit (kd y b).apart a
theorem vS (y:Yard) (a b:Int):apt y a b=apt y b a:=by unfold apt;rw [Bool.or_comm]
def bF (y:Yard) (l:List Int):Bool:=decide (l.length≤8)&&l.all (has y)
def jI (y:Yard):Int:=if y.ok then 0 else 50
def asked (y:Yard) (l:List Int):Int:=if y.ok then (if bF y l then 0 else 51) else 50
def HJ (y:Yard) (l:List Int):Int:=l.foldl (fun n s=>n+rm y s) 0
abbrev BP:=List (Int×Int)
def load (y:Yard):BP→Int→Int
 | [],_=>0
 | (s,q)::z,pen=>(if q=pen then rm y s else 0)+load y z pen
def zE (y:Yard) (z:BP) (s q:Int):Bool:=
 within q 0 ((y.pens.length:Int) - 1)&&decide (load y z q+rm y s≤y.pens.getD q.toNat 0)&&z.all fun x=>!(x.2 == q&&apt y x.1 s)
def okZ (y:Yard) (z:BP):Bool:=(List.range z.length).all fun i=>match z[i]? with | some x=>zE y (z.take i) x.1 x.2 | none=>true
def okP (y:Yard) (l p:List Int):Bool:=decide (p.length≤l.length)&&okZ y (l.zip p)
theorem aC1 (y:Yard):okZ y []=true:=rfl
theorem qN (y:Yard) (z:BP) (x:Int×Int):okZ y (z++[x])=(okZ y z&&zE y z x.1 x.2):=by
 unfold okZ
 rw [List.length_append,List.length_singleton,List.range_succ,List.all_append]
 congr 1
 ·rw [Bool.eq_iff_iff,List.all_eq_true,List.all_eq_true]
  refine forall_congr' fun i=>?_
  rw [List.mem_range]
  constructor <;> intro h hi <;> have:=h hi <;> rw [List.getElem?_append_left hi,List.take_append_of_le_length (by omega)] at*<;> exact this
 ·simp
theorem aBf {l p:List Int} {q:Int} (h:p.length<l.length):l.zip (p++[q])=l.zip p++[(l.getD p.length 0,q)]:=by
 induction p generalizing l with
 | nil=>cases l with
  | nil=>simp at h
  | cons a l=>simp
 | cons b p ih=>cases l with
  | nil=>simp at h
  | cons a l =>
   simp only [List.length_cons] at h
   simp only [List.cons_append,List.zip_cons_cons,List.length_cons,List.getD_cons_succ]
   rw [ih (by omega)]
theorem UW (y:Yard) (l:List Int):okP y l []=true:=by simp [okP,okZ]
theorem NV (y:Yard) (l p:List Int) (q:Int) (h:p.length<l.length):okP y l (p++[q])=(okP y l p&&zE y (l.zip p) (l.getD p.length 0) q):=by
 unfold okP
 rw [aBf h,qN]
 have h1:(p++[q]).length≤l.length:=by simp;omega
 have h2:p.length≤l.length:=by omega
 simp [h1,h2]
 omega
theorem aBg (y:Yard) (l p:List Int) (h:p.length≤l.length):okP y (l.take p.length) p=okP y l p:=by
 unfold okP
 have e:(l.take p.length).zip p=l.zip p:=by
  induction p generalizing l with
  | nil=>simp
  | cons a p ih=>cases l with
   | nil=>simp
   | cons b l =>
    simp only [List.length_cons] at h
    simp only [List.length_cons,List.take_succ_cons,List.zip_cons_cons,ih l (by omega)]
 rw [e]
 simp [h]
theorem SC {y:Yard} {l p q:List Int} (h:okP y l (p++q)=true):okP y l p=true:=by
 induction q generalizing p with
 | nil=>simpa using h
 | cons a q ih =>
  have h1:okP y l (p++[a])=true:=ih (p:=p++[a]) (by simpa using h)
  have h2:(p++[a]).length≤l.length:=by
   unfold okP at h1
   simp only [Bool.and_eq_true,decide_eq_true_eq] at h1
   exact h1.1
  rw [NV _ _ _ _ (by simp at h2;omega)] at h1
  simp only [Bool.and_eq_true] at h1
  exact h1.1
def pls (y:Yard) (l:List Int):Nat→List Int→List (List Int)
 | 0,p=>[p]
 | k+1,p=>(List.range y.pens.length).flatMap fun (i:Nat)=>if okP y l (p++[(i:Int)])=true then pls y l k (p++[(i:Int)]) else []
def PL (y:Yard) (l:List Int):List (List Int):=pls y l l.length []
theorem vT {y:Yard} {l:List Int} {x:List Int}:∀ {k:Nat} {p:List Int},okP y l p=true→(x∈pls y l k p↔p <+: x∧x.length=p.length+k∧okP y l x=true)
 | 0,p,hp=>by
  simp only [pls,List.mem_singleton,Nat.add_zero]
  constructor
  ·rintro rfl;exact ⟨List.prefix_refl _,rfl,hp⟩
  ·rintro ⟨h1,h2,_⟩;exact (h1.eq_of_length h2.symm).symm
 | k+1,p,hp=>by
  simp only [pls,List.mem_flatMap,List.mem_range]
  constructor
  ·rintro ⟨i,hi,hx⟩
   split at hx
   ·rename_i h
    obtain ⟨h1,h2,h3⟩:=(vT h).1 hx
    refine ⟨List.IsPrefix.trans (List.prefix_append _ _) h1,?_,h3⟩
    simp at h2;omega
   ·simp at hx
  ·rintro ⟨⟨r,rfl⟩,h2,h3⟩
   cases r with
   | nil=>simp at h2
   | cons q r =>
    have h4:okP y l (p++[q])=true:=SC (q:=r) (by simpa using h3)
    have hl:p.length<l.length:=by
     unfold okP at h4
     simp only [Bool.and_eq_true,decide_eq_true_eq,List.length_append,List.length_singleton] at h4
     omega
    have h5:=h4
    rw [NV _ _ _ _ hl] at h5
    simp only [Bool.and_eq_true,zE,within,decide_eq_true_eq] at h5
    obtain ⟨_,⟨⟨hq0,hq1⟩,_⟩,_⟩:=h5
    refine ⟨q.toNat,by omega,?_⟩
    have e:((q.toNat:Nat):Int)=q:=by omega
    rw [e,if_pos h4]
    rw [vT h4]
    refine ⟨⟨r,by simp⟩,?_,h3⟩
    simp at h2 ⊢;omega
theorem qO {y:Yard} {l x:List Int}:x∈PL y l↔x.length=l.length∧okP y l x=true:=by
 unfold PL
 rw [vT (UW y l)]
 simp
def ahead:List Int→List Int→Bool
 | [],_=>false
 | _::_,[]=>false
 | a::az,b::bs=>if a=b then ahead az bs else decide (a<b)
theorem vU:∀ a:List Int,ahead a a=false
 | []=>rfl
 | a::az=>by simp [ahead,vU az]
theorem HK:∀ (p:List Int) {i j:Int} (a b:List Int),i<j→ahead (p++i::a) (p++j::b)=true
 | [],i,j,a,b,h=>by
  have:i≠j:=by omega
  simp [ahead,this,h]
 | x::p,i,j,a,b,h=>by simp [ahead,HK p a b h]
theorem DG {y:Yard} {l:List Int}:∀ {k:Nat} {p:List Int},okP y l p=true→(pls y l k p).Pairwise fun a b=>ahead a b=true
 | 0,p,_=>by simp [pls]
 | k+1,p,hp=>by
  simp only [pls]
  rw [List.pairwise_flatMap]
  refine ⟨fun i _=>?_,?_⟩
  ·split
   ·rename_i h;exact DG h
   ·exact List.Pairwise.nil
  ·refine List.Pairwise.imp ?_ List.pairwise_lt_range
   intro i j hij a ha b hb
   split at ha
   ·rename_i h1
    split at hb
    ·rename_i h2
     obtain ⟨⟨ra,rfl⟩,_⟩:=(vT h1).1 ha
     obtain ⟨⟨rb,rfl⟩,_⟩:=(vT h2).1 hb
     simp only [List.append_assoc,List.singleton_append]
     exact HK p ra rb (by omega)
    ·simp at hb
   ·simp at ha
theorem YH (y:Yard) (l:List Int):(PL y l).Pairwise fun a b=>ahead a b=true:=DG (UW y l)
theorem aBh (y:Yard) (l:List Int):(PL y l).Nodup:=by
 refine List.Pairwise.imp ?_ (YH y l)
 rintro a b h rfl
 rw [vU] at h
 exact absurd h (by simp)
end Go.Pen
namespace Go.Pen
theorem zF (y:Yard) (z z':BP) (pen:Int):load y (z++z') pen=load y z pen+load y z' pen:=by
 induction z with
 | nil=>simp [load]
 | cons a z ih=>obtain ⟨s,q⟩:=a;simp only [List.cons_append,load,ih];omega
theorem HL (y:Yard) {z z':BP} (h:z.Perm z') (pen:Int):load y z pen=load y z' pen:=by
 induction h with
 | nil=>rfl
 | cons a _ ih=>simp only [load,ih]
 | swap a b l=>simp only [load];omega
 | trans _ _ ih1 ih2=>rw [ih1,ih2]
def Good (y:Yard) (z:BP):Prop:=
 (∀ x∈z,within x.2 0 ((y.pens.length:Int) - 1)=true∧load y z x.2≤y.pens.getD x.2.toNat 0)∧z.Pairwise fun a b=>¬(a.2=b.2∧apt y a.1 b.1=true)
theorem YI {y:Yard} {z z':BP} (h:z.Perm z'):Good y z↔Good y z':=by
 unfold Good
 rw [h.pairwise_iff (R:=fun a b=>¬(a.2=b.2∧apt y a.1 b.1=true)) (fun {a b} hab hba=>hab ⟨hba.1.symm,by rw [vS];exact hba.2⟩)]
 refine and_congr ⟨fun H x hx=>?_,fun H x hx=>?_⟩ Iff.rfl
 ·have:=H x (h.mem_iff.2 hx);rwa [HL y h] at this
 ·have:=H x (h.mem_iff.1 hx);rwa [HL y h]
theorem BI {y:Yard} (hr:∀ s,0≤rm y s):∀ (n:Nat) (z:BP),z.length=n→(okZ y z=true↔Good y z)
 | 0,z,hz=>by
  rw [List.length_eq_zero_iff.1 hz]
  simp [aC1,Good]
 | n+1,z,hz=>by
  have hne:z≠[]:=by rintro rfl;simp at hz
  have e:=List.dropLast_concat_getLast hne
  generalize z.getLast hne=x at e
  generalize hw:z.dropLast=w at e
  have hwl:w.length=n:=by rw [← hw,List.length_dropLast,hz];rfl
  subst e
  rw [qN,Bool.and_eq_true,BI hr n w hwl]
  unfold Good zE
  simp only [List.mem_append,List.mem_singleton,zF,List.pairwise_append,List.pairwise_singleton,Bool.and_eq_true,decide_eq_true_eq,List.all_eq_true,load,true_and,forall_eq]
  constructor
  ·rintro ⟨⟨h1,h2⟩,⟨h3,h4⟩,h5⟩
   refine ⟨?_,h2,?_⟩
   ·rintro a (ha | rfl)
    ·refine ⟨(h1 a ha).1,?_⟩
     have:=(h1 a ha).2
     split
     ·rename_i e;rw [← e];omega
     ·omega
    ·refine ⟨h3,?_⟩
     simp [-List.getD_eq_getElem?_getD];omega
   ·intro a ha ⟨e1,e2⟩
    have:=h5 a ha
    simp [e1,e2] at this
  ·rintro ⟨h1,h2,h3⟩
   refine ⟨⟨fun a ha=>?_,h2⟩,?_,?_⟩
   ·obtain ⟨h4,h5⟩:=h1 a (Or.inl ha)
    refine ⟨h4,?_⟩
    have:=hr x.1
    split at h5 <;> omega
   ·obtain ⟨h4,h5⟩:=h1 x (Or.inr rfl)
    simp [-List.getD_eq_getElem?_getD] at h5
    exact ⟨h4,by omega⟩
   ·intro a ha
    have:=h3 a ha
    simp only [Bool.not_eq_true',Bool.and_eq_false_iff,beq_eq_false_iff_ne]
    by_cases e:a.2=x.2
    ·right
     cases h:apt y a.1 x.1 with
     | false=>rfl
     | true=>exact absurd ⟨e,h⟩ this
    ·exact Or.inl e
theorem YJ {l l':List Int} (h:l.Perm l'):∃ f:List Int→List Int,(∀ x:List Int,x.length=l.length→(f x).length=l'.length∧(l.zip x).Perm (l'.zip (f x))) ∧
  ∀ x x':List Int,x.length=l.length→x'.length=l.length→f x=f x'→x=x':=by
 induction h with
 | nil=>exact ⟨id,by simp,by simp⟩
 | @cons a l l' _ ih =>
  obtain ⟨f,h1,h2⟩:=ih
  refine ⟨fun x=>match x with | []=>[] | q::x=>q::f x,?_,?_⟩
  ·intro x hx
   match x,hx with
   | q::x,hx =>
    have:=h1 x (by simpa using hx)
    simp only [List.length_cons,this.1,List.zip_cons_cons,true_and]
    exact this.2.cons _
  ·intro x x' hx hx'
   match x,hx,x',hx' with
   | q::x,hx,q'::x',hx' =>
    intro e
    simp only [List.cons.injEq] at e
    rw [e.1,h2 x x' (by simpa using hx) (by simpa using hx') e.2]
 | swap a b l =>
  refine ⟨fun x=>match x with | q::r::x=>r::q::x | x=>x,?_,?_⟩
  ·intro x hx
   match x,hx with
   | q::r::x,hx =>
    refine ⟨by simpa using hx,?_⟩
    simp only [List.zip_cons_cons]
    exact List.Perm.swap _ _ _
  ·intro x x' hx hx'
   match x,hx,x',hx' with
   | q::r::x,hx,q'::r'::x',hx' =>
    intro e
    simp only [List.cons.injEq] at e
    rw [e.1,e.2.1,e.2.2]
 | trans _ _ ih1 ih2 =>
  obtain ⟨f,h1,h2⟩:=ih1
  obtain ⟨g,h3,h4⟩:=ih2
  refine ⟨fun x=>g (f x),fun x hx=>?_,fun x x' hx hx' e=>?_⟩
  ·have a:=h1 x hx
   have b:=h3 (f x) a.1
   exact ⟨b.1,a.2.trans b.2⟩
  ·exact h2 x x' hx hx' (h4 _ _ (h1 x hx).1 (h1 x' hx').1 e)
theorem NW {A:Type} [DecidableEq A]:∀ {l m:List A},l.Nodup→(∀ x∈l,x∈m)→l.length≤m.length
 | [],_,_,_=>by simp
 | a::l,m,h,hm=>by
  rw [List.nodup_cons] at h
  have h1:a∈m:=hm a (by simp)
  have h2:∀ x∈l,x∈m.erase a:=fun x hx=>by
   have hne:x≠a:=by rintro rfl;exact h.1 hx
   exact (List.mem_erase_of_ne hne).2 (hm x (by simp [hx]))
  have h3:=NW h.2 h2
  rw [List.length_erase_of_mem h1] at h3
  have:0<m.length:=List.length_pos_of_mem h1
  simp only [List.length_cons];omega
theorem nP {y:Yard} (h:y.ok=true) (s:Int):0≤rm y s:=by
 unfold rm kd kindOf
 cases hf:y.kinds.find? (fun k=>k.sort == s) with
 | none=>simp [kz]
 | some k =>
  have hm:=List.mem_of_find?_eq_some hf
  unfold Yard.ok at h
  simp only [Bool.and_eq_true,List.all_eq_true,Kd.ok,within,decide_eq_true_eq] at h
  have:=(h.1.2 k hm).1.1.1.2.1
  simp only [Option.getD_some];omega
theorem UX {y:Yard} (h:y.ok=true) {l x:List Int} (hx:x.length=l.length):okP y l x=true↔Good y (l.zip x):=by
 unfold okP
 simp only [hx,Nat.le_refl,decide_true,Bool.true_and]
 exact BI (nP h) _ _ rfl
theorem aD1 {y:Yard} (h:y.ok=true) {l l':List Int} (hl:l.Perm l'):(PL y l).length≤(PL y l').length:=by
 obtain ⟨f,h1,h2⟩:=YJ hl
 have h3:((PL y l).map f).Nodup:=by
  unfold List.Nodup
  rw [List.pairwise_map]
  refine List.Pairwise.imp_of_mem ?_ (aBh y l)
  intro a b ha hb hab e
  exact hab (h2 a b (qO.1 ha).1 (qO.1 hb).1 e)
 have h4:=NW (m:=PL y l') h3 (by
  intro x hx
  obtain ⟨a,ha,rfl⟩:=List.mem_map.1 hx
  obtain ⟨e1,e2⟩:=qO.1 ha
  rw [qO]
  refine ⟨(h1 a e1).1,?_⟩
  rw [UX h (h1 a e1).1,← YI (h1 a e1).2,← UX h e1]
  exact e2)
 simpa using h4
theorem aC2 {y:Yard} (h:y.ok=true) {l l':List Int} (hl:l.Perm l'):(PL y l).length=(PL y l').length:=
 Nat.le_antisymm (aD1 h hl) (aD1 h hl.symm)
def can (y:Yard) (l:List Int):Bool:=!(PL y l).isEmpty
theorem aBi {y:Yard} (h:y.ok=true) {l l':List Int} (hl:l.Perm l'):can y l=can y l':=by
 have:=aC2 h hl
 unfold can
 rw [Bool.eq_iff_iff]
 simp only [Bool.not_eq_true',List.isEmpty_eq_false_iff_exists_mem,← List.length_pos_iff_exists_mem,this]
def mix (l:List Int):List Int:=(List.range 10).map fun (s:Nat)=>(l.count (s:Int):Int)
theorem NX {l l':List Int} (h:∀ s∈l,1≤s∧s≤9) (h':∀ s∈l',1≤s∧s≤9) (e:mix l=mix l'):l.Perm l':=by
 rw [List.perm_iff_count]
 intro a
 by_cases ha:0≤a∧a≤9
 ·have:=List.map_inj_left.1 e a.toNat (by simp;omega)
  have e2:((a.toNat:Nat):Int)=a:=by omega
  rw [e2] at this
  omega
 ·rw [List.count_eq_zero.2 (fun hm=>ha (by have:=h a hm;omega)),List.count_eq_zero.2 (fun hm=>ha (by have:=h' a hm;omega))]
theorem nQ {y:Yard} (h:y.ok=true) {s:Int} (hs:has y s=true):1≤s∧s≤9:=by
 unfold has kindOf at hs
 rw [Option.isSome_iff_exists] at hs
 obtain ⟨k,hk⟩:=hs
 have hm:=List.mem_of_find?_eq_some hk
 have he:=List.find?_some hk
 unfold Yard.ok at h
 simp only [Bool.and_eq_true,List.all_eq_true,Kd.ok,within,decide_eq_true_eq] at h
 have:=(h.1.2 k hm).1.1.1.1
 simp only [beq_iff_eq] at he
 omega
theorem aC3 {y:Yard} (h:y.ok=true) {l l':List Int} (hl:l.all (has y)=true) (hl':l'.all (has y)=true) (e:mix l=mix l'):can y l=can y l':=by
 rw [List.all_eq_true] at hl hl'
 exact aBi h (NX (fun s hs=>nQ h (hl s hs)) (fun s hs=>nQ h (hl' s hs)) e)
end Go.Pen
namespace Go.Pen
end Go.Pen
namespace Go.Pen
open Go.Sx
structure Stay where
 (sort inn out:Int)
def ints (l:List Int):List (List CV):=l.map fun x=>[ci x]
def Kd.cv (k:Kd):List CV:=[ci k.sort,ci k.room,ci k.eats,ci k.apart]
def Stay.cv (s:Stay):List CV:=[ci s.sort,ci s.inn,ci s.out]
def Yard.ps (y:Yard):List (List CV):=ints y.pens
def Yard.ks (y:Yard):List (List CV):=y.kinds.map Kd.cv
def stays (l:List Stay):List (List CV):=l.map Stay.cv
@[simp] theorem bJ (l:List Int):(ints l).length=l.length:=by simp [ints]
@[simp] theorem aK (l:List Int):il (ints l)=l.length:=by simp [ints]
@[simp] theorem vV (l:List Stay):il (stays l)=l.length:=by simp [stays]
@[simp] theorem aD2 (y:Yard):il y.ks=y.kinds.length:=by simp [Yard.ks]
@[simp] theorem zG (y:Yard):il y.ps=y.pens.length:=by simp [Yard.ps]
theorem aW {l:List Int} {i:Nat} (h:i<l.length):inb (i:Int) (ints l)=true:=aR h
theorem bI {l:List Int} {i:Nat} (h:i<l.length):el (ints l) (i:Int)=[ci l[i]]:=bK h
theorem SD {y:Yard} {i:Nat} (h:i<y.pens.length):inb (i:Int) y.ps=true:=aR h
theorem aBj {y:Yard} {i:Nat} (h:i<y.pens.length):el y.ps (i:Int)=[ci y.pens[i]]:=bK h
theorem qP {y:Yard} {i:Nat} (h:i<y.kinds.length):inb (i:Int) y.ks=true:=aR h
theorem zH {y:Yard} {i:Nat} (h:i<y.kinds.length):el y.ks (i:Int)=y.kinds[i].cv:=bK h
theorem nR {l:List Stay} {i:Nat} (h:i<l.length):inb (i:Int) (stays l)=true:=aR h
theorem qQ {l:List Stay} {i:Nat} (h:i<l.length):el (stays l) (i:Int)=l[i].cv:=bK h
@[simp] theorem jJ (l:List Int) (x:Int):ints l++[[ci x]]=ints (l++[x]):=by simp [ints]
@[simp] theorem NY:ints []=[]:=rfl
theorem xZ (l:List Int) (n:Nat):(ints l).take n=ints (l.take n):=by simp [ints,List.map_take]
theorem NZ {l m:List Int} (h:ints l=ints m):l=m:=by
 unfold ints at h
 refine List.map_inj_right ?_ |>.1 h
 intro a b e
 injection e with e _
 simp only [ci] at e
 injection e with e
 injection e
theorem fU {y:Yard} (h:y.ok=true):y.pens.length≤5∧y.kinds.length≤9:=by
 unfold Yard.ok at h
 simp only [Bool.and_eq_true,decide_eq_true_eq] at h
 refine ⟨h.1.1.1,?_⟩
 have hr:=h.2
 have hk:∀ k∈y.kinds,1≤k.sort∧k.sort≤9:=fun k hk=>by
  have:=List.all_eq_true.1 h.1.2 k hk
  simp only [Kd.ok,within,Bool.and_eq_true,decide_eq_true_eq] at this
  exact this.1.1.1.1
 generalize y.kinds=ks at hr hk
 have key:∀ (ks:List Kd) (a:Int),rising (ks.map Kd.sort)=true→(∀ k∈ks,a≤k.sort∧k.sort≤9)→1≤a→a≤10→(ks.length:Int)≤10 - a:=by
  intro ks
  induction ks with
  | nil=>intro a _ _ _ _;simp;omega
  | cons k ks ih =>
   intro a hr hk h1 h2
   have hk0:=hk k (by simp)
   have hr2:rising (ks.map Kd.sort)=true:=by
    simp only [List.map_cons,rising,Bool.and_eq_true] at hr;exact hr.2
   have hnext:∀ k'∈ks,k.sort+1≤k'.sort∧k'.sort≤9:=by
    intro k' hk'
    refine ⟨?_,(hk k' (by simp [hk'])).2⟩
    have hlt:∀ (ks:List Kd) (s:Int),rising (s::ks.map Kd.sort)=true→∀ k'∈ks,s<k'.sort:=by
     intro ks
     induction ks with
     | nil=>intro s _ k' hk';simp at hk'
     | cons b ks ih2 =>
      intro s hr k' hk'
      simp only [List.map_cons,rising,Bool.and_eq_true,decide_eq_true_eq] at hr
      rcases List.mem_cons.1 hk' with rfl | hk'
      ·exact hr.1
      ·have:=ih2 b.sort (by simp only [rising,Bool.and_eq_true];exact hr.2) k' hk'
       omega
    have:=hlt ks k.sort (by simpa using hr) k' hk'
    omega
   have:=ih (k.sort+1) hr2 hnext (by omega) (by omega)
   simp only [List.length_cons];omega
 have:=key ks 1 hr hk (by omega) (by omega)
 omega
end Go.Pen
namespace Go.Pen
open Go.Sx
theorem rZ (m:Nat):BitVec.ofInt 64 (m:Int)=BitVec.ofNat 64 m:=by
 apply BitVec.eq_of_toInt_eq
 simp [BitVec.toInt_ofInt,BitVec.toInt_ofNat]
theorem KB (m k:Nat) (h:m<2 ^ 64) (h':k<2 ^ 64):bAN (m:Int) (k:Int)=m &&& k:=by
 unfold bAN
 rw [rZ,rZ,BitVec.toNat_and,BitVec.toNat_ofNat,BitVec.toNat_ofNat,Nat.mod_eq_of_lt h,Nat.mod_eq_of_lt h']
theorem aC4 (m k:Nat) (h:m<2 ^ 64) (h':k<2 ^ 64):bON (m:Int) (k:Int)=m ||| k:=by
 unfold bON
 rw [rZ,rZ,BitVec.toNat_or,BitVec.toNat_ofNat,BitVec.toNat_ofNat,Nat.mod_eq_of_lt h,Nat.mod_eq_of_lt h']
theorem UY (s:Nat):((2:Int) ^ s)=((2 ^ s:Nat):Int):=by simp
theorem KC (q:Nat):(q &&& 1=1)↔q.testBit 0=true:=by
 rw [Nat.and_one_is_mod,Nat.testBit_zero];simp
theorem OA (p s:Nat) (h:p<2 ^ 63):((wr (Int.ofNat (bAN (Int.fdiv (p:Int) ((2:Int) ^ (min s 64))) 1))) == 1)=p.testBit s:=by
 rw [UY,Int.fdiv_eq_ediv_of_nonneg _ (Int.natCast_nonneg _),← Int.natCast_ediv]
 have h1:p / 2 ^ (min s 64)≤p:=Nat.div_le_self _ _
 have h2:bAN ((p / 2 ^ (min s 64):Nat):Int) 1=(p / 2 ^ (min s 64)) &&& 1:=KB _ 1 (by omega) (by decide)
 rw [h2]
 have h3:(p / 2 ^ (min s 64)) &&& 1≤1:=Nat.and_le_right
 have h4:wr (Int.ofNat ((p / 2 ^ (min s 64)) &&& 1))=Int.ofNat ((p / 2 ^ (min s 64)) &&& 1):=by
  rw [bE] <;> simp <;> omega
 rw [h4]
 have h5:p.testBit s=(p / 2 ^ (min s 64)).testBit 0:=by
  rw [Nat.testBit_div_two_pow,Nat.zero_add]
  by_cases hs:s≤64
  ·rw [Nat.min_eq_left hs]
  ·rw [Nat.min_eq_right (by omega),Nat.testBit_lt_two_pow (Nat.lt_of_lt_of_le h (Nat.pow_le_pow_right (by decide) (by omega))),Nat.testBit_lt_two_pow (Nat.lt_of_lt_of_le h (Nat.pow_le_pow_right (by decide) (by decide)))]
 rw [h5,Bool.eq_iff_iff,← KC,beq_iff_eq]
 generalize (p / 2 ^ (min s 64)) &&& 1=x
 rw [Int.ofNat_eq_natCast]
 omega
def orI (a:Int) (b:Nat):Int:=wr (Int.ofNat (bON a (wr (1*((2:Int) ^ (min b 64))))))
theorem UZ (m b:Nat) (h:m<1024) (hb:b≤9):orI (m:Int) b=((m ||| 2 ^ b:Nat):Int)∧m ||| 2 ^ b<1024:=by
 have h1:2 ^ b<2 ^ 10:=Nat.pow_lt_pow_right (by decide) (by omega)
 have h2:m ||| 2 ^ b<2 ^ 10:=Nat.or_lt_two_pow (by omega) h1
 refine ⟨?_,h2⟩
 unfold orI
 have h0:(0:Int)≤((2 ^ b:Nat):Int):=Int.natCast_nonneg _
 have e:wr (1*((2:Int) ^ (min b 64)))=((2 ^ b:Nat):Int):=by
  rw [Nat.min_eq_left (by omega),UY,Int.one_mul,bE (by omega) (by omega)]
 rw [e,aC4 _ _ (by omega) (by omega),Int.ofNat_eq_natCast,bE (by omega) (by omega)]
theorem VA (m b j:Nat):(m ||| 2 ^ b).testBit j=(m.testBit j || decide (b=j)):=by
 rw [Nat.testBit_or,Nat.testBit_two_pow]
theorem FJ (a b:Nat) (ha:a<1024) (hb:b<1024):((wr (Int.ofNat (bAN (a:Int) (b:Int)))) == 0)=(List.range 10).all fun i=>!(a.testBit i&&b.testBit i):=by
 rw [KB _ _ (by omega) (by omega)]
 have h1:a &&& b≤a:=Nat.and_le_left
 rw [bE (by simp) (by simp;omega),Bool.eq_iff_iff,List.all_eq_true]
 simp only [beq_iff_eq,List.mem_range,Bool.not_eq_true',Int.ofNat_eq_natCast,Int.natCast_eq_zero]
 constructor
 ·intro h i _
  rw [← Nat.testBit_and,h,Nat.zero_testBit]
 ·intro h
  apply Nat.eq_of_testBit_eq
  intro i
  rw [Nat.zero_testBit,Nat.testBit_and]
  by_cases hi:i<10
  ·exact h i hi
  ·rw [Nat.testBit_lt_two_pow (x:=a) (Nat.lt_of_lt_of_le ha (show 2 ^ 10≤2 ^ i from Nat.pow_le_pow_right (by decide) (by omega)))];rfl
end Go.Pen
