/-
 The law PenRefuses of the pens of a pound holds at every input, without any condition.
-/
import Derived.Test.YthkfohoccnnphaaP07
namespace Go.Sx
open Go Go.RowKit
variable [G:Ghost]
def intsOf:List CV→Option (List Int)
 | []=>some []
 | .val (.int .i64 x)::r=>match intsOf r with
  | some l=>some (x::l)
  | none=>none
 | _=>none
def lQ:List (List CV)→YF→List (List CV)→Option (List (List CV))
 | [],_,es=>some es
 | x::r,yf,es=>match yf es x with
  | some (true,es')=>lQ r yf es'
  | some (false,es')=>some es'
  | none=>none
structure Its (P:Program) (sg:FuncId→Option Sig) (M:Den):Prop where
 itj:∀ f caps rows sh,sg f=none→M f caps=some [.row 0 rows,shC sh]→dJ P f=true∧qZ P f caps sh (lQ rows)
 it:∀ f caps out xs,sg f=none→M f caps=some out→intsOf out=some xs→dJ P f=true∧RT P f caps xs
def oT:Code→Bool
 | .rangeFunc ..=>true
 | .seq a b=>oT a || oT b
 | .block _ c=>oT c
 | .cond _ a b=>oT a || oT b
 | .loop c=>oT c
 | .scope c=>oT c
 | _=>false
def hC (step:Int→List CV→Option Ou):List Int→List CV→Option Ou
 | [],vs=>some (.nx vs)
 | x::xs,vs=>match step x vs with
  | some (.nx vs')=>hC step xs vs'
  | o=>o
open Classical in
noncomputable def HJ (it:Option (List Int)) (step:Int→List CV→Option Ou) (vs:List CV):Option Ou:=match it with
 | some xs=>if ∀ l,hC step l vs≠none then hC step xs vs else none
 | none=>none
theorem KX {it:Option (List Int)} {step:Int→List CV→Option Ou} {vs:List CV} {r:Ou} (h:HJ it step vs=some r):∃ xs,it=some xs∧(∀ l,hC step l vs≠none)∧hC step xs vs=some r:=by
 have _:=G
 unfold HJ at h
 split at h
 ·split at h
  ·rename_i xs hl;exact ⟨xs,rfl,hl,h⟩
  ·cases h
 ·cases h
theorem kR {step:Int→List CV→Option Ou}:∀ (l l':List Int) (vs:List CV),hC step (l++l') vs=match hC step l vs with
  | some (.nx vs')=>hC step l' vs'
  | o=>o
 | [],l',vs=>have _:=G;rfl
 | x::l,l',vs=>by
  simp only [List.cons_append,hC]
  cases step x vs with
  | none=>rfl
  | some o=>cases o with
   | nx vs'=>exact kR l l' vs'
   | _=>rfl
def itV (sg:FuncId→Option Sig) (M:Den) (c:CV):Option (List Int):=match c with
 | .fn f caps=>match sg f with
  | none=>match M f caps with
   | some out=>intsOf out
   | none=>none
  | some _=>none
 | _=>none
theorem YY {sg:FuncId→Option Sig} {M:Den} {c:CV} {xs:List Int} (h:itV sg M c=some xs):∃ f caps out,c=.fn f caps∧sg f=none∧M f caps=some out∧intsOf out=some xs:=by
 have _:=G
 unfold itV at h
 split at h
 ·rename_i f caps
  split at h
  ·rename_i hs
   split at h
   ·rename_i out ho;exact ⟨f,caps,out,rfl,hs,ho,h⟩
   ·cases h
  ·cases h
 ·cases h
def bZ (step:List CV→List CV→Option Ou):List (List CV)→List CV→Option Ou
 | [],vs=>some (.nx vs)
 | x::xs,vs=>match step x vs with
  | some (.nx vs')=>bZ step xs vs'
  | o=>o
def eU (it:Option (List (List CV))) (step:List CV→List CV→Option Ou) (vs:List CV):Option Ou:=match it with
 | some rows=>bZ step rows vs
 | none=>none
open Classical in
noncomputable def vR (sg:FuncId→Option Sig) (M:Den) (c:CV) (sh:YSh):Option (List (List CV)):=match c with
 | .fn f caps=>match sg f with
  | none=>match M f caps with
   | some [.row 0 rows,c']=>if c'=shC sh then some rows else none
   | _=>none
  | some _=>none
 | _=>none
theorem UY {sg:FuncId→Option Sig} {M:Den} {c:CV} {sh:YSh} {rows:List (List CV)} (h:vR sg M c sh=some rows):∃ f caps,c=.fn f caps∧sg f=none∧M f caps=some [.row 0 rows,shC sh]:=by
 have _:=G
 unfold vR at h
 split at h
 ·rename_i f caps
  split at h
  ·rename_i hs
   split at h
   ·rename_i rows' c' ho
    split at h
    ·rename_i hc
     cases h
     exact ⟨f,caps,rfl,hs,by rw [ho,hc]⟩
    ·cases h
   ·cases h
  ·cases h
 ·cases h
def brO:Option Ou→Option Ou
 | some (.br _ vs)=>some (.nx vs)
 | o=>o
def ouE:Ou→Bool×List (List CV)
 | .nx vs=>(true,[vs])
 | .br _ vs=>(false,[[],vs])
 | .ret l=>(false,[[],[],l])
def yfO (step:List CV→List CV→Option Ou):YF:=fun es x=>match es with
 | [vs]=>(step x vs).map ouE
 | _=>none
def oA (id:Nat):List (List CV)→Option Code
 | [_,_]=>some (.exit id)
 | [_,_,_]=>some .ret
 | _=>none
theorem xI {step:List CV→List CV→Option Ou}:∀ {rows:List (List CV)} {vs:List CV} {o:Ou},bZ step rows vs=some o→lQ rows (yfO step) [vs]=some (ouE o).2
 | [],vs,o,h=>by have _:=G;simp only [bZ,Option.some.injEq] at h;subst h;rfl
 | x::r,vs,o,h=>by
  simp only [bZ] at h
  simp only [lQ,yfO]
  cases hs:step x vs with
  | none=>rw [hs] at h;cases h
  | some o' =>
   rw [hs] at h
   cases o' with
   | nx vs'=>exact xI h
   | br i vs'=>simp only [Option.some.injEq] at h;subst h;rfl
   | ret l=>simp only [Option.some.injEq] at h;subst h;rfl
def sYs:List Nat→List AV→SS→SS
 | p::ps,x::xs,s=>sYs ps xs (s.put (some p) x s.B s.V)
 | _,_,s=>s
def AW (sh:YSh) (x:List CV) (ps:List Nat) (s:SS):SS:=match sh with
 | .clo cs=>sYs ps (Sc.avs cs x 0) s
 | .lent T k=>sYs ps [.own s.V.length 1] ⟨s.n,s.t,s.B,s.V++[⟨true,T,k,1,cR (x.getD 0 dC)⟩]⟩
def SS.killY (sh:YSh) (nv:Nat) (s:SS):SS:=match sh with
 | .clo _=>s
 | .lent _ _=>⟨s.n,s.t,s.B,eA nv s.V⟩
def mI (sh:YSh) (nv:Nat) (l:Lk):Lk:=match sh with
 | .clo _=>l
 | .lent _ _=>⟨l.t,l.b,nv::l.v,nv::l.o⟩
def aDk (n:Nat) (ps:List Nat) (sh:YSh):Bool:=ps.all (fun p=>decide (p<n))&&(decide (sh.np=ps.length)&&match sh with
 | .clo _=>true
 | .lent T _=>decide (T<aP))
def aCm (sh:YSh) (s3:St) (j:Nat):Prop:=match sh with
 | .clo _=>True
 | .lent _ _=>∀ v,s3.V[j]? = some v→v.live=false
def lkX (h:Hint) (lk:Lk) (s:SS):Lk:=⟨lk.t,lk.b,lk.v,(List.range s.V.length).filter fun i=>!h.vxu.contains i⟩
def SS.back (s:SS) (ks:List Nat) (s':SS):SS:=⟨s.n,(s.kept ks).t,s'.B,s'.V⟩
def noM (V:List Vec):Bool:=V.all fun v=>decide (v.T<aP)
def sIn (p:Nat) (dd:Option Nat) (x:Int) (s:SS):SS:=(s.put (some p) (.cv (.val (.int .i64 x))) s.B s.V).put dd (.cv (.val (.int .i64 x))) s.B s.V
section
variable (P:Program) (sg:FuncId→Option Sig) (M:Den)
noncomputable def evT (inl:List (Option Nat×Hint×HT)→IN) (rt:SS→Option Ou):Code→HT→Lk→SS→(SS→Option Ou)→Option Ou
 | .seq a b,.two x y,lk,s,K=>match oT (.seq a b) with
  | true=>evT inl rt a x lk s fun s'=>evT inl rt b y lk s' K
  | false=>evC P sg M inl rt (.seq a b) (.two x y) lk [] s K
 | .cond c a b,.cond none x y,lk,s,K=>match oT (.cond c a b) with
  | true=>match s.ev c with
   | .cv (.val (.bool t))=>aB t (evT inl rt a x lk s K) (evT inl rt b y lk s K)
   | _=>none
  | false=>evC P sg M inl rt (.cond c a b) (.cond none x y) lk [] s K
 | .block id c,.thru x,lk,s,K=>match oT (.block id c) with
  | true=>evT inl rt c x lk s K
  | false=>evC P sg M inl rt (.block id c) (.thru x) lk [] s K
 | .block id c,.rg sh h x y,lk,s,K=>match c with
  | .rangeFunc g ps assign body =>
   if (fM h lk s&&fM h (lkX h lk s) s&&h.vars.isEmpty&&(eP s.V.length (h.vx.map (·.1)) == 0)&&aDk s.n ps.toList sh)=true then
    match jL h s with
    | some v0=>match (aS h lk s v0).ev g with
     | .cv c=>bN (brO (eU (vR sg M c sh) (fun x1 vs=>evC P sg M inl (fun _=>none) assign x (mI sh s.V.length (cP h lk s)) [] (AW sh x1 ps.toList (aS h lk s vs)) fun s1 =>
       evC P sg M inl (fun s'=>rt ((s.back (h.keep++lk.t) s').killY sh s.V.length)) body y (mI sh s.V.length (cP h lk s)) [(id,h)] s1 fun s'=>(jL h (s.back (h.keep++lk.t) s')).map .nx) v0)) fun vs=>K (aS h lk s vs)
     | _=>none
    | none=>none
   else none
  | _=>none
 | .scope c,x,lk,s,K=>match oT (.scope c) with
  | true=>evT inl rt c x lk s K
  | false=>evC P sg M inl rt (.scope c) x lk [] s K
 | .rangeFunc g ps assign body,.lp [] h y,lk,s,K=>match ps.toList with
   | [p]=>match tO p assign with
    | some dd=>if (fM h lk s&&fM h (lkX h lk s) s&&h.vars.isEmpty&&decide (p<s.n)&&noM s.V&&h.vx.all fun p=>decide (p.2.1<aP))=true then
      match jL h s with
      | some v0=>match (aS h lk s v0).ev g with
       | .cv c=>bN (HJ (itV sg M c) (fun x vs=>evC P sg M inl (fun s'=>if noM s'.V=true then rt (s.back (h.keep++lk.t) s') else none) body y (cP h lk s) [] (sIn p dd x (aS h lk s vs)) fun s'=>(jL h (s.back (h.keep++lk.t) s')).map .nx) v0) fun vs=>K (aS h lk s vs)
       | _=>none
      | none=>none
     else none
    | none=>none
   | _=>none
 | c,ht,lk,s,K=>evC P sg M inl rt c ht lk [] s K
end
section
variable {P:Program} {sg:FuncId→Option Sig} {M:Den} {F:Fence} {n:Nat}
theorem Em.dm {m:Emb} {s:SS} {st:St} (h:Em m s st) (hn:noM s.V=true):Em m s (dmS st):=by
 have _:=G
 refine ⟨h.t,h.ti,⟨h.m.bl,h.m.vl,h.m.ol,h.m.b,fun i v hi hl=>?_,fun i hi=>?_,h.m.bi,h.m.vi⟩⟩
 ·have h1:=h.m.v i v hi hl
  have hT:v.T<aP:=of_decide_eq_true (List.all_eq_true.1 hn v (List.mem_of_getElem? hi))
  show (dmV st.V)[m.fv i]? = _
  simp only [dmV,List.getElem?_map,h1,Option.map_some,Vec.cz,hT,decide_true,Bool.and_true]
 ·show m.fv i<(dmV st.V).length
  simpa [dmV] using h.m.vlt i hi
theorem aBm (V:List Vec):dmV (dmV V)=dmV V:=by
 have _:=G
 simp only [dmV,List.map_map]
 refine List.map_congr_left fun v _=>?_
 simp only [Function.comp,Bool.and_assoc,Bool.and_self]
theorem Adv.dm {lk:Lk} {m m':Emb} {s s':SS} {st st':St} (h:Adv lk m s (dmS st) m' s' st'):Adv lk m s (dmS st) m' s' (dmS st'):=by
 refine ⟨⟨h.stp.up,h.stp.bl,?_,h.stp.bn,h.stp.vn,h.stp.bf,fun j hj hn=>?_⟩,h.n,h.bl,h.vl,h.t,h.b,h.v,h.o⟩
 ·show (dmS st).V.length≤(dmV st'.V).length
  rw [show (dmV st'.V).length=st'.V.length by simp [dmV]];exact h.stp.vl
 ·have h1:=h.stp.vf j hj hn
  show (dmV st'.V)[j]? = (dmV st.V)[j]?
  have h2:st'.V[j]? = (dmV st.V)[j]?:=h1
  rw [← aBm st.V,dmV,List.getElem?_map,h2,← List.getElem?_map]
  rfl
theorem UZ {h:Hint} {lk:Lk} {s:SS} (h1:noM s.V=true) (h2:(h.vx.all fun p=>decide (p.2.1<aP))=true) (vs:List CV):noM (aS h lk s vs).V=true:=by
 have _:=G
 have bld:∀ (l:List (Nat×TypeId×Nat×Option Nat)) (i p:Nat) (v:Vec),(l.all fun p=>decide (p.2.1<aP))=true→tM l i vs p=some v→v.T<aP:=by
  intro l
  induction l with
  | nil=>intro i p v _ h;simp [tM] at h
  | cons q r ih =>
   obtain ⟨j,T,k,g⟩:=q
   intro i p v hall h
   simp only [List.all_cons,Bool.and_eq_true,decide_eq_true_eq] at hall
   simp only [tM] at h
   split at h
   ·cases h;exact hall.1
   ·exact ih i (p+1) v hall.2 h
 unfold noM
 rw [List.all_eq_true]
 intro v hv
 simp only [aS,JX,List.mem_map,List.mem_range] at hv
 obtain ⟨i,_,rfl⟩:=hv
 rw [decide_eq_true_eq]
 split
 ·rename_i v hv;exact bld _ _ _ v h2 hv
 ·by_cases hi:i<s.V.length
  ·rw [List.getD,List.getElem?_eq_getElem hi]
   exact of_decide_eq_true (List.all_eq_true.1 h1 _ (List.getElem_mem hi))
  ·rw [List.getD,List.getElem?_eq_none (by omega)]
   show 0<aP
   decide
theorem Em.sYs {m:Emb}:∀ {ps:List Nat} {xs:List AV} {s:SS} {st:St},Em m s st→AV.inns s.B.length s.V.length xs=true→Em m (Go.Sx.sYs ps xs s) ⟨eQ st.t ps (AV.czs m xs),st.B,st.V⟩
 | [],_,s,st,h,_=>by simpa [Go.Sx.sYs,eQ] using h
 | p::ps,[],s,st,h,_=>by simpa [Go.Sx.sYs,eQ,AV.czs] using h
 | p::ps,x::xs,s,st,h,hx=>by
  simp only [AV.inns,Bool.and_eq_true] at hx
  simp only [Go.Sx.sYs,eQ,AV.czs]
  exact Em.sYs (h.put h.m (Emb.Up.refl _) (fun _ _=>rfl) (Nat.le_refl _) (Nat.le_refl _) hx.1 (some p)) hx.2
theorem PK:∀ (ps:List Nat) (xs:List AV) (s:SS),(sYs ps xs s).B=s.B∧(sYs ps xs s).V=s.V∧(sYs ps xs s).n=s.n
 | [],_,s=>by have _:=G;simp [sYs]
 | p::ps,[],s=>by simp [sYs]
 | p::ps,x::xs,s=>PK ps xs _
theorem Adv.lkle {lk lk':Lk} {m m':Emb} {s s':SS} {st st':St} (h:Adv lk m s st m' s' st') (ht:∀ d∈lk'.t,d∈lk.t) (hb:∀ d∈lk'.b,d∈lk.b) (hv:∀ d∈lk'.v,d∈lk.v) (ho:∀ d∈lk'.o,d∈lk.o):Adv lk' m s st m' s' st':=have _:=G;
 ⟨h.stp,h.n,h.bl,h.vl,fun d hd=>h.t d (ht d hd),fun d hd=>h.b d (hb d hd),fun d hd=>h.v d (hv d hd),fun d hd=>h.o d (ho d hd)⟩
theorem Em.killSt {m:Emb} {s:SS} {st:St} (h:Em m s st) {j:Nat} (hj:∀ i,i<s.V.length→m.fv i≠j):Em m s ⟨st.t,st.B,eA j st.V⟩:=by
 refine ⟨h.t,h.ti,⟨h.m.bl,h.m.vl,h.m.ol,h.m.b,fun i v hi hl=>?_,fun i hi=>?_,h.m.bi,h.m.vi⟩⟩
 ·have hil:=(List.getElem?_eq_some_iff.1 hi).1
  show (eA j st.V)[m.fv i]? = _
  rw [iK,h.m.v i v hi hl]
  simp [hj i hil]
 ·show m.fv i<(eA j st.V).length
  rw [gZ];exact h.m.vlt i hi
theorem Em.killSS {m:Emb} {s:SS} {st:St} (h:Em m s st) {nv:Nat} (hnv:nv<s.V.length) {x:Vec} (hx:s.V[nv]? = some x) (hT:x.T≠ghT):Em m ⟨s.n,s.t,s.B,eA nv s.V⟩ ⟨st.t,st.B,eA (m.fv nv) st.V⟩:=by
 have hl:(eA nv s.V).length=s.V.length:=gZ _ _
 refine ⟨h.t,fun p hp=>by show AV.inn s.B.length (eA nv s.V).length p.2=true;rw [hl];exact h.ti p hp,⟨h.m.bl,by rw [hl];exact h.m.vl,by rw [hl];exact h.m.ol,fun i b hb=>by rw [hl];exact h.m.b i b hb,fun i v hi hlv=>?_,fun i hi=>?_,h.m.bi,fun i j hi hj=>h.m.vi i j (by rw [← hl];exact hi) (by rw [← hl];exact hj)⟩⟩
 ·have hi:(eA nv s.V)[i]? = some v:=hi
  rw [iK,Option.map_eq_some_iff] at hi
  obtain ⟨v0,h1,rfl⟩:=hi
  have hil:=(List.getElem?_eq_some_iff.1 h1).1
  by_cases hin:i=nv
  ·subst hin
   rw [hx] at h1;cases h1
   simp only [if_true] at hlv
   rcases hlv with hlv | hlv
   ·cases hlv
   ·exact absurd hlv hT
  ·simp only [hin,if_false] at hlv ⊢
   show (eA (m.fv nv) st.V)[m.fv i]? = _
   rw [iK,h.m.v i v0 h1 hlv]
   have:m.fv i≠m.fv nv:=fun he=>hin (h.m.vi i nv hil hnv he)
   simp [this]
 ·show m.fv i<(eA _ st.V).length
  have hi:i<(eA nv s.V).length:=hi
  rw [gZ];rw [hl] at hi;exact h.m.vlt i hi
theorem Adv.killSt {lk:Lk} {m m':Emb} {s s':SS} {st st':St} (h:Adv lk m s st m' s' st') {j:Nat} (hj:st.V.length≤j):Adv lk m s st m' s' ⟨st'.t,st'.B,eA j st'.V⟩:=by
 refine ⟨⟨h.stp.up,h.stp.bl,?_,h.stp.bn,h.stp.vn,h.stp.bf,fun i hi hn=>?_⟩,h.n,h.bl,h.vl,h.t,h.b,h.v,h.o⟩
 ·show st.V.length≤(eA j st'.V).length
  rw [gZ];exact h.stp.vl
 ·show (eA j st'.V)[i]? = _
  rw [iK,h.stp.vf i hi hn]
  have:i≠j:=by omega
  simp [this]
theorem YZ {c:Code} {st:St} {Q:Exit→St→Prop} (h:W2 F n P c st (aAS Q)):W2 F n P (.scope c) st Q:=by
 intro n0 w0 m0 e a w Qr hr hm hm0 hk
 refine AC (h n0 w0 m0 e a w _ hr hm hm0 ?_)
 intro ex e' st' a' w' hq hrel hdf hx
 cases ex with
 | goto l=>exact hq.elim
 | _=>exact hk _ e' st' a' w' hq hrel hdf hx
open Classical in
theorem aDl (hM:Fns P sg M) (hT:Its P sg M) (hF:Free F) (hro:F.round=none) {inl:List (Option Nat×Hint×HT)→IN} (hI:∀ (F:Fence) (n:Nat),Free F→∀ il,yM F n P (inl il)) {rt:SS→Option Ou} (hrt:∀ s o,rt s=some o→∃ l,o=.ret l)
  {id:Nat} {g:Operand} {ps:Array Tmp} {assign body:Code} {sh:YSh} {h0:Hint} {x y:HT} {lk:Lk} {sA:SS} {K:SS→Option Ou} {r:Ou} {mA:Emb} {stA:St} {Q:Exit→St→Prop} (hEA:Em mA sA stA)
  (h:(if (fM h0 lk sA&&fM h0 (lkX h0 lk sA) sA&&h0.vars.isEmpty&&(eP sA.V.length (h0.vx.map (·.1)) == 0)&&aDk sA.n ps.toList sh)=true then
      match jL h0 sA with
      | some v0=>match (aS h0 lk sA v0).ev g with
       | .cv c=>bN (brO (eU (vR sg M c sh) (fun x1 vs=>evC P sg M inl (fun _=>none) assign x (mI sh sA.V.length (cP h0 lk sA)) [] (AW sh x1 ps.toList (aS h0 lk sA vs)) fun s1 =>
         evC P sg M inl (fun s'=>rt ((sA.back (h0.keep++lk.t) s').killY sh sA.V.length)) body y (mI sh sA.V.length (cP h0 lk sA)) [(id,h0)] s1 fun s'=>(jL h0 (sA.back (h0.keep++lk.t) s')).map .nx) v0)) fun vs=>K (aS h0 lk sA vs)
       | _=>none
      | none=>none
   else none)=some r)
  (hK:∀ m' s' st',K s'=some r→Em m' s' st'→Q .normal st')
  (hR:∀ m' s' st',rt s'=some r→Em m' s' st'→Q .ret st'):W2 F n P (.block id (.rangeFunc g ps assign body)) stA Q:=by
 split at h
 case isFalse=>cases h
 rename_i hc
 simp only [Bool.and_eq_true,beq_iff_eq,List.isEmpty_iff] at hc
 obtain ⟨⟨⟨⟨hok,hokX⟩,hvars⟩,hcnt⟩,hsh⟩:=hc
 simp only [aDk,Bool.and_eq_true,decide_eq_true_eq] at hsh
 obtain ⟨hps,hnp,hshT⟩:=hsh
 split at h
 case h_2=>cases h
 rename_i v0 hv0
 split at h
 case h_2=>cases h
 rename_i c hg
 generalize hstep:(fun (x1 vs:List CV)=>evC P sg M inl (fun _=>none) assign x (mI sh sA.V.length (cP h0 lk sA)) [] (AW sh x1 ps.toList (aS h0 lk sA vs)) fun s1 =>
       evC P sg M inl (fun s'=>rt ((sA.back (h0.keep++lk.t) s').killY sh sA.V.length)) body y (mI sh sA.V.length (cP h0 lk sA)) [(id,h0)] s1 fun s'=>(jL h0 (sA.back (h0.keep++lk.t) s')).map .nx)=step at h
 obtain ⟨r0,hr0⟩:∃ r0,eU (vR sg M c sh) step v0=some r0:=by
  cases hh:eU (vR sg M c sh) step v0 with
  | none=>rw [hh] at h;simp [brO,bN] at h
  | some r0=>exact ⟨r0,rfl⟩
 have hr0':=hr0
 unfold eU at hr0
 split at hr0
 case h_2=>cases hr0
 rename_i rows hit
 obtain ⟨f,caps,rfl,hsf,hMf⟩:=UY hit
 obtain ⟨hen,hIter⟩:=hT.itj f caps rows sh hsf hMf
 have hfold:=xI hr0
 rw [hr0'] at h
 have hnv:∀ vs,(aS h0 lk sA vs).V.length=sA.V.length:=fun vs=>by simp [aS,JX,hcnt]
 obtain ⟨o1,o2,o3,o4,o5,o6,o7,o8,o9,o10⟩:=jC hok
 have hslots:∀ vs,(aS h0 lk sA vs).t=(sA.kept (h0.keep++lk.t)).t:=by
  intro vs
  simp only [aS,hvars,vF,List.append_nil,SS.kept]
 have hext:∀ s':SS,jL h0 s'=jL h0 (sA.back (h0.keep++lk.t) s'):=by
  intro s'
  have hE:∀ (s1 s2:SS) (l:List (Nat×TypeId×List Sh)),s1.B=s2.B→s1.V=s2.V→yN s1 l=yN s2 l:=by
   intro s1 s2 l hb hv
   induction l with
   | nil=>rfl
   | cons q l ih=>obtain ⟨i,T,hs⟩:=q;simp only [yN,hb,hv,ih]
  have hE2:∀ (s1 s2:SS) (l:List (Nat×TypeId×Nat×Option Nat)),s1.V=s2.V→GU s1 l=GU s2 l:=by
   intro s1 s2 l hv
   induction l with
   | nil=>rfl
   | cons q l ih=>obtain ⟨i,T,k,g⟩:=q;simp only [GU,hv,ih]
  unfold jL
  rw [hvars]
  simp only [List.map_nil,SS.back]
  rw [hE s' ⟨sA.n,(sA.kept (h0.keep++lk.t)).t,s'.B,s'.V⟩ _ rfl rfl,hE2 s' ⟨sA.n,(sA.kept (h0.keep++lk.t)).t,s'.B,s'.V⟩ _ rfl]
 obtain ⟨m1,st1,q1,q2,q3⟩:=iW (st0:=stA) (lk:=lkX h0 lk sA) hEA hEA (Adv.refl _ _ _ _) hv0 hokX
 refine YW q1 (KV ?_)
 refine UX hF hro (sh:=sh) (R:=lQ rows) (yf:=yfO step) (es0:=[v0]) (es1:=(ouE r0).2) (f:=f) (caps:=caps)
  (fun es st'=>(∃ vs m',(es=[vs]∨es=[[],vs])∧Em m' (aS h0 lk sA vs) st'∧Adv (eE h0 (lkX h0 lk sA) sA) mA sA stA m' (aS h0 lk sA vs) st')∨(∃ l m' s',es=[[],[],l]∧rt s'=some (.ret l)∧Em m' s' st')) (oA id)
  (by rw [hnp];simp) ?_ hen hIter hfold (.inl ⟨v0,m1,.inl rfl,q2,q3⟩) rfl ?_ ?_
 ·rw [q2.ev];show AV.cz m1 ((aS h0 lk sA v0).ev g)=_;rw [hg];simp [AV.cz]
 ·
  intro F' n' hF' es x1 b es' st' hyf hIs
  obtain ⟨vs,rfl⟩:∃ vs,es=[vs]:=by
   unfold yfO at hyf
   split at hyf
   ·exact ⟨_,rfl⟩
   ·cases hyf
  simp only [yfO,Option.map_eq_some_iff] at hyf
  obtain ⟨o,ho,hoe⟩:=hyf
  obtain ⟨vs2,m',hvs,g2,g3⟩ | ⟨l,m',s',hvs,_⟩:=hIs
  rotate_left
  ·simp at hvs
  obtain rfl:vs=vs2:=by rcases hvs with hvs | hvs <;> simp at hvs <;> exact hvs
  refine ⟨rfl,?_⟩
  rw [← hstep] at ho
  simp only at ho
  obtain ⟨mB,hEB,hAB,hnew⟩:∃ mB,Em mB (AW sh x1 ps.toList (aS h0 lk sA vs)) (stY sh x1 ps.toList st')∧Adv (cP h0 lk sA) m' (aS h0 lk sA vs) st' mB (AW sh x1 ps.toList (aS h0 lk sA vs)) (stY sh x1 ps.toList st') ∧
    (match sh with | .clo _=>True | .lent T k=>mB.fv sA.V.length=st'.V.length∧mB.fo sA.V.length=0∧(AW sh x1 ps.toList (aS h0 lk sA vs)).V=(aS h0 lk sA vs).V++[⟨true,T,k,1,cR (x1.getD 0 dC)⟩]):=by
   cases sh with
   | clo cs =>
    obtain ⟨p1,p2⟩:=Sc.avs_pl cs x1 0 m' (aS h0 lk sA vs).B.length (aS h0 lk sA vs).V.length
    have hE1:=g2.sYs (ps:=ps.toList) p2
    rw [p1] at hE1
    obtain ⟨z1,z2,z3⟩:=PK ps.toList (Sc.avs cs x1 0) (aS h0 lk sA vs)
    refine ⟨m',hE1,⟨Stp.refl _ _ _,z3,by show _≤(sYs _ _ _).B.length;rw [z1];exact Nat.le_refl _,by show _≤(sYs _ _ _).V.length;rw [z2];exact Nat.le_refl _,fun d hd=>by simp [cP] at hd,fun i _ _=>by show (sYs _ _ _).B[i]? = _;rw [z1],fun i _ _=>by show (sYs _ _ _).V[i]? = _;rw [z2],fun _ _ _=>rfl⟩,trivial⟩
   | lent T k =>
    have hl:m'.vb.length=m'.vm.length:=by rw [g2.m.ol,g2.m.vl]
    have hfo:=Emb.pushV_fo (m:=m') st'.V.length hl
    have hup:=Emb.pushV_up m' st'.V.length
    have hlen:m'.vm.length=sA.V.length:=by rw [g2.m.vl,hnv]
    have hE1:Em (m'.pushV st'.V.length) ⟨(aS h0 lk sA vs).n,(aS h0 lk sA vs).t,(aS h0 lk sA vs).B,(aS h0 lk sA vs).V++[⟨true,T,k,1,cR (x1.getD 0 dC)⟩]⟩ ⟨st'.t,st'.B,st'.V++[⟨true,T,k,1,cR (x1.getD 0 dC)⟩]⟩:=by
     have:=g2.put (g2.m.pushV (v:=⟨true,T,k,1,cR (x1.getD 0 dC)⟩)) hup hfo (Nat.le_refl _) (by simp) (x:=.any) rfl none
     simpa [SS.put,St.put] using this
    have hE2:=hE1.sYs (ps:=ps.toList) (xs:=[.own (aS h0 lk sA vs).V.length 1]) (by simp [AV.inns,AV.inn])
    have hv1:(m'.pushV st'.V.length).fv sA.V.length=st'.V.length:=by rw [← hlen];exact Emb.pushV_new _ _
    have hv2:(m'.pushV st'.V.length).fo sA.V.length=0:=by rw [← hlen];exact Emb.pushV_new0 _ hl
    obtain ⟨z1,z2,z3⟩:=PK ps.toList [.own (aS h0 lk sA vs).V.length 1] ⟨(aS h0 lk sA vs).n,(aS h0 lk sA vs).t,(aS h0 lk sA vs).B,(aS h0 lk sA vs).V++[⟨true,T,k,1,cR (x1.getD 0 dC)⟩]⟩
    refine ⟨m'.pushV st'.V.length,?_,⟨Stp.pushV _,z3,by show _≤(sYs _ _ _).B.length;rw [z1];exact Nat.le_refl _,by show _≤(sYs _ _ _).V.length;rw [z2];simp,fun d hd=>by simp [cP] at hd,fun i _ _=>by show (sYs _ _ _).B[i]? = _;rw [z1],fun i _ hi=>by show (sYs _ _ _).V[i]? = _;rw [z2];exact List.getElem?_append_left hi,fun i _ hi=>hfo i (by rw [g2.m.vl];exact hi)⟩,hv1,hv2,?_⟩
    ·have hcz:AV.czs (m'.pushV st'.V.length) [.own (aS h0 lk sA vs).V.length 1]=[.own st'.V.length 1]:=by
      simp [AV.czs,AV.cz,hnv,hv1,hv2]
     rw [hcz] at hE2
     exact hE2
    ·exact z2
  have hlkt:∀ (m2:Emb) (s2:SS) (st2:St),Adv (mI sh sA.V.length (cP h0 lk sA)) mB (AW sh x1 ps.toList (aS h0 lk sA vs)) (stY sh x1 ps.toList st') m2 s2 st2→Adv (cP h0 lk sA) m' (aS h0 lk sA vs) st' m2 s2 st2:=by
   intro m2 s2 st2 ha
   refine hAB.trans (ha.lkle ?_ ?_ ?_ ?_) <;> cases sh <;> simp [mI] <;> intro d hd <;> simp [hd]
  have back:∀ {m2:Emb} {s2:SS} {st2:St},Em m2 s2 st2→Adv (cP h0 lk sA) m' (aS h0 lk sA vs) st' m2 s2 st2 →
    Em m2 (sA.back (h0.keep++lk.t) s2) ⟨st'.t,st2.B,st2.V⟩∧Adv (eE h0 (lkX h0 lk sA) sA) mA sA stA m2 (sA.back (h0.keep++lk.t) s2) ⟨st'.t,st2.B,st2.V⟩:=by
   intro m2 s2 st2 hE2 ha
   have hbl:sA.B.length≤(aS h0 lk sA vs).B.length:=g3.bl
   have hvl:sA.V.length≤(aS h0 lk sA vs).V.length:=g3.vl
   have hcz:∀ d∈h0.keep++lk.t,(sA.get d).cz m'=(sA.get d).cz m2:=fun d hd =>
    AV.cz_noV (nb:=sA.B.length) (nv:=sA.V.length) (fun j hj=>(ha.stp.up.b j (by rw [g2.m.bl];omega)).symm) (fun j hj=>(ha.stp.up.v j (by rw [g2.m.vl];omega)).symm)
     (fun j hj hcj=>(ha.o j (by simp only [cP,List.mem_filter,List.mem_range,hcj];exact ⟨hj,rfl⟩) (by omega)).symm) _ (hEA.inn d) (o1 d hd)
   refine ⟨⟨?_,fun q hq=>?_,hE2.m⟩,?_⟩
   ·show st'.t=mkT sA.n ((sA.kept (h0.keep++lk.t)).t.map fun p=>(p.1,p.2.cz m2))
    rw [g2.t,hslots]
    show mkT sA.n _=_
    congr 1
    simp only [SS.kept,List.map_map]
    exact List.map_congr_left fun d hd=>by simp only [Function.comp];rw [hcz d hd]
   ·simp only [SS.back,SS.kept,List.mem_map] at hq
    obtain ⟨d,_,rfl⟩:=hq
    have h1:=ha.bl
    have h2:=ha.vl
    exact AV.inn_mono (Nat.le_trans hbl h1) (Nat.le_trans hvl h2) _ (hEA.inn d)
   ·have h1:=ha.bl
    have h2:=ha.vl
    refine ⟨g3.stp.trans ha.stp,rfl,Nat.le_trans hbl h1,Nat.le_trans hvl h2,fun d hd=>?_,fun i hi hil=>?_,fun i hi hil=>?_,fun i hi hil=>?_⟩
    ·exact SS.kept_get hd
    ·exact (ha.b i hi (by omega)).trans (g3.b i hi hil)
    ·exact (ha.v i hi (by omega)).trans (g3.v i hi hil)
    ·exact (ha.o i hi (by omega)).trans (g3.o i hi hil)
  have hstV:stA.V.length≤st'.V.length:=g3.stp.vl
  have hlent:∀ (m2:Emb) (s2:SS) (st2:St),Em m2 s2 st2→Adv (mI sh sA.V.length (cP h0 lk sA)) mB (AW sh x1 ps.toList (aS h0 lk sA vs)) (stY sh x1 ps.toList st') m2 s2 st2 →
    (match sh with | .clo _=>True | .lent T k=>s2.V[sA.V.length]? = some ⟨true,T,k,1,cR (x1.getD 0 dC)⟩∧m2.fv sA.V.length=st'.V.length∧st2.V[st'.V.length]? = some ⟨true,T,k,1,cR (x1.getD 0 dC)⟩):=by
   intro m2 s2 st2 hE2 ha
   cases sh with
   | clo cs=>trivial
   | lent T k =>
    obtain ⟨w1,w2,w3⟩:=hnew
    have hlt:sA.V.length<(AW (.lent T k) x1 ps.toList (aS h0 lk sA vs)).V.length:=by rw [w3];simp [hnv]
    have e1:=ha.v sA.V.length (by simp [mI]) hlt
    rw [w3,List.getElem?_append_right (by rw [hnv];exact Nat.le_refl _),hnv,Nat.sub_self] at e1
    have e2:=ha.o sA.V.length (by simp [mI]) hlt
    have e3:=ha.stp.up.v sA.V.length (by rw [hEB.m.vl];exact hlt)
    have e4:=hE2.m.v _ _ e1 (.inl rfl)
    rw [e3,w1] at e4
    refine ⟨e1,e3.trans w1,?_⟩
    rw [e4]
    simp [Vec.cz,e2,w2]
  have hrt':∀ (s:SS) (o:Ou),(fun s'=>rt ((sA.back (h0.keep++lk.t) s').killY sh sA.V.length)) s=some o→∃ l,o=.ret l:=fun s o hs=>hrt _ o hs
  have again:∀ (m2:Emb) (s2:SS) (st2:St) (vs2:List CV),Em m2 s2 st2→Adv (mI sh sA.V.length (cP h0 lk sA)) mB (AW sh x1 ps.toList (aS h0 lk sA vs)) (stY sh x1 ps.toList st') m2 s2 st2→jL h0 (sA.back (h0.keep++lk.t) s2)=some vs2 →
    ∃ s3 m3,Wkd ⟨st'.t,st2.B,st2.V⟩ s3∧Em m3 (aS h0 lk sA vs2) s3∧Adv (eE h0 (lkX h0 lk sA) sA) mA sA stA m3 (aS h0 lk sA vs2) s3∧aCm sh s3 st'.V.length:=by
   intro m2 s2 st2 vs2 hE2 ha hx
   obtain ⟨b1,b2⟩:=back hE2 (hlkt _ _ _ ha)
   obtain ⟨m3,st3,w1,w2,w3,w4⟩:=KC (lk:=lkX h0 lk sA) hEA b1 b2 hx hokX
   have w4':∀ i,i<sA.V.length→m3.fv i=m2.fv i:=fun i hi=>w4 i (by rw [show (aS h0 (lkX h0 lk sA) sA vs2).V.length=sA.V.length from hnv vs2];exact hi)
   cases sh with
   | clo cs=>exact ⟨st3,m3,w1.d,w2,w3,trivial⟩
   | lent T k =>
    obtain ⟨l1,l2,l3⟩:=hlent _ _ _ hE2 ha
    have hs2:sA.V.length<s2.V.length:=(List.getElem?_eq_some_iff.1 l1).1
    refine ⟨⟨st3.t,st3.B,eA st'.V.length st3.V⟩,m3,w1.d.trans (Wkd.kill st3 _ ?_),w2.killSt ?_,w3.killSt hstV,?_⟩
    ·intro v hv
     rw [w1.V] at hv
     have hv:st2.V[st'.V.length]? = some v:=hv
     rw [l3] at hv;cases hv
     exact Nat.ne_of_lt (of_decide_eq_true hshT)
    ·intro i hi he
     have hi':i<sA.V.length:=by rw [← hnv vs2];exact hi
     rw [w4' i hi',← l2] at he
     have:=hE2.m.vi i sA.V.length (by omega) hs2 he
     omega
    ·intro v hv
     have hv:(eA st'.V.length st3.V)[st'.V.length]? = some v:=hv
     rw [iK,Option.map_eq_some_iff] at hv
     obtain ⟨v',_,rfl⟩:=hv
     simp
  have hBl:st'.B.length≤(stY sh x1 ps.toList st').B.length∧st'.V.length≤(stY sh x1 ps.toList st').V.length:=⟨hAB.stp.bl,hAB.stp.vl⟩
  have endY:∀ (m2:Emb) (s2:SS) (st2:St) (ex:Exit),Em m2 s2 st2→Adv (mI sh sA.V.length (cP h0 lk sA)) mB (AW sh x1 ps.toList (aS h0 lk sA vs)) (stY sh x1 ps.toList st') m2 s2 st2 →
    (∃ s3,Wkd ⟨st'.t,st2.B,st2.V⟩ s3∧((∃ vs m',(es'=[vs]∨es'=[[],vs])∧Em m' (aS h0 lk sA vs) s3∧Adv (eE h0 (lkX h0 lk sA) sA) mA sA stA m' (aS h0 lk sA vs) s3)∨(∃ l m' s',es'=[[],[],l]∧rt s'=some (.ret l)∧Em m' s' s3))∧aCm sh s3 st'.V.length) →
    ((ex=.normal∧oA id es'=none∧b=true)∨(ex=.ret∧oA id es'=some .ret∧b=false)∨(∃ i,ex=.exit i∧oA id es'=some (.exit i)∧b=false)) →
    aDj sh x1 st' (fun st'=>(∃ vs m',(es'=[vs]∨es'=[[],vs])∧Em m' (aS h0 lk sA vs) st'∧Adv (eE h0 (lkX h0 lk sA) sA) mA sA stA m' (aS h0 lk sA vs) st')∨(∃ l m' s',es'=[[],[],l]∧rt s'=some (.ret l)∧Em m' s' st')) b (oA id es') ex st2:=by
   rintro m2 s2 st2 ex hE2 ha ⟨s3,y1,y2,y3⟩ hex
   refine ⟨s3,y1,?_,?_,y2,hex,?_⟩
   ·rw [y1.Bl];exact Nat.le_trans hBl.1 ha.stp.bl
   ·rw [y1.Vl];exact Nat.le_trans hBl.2 ha.stp.vl
   ·have:=hlent _ _ _ hE2 ha
    cases sh with
    | clo cs=>trivial
    | lent T k=>exact ⟨this.2.2,y3⟩
  refine kB hM hF' (hI F' n' hF') (fun s o h=>by cases h) assign x _ [] _ _ o mB _ _ hEB ho ?_ (fun _ _ _ _ _ _ h=>by simp [nY] at h) (fun _ _ _ h=>by cases h)
  intro m2 s2 st2 e1 e2 e3
  refine ⟨rfl,?_⟩
  refine kB hM hF' (hI F' n' hF') hrt' body y _ [(id,h0)] _ _ o m2 _ _ e2 e1 ?_ ?_ ?_
  ·intro m3 s3 st3 f1 f2 f3
   simp only [Option.map_eq_some_iff] at f1
   obtain ⟨vs2,f1,rfl⟩:=f1
   cases hoe
   obtain ⟨s4,m4,j1,j2,j3,j4⟩:=again m3 s3 st3 vs2 f2 (e3.trans f3) f1
   exact endY m3 s3 st3 _ f2 (e3.trans f3) ⟨s4,j1,.inl ⟨vs2,m4,.inl rfl,j2,j3⟩,j4⟩ (.inl ⟨rfl,rfl,rfl⟩)
  ·intro i hh vs2 m3 s3 st3 f0 f1 f4 f2 f3
   subst f4
   simp only [nY] at f0
   split at f0
   case isFalse=>cases f0
   rename_i hi
   subst hi
   cases f0
   cases hoe
   rw [hext] at f1
   obtain ⟨s4,m4,j1,j2,j3,j4⟩:=again m3 s3 st3 vs2 f2 (e3.trans f3) f1
   exact endY m3 s3 st3 _ f2 (e3.trans f3) ⟨s4,j1,.inl ⟨vs2,m4,.inr rfl,j2,j3⟩,j4⟩ (.inr (.inr ⟨_,rfl,rfl,rfl⟩))
  ·intro m3 s3 st3 f1 f2 f3
   obtain ⟨l,rfl⟩:=hrt _ _ f1
   cases hoe
   obtain ⟨b1,b2⟩:=back f2 (hlkt _ _ _ (e3.trans f3))
   refine endY m3 s3 st3 _ f2 (e3.trans f3) ?_ (.inr (.inl ⟨rfl,rfl,rfl⟩))
   have hl3:=hlent _ _ _ f2 (e3.trans f3)
   cases sh with
   | clo cs=>exact ⟨_,(Wk.refl _).d,.inr ⟨l,m3,_,rfl,f1,b1⟩,trivial⟩
   | lent T k =>
    obtain ⟨l1,l2,l3⟩:=hl3
    refine ⟨⟨st'.t,st3.B,eA st'.V.length st3.V⟩,Wkd.kill ⟨st'.t,st3.B,st3.V⟩ _ ?_,.inr ⟨l,m3,_,rfl,f1,?_⟩,?_⟩
    ·intro v hv
     have hv:st3.V[st'.V.length]? = some v:=hv
     rw [l3] at hv;cases hv
     exact Nat.ne_of_lt (of_decide_eq_true hshT)
    ·have:=b1.killSS (nv:=sA.V.length) (by exact (List.getElem?_eq_some_iff.1 l1).1) (x:=⟨true,T,k,1,cR (x1.getD 0 dC)⟩) l1 (Nat.ne_of_lt (of_decide_eq_true hshT))
     rw [l2] at this
     exact this
    ·intro v hv
     have hv:(eA st'.V.length st3.V)[st'.V.length]? = some v:=hv
     rw [iK,Option.map_eq_some_iff] at hv
     obtain ⟨v',_,rfl⟩:=hv
     simp
 ·
  intro st' hIs
  cases r0 with
  | nx vs0 =>
   simp only [brO,bN] at h
   refine ⟨fun _=>?_,fun hp=>absurd hp (by simp [ouE,oA]),fun i hp=>absurd hp (by simp [ouE,oA]),.inl rfl⟩
   obtain ⟨vs,m',hvs,g2,g3⟩ | ⟨l,m',s',hvs,_⟩:=hIs
   ·simp only [ouE] at hvs
    obtain rfl:vs0=vs:=by rcases hvs with hvs | hvs <;> simp at hvs <;> exact hvs
    exact hK _ _ _ h g2
   ·simp [ouE] at hvs
  | br i vs0 =>
   refine ⟨fun hp=>absurd hp (by simp [ouE,oA]),fun hp=>absurd hp (by simp [ouE,oA]),fun j hp=>?_,.inr (.inr ⟨_,rfl⟩)⟩
   simp only [ouE,oA,Option.some.injEq,Code.exit.injEq] at hp
   subst hp
   obtain ⟨vs,m',hvs,g2,g3⟩ | ⟨l,m',s',hvs,_⟩:=hIs
   ·simp only [ouE] at hvs
    obtain rfl:vs0=vs:=by rcases hvs with hvs | hvs <;> simp at hvs <;> exact hvs
    simp only [brO,bN] at h
    simp only [if_true]
    exact hK _ _ _ h g2
   ·simp [ouE] at hvs
  | ret l0 =>
   simp only [brO,bN,Option.some.injEq] at h
   subst h
   refine ⟨fun hp=>absurd hp (by simp [ouE,oA]),fun _=>?_,fun i hp=>absurd hp (by simp [ouE,oA]),.inr (.inl rfl)⟩
   obtain ⟨vs,m',hvs,g2,g3⟩ | ⟨l,m',s',hvs,g2,g3⟩:=hIs
   ·simp only [ouE] at hvs;simp at hvs
   ·simp only [ouE] at hvs
    simp at hvs
    subst hvs
    exact hR _ _ _ g2 g3
theorem ES (hM:Fns P sg M) (hT:Its P sg M) (hF:Free F) (hro:F.round=none) {inl:List (Option Nat×Hint×HT)→IN} (hI:∀ (F:Fence) (n:Nat),Free F→∀ il,yM F n P (inl il)) {rt:SS→Option Ou} (hrt:∀ s o,rt s=some o→∃ l,o=.ret l):∀ (c:Code) (ht:HT) (lk:Lk) (s:SS) (K:SS→Option Ou) (r:Ou) (m:Emb) (st:St) (Q:Exit→St→Prop),
  Em m s st→evT P sg M inl rt c ht lk s K=some r →
  (∀ m' s' st',K s'=some r→Em m' s' st'→Q .normal st') →
  (∀ m' s' st',rt s'=some r→Em m' s' st'→Q .ret st') →
  W2 F n P c st Q:=by
 intro c
 have plain:∀ (c:Code) (ht:HT) (lk:Lk) (s:SS) (K:SS→Option Ou) (r:Ou) (m:Emb) (st:St) (Q:Exit→St→Prop),
  Em m s st→evC P sg M inl rt c ht lk [] s K=some r →
  (∀ m' s' st',K s'=some r→Em m' s' st'→Q .normal st') →
  (∀ m' s' st',rt s'=some r→Em m' s' st'→Q .ret st')→W2 F n P c st Q:=
  fun c ht lk s K r m st Q hE h hK hR=>(kB hM hF (hI F n hF) hrt c ht lk [] s K r m st Q hE h (fun m' s' st' g1 g2 _=>hK m' s' st' g1 g2) (fun id h vs m' s' st' h0=>by simp [nY] at h0) fun m' s' st' g1 g2 _=>hR m' s' st' g1 g2).w2
 induction c with
 | seq a b iha ihb =>
  intro ht lk s K r m st Q hE h hK hR
  cases ht with
  | two x y =>
   simp only [evT] at h
   split at h
   ·refine aDi (iha x lk s _ r m st _ hE h ?_ ?_)
    ·intro m' s' st' h1 h2
     exact ihb y lk s' K r m' st' Q h2 h1 hK hR
    ·exact hR
   ·exact plain _ _ _ _ _ _ _ _ _ hE h hK hR
  | _=>simp only [evT] at h;exact plain _ _ _ _ _ _ _ _ _ hE h hK hR
 | cond c a b iha ihb =>
  intro ht lk s K r m st Q hE h hK hR
  cases ht with
  | cond j x y =>
   cases j with
   | none =>
    simp only [evT] at h
    split at h
    ·split at h
     ·rename_i t hc
      refine aBk (b:=t) (by rw [hE.ev,hc];simp [AV.cz]) (fun ht=>?_) (fun ht=>?_)
      ·subst ht;exact iha x lk s K r m st Q hE h hK hR
      ·subst ht;exact ihb y lk s K r m st Q hE h hK hR
     ·cases h
    ·exact plain _ _ _ _ _ _ _ _ _ hE h hK hR
   | some h0=>simp only [evT] at h;exact plain _ _ _ _ _ _ _ _ _ hE h hK hR
  | _=>simp only [evT] at h;exact plain _ _ _ _ _ _ _ _ _ hE h hK hR
 | block id c ih =>
  intro ht lk s K r m st Q hE h hK hR
  cases ht with
  | rg sh h0 x y =>
   simp only [evT] at h
   split at h
   case h_2=>cases h
   rename_i g ps assign body
   exact aDl hM hT hF hro hI hrt hE h hK hR
  | thru x =>
   simp only [evT] at h
   split at h
   ·refine KV (ih x lk s K r m st _ hE h ?_ ?_)
    ·exact hK
    ·exact hR
   ·exact plain _ _ _ _ _ _ _ _ _ hE h hK hR
  | _=>simp only [evT] at h;exact plain _ _ _ _ _ _ _ _ _ hE h hK hR
 | scope c ih =>
  intro ht lk s K r m st Q hE h hK hR
  simp only [evT] at h
  split at h
  ·exact YZ (ih ht lk s K r m st (aAS Q) hE h hK hR)
  ·exact plain _ _ _ _ _ _ _ _ _ hE h hK hR
 | rangeFunc g ps assign body iha ihb =>
  intro ht lk s K r m st Q hE h hK hR
  cases ht with
  | lp as h0 y =>
   cases as with
   | cons q as=>simp only [evT] at h;exact plain _ _ _ _ _ _ _ _ _ hE h hK hR
   | nil =>
   simp only [evT] at h
   obtain ⟨sA,rfl⟩:∃ sA,sA=s:=⟨_,rfl⟩
   obtain ⟨stA0,rfl⟩:∃ stA0,stA0=st:=⟨_,rfl⟩
   obtain ⟨mA,rfl⟩:∃ mA,mA=m:=⟨_,rfl⟩
   have hK':=hK
   have hR':=hR
   split at h
   case h_2=>cases h
   rename_i p hps
   split at h
   case h_2=>cases h
   rename_i dd has
   split at h
   case isFalse=>cases h
   rename_i hc
   simp only [Bool.and_eq_true,decide_eq_true_eq,List.isEmpty_iff] at hc
   obtain ⟨⟨⟨⟨⟨hok,hokX⟩,hvars⟩,hp⟩,hnm⟩,hnx⟩:=hc
   refine aCj ?_
   have hEA:=hE.dm hnm
   generalize hdm:dmS stA0=stA at hEA
   have hnT:=fun vs=>UZ (lk:=lk) hnm hnx vs
   split at h
   case h_2=>cases h
   rename_i v0 hv0
   split at h
   case h_2=>cases h
   rename_i c hg
   generalize hstep:(fun (x:Int) (vs:List CV)=>evC P sg M inl (fun s'=>if noM s'.V=true then rt (sA.back (h0.keep++lk.t) s') else none) body y (cP h0 lk sA) [] (sIn p dd x (aS h0 lk sA vs)) fun s'=>(jL h0 (sA.back (h0.keep++lk.t) s')).map .nx)=step at h
   have hr0:∃ r0,HJ (itV sg M c) step v0=some r0:=by
    rcases vM h with ⟨vs,h1,_⟩ | ⟨h1,_⟩
    ·exact ⟨_,h1⟩
    ·exact ⟨_,h1⟩
   obtain ⟨r0,hr0⟩:=hr0
   obtain ⟨xs,hit,htot,hrun⟩:=KX hr0
   obtain ⟨f,caps,out,rfl,hsf,hMf,hints⟩:=YY hit
   obtain ⟨hen,hIter⟩:=hT.it f caps out xs hsf hMf hints
   rw [hr0] at h
   obtain ⟨m1,st1,q1,q2,q3⟩:=iW (st0:=stA) (lk:=lkX h0 lk sA) hEA hEA (Adv.refl _ _ _ _) hv0 hokX
   have hrt':∀ (s:SS) (o:Ou),(fun s'=>if noM s'.V=true then rt (sA.back (h0.keep++lk.t) s') else none) s=some o→∃ l,o=.ret l:=by
    intro s o hs
    simp only at hs
    split at hs
    ·exact hrt _ o hs
    ·cases hs
   refine YW q1 (aCj ?_)
   have q2d:=q2.dm (hnT v0)
   have q3d:Adv (eE h0 (lkX h0 lk sA) sA) mA sA stA m1 (aS h0 lk sA v0) (dmS st1):=by subst hdm;exact q3.dm
   have hps':ps=#[p]:=by rw [← Array.toArray_toList (xs:=ps),hps]
   obtain ⟨o1,o2,o3,o4,o5,o6,o7,o8,o9,o10⟩:=jC hok
   have hslots:∀ vs,(aS h0 lk sA vs).t=(sA.kept (h0.keep++lk.t)).t:=by
    intro vs
    simp only [aS,hvars,vF,List.append_nil,SS.kept]
   refine YX hF hro (p:=p) (dd:=dd) (xs:=xs) (fun pre st'=>∃ vs m',hC step pre v0=some (.nx vs)∧Em m' (aS h0 lk sA vs) st'∧Adv (eE h0 (lkX h0 lk sA) sA) mA sA stA m' (aS h0 lk sA vs) st'∧KT st'.V) hps' (fun pre st' h=>by obtain ⟨_,_,_,_,_,h⟩:=h;exact h) ?_ ?_ hen hIter has ⟨v0,m1,rfl,q2d,q3d,vO _⟩ ?_ ?_
   ·rw [q2d.t];simpa [aS] using hp
   ·rw [q2d.ev];show AV.cz m1 ((aS h0 lk sA v0).ev g)=_;rw [hg];simp [AV.cz]
   ·rintro F' n' hF' pre x st' ⟨vs,m',g1,g2,g3,_⟩
    have htot':=htot (pre++[x])
    rw [kR,g1] at htot'
    simp only [hC] at htot'
    obtain ⟨r',hr'⟩:∃ r',step x vs=some r':=by
     cases hs:step x vs with
     | none=>rw [hs] at htot';exact absurd rfl htot'
     | some r'=>exact ⟨r',rfl⟩
    have hst:=hr'
    rw [← hstep] at hst
    simp only at hst
    have hE1:Em m' (sIn p dd x (aS h0 lk sA vs)) (vP p dd x st'):=by
     have e1:=g2.put g2.m (Emb.Up.refl _) (fun _ _=>rfl) (Nat.le_refl _) (Nat.le_refl _) (x:=.cv (.val (.int .i64 x))) rfl (some p)
     have e2:=e1.put g2.m (Emb.Up.refl _) (fun _ _=>rfl) (Nat.le_refl _) (Nat.le_refl _) (x:=.cv (.val (.int .i64 x))) rfl dd
     simp only [AV.cz] at e2
     exact e2
    have hsB:(sIn p dd x (aS h0 lk sA vs)).B=(aS h0 lk sA vs).B:=by unfold sIn;cases dd <;> rfl
    have hsV:(sIn p dd x (aS h0 lk sA vs)).V=(aS h0 lk sA vs).V:=by unfold sIn;cases dd <;> rfl
    have htB:(vP p dd x st').B=st'.B:=by unfold vP;cases dd <;> rfl
    have htV:(vP p dd x st').V=st'.V:=by unfold vP;cases dd <;> rfl
    have back:∀ {m2:Emb} {s2:SS} {st2:St},Em m2 s2 st2→Adv (cP h0 lk sA) m' (sIn p dd x (aS h0 lk sA vs)) (vP p dd x st') m2 s2 st2 →
      Em m2 (sA.back (h0.keep++lk.t) s2) ⟨st'.t,st2.B,st2.V⟩∧Adv (eE h0 (lkX h0 lk sA) sA) mA sA stA m2 (sA.back (h0.keep++lk.t) s2) ⟨st'.t,st2.B,st2.V⟩:=by
     intro m2 s2 st2 hE2 ha
     have hbl:sA.B.length≤(aS h0 lk sA vs).B.length:=g3.bl
     have hvl:sA.V.length≤(aS h0 lk sA vs).V.length:=g3.vl
     have hcz:∀ d∈h0.keep++lk.t,(sA.get d).cz m'=(sA.get d).cz m2:=fun d hd =>
      AV.cz_noV (nb:=sA.B.length) (nv:=sA.V.length) (fun j hj=>(ha.stp.up.b j (by rw [g2.m.bl];omega)).symm) (fun j hj=>(ha.stp.up.v j (by rw [g2.m.vl];omega)).symm)
       (fun j hj hcj=>(ha.o j (by simp only [cP,List.mem_filter,List.mem_range,hcj];exact ⟨hj,rfl⟩) (by rw [hsV];omega)).symm) _ (hEA.inn d) (o1 d hd)
     refine ⟨⟨?_,fun q hq=>?_,hE2.m⟩,?_⟩
     ·show st'.t=mkT sA.n ((sA.kept (h0.keep++lk.t)).t.map fun p=>(p.1,p.2.cz m2))
      rw [g2.t,hslots]
      show mkT sA.n _=_
      congr 1
      simp only [SS.kept,List.map_map]
      exact List.map_congr_left fun d hd=>by simp only [Function.comp];rw [hcz d hd]
     ·simp only [SS.back,SS.kept,List.mem_map] at hq
      obtain ⟨d,_,rfl⟩:=hq
      have h1:=ha.bl;rw [hsB] at h1
      have h2:=ha.vl;rw [hsV] at h2
      exact AV.inn_mono (Nat.le_trans hbl h1) (Nat.le_trans hvl h2) _ (hEA.inn d)
     ·have hstp:=ha.stp
      rw [htB,htV] at hstp
      have h1:=ha.bl;rw [hsB] at h1
      have h2:=ha.vl;rw [hsV] at h2
      refine ⟨g3.stp.trans hstp,rfl,Nat.le_trans hbl h1,Nat.le_trans hvl h2,fun d hd=>?_,fun i hi hil=>?_,fun i hi hil=>?_,fun i hi hil=>?_⟩
      ·exact SS.kept_get hd
      ·have:=ha.b i hi (by rw [hsB];omega)
       rw [hsB] at this
       exact this.trans (g3.b i hi hil)
      ·have:=ha.v i hi (by rw [hsV];omega)
       rw [hsV] at this
       exact this.trans (g3.v i hi hil)
      ·exact (ha.o i hi (by rw [hsV];omega)).trans (g3.o i hi hil)
    refine kB hM hF' (hI F' n' hF') hrt' body y (cP h0 lk sA) [] _ _ r' m' _ _ hE1 hst ?_ ?_ ?_
    ·intro m2 s2 st2 e1 e2 e3
     simp only [Option.map_eq_some_iff] at e1
     obtain ⟨vs2,e1,e4⟩:=e1
     subst e4
     obtain ⟨b1,b2⟩:=back e2 e3
     obtain ⟨m3,st3,w1,w2,w3⟩:=iW (lk:=lkX h0 lk sA) hEA b1 b2 e1 hokX
     refine ⟨st3,w1,vs2,m3,?_,w2.dm (hnT vs2),?_,vO _⟩
     rotate_left
     ·subst hdm;exact w3.dm
     rw [kR,g1]
     simp only [hC,hr']
    ·intro id h vs2 m2 s2 st2 e0 e1 e2 e3 e4;simp [nY] at e0
    ·intro m2 s2 st2 e1 e2 e3
     obtain ⟨b1,b2⟩:=back e2 e3
     split at e1
     case isFalse=>cases e1
     rename_i hn2
     obtain ⟨l,rfl⟩:=hrt _ _ e1
     intro hpre
     obtain ⟨suf,hsuf⟩:=hpre
     have:hC step xs v0=some (.ret l):=by
      rw [← hsuf,kR,kR,g1]
      simp only [hC,hr']
     rw [this] at hrun
     cases hrun
     have hrr:r=.ret l:=by simp only [bN,Option.some.injEq] at h;exact h.symm
     subst hrr
     exact hR' m2 _ _ e1 (b1.dm hn2)
   ·rintro st' ⟨vs,m',g1,g2,g3,_⟩
    rw [hrun] at g1
    cases g1
    simp only [bN] at h
    exact hK' m' _ st' h g2
  | _=>simp only [evT] at h;exact plain _ _ _ _ _ _ _ _ _ hE h hK hR
 | _=>intro ht lk s K r m st Q hE h hK hR;simp only [evT] at h;exact plain _ _ _ _ _ _ _ _ _ hE h hK hR
end
end Go.Sx
namespace Go.Sx
open Go Go.RowKit
variable [G:Ghost]
section
variable (P:Program) (sg:FuncId→Option Sig) (M:Den)
noncomputable def evF (fe:FE) (c:Code) (vs:List CV):Option (List CV):=
 if (Sc.avs fe.g.ps vs 0).length≤fe.n then
  bC (evT P sg M (inN P sg M 8) (rtF P fe.rs fe.g.rs) c fe.ht ⟨[],[],[],[]⟩ ⟨fe.n,gB 0 (Sc.avs fe.g.ps vs 0),[],[]⟩ (rtF P fe.rs fe.g.rs))
 else none
end
section
variable {P:Program} {sg:FuncId→Option Sig} {M:Den}
theorem VA (hM:Fns P sg M) (hY:Yls P M) (hT:Its P sg M) {f:FuncId} {fn:Func} {fe:FE} {c:Code} {vs out:List CV} (hf:P.funcs[f]? = some fn) (hb:fn.body=some c) (hn:fn.ntmps=fe.n) (hr:fn.results.toList=fe.rs) (h:evF P sg M fe c vs=some out) :
  SpecR P f (Sc.avs fe.g.ps vs 0) (Sc.res fe.g.rs out):=by
 unfold evF at h
 split at h
 ·rename_i hlen
  have h':evT P sg M (inN P sg M 8) (rtF P fe.rs fe.g.rs) c fe.ht ⟨[],[],[],[]⟩ ⟨fe.n,gB 0 (Sc.avs fe.g.ps vs 0),[],[]⟩ (rtF P fe.rs fe.g.rs)=some (.ret out):=by
   unfold bC at h
   split at h
   ·rename_i l hl;cases h;exact hl
   ·cases h
  have hcl:=Sc.avs_closed fe.g.ps vs 0
  have key:GG P f (Sc.avs fe.g.ps vs 0) fun r B V=>∃ (m:Emb) (s:SS) (st:St) (xs:List AV) (l:List CV) (b:Bool),st.B=B∧st.V=V∧Em m s st∧nZ P s fe.rs=some xs∧dR s.B s.V fe.g.rs xs=some (l,b)∧yQ (Sc.lvs fe.g.rs) l=out ∧
    r=gM (AV.czs m xs):=by
   refine xH hf hb fun F n hF hro=>?_
   rw [hn,start_eq _ _ hlen]
   have hE:Em ⟨[],[],[]⟩ ⟨fe.n,gB 0 (Sc.avs fe.g.ps vs 0),[],[]⟩ ⟨mkT fe.n (gB 0 (Sc.avs fe.g.ps vs 0)),[],[]⟩:=by
    obtain ⟨p1,p2⟩:=Sc.avs_pl fe.g.ps vs 0 ⟨[],[],[]⟩ 0 0
    refine ⟨?_,oS _ _ p2,⟨rfl,rfl,rfl,by simp,by simp,by simp,by simp,by simp⟩⟩
    rw [oR,← AV.czs_eq,p1]
   have fin:∀ (m':Emb) (s':SS) (st':St),rtF P fe.rs fe.g.rs s'=some (.ret out)→Em m' s' st'→∃ r,qV P st' fn.results.toList=some r ∧
     ∃ (m:Emb) (s:SS) (st:St) (xs:List AV) (l:List CV) (b:Bool),st.B=st'.B∧st.V=st'.V∧Em m s st∧nZ P s fe.rs=some xs∧dR s.B s.V fe.g.rs xs=some (l,b)∧yQ (Sc.lvs fe.g.rs) l=out∧r=gM (AV.czs m xs):=by
    intro m' s' st' h1 hE'
    unfold rtF at h1
    split at h1
    ·rename_i xs hxs
     split at h1
     ·rename_i l b hl
      cases h1
      refine ⟨_,?_,m',s',st',xs,l,b,rfl,rfl,hE',hxs,hl,rfl,rfl⟩
      rw [hr]
      exact vN (mZ hE' hxs)
     ·cases h1
    ·cases h1
   refine ES hM hT hF hro (fun F n hF=>HG hM hY 8 hF) (aBg) c fe.ht _ _ _ _ _ _ _ hE h' ?_ ?_
   ·intro m' s' st' h1 h2;exact ⟨.inl rfl,fin m' s' st' h1 h2⟩
   ·intro m' s' st' h1 h2;exact ⟨.inr rfl,fin m' s' st' h1 h2⟩
  refine CallP.res (CallP.freeze key (AV.scos_closed _ _ _ hcl)) ?_
  rintro r B V ⟨rfl,rfl,r0,B0,V0,⟨m,s,st,xs,l,b,rfl,rfl,hE,hxs,hl,rfl,rfl⟩,rfl⟩
  refine ⟨Sc.res fe.g.rs l,?_,(YQ _ _).symm,rfl,rfl⟩
  obtain ⟨q1,_⟩:=dN hE.m hl
  have hcr:=Sc.res_closed fe.g.rs l
  exact ⟨YR q1,fun _ _ _=>AV.sco_closed _ _ _ hcr⟩
 ·cases h
def rtO (P:Program) (rs:List ResultVar) (s:SS):Option Ou:=match nZ P s rs with
 | some [.own i u]=>match s.V[i]? with
  | some v=>if (v.live&&v.ver == u)=true then some (.ret [.row v.k v.es,.fn v.T []]) else none
  | none=>none
 | _=>none
theorem aBn {rs:List ResultVar} (s:SS) (o:Ou) (h:rtO P rs s=some o):∃ l,o=.ret l:=by
 have _:=G
 unfold rtO at h
 split at h
 ·split at h
  ·split at h
   ·cases h;exact ⟨_,rfl⟩
   ·cases h
  ·cases h
 ·cases h
noncomputable def aBo (P:Program) (sg:FuncId→Option Sig) (M:Den) (fe:FE) (c:Code) (vs:List CV):Option (List CV):=
 if vs.length≤fe.n then
  bC (evT P sg M (inN P sg M 8) (rtO P fe.rs) c fe.ht ⟨[],[],[],[]⟩ ⟨fe.n,gB 0 (vs.map .cv),[],[]⟩ (rtO P fe.rs))
 else none
theorem PM (hM:Fns P sg M) (hY:Yls P M) (hT:Its P sg M) {f:FuncId} {fn:Func} {fe:FE} {c:Code} {vs:List CV} {k:Nat} {es:List (List CV)} {T:TypeId} (hf:P.funcs[f]? = some fn) (hb:fn.body=some c) (hn:fn.ntmps=fe.n) (hr:fn.results.toList=fe.rs)
  (h:aBo P sg M fe c vs=some [.row k es,.fn T []]):qY P f (vs.map .cv) T k es:=by
 unfold aBo at h
 split at h
 ·rename_i hlen
  have h':evT P sg M (inN P sg M 8) (rtO P fe.rs) c fe.ht ⟨[],[],[],[]⟩ ⟨fe.n,gB 0 (vs.map .cv),[],[]⟩ (rtO P fe.rs)=some (.ret [.row k es,.fn T []]):=by
   unfold bC at h
   split at h
   ·rename_i l hl;cases h;exact hl
   ·cases h
  refine xH hf hb fun F n hF hro=>?_
  rw [hn,start_eq _ _ (by simpa using hlen)]
  have hE:Em ⟨[],[],[]⟩ ⟨fe.n,gB 0 (vs.map .cv),[],[]⟩ ⟨mkT fe.n (gB 0 (vs.map .cv)),[],[]⟩:=by
   refine ⟨?_,oS _ _ (by rw [AV.inns_eq,List.all_eq_true];intro y hy;obtain ⟨c,_,rfl⟩:=List.mem_map.1 hy;rfl),⟨rfl,rfl,rfl,by simp,by simp,by simp,by simp,by simp⟩⟩
   rw [oR,List.map_map]
   have:(vs.map ((fun x=>x.cz ⟨[],[],[]⟩)∘AV.cv))=vs.map .cv:=List.map_congr_left fun y _=>by simp [AV.cz]
   rw [this]
  have fin:∀ (m':Emb) (s':SS) (st':St),rtO P fe.rs s'=some (.ret [.row k es,.fn T []])→Em m' s' st'→∃ r,qV P st' fn.results.toList=some r ∧
    ∃ i v,r=.own i v.ver∧st'.V[i]? = some v∧v.live=true∧v.T=T∧v.k=k∧v.es=es:=by
   intro m' s' st' h1 hE'
   unfold rtO at h1
   split at h1
   ·rename_i i u hxs
    split at h1
    ·rename_i v hv
     split at h1
     ·rename_i hc
      simp only [Bool.and_eq_true,beq_iff_eq] at hc
      obtain ⟨hl,rfl⟩:=hc
      simp only [Option.some.injEq,Ou.ret.injEq,List.cons.injEq,CV.row.injEq,CV.fn.injEq,and_true] at h1
      obtain ⟨⟨rfl,rfl⟩,rfl⟩:=h1
      refine ⟨gM (AV.czs m' [.own i v.ver]),?_,m'.fv i,v.cz m' i,?_,hE'.m.v i v hv (.inl hl),hl,rfl,rfl,rfl⟩
      ·rw [hr]
       exact vN (mZ hE' hxs)
      ·simp [gM,AV.czs,AV.cz,Vec.cz]
     ·cases h1
    ·cases h1
   ·cases h1
  refine ES hM hT hF hro (fun F n hF=>HG hM hY 8 hF) (aBn) c fe.ht _ _ _ _ _ _ _ hE h' ?_ ?_
  ·intro m' s' st' h1 h2;exact ⟨.inl rfl,fin m' s' st' h1 h2⟩
  ·intro m' s' st' h1 h2;exact ⟨.inr rfl,fin m' s' st' h1 h2⟩
 ·cases h
theorem Fns.none' (P:Program):Fns P (fun _=>none) (fun _ _=>none) where
 own:=fun _ _ _ _ _ _ h=>by cases h
 ins:=fun _ _ _ _ _ h=>by cases h
 mtt:=fun _ _ _ _ _ _ _ _ h=>by cases h
 way:=fun _ _ _ _ h=>by cases h
 ent:=fun _ _ h=>by cases h
 spec:=fun _ _ _ _ h=>by cases h
theorem Its.none' (P:Program):Its P (fun _=>none) (fun _ _=>none):=have _:=G;⟨fun _ _ _ _ _ h=>(by cases h),fun _ _ _ _ _ h=>by cases h⟩
end
end Go.Sx
namespace Go.Sx
open Go Go.RowKit
theorem RW:∀ {a b:Lf},lfC a=lfC b→a=b:=by
 intro a b h
 cases a <;> cases b <;> simp_all [lfC]
theorem ZA (l:Lf):lfC l≠dC:=by cases l <;> simp [lfC,dC]
theorem aBp:∀ {a b:Sc},scC a=scC b→a=b:=by
 intro a b h
 cases a <;> cases b
 ·simp only [scC,List.cons.injEq,and_true] at h;rw [RW h]
 ·simp only [scC,List.cons.injEq] at h;exact absurd h.1 (ZA _)
 ·simp only [scC,List.cons.injEq] at h;exact absurd h.1.symm (ZA _)
 ·simp only [scC,List.cons.injEq,true_and] at h
  rw [List.map_inj_right fun x y hxy=>RW hxy] at h
  rw [h]
theorem RX:∀ {a b:YSh},shC a=shC b→a=b:=by
 intro a b h
 cases a <;> cases b
 ·simp only [shC,CV.row.injEq,true_and] at h
  rw [List.map_inj_right fun x y hxy=>aBp hxy] at h
  rw [h]
 ·simp [shC] at h
 ·simp [shC] at h
 ·simp only [shC,CV.fn.injEq,List.cons.injEq,CV.row.injEq,and_true] at h
  rw [h.1,h.2]
open Classical in
noncomputable def withY (M:Den) (l:Nat) (sh:YSh) (yf:YF):Den:=fun f vs =>
 if f=ghT then
  match vs with
  | .val (.func (.yield l') _ _)::c::.row _ es::x=>if l'=l∧c=shC sh then (match yf es x with
   | some (b,es')=>some [.val (.bool b),.row 0 es']
   | none=>none) else none
  | _=>none
 else M f vs
def rtY (s:SS):Option Ou:=match s.V[0]? with
 | some v=>if (v.T == ghT)=true then some (.ret [.row 0 v.es]) else none
 | none=>none
theorem aBq (s:SS) (o:Ou) (h:rtY s=some o):∃ l,o=.ret l:=by
 unfold rtY at h
 split at h
 ·split at h
  ·cases h;exact ⟨_,rfl⟩
  ·cases h
 ·cases h
noncomputable def evY (P:Program) (sg:FuncId→Option Sig) (M:Den) (dp:Nat) (fe:FE) (c:Code) (l:Nat) (vs:List CV) (es:List (List CV)):Option (List CV):=
 if vs.length+1≤fe.n then
  bC (evC P sg M (inN P sg M dp) rtY c fe.ht ⟨[],[],[],[]⟩ [] ⟨fe.n,gB 0 (.cv (.val (.func (.yield l) #[] #[]))::vs.map .cv),[],[⟨false,ghT,0,0,es⟩]⟩ rtY)
 else none
section
variable {P:Program} {sg:FuncId→Option Sig} {M:Den}
theorem Fns.withY [G:Ghost] (h:Fns P sg M) (hg:sg ghT=none) (hMg:∀ vs,M ghT vs=none) (l:Nat) (sh:YSh) (yf:YF):Fns P sg (Go.Sx.withY M l sh yf):=by
 have key:∀ f vs out,f≠ghT→Go.Sx.withY M l sh yf f vs=some out→M f vs=some out:=fun f vs out hf h=>by
  unfold Go.Sx.withY at h;rwa [if_neg hf] at h
 have gh:∀ vs out,Go.Sx.withY M l sh yf ghT vs=some out→∃ b es',out=[.val (.bool b),.row 0 es']:=by
  intro vs out h
  unfold Go.Sx.withY at h
  rw [if_pos rfl] at h
  split at h
  ·split at h
   ·split at h
    ·cases h;exact ⟨_,_,rfl⟩
    ·cases h
   ·cases h
  ·cases h
 refine ⟨fun f vs k es T hs hm=>?_,fun f k T by_ hs hm=>?_,fun f T k cs es es' hdr hs hm=>?_,fun f T fs hs hm=>?_,h.ent,fun f g vs out hs hm=>?_⟩
 ·by_cases hf:f=ghT
  ·subst hf
   obtain ⟨b,es',he⟩:=gh _ _ hm
   simp at he
  ·exact h.own f vs k es T hs (key _ _ _ hf hm)
 ·by_cases hf:f=ghT
  ·subst hf
   obtain ⟨b,es',he⟩:=gh _ _ hm
   simp at he
  ·exact h.ins f k T by_ hs (key _ _ _ hf hm)
 ·by_cases hf:f=ghT
  ·subst hf
   obtain ⟨b,es',he⟩:=gh _ _ hm
   simp at he
  ·exact h.mtt f T k cs es es' hdr hs (key _ _ _ hf hm)
 ·by_cases hf:f=ghT
  ·subst hf
   obtain ⟨b,es',he⟩:=gh _ _ hm
   simp at he
  ·exact h.way f T fs hs (key _ _ _ hf hm)
 ·by_cases hf:f=ghT
  ·subst hf;rw [hg] at hs;cases hs
  ·exact h.spec f g vs out hs (key _ _ _ hf hm)
theorem KY (hM:∀ [Ghost],Fns P sg M) (hg:sg ghT=none) (hMg:∀ vs,M ghT vs=none) {f:FuncId} {fn:Func} {c:Code} {fe:FE} {dp:Nat} {caps:List CV} {sh:YSh} {R:YF→List (List CV)→Option (List (List CV))} (hf:P.funcs[f]? = some fn) (hb:fn.body=some c) (hn:fn.ntmps=fe.n) (hr:fn.results.toList=[])
  (hR:∀ l yf es es',R yf es=some es'→evY P sg (withY M l sh yf) dp fe c l caps es=some [.row 0 es']):qZ P f caps sh R:=by
 intro G l yf es es' hy hRe F n hF hro H S w lb hlb hS hH hSo hJ hlo hgw
 have hFn:=Fns.withY (G:=G) hM hg hMg l sh yf
 have hYl:Yls P (withY M l sh yf):=by
  intro l' sh' es x out h
  simp only [withY,if_true] at h
  split at h
  ·rename_i hc
   obtain ⟨rfl,hc⟩:=hc
   have:=RX hc
   subst this
   split at h
   ·rename_i b es2 h1
    cases h
    exact hy _ _ _ _ h1
   ·cases h
  ·cases h
 have hev:=hR l yf es es' hRe
 unfold evY at hev
 split at hev
 case isFalse=>cases hev
 rename_i hlen
 have hev':evC P sg (withY M l sh yf) (inN P sg (withY M l sh yf) dp) rtY c fe.ht ⟨[],[],[],[]⟩ [] ⟨fe.n,gB 0 (.cv (.val (.func (.yield l) #[] #[]))::caps.map .cv),[],[⟨false,ghT,0,0,es⟩]⟩ rtY=some (.ret [.row 0 es']):=by
  unfold bC at hev
  split at hev
  ·rename_i l hl;cases hev;exact hl
  ·cases hev
 refine callsIn_of_wp hf hb (hF.fn f) ?_ hro
 let e0:Env:=⟨fun _=>0,fun _ _=>undef,S,w.heap.size,H,true⟩
 have hnb:e0.nb w.heap.size=0:=rfl
 have hmem:Mem w.heap.size w e0 [] [⟨false,ghT,0,0,es⟩] w:=by
  refine ⟨by simp,by simp,by simp,by simp,?_,?_,by simp,?_,hS,Below.refl _ _,Nat.le_refl _,⟨Nat.le_refl _,fun _=>hgw⟩,⟨hH,by simp,?_,?_,hSo⟩⟩
  ·intro i x hi hl
   have:=List.mem_of_getElem? hi
   simp only [List.mem_singleton] at this
   subst this;cases hl
  ·intro i x g hi hl
   have:=List.mem_of_getElem? hi
   simp only [List.mem_singleton] at this
   subst this;cases hl
  ·intro i x j y g hi hl
   have:=List.mem_of_getElem? hi
   simp only [List.mem_singleton] at this
   subst this;cases hl
  ·intro i x g hi hl
   have:=List.mem_of_getElem? hi
   simp only [List.mem_singleton] at this
   subst this;cases hl
  ·intro i x hi hT
   have h0:=List.mem_of_getElem? hi
   simp only [List.mem_singleton] at h0
   subst h0
   have:i<1:=(List.getElem?_eq_some_iff.1 hi).1
   exact ⟨by omega,rfl,hJ,hlo⟩
 have hargs:AV.all e0 w (kss [⟨false,ghT,0,0,es⟩]) (.cv (.val (.func (.yield l) #[] #[]))::caps.map .cv) (#[Value.func (.yield l) #[] #[]]++lb).toList:=by
  simp only [Array.toList_append,List.singleton_append,AV.all]
  exact ⟨by simp [AV.holds,CV.holds,Value.oneCell'],AV.all.of_vals hlb⟩
 have hsz:(#[Value.func (.yield l) #[] #[]]++lb).size=(AV.cv (.val (.func (.yield l) #[] #[]))::caps.map .cv).length:=by
  have:=hargs.length;simp at this ⊢;omega
 have hE:Em ⟨[],[0],[0]⟩ ⟨fe.n,gB 0 (.cv (.val (.func (.yield l) #[] #[]))::caps.map .cv),[],[⟨false,ghT,0,0,es⟩]⟩ ⟨mkT fe.n (gB 0 (.cv (.val (.func (.yield l) #[] #[]))::caps.map .cv)),[],[⟨false,ghT,0,0,es⟩]⟩:=by
  refine ⟨?_,oS _ _ (by rw [AV.inns_eq,List.all_eq_true];intro y hy;simp only [List.mem_cons,List.mem_map] at hy;rcases hy with rfl | ⟨c,_,rfl⟩ <;> rfl),⟨rfl,rfl,rfl,by simp,?_,?_,by simp,?_⟩⟩
  ·rw [oR]
   simp [AV.cz,Function.comp_def]
  ·intro i v hi _
   have h1:i<1:=(List.getElem?_eq_some_iff.1 hi).1
   obtain rfl:i=0:=by omega
   simp only [List.getElem?_cons_zero,Option.some.injEq] at hi
   subst hi
   simp [Emb.fv,Vec.cz,Emb.fo]
  ·intro i hi
   simp only [List.length_singleton] at hi
   obtain rfl:i=0:=by omega
   simp [Emb.fv]
  ·intro i j hi hj _
   simp only [List.length_singleton] at hi hj
   omega
 have hrel:Rel w.heap.size w e0 ⟨mkT fe.n (gB 0 (.cv (.val (.func (.yield l) #[] #[]))::caps.map .cv)),[],[⟨false,ghT,0,0,es⟩]⟩ { tmps:=(#[Value.func (.yield l) #[] #[]]++lb)++Array.replicate (fn.ntmps - (#[Value.func (.yield l) #[] #[]]++lb).size) undef,defers:=[] } w:=by
  rw [← start_eq _ _ (by simpa using hlen)]
  refine ⟨?_,?_,hmem⟩
  ·rw [Array.toList_append,Array.toList_replicate,hsz,hn]
   refine hargs.append ?_
   generalize fe.n - _=k
   induction k with
   | zero=>simp [AV.all]
   | succ k ih=>simpa [List.replicate_succ,AV.all,AV.holds] using ih
  ·rw [AV.scos_iff]
   intro y hy
   rcases List.mem_append.1 hy with hy | hy
   ·simp only [List.mem_cons,List.mem_map] at hy
    rcases hy with rfl | ⟨c,_,rfl⟩ <;> simp [AV.sco]
   ·obtain rfl:=List.eq_of_mem_replicate hy
    simp [AV.sco]
 have hW:=kB (F:=F) (n:=n) hFn hF (fun il=>HG hFn hYl dp hF il) aBq c fe.ht ⟨[],[],[],[]⟩ [] _ _ _ _ _ (fun ex st'=>(ex=.normal∨ex=.ret)∧∃ m' s',rtY s'=some (.ret [.row 0 es'])∧Em m' s' st') hE hev'
  (fun m' s' st' h1 h2 _=>⟨.inl rfl,m',s',h1,h2⟩) (fun id h vs m' s' st' h0=>by simp [nY] at h0) (fun m' s' st' h1 h2 _=>⟨.inr rfl,m',s',h1,h2⟩)
 refine hW w.heap.size w e0 _ w _ hrel ?_
 rintro ex e' st' a' w' ⟨hex,m',s',h1,h2⟩ hrel' hdf hx
 have hres:(results fn a'.tmps).run P w'=.ok (.tuple #[]) w':=by
  have:fn.results=#[]:=Array.toList_inj.1 (by rw [hr])
  simp [results,this]
 have fin:(∃ v,Ending.returned (Value.tuple #[])=.returned v)∧w.heap.size≤w'.heap.size∧@GW G w'∧∃ H',G.J es' H'∧oO H' w':=by
  unfold rtY at h1
  split at h1
  case h_2=>cases h1
  rename_i v hv
  split at h1
  case isFalse=>cases h1
  rename_i hT
  simp only [Option.some.injEq,Ou.ret.injEq,List.cons.injEq,CV.row.injEq,true_and,and_true] at h1
  subst h1
  simp only [beq_iff_eq] at hT
  have hv1:=h2.m.v 0 v hv (.inr hT)
  obtain ⟨g1,g2,g3,g4⟩:=hrel'.mem.hid.gh _ _ hv1 hT
  have hbl:=hrel'.mem.below
  exact ⟨⟨_,rfl⟩,hx.sz,⟨hbl.os.trans hgw.1,hbl.tape.trans hgw.2.1,hbl.output.trans hgw.2.2⟩,e'.H,g3,hrel'.mem.hid.obj⟩
 rcases hex with rfl | rfl
 ·exact ⟨hdf,_,hres,fin⟩
 ·exact ⟨hdf,_,hres,fin⟩
end
end Go.Sx
namespace Go.Sx
open Go Go.RowKit
variable [G:Ghost]
def aA (f:Func):Code:=f.body.getD .skip
def ci (n:Int):CV:=.val (.int .i64 n)
def cb (b:Bool):CV:=.val (.bool b)
def gi (v:List CV) (i:Nat):Int:=cI (List.getD v i dC)
def gb (v:List CV) (i:Nat):Bool:=cB (List.getD v i dC)
def gr (v:List CV) (i:Nat):List (List CV):=cR (List.getD v i dC)
def el (es:List (List CV)) (i:Int):List CV:=List.getD es (Int.toNat i) []
def il {A:Type} (es:List A):Int:=Int.ofNat (List.length es)
def wr (x:Int):Int:=IntKind.wrap .i64 x
def inb {A:Type} (i:Int) (es:List A):Bool:=decide (0≤i)&&decide (i<il es)
def cis (v:List CV):Nat→Nat→List CV
 | _,0=>[]
 | i,n+1=>ci (gi v i)::cis v (i+1) n
def cat:List (List CV)→List CV
 | []=>[]
 | [x]=>x
 | x::xs=>x++cat xs
def bAN (a b:Int):Nat:=(BitVec.ofInt 64 a &&& BitVec.ofInt 64 b).toNat
def bON (a b:Int):Nat:=(BitVec.ofInt 64 a ||| BitVec.ofInt 64 b).toNat
abbrev li:Lf:=.int .i64
abbrev lb:Lf:=.bool
def oU {A:Type} (k:Nat):List (Nat×A)→Option A
 | []=>none
 | (j,x)::r=>if j=k then some x else oU k r
def vS (tb:List (Nat×FE×Code)):FuncId→Option Sig:=fun f=>(oU f tb).map (·.1.g)
noncomputable def den (P:Program) (tb:List (Nat×FE×Code)) (its:List (Nat×(List CV→Option (List CV)))):Nat→Den
 | 0=>fun _ _=>none
 | n+1=>fun f vs=>match oU f tb with
  | some (fe,c)=>evF P (vS tb) (den P tb its n) fe c vs
  | none=>match oU f its with
   | some it=>it vs
   | none=>none
structure EntOk (P:Program) (f:Nat) (fe:FE) (fn:Func):Prop where
 ent:dJ P f=true
 isf:P.funcs[f]? = some fn
 body:fn.body.isSome=true
 n:fn.ntmps=fe.n
 rs:fn.results.toList=fe.rs
theorem qD {A:Type} {k:Nat} {x:A}:∀ {l:List (Nat×A)},oU k l=some x→(k,x)∈l
 | [],h=>by have _:=G;simp [oU] at h
 | (j,y)::r,h=>by
  simp only [oU] at h
  split at h
  ·rename_i hj;cases h;subst hj;simp
  ·simp [qD h]
def RY (P:Program) (its:List (Nat×(List CV→Option (List CV)))):Prop:=∀ e∈its,∀ caps out,e.2 caps=some out →
 (∀ rows sh,out=[.row 0 rows,shC sh]→dJ P e.1=true∧qZ P e.1 caps sh (lQ rows)) ∧
 (∀ xs,intsOf out=some xs→dJ P e.1=true∧RT P e.1 caps xs) ∧
 (∀ k es T,out=[.row k es,.fn T []]→dJ P e.1=true∧qY P e.1 (caps.map .cv) T k es) ∧
 (∀ T k cs es es' hdr,caps=.row k es::.fn T []::cs→out=[.row k es',.val (.bool hdr)]→dJ P e.1=true∧JU P e.1 T k cs es es' hdr) ∧
 (∀ k T by_,caps=[]→out=[.row k [],.fn T [],.fn by_ []]→dJ P e.1=true∧aAZ P e.1 T k by_) ∧
 (∀ T fs,caps=.fn T []::fs.map (fun g=>.fn g [])→out=[.fn 0 []]→dJ P e.1=true∧OM P e.1 T fs)
theorem vT {P:Program} {tb:List (Nat×FE×Code)} {its:List (Nat×(List CV→Option (List CV)))} {n f:Nat} {caps out:List CV} (hs:vS tb f=none) (h:den P tb its n f caps=some out):∃ it,(f,it)∈its∧it caps=some out:=by
 cases n with
 | zero=>simp [den] at h
 | succ n =>
  simp only [vS,Option.map_eq_none_iff] at hs
  simp only [den,hs] at h
  split at h
  ·rename_i it hl;exact ⟨it,qD hl,h⟩
  ·cases h
theorem aBr {P:Program} {tb:List (Nat×FE×Code)} {its:List (Nat×(List CV→Option (List CV)))} (hi:RY P its):∀ n,Its P (vS tb) (den P tb its n):=
 fun n=>⟨fun f caps rows sh hs h=>by
  obtain ⟨it,h1,h2⟩:=vT hs h
  exact (hi _ h1 caps _ h2).1 rows sh rfl,fun f caps out xs hs h hx=>by
  obtain ⟨it,h1,h2⟩:=vT hs h
  exact (hi _ h1 caps out h2).2.1 xs hx⟩
theorem ZB {P:Program} {tb:List (Nat×FE×Code)} {its:List (Nat×(List CV→Option (List CV)))} (hg:oU ghT tb=none∧oU ghT its=none):∀ n vs,den P tb its n ghT vs=none
 | 0,_=>have _:=G;rfl
 | n+1,vs=>by simp only [den,hg.1,hg.2]
theorem Yls.none {P:Program} {M:Den} (h:∀ vs,M ghT vs=.none):Yls P M:=by
 intro l sh es x out hh
 rw [h] at hh;cases hh
theorem RZ {P:Program} {tb:List (Nat×FE×Code)} {its:List (Nat×(List CV→Option (List CV)))} (hi:RY P its) (hg:oU ghT tb=none∧oU ghT its=none) (ht:∀ e∈tb,∃ fn,EntOk P e.1 e.2.1 fn∧e.2.2=aA fn):∀ n,Fns P (vS tb) (den P tb its n):=by
 have hown:∀ n f vs k es T,vS tb f=none→den P tb its n f vs=some [.row k es,.fn T []]→dJ P f=true∧qY P f (vs.map .cv) T k es:=fun n f vs k es T hs h=>by
  obtain ⟨it,h1,h2⟩:=vT hs h
  exact (hi _ h1 vs _ h2).2.2.1 k es T rfl
 have hins:∀ n f k T by_,vS tb f=none→den P tb its n f []=some [.row k [],.fn T [],.fn by_ []]→dJ P f=true∧aAZ P f T k by_:=fun n f k T by_ hs h=>by
  obtain ⟨it,h1,h2⟩:=vT hs h
  exact (hi _ h1 [] _ h2).2.2.2.2.1 k T by_ rfl rfl
 have hmut:∀ n f T k cs es es' hdr,vS tb f=none→den P tb its n f (.row k es::.fn T []::cs)=some [.row k es',.val (.bool hdr)]→dJ P f=true∧JU P f T k cs es es' hdr:=fun n f T k cs es es' hdr hs h=>by
  obtain ⟨it,h1,h2⟩:=vT hs h
  exact (hi _ h1 _ _ h2).2.2.2.1 T k cs es es' hdr rfl rfl
 have hway:∀ n f T fs,vS tb f=none→den P tb its n f (.fn T []::fs.map fun g=>.fn g [])=some [.fn 0 []]→dJ P f=true∧OM P f T fs:=fun n f T fs hs h=>by
  obtain ⟨it,h1,h2⟩:=vT hs h
  exact (hi _ h1 _ _ h2).2.2.2.2.2 T fs rfl rfl
 have hent:∀ f g,vS tb f=some g→dJ P f=true:=fun f g hg=>by
  simp only [vS,Option.map_eq_some_iff] at hg
  obtain ⟨⟨fe,c⟩,h1,_⟩:=hg
  obtain ⟨fn,h2,_⟩:=ht _ (qD h1)
  exact h2.ent
 intro n
 induction n with
 | zero=>exact ⟨hown 0,hins 0,hmut 0,hway 0,hent,fun f g vs out hg h=>by simp [den] at h⟩
 | succ n ih =>
  refine ⟨hown _,hins _,hmut _,hway _,hent,fun f g vs out hgg h=>?_⟩
  simp only [vS,Option.map_eq_some_iff] at hgg
  obtain ⟨⟨fe,c⟩,h1,h2⟩:=hgg
  simp only [den,h1] at h
  obtain ⟨fn,h3,h4⟩:=ht _ (qD h1)
  simp only at h2 h4
  subst h2
  have hb:fn.body=some c:=by
   rw [h4,aA]
   cases hh:fn.body with
   | none=>have:=h3.body;rw [hh] at this;cases this
   | some c'=>rfl
  exact VA ih (Yls.none (ZB hg n)) (aBr hi n) h3.isf hb h3.n h3.rs h
end Go.Sx
namespace Go.Sx
open Go Go.RowKit
variable [G:Ghost]
section
variable {F:Fence} {n:Nat} {P:Program} {ops:Array Oper}
def kS (P:Program) (st:St) (T:TypeId) (len:Nat) (parts:List (Nat×AV)):Option Out:=
 match bH P T with
 | some ⟨_,_,.slc e k _⟩ =>
  match bH P e with
  | some te =>
   if te.zero.length=k∧te.size=k∧k≠0∧te.zero.all Value.oneCell'=true∧len*k≤2 ^ 24∧len*k≠0 then
    match dD (fun i=>some (i*k,k)) (cS (eD te.zero len)) parts with
    | some out=>some (.slb len st.B.length 0,st.B++[Box.mk true e out],st.V)
    | none=>none
   else none
  | none=>none
 | _=>none
theorem vU {st:St} {T:TypeId} {len:Nat} {parts:List (Nat×AV)} {av:AV} {B':List Box} {V':List Vec} (h:kS P st T len parts=some (av,B',V'))
  {n0:Nat} {w0:World} {e:Env} {a:Act} {w:World} (hr:Rel n0 w0 e st a w) {vparts:Array (Nat×Value)}
  (hi:parts.map (·.1)=vparts.toList.map (·.1)) (hv:AV.all e w (kss st.V) (parts.map (·.2)) (vparts.toList.map (·.2))) (hs:AV.scos st.B.length (vers st.V) (parts.map (·.2))) :
  ∃ v w' e',(Instr.buildSlice T len vparts).run P w=.ok v w'∧Mem n0 w0 e' B' V' w'∧ExtS e st w e' B' V' w'∧AV.holds e' w' (kss V') av v∧AV.sco B'.length (vers V') av:=by
 unfold kS at h
 split at h
 ·rename_i s z et k by_ hti
  obtain ⟨hT,hk,_⟩:=dB hti
  split at h
  ·rename_i te hte
   split at h
   ·rename_i hc
    obtain ⟨hz,hsz,hk0,hone,hsmall,hlen⟩:=hc
    split at h
    ·rename_i out hout
     simp only [Option.some.injEq,Prod.mk.injEq] at h
     obtain ⟨rfl,rfl,rfl⟩:=h
     obtain ⟨ie,d,h1,h2,h3,h4,h5⟩:=eL hte
     obtain ⟨zv,hz2,hz3⟩:∃ z,ie.zero=some z∧z.cells.toList=te.zero:=by
      cases hi:ie.zero with
      | none=>rw [hi] at h4;rw [h4] at hz;simp at hz;omega
      | some z=>exact ⟨z,rfl,by rw [h4,hi]⟩
     have hies:ie.size=k:=by rw [h3,hsz]
     have hzs:zv.cells.size=k:=by rw [← hz,← hz3];simp
     have hrange:=mV zv.cells (by omega) len
     rw [hzs,hz3] at hrange
     obtain ⟨vout,a1,a2,a3⟩:=gV (vcells:=(Array.range (len*k)).map (zv.cells[· % k]!)) hout
      (by rw [hrange];exact iJ (sZ _ hone _)) hi hv
     have hrun:=run_buildSlice (P:=P) w T et len vparts vout ie zv hT h1 hz2 (by rw [hies];omega) (by rw [hies];exact hlen) (by rw [hies,hzs];exact a1)
     obtain ⟨e',b1,b2,b3,_⟩:=hr.mem.newBox et out vout (iR hout (iS _ _ _) hs) a2
     exact ⟨_,_,e',hrun,b1,b2,AV.slb_holds.2 (by rw [b3]),by simp [AV.slb,AV.sco,AV.scos]⟩
    ·cases h
   ·cases h
  ·cases h
 ·cases h
theorem ZC (hF:Free F) {o:Oper} {rest:List Oper} {st:St} {Q:St→Prop} {T:TypeId} {len:Nat} {parts:Array (Nat×Operand)} {av:AV} {B':List Box} {V':List Vec} (hop:o.op=.buildSlice T len parts)
  (hb:kS P st T len (parts.toList.map fun p=>(p.1,st.ev p.2))=some (av,B',V')) (h:cD F n P ops rest (st.put o.dst av B' V') Q):DF F n P ops o rest st Q:=by
 intro n0 w0 e a w Qr hr hk
 have hes:=hr.evs (parts.toList.map (·.2))
 obtain ⟨v,w',e',g1,g2,g3,g4,g5⟩:=vU hb hr (vparts:=(parts.toList.map fun p=>(p.1,a.eval p.2)).toArray) (by simp [List.map_map,Function.comp_def]) (by simpa [List.map_map,Function.comp_def] using hes.1) (by simpa [List.map_map,Function.comp_def] using hes.2)
 refine ⟨fun f _=>hF.fn f,?_⟩
 have hrun:(execOp a.eval o).run P w=.ok (.value v) w':=by
  simp only [execOp,hop]
  have:(parts.map fun x=>(x.1,a.eval x.2))=(parts.toList.map fun p=>(p.1,a.eval p.2)).toArray:=by
   apply Array.ext'
   simp
  simp [this,g1]
 rw [Oper.semAt_plain F _ _ (by intro c hc;rw [hc] at hop;cases hop),hrun]
 have hr':=hr.put g2 g3 g4 g5 o.dst
 exact h n0 w0 e' _ w' Qr hr' fun e'' st' a' w'' hq hrel hdf hx=>hk e'' st' a' w'' hq hrel (by rw [hdf];cases o.dst <;> rfl) (g3.trans hx)
theorem CallP.drop1 {f:FuncId} {args:List AV} {B:List Box} {V:List Vec} {k:Nat} {b0 b1:Box} (hb:∀ nB vs,AV.scos nB vs args→AV.scos nB vs b1.cs)
  (h:CallP P f args B V fun r B' V'=>r=.slb k (B.length+1) 0∧B'=B++[b0,b1]∧V'=V):CallP P f args B V fun r B' V'=>r=.slb k B.length 0∧B'=B++[b1]∧V'=V:=by
 intro F n hF hro n0 w0 e w vs hm ha hs
 refine CallsIn.mono (h F n hF hro n0 w0 e w vs hm ha hs) ?_
 rintro en w' ⟨e',B',V',r,v,rfl,⟨rfl,rfl,rfl⟩,h1,h2,h3,h4⟩
 have hv:=AV.slb_holds.1 h3
 let e2:Env:={ e' with ρ:=fun i=>if i=B.length then e'.ρ (B.length+1) else e'.ρ i }
 let up:Nat→Nat:=fun i=>if i=B.length then B.length+1 else i
 have hget:∀ (i:Nat) (b:Box),(B++[b1])[i]? = some b→(B++[b0,b1])[up i]? = some b∧e2.ρ i=e'.ρ (up i)∧AV.scos B.length (vers V') b.cs:=by
  intro i b hi
  rcases Nat.lt_trichotomy i B.length with hl | hl | hl
  ·rw [List.getElem?_append_left hl] at hi
   refine ⟨?_,?_,hm.boxsc i b hi⟩
   ·simp only [up,if_neg (Nat.ne_of_lt hl)]
    rw [List.getElem?_append_left hl];exact hi
   ·simp only [e2,up,if_neg (Nat.ne_of_lt hl)]
  ·subst hl
   simp only [List.getElem?_concat_length,Option.some.injEq] at hi
   subst hi
   refine ⟨by simp [up],by simp [e2,up],hb _ _ hs⟩
  ·rw [List.getElem?_eq_none (by simp;omega)] at hi;cases hi
 have hinj:∀ i j,up i=up j→i<B.length+1→j<B.length+1→i=j:=by
  intro i j hij h1 h2
  simp only [up] at hij
  split at hij <;> split at hij <;> omega
 have hlt:∀ {i:Nat} {b:Box},(B++[b1])[i]? = some b→i<B.length+1:=by
  intro i b hi
  have:=(List.getElem?_eq_some_iff.1 hi).1
  simpa using this
 have hx0:Ext e' w' B.length (vers V') (kss V') e2 w' B.length (vers V') (kss V'):=
  ⟨RO.refl _ _,fun i hi=>by simp [e2,Nat.ne_of_lt hi],fun _ _ _ _=>rfl,Nat.le_refl _,Nat.le_refl _,fun _ _=>Nat.le_refl _,fun _ _=>rfl,Nat.le_refl _,fun _ h=>.inl h,rfl,fun _=>rfl,rfl⟩
 have hm2:Mem n0 w0 e2 (B++[b1]) V' w':=by
  refine ⟨?_,?_,?_,?_,h1.vec,h1.vecS,?_,h1.vecinj,h1.ro,h1.below,h1.base,h1.bl,?_⟩
  ·intro i b hi hl
   obtain ⟨q1,q2,q3⟩:=hget i b hi
   obtain ⟨us,g1,g2⟩:=h1.box _ b q1 hl
   exact ⟨us,by rw [q2];exact g1,AV.all.mono hx0 _ _ q3 g2⟩
  ·intro i b hi
   obtain ⟨q1,q2,q3⟩:=hget i b hi
   exact AV.scos.mono (by simp) (Nat.le_refl _) (fun _ _=>Nat.le_refl _) _ q3
  ·intro i b hi hl
   obtain ⟨q1,q2,q3⟩:=hget i b hi
   rw [q2]
   exact h1.boxlo _ b q1 hl
  ·intro i j b b' hi hj hl hl' he
   obtain ⟨q1,q2,_⟩:=hget i b hi
   obtain ⟨p1,p2,_⟩:=hget j b' hj
   rw [q2,p2] at he
   exact hinj i j (h1.boxinj _ _ b b' q1 p1 hl hl' he) (hlt hi) (hlt hj)
  ·intro i x j b g hi hl hj hbl hg
   obtain ⟨q1,q2,_⟩:=hget j b hj
   rw [q2]
   exact h1.vecbox i x _ b g hi hl q1 hbl hg
  ·refine ⟨h1.hid.obj,fun i b hi hl=>?_,h1.hid.vec,h1.hid.gh,h1.hid.own⟩
   obtain ⟨q1,q2,_⟩:=hget i b hi
   rw [q2]
   exact h1.hid.box _ b q1 hl
 refine ⟨e2,B++[b1],V',_,v,rfl,⟨rfl,rfl,rfl⟩,hm2,?_,?_,by simp [AV.slb,AV.sco,AV.scos]⟩
 ·exact ⟨h2.ro,fun i hi=>by rw [show e2.ρ i=e'.ρ i by simp [e2,Nat.ne_of_lt hi]];exact h2.ρ i hi,h2.hdr,by simp,h2.nV,h2.verle,h2.kseq,h2.sz,h2.snew,h2.be,h2.he,h2.ye⟩
 ·exact AV.slb_holds.2 (by rw [hv];simp [e2])
theorem stepW (hF:Free F) {o:Oper} {rest:List Oper} {st st':St} {Q:St→Prop} {av:AV} {B':List Box} {V':List Vec} (hg:o.guard=none) (hop:bA P st o.op=some (av,B',V')) (hst:st.put o.dst av B' V'=st')
  (h:cD F n P ops rest st' Q):cD F n P ops (o::rest) st Q:=zZ hg (TN hF hop (by rw [hst];exact h))
theorem aD6 (hF:Free F) {o:Oper} {rest:List Oper} {st st':St} {Q:St→Prop} {T:TypeId} {len:Nat} {parts:Array (Nat×Operand)} {av:AV} {B':List Box} {V':List Vec} (hg:o.guard=none) (hop:o.op=.buildSlice T len parts)
  (hb:kS P st T len (parts.toList.map fun p=>(p.1,st.ev p.2))=some (av,B',V')) (hst:st.put o.dst av B' V'=st') (h:cD F n P ops rest st' Q):cD F n P ops (o::rest) st Q:=
 zZ hg (ZC hF hop hb (by rw [hst];exact h))
end
end Go.Sx
namespace Go.Sx
instance ghost0:Ghost:=⟨fun _ _=>True,0,default⟩
def upto (a b:Int):List Int:=(List.range (b+1 - a).toNat).map fun i=>a+(i:Nat)
end Go.Sx
namespace Go.Sx
open Go
@[simp] theorem aGP (n:Int):cI (ci n)=n:=rfl
@[simp] theorem aD7 (b:Bool):cB (cb b)=b:=rfl
@[simp] theorem aFQ (k:Nat) (es:List (List CV)):cR (.row k es)=es:=rfl
@[simp] theorem aL (n:Int) (l:List CV):gi (ci n::l) 0=n:=rfl
@[simp] theorem cA (c:CV) (l:List CV) (n:Nat):gi (c::l) (n+1)=gi l n:=rfl
@[simp] theorem bD (b:Bool) (l:List CV):gb (cb b::l) 0=b:=rfl
@[simp] theorem AX (c:CV) (l:List CV) (n:Nat):gb (c::l) (n+1)=gb l n:=rfl
@[simp] theorem bI (k:Nat) (es:List (List CV)) (l:List CV):gr (.row k es::l) 0=es:=rfl
@[simp] theorem dL (c:CV) (l:List CV) (n:Nat):gr (c::l) (n+1)=gr l n:=rfl
@[simp] theorem aGQ (v:List CV) (i:Nat):cis v i 0=[]:=rfl
@[simp] theorem aGR (v:List CV) (i n:Nat):cis v i (n+1)=ci (gi v i)::cis v (i+1) n:=rfl
@[simp] theorem aGS:cat []=[]:=rfl
@[simp] theorem aGT (x:List CV):cat [x]=x:=rfl
@[simp] theorem aGU (x y:List CV) (l:List (List CV)):cat (x::y::l)=x++cat (y::l):=rfl
@[simp] theorem aFI (b:Bool) (x y:Option Ou):aB b x y=if b=true then x else y:=by cases b <;> rfl
@[simp] theorem aC (x:Option Ou):chk true x=x:=rfl
theorem aDm {b:Bool} {x:Option Ou} (h:b=true):chk b x=x:=by rw [h];rfl
@[simp] theorem aD (vs:List CV) (K:List CV→Option Ou):aE (some vs) K=K vs:=rfl
@[simp] theorem bS (vs:List CV) (K:List CV→Option Ou):eW (some (.ret vs)) K=K vs:=rfl
@[simp] theorem aV (vs:List CV) (K:List CV→Option Ou):bN (some (.nx vs)) K=K vs:=rfl
@[simp] theorem aD8 (vs:List CV) (K:List CV→Option Ou):bN (some (.ret vs)) K=some (.ret vs):=rfl
@[simp] theorem aFJ (i:Nat) (vs:List CV) (K:List CV→Option Ou):bN (some (.br i vs)) K=some (.br i vs):=rfl
@[simp] theorem aFK (i:Nat) (vs:List CV) (K:List CV→Option Ou):bO i (some (.nx vs)) K=some (.nx vs):=rfl
@[simp] theorem oV (i:Nat) (vs:List CV) (K:List CV→Option Ou):bO i (some (.ret vs)) K=some (.ret vs):=rfl
@[simp] theorem bR (i:Nat) (vs:List CV) (K:List CV→Option Ou):bO i (some (.br i vs)) K=K vs:=by simp [bO]
@[simp] theorem KZ (vs:List CV):bC (some (.ret vs))=some vs:=rfl
@[simp] theorem aD9 (a:Option Ou):eqO a a=a:=XH a
theorem SA {es:List (List CV)} {kt kf:Option Ou} (h:es=[]→kt=kf):vC es kt kf=kf:=by
 cases es with
 | nil=>simp [vC,h rfl]
 | cons=>rfl
@[simp] theorem aFL (a b:Int):(a == b)=decide (a=b):=rfl
@[simp] theorem aFM (a b:Int):(a != b)=!decide (a=b):=rfl
section
variable (c:Prop) [Decidable c]
@[simp] theorem aFR (xs ys:List CV):(if c then some (Ou.nx xs) else some (Ou.nx ys))=some (Ou.nx (if c then xs else ys)):=by split <;> rfl
@[simp] theorem aFN (xs ys:List CV):(if c then some (Ou.ret xs) else some (Ou.ret ys))=some (Ou.ret (if c then xs else ys)):=by split <;> rfl
@[simp] theorem aDW (a b:CV) (az bs:List CV):(if c then a::az else b::bs)=(if c then a else b)::(if c then az else bs):=by split <;> rfl
@[simp] theorem aFS (a b:Int):(if c then ci a else ci b)=ci (if c then a else b):=by split <;> rfl
@[simp] theorem aFT (a b:Bool):(if c then cb a else cb b)=cb (if c then a else b):=by split <;> rfl
@[simp] theorem aFO (k:Nat) (a b:List (List CV)):(if c then CV.row k a else CV.row k b)=CV.row k (if c then a else b):=by split <;> rfl
theorem AY (x y:Option Ou):bC (if c then x else y)=if c then bC x else bC y:=by split <;> rfl
end
@[simp] theorem HK {A B:Type} (f:A→B) (l:List A):il (l.map f)=l.length:=by simp [il]
theorem vV {A:Type} (l:List A):il l=l.length:=rfl
theorem zF {A:Type} {f:A→List CV} {l:List A} {i:Nat} (h:i<l.length):inb (i:Int) (l.map f)=true:=by simp [inb,h]
theorem HL {A:Type} {f:A→List CV} {l:List A} {i:Nat} (h:i<l.length):el (l.map f) (i:Int)=f l[i]:=by simp [el,h]
theorem bW {x:Int} (h:-9223372036854775808≤x) (h':x<9223372036854775808):wr x=x:=by
 simp only [wr,IntKind.wrap_i64];omega
theorem aO {x:Nat} (h:x<9223372036854775807):wr ((x:Int)+1)=((x+1:Nat):Int):=by rw [bW] <;> omega
theorem jU {x:Nat} (h0:0<x) (h:x<9223372036854775807):wr ((x:Int) - 1)=((x - 1:Nat):Int):=by rw [bW] <;> omega
theorem bL {n k by_:Nat} (h:(n+k)*by_≤140737488355328) (h':n+k≤9223372036854775807):bJ n k by_=true:=by
 have e:maxLen=9223372036854775807:=by decide
 simp [bJ,h,e,h']
@[simp] theorem nA (k:Nat) (l:List CV):aN k 0 l=[]:=rfl
@[simp] theorem nC (k n:Nat) (l:List CV):aN k (n+1) l=l.take k::aN k n (l.drop k):=rfl
@[simp] theorem aGV (cs:List CV) (o:Nat):oks [] cs o=true:=rfl
@[simp] theorem LA (n:Int):Lf.ok li (ci n)=true:=rfl
@[simp] theorem aGW (b:Bool):Lf.ok lb (cb b)=true:=rfl
@[simp] theorem tQ (ls:List Lf) (c:CV) (cs:List CV) (o:Nat):oks ls (c::cs) (o+1)=oks ls cs o:=by
  induction ls generalizing o with
  | nil=>rfl
  | cons l ls ih=>simp only [oks,List.getElem?_cons_succ,ih]
@[simp] theorem aDX (l:Lf) (ls:List Lf) (c:CV) (cs:List CV):oks (l::ls) (c::cs) 0=(l.ok c&&oks ls cs 0):=by
  simp only [oks,List.getElem?_cons_zero,tQ ls c cs 0]
def jD (cs:List CV):Bool:=cs.all fun c=>Lf.ok (.int .i64) c
theorem mJ {cs:List CV}:∀ {n o:Nat},jD cs=true→o+n≤cs.length→oks (List.replicate n li) cs o=true
 | 0,o,_,_=>by simp
 | n+1,o,h,hn=>by
  have ho:o<cs.length:=by omega
  have h1:Lf.ok (.int .i64) cs[o]=true:=List.all_eq_true.1 h _ (List.getElem_mem ho)
  simp only [List.replicate_succ,oks,List.getElem?_eq_getElem ho,h1,Bool.true_and]
  exact mJ h (by omega)
theorem ZD {cs:List CV} {o:Nat} (h:jD cs=true) (hn:o<cs.length):oks [li] cs o=true:=mJ (n:=1) h hn
theorem dP {step:List CV→Option Ou} {vs vs':List CV} (h:step vs=some (.nx vs')):aJ step vs=aJ step vs':=by rw [KP,h]
theorem bE {step:List CV→Option Ou} {vs:List CV} {r:Option Ou} (h:step vs=r) (hr:∀ l,r≠some (.nx l)):aJ step vs=r:=by
 rw [KP,h]
 match r,hr with
 | none,_=>rfl
 | some (.nx l),hr=>exact absurd rfl (hr l)
 | some (.br _ _),_=>rfl
 | some (.ret _),_=>rfl
theorem HM {step:List CV→Option Ou} (T:Nat→List CV):∀ (n:Nat),(∀ i,i<n→step (T i)=some (.nx (T (i+1))))→aJ step (T 0)=aJ step (T n)
 | 0,_=>rfl
 | n+1,h=>by rw [HM T n fun i hi=>h i (by omega)];exact dP (h n (by omega))
theorem PN {A S:Type} {step:List CV→Option Ou} (l:List A) (E:Nat→S→List CV) (f:S→A→S) (P:S→Prop) (b:Nat) (G:S→List CV) (s:S) {vs:List CV} (hv:vs=E 0 s) (h0:P s)
  (hs:∀ i (h:i<l.length) s,P s→step (E i s)=some (.nx (E (i+1) (f s l[i])))∧P (f s l[i])) (he:∀ s,step (E l.length s)=some (.br b (G s))) :
  aJ step vs=some (.br b (G (l.foldl f s)))∧P (l.foldl f s):=by
 subst hv
 have key:∀ n,n≤l.length→aJ step (E 0 s)=aJ step (E n ((l.take n).foldl f s))∧P ((l.take n).foldl f s):=by
  intro n
  induction n with
  | zero=>intro _;exact ⟨by simp,by simpa using h0⟩
  | succ n ih =>
   intro hn
   obtain ⟨h1,h2⟩:=ih (by omega)
   obtain ⟨h3,h4⟩:=hs n (by omega) _ h2
   have e:(l.take (n+1)).foldl f s=f ((l.take n).foldl f s) l[n]:=by
    rw [← List.take_append_getElem (show n<l.length by omega),List.foldl_append];rfl
   rw [e]
   exact ⟨h1.trans (dP h3),h4⟩
 obtain ⟨h1,h2⟩:=key l.length (Nat.le_refl _)
 rw [List.take_length] at h1 h2
 exact ⟨h1.trans (bE (he _) (by simp)),h2⟩
theorem AZ {A S:Type} {step:List CV→Option Ou} (l:List A) (E:Nat→S→List CV) (f:S→A→S) (b:Nat) (G:S→List CV) (s:S) {vs:List CV} (hv:vs=E 0 s)
  (hs:∀ i (h:i<l.length) s,step (E i s)=some (.nx (E (i+1) (f s l[i])))) (he:∀ s,step (E l.length s)=some (.br b (G s))) :
  aJ step vs=some (.br b (G (l.foldl f s))):=
 (PN l E f (fun _=>True) b G s hv trivial (fun i h s _=>⟨hs i h s,trivial⟩) he).1
theorem dI {step:List CV→Option Ou} (n:Nat) (T:Nat→List CV) (p:Nat→Bool) (R:Nat→Option Ou) (X:Option Ou) {vs:List CV} (hv:vs=T 0) (hR:∀ i,i<n→p i=true→∀ l,R i≠some (.nx l)) (hX:∀ l,X≠some (.nx l))
  (h1:∀ i,i<n→p i=false→step (T i)=some (.nx (T (i+1)))) (h2:∀ i,i<n→p i=true→step (T i)=R i) (h3:step (T n)=X) :
  aJ step vs=match (List.range n).find? p with
   | some i=>R i
   | none=>X:=by
 subst hv
 cases hf:(List.range n).find? p with
 | none =>
  rw [List.find?_eq_none] at hf
  rw [HM T n fun i hi=>h1 i hi (by simpa using hf i (by simpa using hi))]
  exact bE h3 hX
 | some i =>
  rw [List.find?_range_eq_some] at hf
  obtain ⟨hp,hi,hq⟩:=hf
  have hi':i<n:=by simpa using hi
  rw [HM T i fun j hj=>h1 j (by omega) (by simpa using hq j hj)]
  exact bE (h2 i hi' hp) (hR i hi' hp)
theorem BA {A:Type} {step:List CV→Option Ou} (p:A→Bool) (R:A→Option Ou) (X:Option Ou):∀ (m:List A) (T:Nat→List CV) {vs:List CV},vs=T 0→(∀ x l,p x=true→R x≠some (.nx l))→(∀ l,X≠some (.nx l)) →
  (∀ i (h:i<m.length),p m[i]=false→step (T i)=some (.nx (T (i+1))))→(∀ i (h:i<m.length),p m[i]=true→step (T i)=R m[i])→step (T m.length)=X →
  aJ step vs=match m.find? p with
   | some x=>R x
   | none=>X
 | [],T,vs,hv,hR,hX,h1,h2,h3=>by subst hv;exact bE h3 hX
 | a::m,T,vs,hv,hR,hX,h1,h2,h3=>by
  subst hv
  cases hp:p a with
  | true=>rw [List.find?_cons_of_pos hp];exact bE (h2 0 (by simp) hp) fun l=>hR a l hp
  | false =>
   rw [List.find?_cons_of_neg (by simp [hp]),dP (h1 0 (by simp) hp)]
   exact BA p R X m (fun i=>T (i+1)) rfl hR hX (fun i h hq=>h1 (i+1) (by simpa using h) hq) (fun i h hq=>h2 (i+1) (by simpa using h) hq) h3
theorem VB {A:Type} (k by_:Nat) (cv:A→List CV) (l:List A) (h:l.length*by_≤140737488355328) (h':l.length≤9223372036854775807) :
  vC (l.map cv) (some (.ret [.row k []])) (chk (bJ 0 (l.map cv).length by_) (some (.ret [.row k (l.map cv)])))=some (.ret [.row k (l.map cv)]):=by
 have hf:bJ 0 (l.map cv).length by_=true:=bL (by simpa using h) (by simpa using h')
 rw [SA,hf,aC]
 intro he;rw [hf,aC,he]
theorem kU {A:Type} {step:List CV→Option Ou} (p:A→Bool):∀ (m:List A) (R:Nat→Option Ou) (X:Option Ou) (T:Nat→List CV) {vs:List CV},vs=T 0→(∀ i l,R i≠some (.nx l))→(∀ l,X≠some (.nx l)) →
  (∀ i (h:i<m.length),p m[i]=false→step (T i)=some (.nx (T (i+1))))→(∀ i (h:i<m.length),p m[i]=true→step (T i)=R i)→step (T m.length)=X →
  aJ step vs=match m.findIdx? p with
   | some i=>R i
   | none=>X
 | [],R,X,T,vs,hv,hR,hX,h1,h2,h3=>by subst hv;exact bE h3 hX
 | a::m,R,X,T,vs,hv,hR,hX,h1,h2,h3=>by
  subst hv
  rw [List.findIdx?_cons]
  cases hp:p a with
  | true=>simp only [if_true];exact bE (h2 0 (by simp) hp) fun l=>hR 0 l
  | false =>
   rw [dP (h1 0 (by simp) hp),kU p m (fun i=>R (i+1)) X (fun i=>T (i+1)) rfl (fun i l=>hR (i+1) l) hX (fun i h hq=>h1 (i+1) (by simpa using h) hq) (fun i h hq=>h2 (i+1) (by simpa using h) hq) h3]
   simp only [Bool.false_eq_true,if_false]
   cases m.findIdx? p <;> rfl
def LB (o:Option Nat):Int:=match o with
 | some i=>i
 | none=>-1
end Go.Sx
namespace Go.Pen
structure Kd where
 (sort room eats apart:Int)
structure Yard where
 pens:List Int
 kinds:List Kd
def within (n lo hi:Int):Bool:=decide (lo≤n)&&decide (n≤hi)
def Kd.ok (k:Kd):Bool:=within k.sort 1 9&&within k.room 1 1000&&within k.eats 0 1000&&within k.apart 0 1023&&decide (k.apart % 2=0)
def rising:List Int→Bool
 | []=>true
 | x::l=>(match l with | []=>true | y::_=>decide (x<y))&&rising l
def Yard.ok (y:Yard):Bool:=decide (y.pens.length≤5)&&y.pens.all (fun n=>within n 0 1000)&&y.kinds.all Kd.ok&&rising (y.kinds.map Kd.sort)
def kindOf (y:Yard) (s:Int):Option Kd:=y.kinds.find? fun k=>k.sort == s
def kz:Kd:=⟨0,0,0,0⟩
def kd (y:Yard) (s:Int):Kd:=(kindOf y s).getD kz
def has (y:Yard) (s:Int):Bool:=(kindOf y s).isSome
def rm (y:Yard) (s:Int):Int:=(kd y s).room
def bit (n b:Int):Bool:=n.toNat.testBit b.toNat
def apt (y:Yard) (a b:Int):Bool:=bit (kd y a).apart b || bit (kd y b).apart a
theorem tR (y:Yard) (a b:Int):apt y a b=apt y b a:=by unfold apt;rw [Bool.or_comm]
def aQ (y:Yard) (l:List Int):Bool:=decide (l.length≤8)&&l.all (has y)
def iL (y:Yard):Int:=if y.ok then 0 else 50
def asked (y:Yard) (l:List Int):Int:=if y.ok then (if aQ y l then 0 else 51) else 50
def rA (y:Yard) (l:List Int):Int:=l.foldl (fun n s=>n+rm y s) 0
abbrev BP:=List (Int×Int)
def load (y:Yard):BP→Int→Int
 | [],_=>0
 | (s,q)::z,pen=>(if q=pen then rm y s else 0)+load y z pen
def jO (y:Yard) (z:BP) (s q:Int):Bool:=
 within q 0 ((y.pens.length:Int) - 1)&&decide (load y z q+rm y s≤y.pens.getD q.toNat 0)&&z.all fun x=>!(x.2 == q&&apt y x.1 s)
def okZ (y:Yard) (z:BP):Bool:=(List.range z.length).all fun i=>match z[i]? with | some x=>jO y (z.take i) x.1 x.2 | none=>true
def okP (y:Yard) (l p:List Int):Bool:=decide (p.length≤l.length)&&okZ y (l.zip p)
theorem aBs (y:Yard):okZ y []=true:=rfl
theorem oW (y:Yard) (z:BP) (x:Int×Int):okZ y (z++[x])=(okZ y z&&jO y z x.1 x.2):=by
 unfold okZ
 rw [List.length_append,List.length_singleton,List.range_succ,List.all_append]
 congr 1
 ·rw [Bool.eq_iff_iff,List.all_eq_true,List.all_eq_true]
  refine forall_congr' fun i=>?_
  rw [List.mem_range]
  constructor <;> intro h hi <;> have:=h hi <;> rw [List.getElem?_append_left hi,List.take_append_of_le_length (by omega)] at*<;> exact this
 ·simp
theorem ZE {l p:List Int} {q:Int} (h:p.length<l.length):l.zip (p++[q])=l.zip p++[(l.getD p.length 0,q)]:=by
 induction p generalizing l with
 | nil=>cases l with
  | nil=>simp at h
  | cons a l=>simp
 | cons b p ih=>cases l with
  | nil=>simp at h
  | cons a l =>
   simp only [List.length_cons] at h
   simp only [List.cons_append,List.zip_cons_cons,List.length_cons,List.getD_cons_succ]
   rw [ih (by omega)]
theorem tS (y:Yard) (l:List Int):okP y l []=true:=by simp [okP,okZ]
theorem mK (y:Yard) (l p:List Int) (q:Int) (h:p.length<l.length):okP y l (p++[q])=(okP y l p&&jO y (l.zip p) (l.getD p.length 0) q):=by
 unfold okP
 rw [ZE h,oW]
 have h1:(p++[q]).length≤l.length:=by simp;omega
 have h2:p.length≤l.length:=by omega
 simp [h1,h2]
 omega
theorem ZF (y:Yard) (l p:List Int) (h:p.length≤l.length):okP y (l.take p.length) p=okP y l p:=by
 unfold okP
 have e:(l.take p.length).zip p=l.zip p:=by
  induction p generalizing l with
  | nil=>simp
  | cons a p ih=>cases l with
   | nil=>simp
   | cons b l =>
    simp only [List.length_cons] at h
    simp only [List.length_cons,List.take_succ_cons,List.zip_cons_cons,ih l (by omega)]
 rw [e]
 simp [h]
theorem BB {y:Yard} {l p q:List Int} (h:okP y l (p++q)=true):okP y l p=true:=by
 induction q generalizing p with
 | nil=>simpa using h
 | cons a q ih =>
  have h1:okP y l (p++[a])=true:=ih (p:=p++[a]) (by simpa using h)
  have h2:(p++[a]).length≤l.length:=by
   unfold okP at h1
   simp only [Bool.and_eq_true,decide_eq_true_eq] at h1
   exact h1.1
  rw [mK _ _ _ _ (by simp at h2;omega)] at h1
  simp only [Bool.and_eq_true] at h1
  exact h1.1
def pls (y:Yard) (l:List Int):Nat→List Int→List (List Int)
 | 0,p=>[p]
 | k+1,p=>(List.range y.pens.length).flatMap fun (i:Nat)=>if okP y l (p++[(i:Int)])=true then pls y l k (p++[(i:Int)]) else []
def PL (y:Yard) (l:List Int):List (List Int):=pls y l l.length []
theorem qE {y:Yard} {l:List Int} {x:List Int}:∀ {k:Nat} {p:List Int},okP y l p=true→(x∈pls y l k p↔p <+: x∧x.length=p.length+k∧okP y l x=true)
 | 0,p,hp=>by
  simp only [pls,List.mem_singleton,Nat.add_zero]
  constructor
  ·rintro rfl;exact ⟨List.prefix_refl _,rfl,hp⟩
  ·rintro ⟨h1,h2,_⟩;exact (h1.eq_of_length h2.symm).symm
 | k+1,p,hp=>by
  simp only [pls,List.mem_flatMap,List.mem_range]
  constructor
  ·rintro ⟨i,hi,hx⟩
   split at hx
   ·rename_i h
    obtain ⟨h1,h2,h3⟩:=(qE h).1 hx
    refine ⟨List.IsPrefix.trans (List.prefix_append _ _) h1,?_,h3⟩
    simp at h2;omega
   ·simp at hx
  ·rintro ⟨⟨r,rfl⟩,h2,h3⟩
   cases r with
   | nil=>simp at h2
   | cons q r =>
    have h4:okP y l (p++[q])=true:=BB (q:=r) (by simpa using h3)
    have hl:p.length<l.length:=by
     unfold okP at h4
     simp only [Bool.and_eq_true,decide_eq_true_eq,List.length_append,List.length_singleton] at h4
     omega
    have h5:=h4
    rw [mK _ _ _ _ hl] at h5
    simp only [Bool.and_eq_true,jO,within,decide_eq_true_eq] at h5
    obtain ⟨_,⟨⟨hq0,hq1⟩,_⟩,_⟩:=h5
    refine ⟨q.toNat,by omega,?_⟩
    have e:((q.toNat:Nat):Int)=q:=by omega
    rw [e,if_pos h4]
    rw [qE h4]
    refine ⟨⟨r,by simp⟩,?_,h3⟩
    simp at h2 ⊢;omega
theorem nD {y:Yard} {l x:List Int}:x∈PL y l↔x.length=l.length∧okP y l x=true:=by
 unfold PL
 rw [qE (tS y l)]
 simp
def ahead:List Int→List Int→Bool
 | [],_=>false
 | _::_,[]=>false
 | a::az,b::bs=>if a=b then ahead az bs else decide (a<b)
theorem nE:∀ a:List Int,ahead a a=false
 | []=>rfl
 | a::az=>by simp [ahead,nE az]
theorem ET:∀ (p:List Int) {i j:Int} (a b:List Int),i<j→ahead (p++i::a) (p++j::b)=true
 | [],i,j,a,b,h=>by
  have:i≠j:=by omega
  simp [ahead,this,h]
 | x::p,i,j,a,b,h=>by simp [ahead,ET p a b h]
theorem oX:∀ {a b c:List Int},ahead a b=true→ahead b c=true→ahead a c=true
 | [],b,c,h1,_=>by simp [ahead] at h1
 | _::_,[],c,h1,_=>by simp [ahead] at h1
 | _::_,_::_,[],_,h2=>by simp [ahead] at h2
 | a::az,b::bs,c::cs,h1,h2=>by
  simp only [ahead] at h1 h2 ⊢
  split at h1 <;> split at h2 <;> split
  ·exact oX h1 h2
  all_goals simp at *
  all_goals omega
theorem BC {y:Yard} {l:List Int}:∀ {k:Nat} {p:List Int},okP y l p=true→(pls y l k p).Pairwise fun a b=>ahead a b=true
 | 0,p,_=>by simp [pls]
 | k+1,p,hp=>by
  simp only [pls]
  rw [List.pairwise_flatMap]
  refine ⟨fun i _=>?_,?_⟩
  ·split
   ·rename_i h;exact BC h
   ·exact List.Pairwise.nil
  ·refine List.Pairwise.imp ?_ List.pairwise_lt_range
   intro i j hij a ha b hb
   split at ha
   ·rename_i h1
    split at hb
    ·rename_i h2
     obtain ⟨⟨ra,rfl⟩,_⟩:=(qE h1).1 ha
     obtain ⟨⟨rb,rfl⟩,_⟩:=(qE h2).1 hb
     simp only [List.append_assoc,List.singleton_append]
     exact ET p ra rb (by omega)
    ·simp at hb
   ·simp at ha
theorem mL (y:Yard) (l:List Int):(PL y l).Pairwise fun a b=>ahead a b=true:=BC (tS y l)
theorem ZG (y:Yard) (l:List Int):(PL y l).Nodup:=by
 refine List.Pairwise.imp ?_ (mL y l)
 rintro a b h rfl
 rw [nE] at h
 exact absurd h (by simp)
end Go.Pen
namespace Go.Pen
theorem oY (y:Yard) (z z':BP) (pen:Int):load y (z++z') pen=load y z pen+load y z' pen:=by
 induction z with
 | nil=>simp [load]
 | cons a z ih=>obtain ⟨s,q⟩:=a;simp only [List.cons_append,load,ih];omega
theorem EU (y:Yard) {z z':BP} (h:z.Perm z') (pen:Int):load y z pen=load y z' pen:=by
 induction h with
 | nil=>rfl
 | cons a _ ih=>simp only [load,ih]
 | swap a b l=>simp only [load];omega
 | trans _ _ ih1 ih2=>rw [ih1,ih2]
def Good (y:Yard) (z:BP):Prop:=
 (∀ x∈z,within x.2 0 ((y.pens.length:Int) - 1)=true∧load y z x.2≤y.pens.getD x.2.toNat 0)∧z.Pairwise fun a b=>¬(a.2=b.2∧apt y a.1 b.1=true)
theorem VC {y:Yard} {z z':BP} (h:z.Perm z'):Good y z↔Good y z':=by
 unfold Good
 rw [h.pairwise_iff (R:=fun a b=>¬(a.2=b.2∧apt y a.1 b.1=true)) (fun {a b} hab hba=>hab ⟨hba.1.symm,by rw [tR];exact hba.2⟩)]
 refine and_congr ⟨fun H x hx=>?_,fun H x hx=>?_⟩ Iff.rfl
 ·have:=H x (h.mem_iff.2 hx);rwa [EU y h] at this
 ·have:=H x (h.mem_iff.1 hx);rwa [EU y h]
theorem zG {y:Yard} (hr:∀ s,0≤rm y s):∀ (n:Nat) (z:BP),z.length=n→(okZ y z=true↔Good y z)
 | 0,z,hz=>by
  rw [List.length_eq_zero_iff.1 hz]
  simp [aBs,Good]
 | n+1,z,hz=>by
  have hne:z≠[]:=by rintro rfl;simp at hz
  have e:=List.dropLast_concat_getLast hne
  generalize z.getLast hne=x at e
  generalize hw:z.dropLast=w at e
  have hwl:w.length=n:=by rw [← hw,List.length_dropLast,hz];rfl
  subst e
  rw [oW,Bool.and_eq_true,zG hr n w hwl]
  unfold Good jO
  simp only [List.mem_append,List.mem_singleton,oY,List.pairwise_append,List.pairwise_singleton,Bool.and_eq_true,decide_eq_true_eq,List.all_eq_true,load,true_and,forall_eq]
  constructor
  ·rintro ⟨⟨h1,h2⟩,⟨h3,h4⟩,h5⟩
   refine ⟨?_,h2,?_⟩
   ·rintro a (ha | rfl)
    ·refine ⟨(h1 a ha).1,?_⟩
     have:=(h1 a ha).2
     split
     ·rename_i e;rw [← e];omega
     ·omega
    ·refine ⟨h3,?_⟩
     simp [-List.getD_eq_getElem?_getD];omega
   ·intro a ha ⟨e1,e2⟩
    have:=h5 a ha
    simp [e1,e2] at this
  ·rintro ⟨h1,h2,h3⟩
   refine ⟨⟨fun a ha=>?_,h2⟩,?_,?_⟩
   ·obtain ⟨h4,h5⟩:=h1 a (Or.inl ha)
    refine ⟨h4,?_⟩
    have:=hr x.1
    split at h5 <;> omega
   ·obtain ⟨h4,h5⟩:=h1 x (Or.inr rfl)
    simp [-List.getD_eq_getElem?_getD] at h5
    exact ⟨h4,by omega⟩
   ·intro a ha
    have:=h3 a ha
    simp only [Bool.not_eq_true',Bool.and_eq_false_iff,beq_eq_false_iff_ne]
    by_cases e:a.2=x.2
    ·right
     cases h:apt y a.1 x.1 with
     | false=>rfl
     | true=>exact absurd ⟨e,h⟩ this
    ·exact Or.inl e
theorem VD {l l':List Int} (h:l.Perm l'):∃ f:List Int→List Int,(∀ x:List Int,x.length=l.length→(f x).length=l'.length∧(l.zip x).Perm (l'.zip (f x))) ∧
  ∀ x x':List Int,x.length=l.length→x'.length=l.length→f x=f x'→x=x':=by
 induction h with
 | nil=>exact ⟨id,by simp,by simp⟩
 | @cons a l l' _ ih =>
  obtain ⟨f,h1,h2⟩:=ih
  refine ⟨fun x=>match x with | []=>[] | q::x=>q::f x,?_,?_⟩
  ·intro x hx
   match x,hx with
   | q::x,hx =>
    have:=h1 x (by simpa using hx)
    simp only [List.length_cons,this.1,List.zip_cons_cons,true_and]
    exact this.2.cons _
  ·intro x x' hx hx'
   match x,hx,x',hx' with
   | q::x,hx,q'::x',hx' =>
    intro e
    simp only [List.cons.injEq] at e
    rw [e.1,h2 x x' (by simpa using hx) (by simpa using hx') e.2]
 | swap a b l =>
  refine ⟨fun x=>match x with | q::r::x=>r::q::x | x=>x,?_,?_⟩
  ·intro x hx
   match x,hx with
   | q::r::x,hx =>
    refine ⟨by simpa using hx,?_⟩
    simp only [List.zip_cons_cons]
    exact List.Perm.swap _ _ _
  ·intro x x' hx hx'
   match x,hx,x',hx' with
   | q::r::x,hx,q'::r'::x',hx' =>
    intro e
    simp only [List.cons.injEq] at e
    rw [e.1,e.2.1,e.2.2]
 | trans _ _ ih1 ih2 =>
  obtain ⟨f,h1,h2⟩:=ih1
  obtain ⟨g,h3,h4⟩:=ih2
  refine ⟨fun x=>g (f x),fun x hx=>?_,fun x x' hx hx' e=>?_⟩
  ·have a:=h1 x hx
   have b:=h3 (f x) a.1
   exact ⟨b.1,a.2.trans b.2⟩
  ·exact h2 x x' hx hx' (h4 _ _ (h1 x hx).1 (h1 x' hx').1 e)
theorem LC {A:Type} [DecidableEq A]:∀ {l m:List A},l.Nodup→(∀ x∈l,x∈m)→l.length≤m.length
 | [],_,_,_=>by simp
 | a::l,m,h,hm=>by
  rw [List.nodup_cons] at h
  have h1:a∈m:=hm a (by simp)
  have h2:∀ x∈l,x∈m.erase a:=fun x hx=>by
   have hne:x≠a:=by rintro rfl;exact h.1 hx
   exact (List.mem_erase_of_ne hne).2 (hm x (by simp [hx]))
  have h3:=LC h.2 h2
  rw [List.length_erase_of_mem h1] at h3
  have:0<m.length:=List.length_pos_of_mem h1
  simp only [List.length_cons];omega
theorem fH {y:Yard} (h:y.ok=true) (s:Int):0≤rm y s:=by
 unfold rm kd kindOf
 cases hf:y.kinds.find? (fun k=>k.sort == s) with
 | none=>simp [kz]
 | some k =>
  have hm:=List.mem_of_find?_eq_some hf
  unfold Yard.ok at h
  simp only [Bool.and_eq_true,List.all_eq_true,Kd.ok,within,decide_eq_true_eq] at h
  have:=(h.1.2 k hm).1.1.1.2.1
  simp only [Option.getD_some];omega
theorem SB {y:Yard} (h:y.ok=true) {l x:List Int} (hx:x.length=l.length):okP y l x=true↔Good y (l.zip x):=by
 unfold okP
 simp only [hx,Nat.le_refl,decide_true,Bool.true_and]
 exact zG (fH h) _ _ rfl
theorem aCn {y:Yard} (h:y.ok=true) {l l':List Int} (hl:l.Perm l'):(PL y l).length≤(PL y l').length:=by
 obtain ⟨f,h1,h2⟩:=VD hl
 have h3:((PL y l).map f).Nodup:=by
  unfold List.Nodup
  rw [List.pairwise_map]
  refine List.Pairwise.imp_of_mem ?_ (ZG y l)
  intro a b ha hb hab e
  exact hab (h2 a b (nD.1 ha).1 (nD.1 hb).1 e)
 have h4:=LC (m:=PL y l') h3 (by
  intro x hx
  obtain ⟨a,ha,rfl⟩:=List.mem_map.1 hx
  obtain ⟨e1,e2⟩:=nD.1 ha
  rw [nD]
  refine ⟨(h1 a e1).1,?_⟩
  rw [SB h (h1 a e1).1,← VC (h1 a e1).2,← SB h e1]
  exact e2)
 simpa using h4
theorem aBt {y:Yard} (h:y.ok=true) {l l':List Int} (hl:l.Perm l'):(PL y l).length=(PL y l').length:=
 Nat.le_antisymm (aCn h hl) (aCn h hl.symm)
def can (y:Yard) (l:List Int):Bool:=!(PL y l).isEmpty
theorem ZH {y:Yard} (h:y.ok=true) {l l':List Int} (hl:l.Perm l'):can y l=can y l':=by
 have:=aBt h hl
 unfold can
 rw [Bool.eq_iff_iff]
 simp only [Bool.not_eq_true',List.isEmpty_eq_false_iff_exists_mem,← List.length_pos_iff_exists_mem,this]
def mix (l:List Int):List Int:=(List.range 10).map fun (s:Nat)=>(l.count (s:Int):Int)
theorem LD {l l':List Int} (h:∀ s∈l,1≤s∧s≤9) (h':∀ s∈l',1≤s∧s≤9) (e:mix l=mix l'):l.Perm l':=by
 rw [List.perm_iff_count]
 intro a
 by_cases ha:0≤a∧a≤9
 ·have:=List.map_inj_left.1 e a.toNat (by simp;omega)
  have e2:((a.toNat:Nat):Int)=a:=by omega
  rw [e2] at this
  omega
 ·rw [List.count_eq_zero.2 (fun hm=>ha (by have:=h a hm;omega)),List.count_eq_zero.2 (fun hm=>ha (by have:=h' a hm;omega))]
theorem kD {y:Yard} (h:y.ok=true) {s:Int} (hs:has y s=true):1≤s∧s≤9:=by
 unfold has kindOf at hs
 rw [Option.isSome_iff_exists] at hs
 obtain ⟨k,hk⟩:=hs
 have hm:=List.mem_of_find?_eq_some hk
 have he:=List.find?_some hk
 unfold Yard.ok at h
 simp only [Bool.and_eq_true,List.all_eq_true,Kd.ok,within,decide_eq_true_eq] at h
 have:=(h.1.2 k hm).1.1.1.1
 simp only [beq_iff_eq] at he
 omega
theorem aBu {y:Yard} (h:y.ok=true) {l l':List Int} (hl:l.all (has y)=true) (hl':l'.all (has y)=true) (e:mix l=mix l'):can y l=can y l':=by
 rw [List.all_eq_true] at hl hl'
 exact ZH h (LD (fun s hs=>kD h (hl s hs)) (fun s hs=>kD h (hl' s hs)) e)
end Go.Pen
namespace Go.Pen
def used:List Int→List Int→Nat
 | _,[]=>0
 | seen,q::p=>(if q∈seen then 0 else 1)+used (q::seen) p
theorem BD:∀ (p seen r:List Int),used seen (p++r)=used seen p+used (p.reverse++seen) r
 | [],seen,r=>by simp [used]
 | q::p,seen,r=>by
  simp only [List.cons_append,used,BD p (q::seen) r,List.reverse_cons,List.append_assoc,List.cons_append,List.nil_append]
  omega
theorem vW (p:List Int) (q:Int):used [] (p++[q])=used [] p+if q∈p then 0 else 1:=by
 rw [BD]
 simp [used]
theorem VE (p r:List Int):used [] p≤used [] (p++r):=by rw [BD];omega
theorem oZ:∀ (p seen:List Int),used seen p≤p.length
 | [],_=>by simp [used]
 | q::p,seen=>by
  have:=oZ p (q::seen)
  simp only [used,List.length_cons]
  split <;> omega
def cnt (f:Nat→Bool):Nat→Nat
 | 0=>0
 | n+1=>cnt f n+if f n then 1 else 0
theorem cnt_le (f:Nat→Bool):∀ n,cnt f n≤n
 | 0=>Nat.le_refl _
 | n+1=>by have:=cnt_le f n;simp only [cnt];split <;> omega
theorem qF {f g:Nat→Bool}:∀ {n},(∀ i,i<n→f i=g i)→cnt f n=cnt g n
 | 0,_=>rfl
 | n+1,h=>by simp only [cnt,h n (by omega),qF (n:=n) fun i hi=>h i (by omega)]
theorem SC {f g:Nat→Bool} {j:Nat}:∀ {n},j<n→f j=true→g j=false→(∀ i,i<n→i≠j→f i=g i)→cnt f n=cnt g n+1
 | n+1,hj,h1,h2,h=>by
  by_cases e:j=n
  ·subst e
   simp only [cnt,h1,h2]
   rw [qF (f:=f) (g:=g) (n:=j) fun i hi=>h i (by omega) (by omega)]
   simp
  ·simp only [cnt,h n (by omega) (fun h=>e h.symm)]
   rw [SC (n:=n) (by omega) h1 h2 fun i hi hne=>h i (by omega) hne]
   omega
theorem pA {n:Nat}:∀ (p:List Int),(∀ q∈p,0≤q∧q<(n:Int))→used [] p=cnt (fun i=>decide ((i:Int)∈p)) n:=by
 intro p
 generalize hk:p.length=k
 induction k generalizing p with
 | zero =>
  intro _
  rw [List.length_eq_zero_iff.1 hk]
  have:∀ m,cnt (fun i=>decide ((i:Int)∈([]:List Int))) m=0:=fun m=>by
   induction m with
   | zero=>rfl
   | succ m ih=>simp only [cnt,ih];simp
  rw [this];rfl
 | succ k ih =>
  intro h
  have hne:p≠[]:=by rintro rfl;simp at hk
  have e:=List.dropLast_concat_getLast hne
  generalize p.getLast hne=q at e
  generalize hw:p.dropLast=w at e
  have hwl:w.length=k:=by rw [← hw,List.length_dropLast,hk];rfl
  subst e
  rw [vW,ih w hwl fun q hq=>h q (by simp [hq])]
  have hq:=h q (by simp)
  split
  ·rename_i hm
   rw [Nat.add_zero]
   refine qF fun i _=>?_
   simp only [List.mem_append,List.mem_singleton]
   congr 1
   simp only [eq_iff_iff]
   exact ⟨Or.inl,fun h=>h.elim id (fun e=>e▸hm)⟩
  ·rename_i hm
   have e:((q.toNat:Nat):Int)=q:=by omega
   rw [SC (j:=q.toNat) (f:=fun i=>decide ((i:Int)∈w++[q])) (g:=fun i=>decide ((i:Int)∈w)) (by omega) (by simp [e]) (by simp [e,hm])]
   intro i _ hne
   simp only [List.mem_append,List.mem_singleton]
   congr 1
   simp only [eq_iff_iff]
   exact ⟨fun h=>h.elim id (fun e=>absurd e (by omega)),Or.inl⟩
def best (f:List Int→Nat):Option (List Int)→List (List Int)→Option (List Int)
 | b,[]=>b
 | none,x::l=>best f (some x) l
 | some b,x::l=>best f (some (if f x<f b then x else b)) l
theorem EW {f:List Int→Nat}:∀ (l:List (List Int)) (b:List Int),∃ a,best f (some b) l=some a∧f a≤f b∧(a∈l∨a=b)∧(∀ x∈l,f a≤f x)∧(f a=f b→a=b)
 | [],b=>⟨b,rfl,Nat.le_refl _,Or.inr rfl,by simp,fun _=>rfl⟩
 | x::l,b=>by
  simp only [best]
  obtain ⟨a,h1,h2,h3,h4,h5⟩:=EW (f:=f) l (if f x<f b then x else b)
  refine ⟨a,h1,?_,?_,?_,?_⟩
  ·split at h2 <;> omega
  ·rcases h3 with h3 | h3
   ·exact Or.inl (by simp [h3])
   ·split at h3
    ·exact Or.inl (by simp [h3])
    ·exact Or.inr h3
  ·intro z hz
   simp only [List.mem_cons] at hz
   rcases hz with rfl | hz
   ·split at h2 <;> omega
   ·exact h4 z hz
  ·intro e
   split at h2
   ·omega
   ·rename_i hx;rw [if_neg hx] at h5;exact h5 e
def rW (y:Yard) (l:List Int):Option (List Int):=best (used []) none (PL y l)
theorem rX {f:List Int→Nat}:∀ {l:List (List Int)} {a:List Int},l.Pairwise (fun a b=>ahead a b=true)→best f none l=some a →
  a∈l∧(∀ x∈l,f a≤f x)∧(∀ x∈l,f x=f a→x=a∨ahead a x=true)
 | [],a,_,h=>by simp [best] at h
 | x::l,a,hp,h=>by
  simp only [best] at h
  have key:∀ (l:List (List Int)) (b a:List Int),(b::l).Pairwise (fun a b=>ahead a b=true)→best f (some b) l=some a →
    a∈b::l∧(∀ x∈b::l,f a≤f x)∧(∀ x∈b::l,f x=f a→x=a∨ahead a x=true):=by
   intro l
   induction l with
   | nil =>
    intro b a _ h
    simp only [best,Option.some.injEq] at h
    subst h
    simp
   | cons x l ih =>
    intro b a hp h
    simp only [best] at h
    rw [List.pairwise_cons] at hp
    obtain ⟨hb,hp2⟩:=hp
    by_cases hlt:f x<f b
    ·rw [if_pos hlt] at h
     obtain ⟨h1,h2,h3⟩:=ih x a hp2 h
     refine ⟨List.mem_cons_of_mem _ h1,?_,?_⟩
     ·intro z hz
      rcases List.mem_cons.1 hz with rfl | hz
      ·have:=h2 x (by simp);omega
      ·exact h2 z hz
     ·intro z hz e
      rcases List.mem_cons.1 hz with rfl | hz
      ·have:=h2 x (by simp);omega
      ·exact h3 z hz e
    ·rw [if_neg hlt] at h
     rw [List.pairwise_cons] at hp2
     have hp3:(b::l).Pairwise fun a b=>ahead a b=true:=by
      rw [List.pairwise_cons]
      exact ⟨fun z hz=>hb z (by simp [hz]),hp2.2⟩
     obtain ⟨h1,h2,h3⟩:=ih b a hp3 h
     refine ⟨?_,?_,?_⟩
     ·rcases List.mem_cons.1 h1 with rfl | h1
      ·simp
      ·simp [h1]
     ·intro z hz
      rcases List.mem_cons.1 hz with rfl | hz
      ·exact h2 z (by simp)
      ·rcases List.mem_cons.1 hz with rfl | hz
       ·have:=h2 b (by simp);omega
       ·exact h2 z (by simp [hz])
     ·intro z hz e
      rcases List.mem_cons.1 hz with rfl | hz
      ·exact h3 z (by simp) e
      ·rcases List.mem_cons.1 hz with rfl | hz
       ·have hfb:=h2 b (by simp)
        have hab:f b=f a:=by omega
        right
        rcases h3 b (by simp) hab with e1 | e1
        ·rw [← e1];exact hb z (by simp)
        ·exact oX e1 (hb z (by simp))
       ·exact h3 z (by simp [hz]) e
  exact key l x a hp h
theorem VF {f:List Int→Nat} {l:List (List Int)}:best f none l=none↔l=[]:=by
 cases l with
 | nil=>simp [best]
 | cons x l =>
  obtain ⟨a,h,_⟩:=EW (f:=f) l x
  simp [best,h]
end Go.Pen
namespace Go.Pen
open Go.Sx
structure Stay where
 (sort inn out:Int)
def ints (l:List Int):List (List CV):=l.map fun x=>[ci x]
def Kd.cv (k:Kd):List CV:=[ci k.sort,ci k.room,ci k.eats,ci k.apart]
def Stay.cv (s:Stay):List CV:=[ci s.sort,ci s.inn,ci s.out]
def Yard.ps (y:Yard):List (List CV):=ints y.pens
def Yard.ks (y:Yard):List (List CV):=y.kinds.map Kd.cv
def stays (l:List Stay):List (List CV):=l.map Stay.cv
@[simp] theorem aH (l:List Int):(ints l).length=l.length:=by simp [ints]
@[simp] theorem aF (l:List Int):il (ints l)=l.length:=by simp [ints]
@[simp] theorem pB (l:List Stay):il (stays l)=l.length:=by simp [stays]
@[simp] theorem LEq (y:Yard):il y.ks=y.kinds.length:=by simp [Yard.ks]
@[simp] theorem eV (y:Yard):il y.ps=y.pens.length:=by simp [Yard.ps]
theorem aG {l:List Int} {i:Nat} (h:i<l.length):inb (i:Int) (ints l)=true:=zF h
theorem aI {l:List Int} {i:Nat} (h:i<l.length):el (ints l) (i:Int)=[ci l[i]]:=HL h
theorem nF {y:Yard} {i:Nat} (h:i<y.pens.length):inb (i:Int) y.ps=true:=zF h
theorem tT {y:Yard} {i:Nat} (h:i<y.pens.length):el y.ps (i:Int)=[ci y.pens[i]]:=HL h
theorem gD {y:Yard} {i:Nat} (h:i<y.kinds.length):inb (i:Int) y.ks=true:=zF h
theorem kV {y:Yard} {i:Nat} (h:i<y.kinds.length):el y.ks (i:Int)=y.kinds[i].cv:=HL h
theorem kE {l:List Stay} {i:Nat} (h:i<l.length):inb (i:Int) (stays l)=true:=zF h
theorem mM {l:List Stay} {i:Nat} (h:i<l.length):el (stays l) (i:Int)=l[i].cv:=HL h
@[simp] theorem cZ (l:List Int) (x:Int):ints l++[[ci x]]=ints (l++[x]):=by simp [ints]
@[simp] theorem LF:ints []=[]:=rfl
theorem vX (l:List Int) (n:Nat):(ints l).take n=ints (l.take n):=by simp [ints,List.map_take]
theorem LG {l m:List Int} (h:ints l=ints m):l=m:=by
 unfold ints at h
 refine List.map_inj_right ?_ |>.1 h
 intro a b e
 injection e with e _
 simp only [ci] at e
 injection e with e
 injection e
theorem bM {y:Yard} (h:y.ok=true):y.pens.length≤5∧y.kinds.length≤9:=by
 unfold Yard.ok at h
 simp only [Bool.and_eq_true,decide_eq_true_eq] at h
 refine ⟨h.1.1.1,?_⟩
 have hr:=h.2
 have hk:∀ k∈y.kinds,1≤k.sort∧k.sort≤9:=fun k hk=>by
  have:=List.all_eq_true.1 h.1.2 k hk
  simp only [Kd.ok,within,Bool.and_eq_true,decide_eq_true_eq] at this
  exact this.1.1.1.1
 generalize y.kinds=ks at hr hk
 have key:∀ (ks:List Kd) (a:Int),rising (ks.map Kd.sort)=true→(∀ k∈ks,a≤k.sort∧k.sort≤9)→1≤a→a≤10→(ks.length:Int)≤10 - a:=by
  intro ks
  induction ks with
  | nil=>intro a _ _ _ _;simp;omega
  | cons k ks ih =>
   intro a hr hk h1 h2
   have hk0:=hk k (by simp)
   have hr2:rising (ks.map Kd.sort)=true:=by
    simp only [List.map_cons,rising,Bool.and_eq_true] at hr;exact hr.2
   have hnext:∀ k'∈ks,k.sort+1≤k'.sort∧k'.sort≤9:=by
    intro k' hk'
    refine ⟨?_,(hk k' (by simp [hk'])).2⟩
    have hlt:∀ (ks:List Kd) (s:Int),rising (s::ks.map Kd.sort)=true→∀ k'∈ks,s<k'.sort:=by
     intro ks
     induction ks with
     | nil=>intro s _ k' hk';simp at hk'
     | cons b ks ih2 =>
      intro s hr k' hk'
      simp only [List.map_cons,rising,Bool.and_eq_true,decide_eq_true_eq] at hr
      rcases List.mem_cons.1 hk' with rfl | hk'
      ·exact hr.1
      ·have:=ih2 b.sort (by simp only [rising,Bool.and_eq_true];exact hr.2) k' hk'
       omega
    have:=hlt ks k.sort (by simpa using hr) k' hk'
    omega
   have:=ih (k.sort+1) hr2 hnext (by omega) (by omega)
   simp only [List.length_cons];omega
 have:=key ks 1 hr hk (by omega) (by omega)
 omega
end Go.Pen
namespace Go.Pen
open Go.Sx
theorem qG (m:Nat):BitVec.ofInt 64 (m:Int)=BitVec.ofNat 64 m:=by
 apply BitVec.eq_of_toInt_eq
 simp [BitVec.toInt_ofInt,BitVec.toInt_ofNat]
theorem HN (m k:Nat) (h:m<2 ^ 64) (h':k<2 ^ 64):bAN (m:Int) (k:Int)=m &&& k:=by
 unfold bAN
 rw [qG,qG,BitVec.toNat_and,BitVec.toNat_ofNat,BitVec.toNat_ofNat,Nat.mod_eq_of_lt h,Nat.mod_eq_of_lt h']
theorem aBv (m k:Nat) (h:m<2 ^ 64) (h':k<2 ^ 64):bON (m:Int) (k:Int)=m ||| k:=by
 unfold bON
 rw [qG,qG,BitVec.toNat_or,BitVec.toNat_ofNat,BitVec.toNat_ofNat,Nat.mod_eq_of_lt h,Nat.mod_eq_of_lt h']
theorem SD (s:Nat):((2:Int) ^ s)=((2 ^ s:Nat):Int):=by simp
theorem HO (q:Nat):(q &&& 1=1)↔q.testBit 0=true:=by
 rw [Nat.and_one_is_mod,Nat.testBit_zero];simp
theorem BE (p s:Nat) (h:p<2 ^ 63):((wr (Int.ofNat (bAN (Int.fdiv (p:Int) ((2:Int) ^ (min s 64))) 1))) == 1)=p.testBit s:=by
 rw [SD,Int.fdiv_eq_ediv_of_nonneg _ (Int.natCast_nonneg _),← Int.natCast_ediv]
 have h1:p / 2 ^ (min s 64)≤p:=Nat.div_le_self _ _
 have h2:bAN ((p / 2 ^ (min s 64):Nat):Int) 1=(p / 2 ^ (min s 64)) &&& 1:=HN _ 1 (by omega) (by decide)
 rw [h2]
 have h3:(p / 2 ^ (min s 64)) &&& 1≤1:=Nat.and_le_right
 have h4:wr (Int.ofNat ((p / 2 ^ (min s 64)) &&& 1))=Int.ofNat ((p / 2 ^ (min s 64)) &&& 1):=by
  rw [bW] <;> simp <;> omega
 rw [h4]
 have h5:p.testBit s=(p / 2 ^ (min s 64)).testBit 0:=by
  rw [Nat.testBit_div_two_pow,Nat.zero_add]
  by_cases hs:s≤64
  ·rw [Nat.min_eq_left hs]
  ·rw [Nat.min_eq_right (by omega),Nat.testBit_lt_two_pow (Nat.lt_of_lt_of_le h (Nat.pow_le_pow_right (by decide) (by omega))),Nat.testBit_lt_two_pow (Nat.lt_of_lt_of_le h (Nat.pow_le_pow_right (by decide) (by decide)))]
 rw [h5,Bool.eq_iff_iff,← HO,beq_iff_eq]
 generalize (p / 2 ^ (min s 64)) &&& 1=x
 rw [Int.ofNat_eq_natCast]
 omega
def orI (a:Int) (b:Nat):Int:=wr (Int.ofNat (bON a (wr (1*((2:Int) ^ (min b 64))))))
theorem SE (m b:Nat) (h:m<1024) (hb:b≤9):orI (m:Int) b=((m ||| 2 ^ b:Nat):Int)∧m ||| 2 ^ b<1024:=by
 have h1:2 ^ b<2 ^ 10:=Nat.pow_lt_pow_right (by decide) (by omega)
 have h2:m ||| 2 ^ b<2 ^ 10:=Nat.or_lt_two_pow (by omega) h1
 refine ⟨?_,h2⟩
 unfold orI
 have h0:(0:Int)≤((2 ^ b:Nat):Int):=Int.natCast_nonneg _
 have e:wr (1*((2:Int) ^ (min b 64)))=((2 ^ b:Nat):Int):=by
  rw [Nat.min_eq_left (by omega),SD,Int.one_mul,bW (by omega) (by omega)]
 rw [e,aBv _ _ (by omega) (by omega),Int.ofNat_eq_natCast,bW (by omega) (by omega)]
theorem SF (m b j:Nat):(m ||| 2 ^ b).testBit j=(m.testBit j || decide (b=j)):=by
 rw [Nat.testBit_or,Nat.testBit_two_pow]
theorem DK (a b:Nat) (ha:a<1024) (hb:b<1024):((wr (Int.ofNat (bAN (a:Int) (b:Int)))) == 0)=(List.range 10).all fun i=>!(a.testBit i&&b.testBit i):=by
 rw [HN _ _ (by omega) (by omega)]
 have h1:a &&& b≤a:=Nat.and_le_left
 rw [bW (by simp) (by simp;omega),Bool.eq_iff_iff,List.all_eq_true]
 simp only [beq_iff_eq,List.mem_range,Bool.not_eq_true',Int.ofNat_eq_natCast,Int.natCast_eq_zero]
 constructor
 ·intro h i _
  rw [← Nat.testBit_and,h,Nat.zero_testBit]
 ·intro h
  apply Nat.eq_of_testBit_eq
  intro i
  rw [Nat.zero_testBit,Nat.testBit_and]
  by_cases hi:i<10
  ·exact h i hi
  ·rw [Nat.testBit_lt_two_pow (x:=a) (Nat.lt_of_lt_of_le ha (show 2 ^ 10≤2 ^ i from Nat.pow_le_pow_right (by decide) (by omega)))];rfl
end Go.Pen
namespace Go.Pen
open Go.Sx
def st (f:Nat→Int):List CV:=(List.range 50).map fun j=>ci (f j)
def PO (f:Nat→Int) (s r t p:Int):Nat→Int:=fun j =>
 if decide (j+2=(((2+(s.toNat*4))+1)+1)+1)=true then p else if decide (j+2=((2+(s.toNat*4))+1)+1)=true then t else if decide (j+2=(2+(s.toNat*4))+1)=true then r else if decide (j+2=2+(s.toNat*4))=true then s else f j
def PP (f:Nat→Int) (m:Nat) (x:Int):Nat→Int:=fun j=>if decide (j+2=42+m*1)=true then x else f j
def inner (k:Kd) (f:Nat→Int) (s:Nat):Nat→Int:=
 if bit k.apart s=true then
  let f1:=PP f k.sort.toNat (orI (f (40+k.sort.toNat)) s)
  PP f1 s (orI (f1 (40+s)) k.sort.toNat)
 else f
def EX (f:Nat→Int) (k:Kd):Nat→Int:=(List.range 10).foldl (inner k) (PO f k.sort k.room k.eats k.apart)
def pf (y:Yard):Nat→Int:=y.kinds.foldl EX fun _=>0
def pc (y:Yard):List CV:=.row 1 y.ps::.row 4 y.ks::st (pf y)
theorem SG (f:Nat→Int) (m:Nat) (x:Int) (j:Nat):PP f m x j=if j=40+m then x else f j:=by
 unfold PP
 by_cases h:j=40+m
 ·rw [if_pos (by simp;omega),if_pos h]
 ·rw [if_neg (by simp;omega),if_neg h]
def isM (x:Int) (p:Nat→Prop):Prop:=∃ m:Nat,x=m∧m<1024∧∀ b,b<10→(m.testBit b=true↔p b)
theorem isM.congr {x:Int} {p q:Nat→Prop} (h:isM x p) (e:∀ b,b<10→(p b↔q b)):isM x q:=by
 obtain ⟨m,h1,h2,h3⟩:=h
 exact ⟨m,h1,h2,fun b hb=>(h3 b hb).trans (e b hb)⟩
theorem aDn {x:Int} {p:Nat→Prop} (h:isM x p) {c:Nat} (hc:c<10):isM (orI x c) fun b=>p b∨b=c:=by
 obtain ⟨m,rfl,h2,h3⟩:=h
 obtain ⟨e1,e2⟩:=SE m c h2 (by omega)
 refine ⟨m ||| 2 ^ c,e1,e2,fun b hb=>?_⟩
 rw [SF,Bool.or_eq_true,h3 b hb,decide_eq_true_eq]
 exact or_congr Iff.rfl ⟨fun h=>h.symm,fun h=>h.symm⟩
def xJ (f:Nat→Int) (p:Nat→Nat→Prop):Prop:=∀ s,s<10→isM (f (40+s)) (p s)
theorem BF {f:Nat→Int} {p:Nat→Nat→Prop} (h:xJ f p) {s c:Nat} (hs:s<10) (hc:c<10) :
  xJ (PP f s (orI (f (40+s)) c)) fun a b=>p a b∨a=s∧b=c:=by
 intro a ha
 rw [SG]
 by_cases e:a=s
 ·subst e
  rw [if_pos rfl]
  exact (aDn (h a ha) hc).congr fun b _=>by simp
 ·rw [if_neg (by omega)]
  exact (h a ha).congr fun b _=>by simp [e]
theorem VG (k:Kd) (f:Nat→Int) (s j:Nat) (hj:j<40):inner k f s j=f j:=by
 unfold inner
 split
 ·simp only [SG]
  rw [if_neg (by omega),if_neg (by omega)]
 ·rfl
theorem LH {k:Kd} (h1:k.sort.toNat<10) {f:Nat→Int} {p:Nat→Nat→Prop} (h:xJ f p) {s:Nat} (hs:s<10) :
  xJ (inner k f s) fun a b=>p a b∨bit k.apart s=true∧(a=k.sort.toNat∧b=s∨a=s∧b=k.sort.toNat):=by
 unfold inner
 split
 ·rename_i hb
  have h2:=BF (BF h h1 hs) hs h1
  intro a ha
  exact (h2 a ha).congr fun b _=>by simp [hb,or_assoc]
 ·rename_i hb
  intro a ha
  exact (h a ha).congr fun b _=>by simp [hb]
theorem LI (k:Kd):∀ (l:List Nat) (f:Nat→Int) (j:Nat),j<40→l.foldl (inner k) f j=f j
 | [],_,_,_=>rfl
 | s::l,f,j,hj=>by rw [List.foldl_cons,LI k l _ j hj,VG k f s j hj]
theorem BG {k:Kd} (h1:k.sort.toNat<10):∀ (l:List Nat) (f:Nat→Int) (p:Nat→Nat→Prop),(∀ s∈l,s<10)→xJ f p →
  xJ (l.foldl (inner k) f) fun a b=>p a b∨∃ s∈l,bit k.apart s=true∧(a=k.sort.toNat∧b=s∨a=s∧b=k.sort.toNat)
 | [],f,p,_,h=>fun a ha=>(h a ha).congr fun b _=>by simp
 | s::l,f,p,hl,h=>by
  have:=BG h1 l _ _ (fun s hs=>hl s (by simp [hs])) (LH h1 h (hl s (by simp)))
  intro a ha
  exact (this a ha).congr fun b _=>by simp [or_assoc]
theorem aBw (f:Nat→Int) (k:Kd) (h0:0≤k.sort) {a c:Nat} (hc:c<4):PO f k.sort k.room k.eats k.apart (4*a+c)=if a=k.sort.toNat then [k.sort,k.room,k.eats,k.apart].getD c 0 else f (4*a+c):=by
 unfold PO
 simp only [decide_eq_true_eq]
 by_cases e:a=k.sort.toNat
 ·rw [if_pos e]
  match c,hc with
  | 0,_=>rw [if_neg (by omega),if_neg (by omega),if_neg (by omega),if_pos (by omega)];rfl
  | 1,_=>rw [if_neg (by omega),if_neg (by omega),if_pos (by omega)];rfl
  | 2,_=>rw [if_neg (by omega),if_pos (by omega)];rfl
  | 3,_=>rw [if_pos (by omega)];rfl
 ·rw [if_neg e,if_neg (by omega),if_neg (by omega),if_neg (by omega),if_neg (by omega)]
theorem VH (f:Nat→Int) (k:Kd) (h1:k.sort.toNat<10) {j:Nat} (hj:40≤j):PO f k.sort k.room k.eats k.apart j=f j:=by
 unfold PO
 simp only [decide_eq_true_eq]
 rw [if_neg (by omega),if_neg (by omega),if_neg (by omega),if_neg (by omega)]
structure Inv (ks:List Kd) (f:Nat→Int):Prop where
 low:∀ a c,a<10→c<4→f (4*a+c)=match ks.find? (fun k=>k.sort == (a:Int)) with | some k=>[k.sort,k.room,k.eats,k.apart].getD c 0 | none=>0
 msk:xJ f fun a b=>∃ k∈ks,bit k.apart b=true∧a=k.sort.toNat∨bit k.apart a=true∧b=k.sort.toNat
theorem Inv.step {ks:List Kd} {f:Nat→Int} (h:Inv ks f) {k:Kd} (h0:1≤k.sort) (h1:k.sort≤9) (hne:∀ x∈ks,x.sort≠k.sort):Inv (ks++[k]) (EX f k):=by
 have hs:k.sort.toNat<10:=by omega
 constructor
 ·intro a c ha hc
  unfold EX
  rw [LI k _ _ _ (by omega),aBw f k (by omega) hc,List.find?_append]
  by_cases e:a=k.sort.toNat
  ·rw [if_pos e]
   have:ks.find? (fun x=>x.sort == (a:Int))=none:=by
    rw [List.find?_eq_none]
    intro x hx hh
    have:=hne x hx
    simp only [beq_iff_eq] at hh
    omega
   have e2:k.sort=(a:Int):=by omega
   rw [this,Option.none_or,List.find?_cons_of_pos (by simp [e2])]
  ·rw [if_neg e,h.low a c ha hc]
   have:([k].find? fun x=>x.sort == (a:Int))=none:=by
    rw [List.find?_eq_none]
    intro x hx hh
    rw [List.mem_singleton] at hx
    subst hx
    simp only [beq_iff_eq] at hh
    omega
   rw [this,Option.or_none]
 ·have hm:xJ (PO f k.sort k.room k.eats k.apart) fun a b=>∃ k∈ks,bit k.apart b=true∧a=k.sort.toNat∨bit k.apart a=true∧b=k.sort.toNat:=by
   intro a ha
   rw [VH f k hs (by omega)]
   exact h.msk a ha
  have h2:=BG hs (List.range 10) _ _ (fun s h=>List.mem_range.1 h) hm
  intro a ha
  refine (h2 a ha).congr fun b hb=>?_
  simp only [List.mem_append,List.mem_singleton,List.mem_range]
  constructor
  ·rintro (⟨x,hx,hh⟩ | ⟨s,hs',hb',hh⟩)
   ·exact ⟨x,Or.inl hx,hh⟩
   ·refine ⟨k,Or.inr rfl,?_⟩
    rcases hh with ⟨rfl,rfl⟩ | ⟨rfl,rfl⟩
    ·exact Or.inl ⟨hb',rfl⟩
    ·exact Or.inr ⟨hb',rfl⟩
  ·rintro ⟨x,hx | rfl,hh⟩
   ·exact Or.inl ⟨x,hx,hh⟩
   ·right
    rcases hh with ⟨hh,rfl⟩ | ⟨hh,rfl⟩
    ·exact ⟨b,hb,hh,Or.inl ⟨rfl,rfl⟩⟩
    ·exact ⟨a,ha,hh,Or.inr ⟨rfl,rfl⟩⟩
theorem Inv.zero:Inv [] fun _=>0:=by
 constructor
 ·intro a c _ _;rfl
 ·intro a _
  exact ⟨0,rfl,by decide,fun b _=>by simp⟩
theorem vY:∀ {l:List Int} {x:Int},rising (x::l)=true→∀ z∈l,x<z
 | [],_,_,z,hz=>by simp at hz
 | a::l,x,h,z,hz=>by
  simp only [rising,Bool.and_eq_true,decide_eq_true_eq] at h
  rcases List.mem_cons.1 hz with rfl | hz
  ·exact h.1
  ·have:=vY (x:=a) (by simp only [rising,Bool.and_eq_true];exact h.2) z hz
   omega
theorem Inv.all:∀ {ks:List Kd} {pre:List Kd} {f:Nat→Int},Inv pre f→(∀ k∈ks,1≤k.sort∧k.sort≤9)→rising (ks.map Kd.sort)=true→(∀ x∈pre,∀ k∈ks,x.sort<k.sort)→Inv (pre++ks) (ks.foldl EX f)
 | [],pre,f,h,_,_,_=>by simpa using h
 | k::ks,pre,f,h,h1,h2,h3=>by
  have hk:=h1 k (by simp)
  have:=Inv.all (ks:=ks) (h.step hk.1 hk.2 fun x hx=>by have:=h3 x hx k (by simp);omega) (fun z hz=>h1 z (by simp [hz]))
   (by simp only [List.map_cons,rising,Bool.and_eq_true] at h2;exact h2.2)
   (by
    intro x hx z hz
    rcases List.mem_append.1 hx with hx | hx
    ·exact h3 x hx z (by simp [hz])
    ·rw [List.mem_singleton] at hx
     subst hx
     exact vY h2 z.sort (List.mem_map.2 ⟨z,hz,rfl⟩))
  simpa using this
theorem ZI {y:Yard} (h:y.ok=true):Inv y.kinds (pf y):=by
 unfold Yard.ok at h
 simp only [Bool.and_eq_true,List.all_eq_true] at h
 have:=Inv.all (ks:=y.kinds) Inv.zero (fun k hk=>by
  have:=h.1.2 k hk
  simp only [Kd.ok,within,Bool.and_eq_true,decide_eq_true_eq] at this
  omega) h.2 (by simp)
 unfold pf
 simpa using this
theorem aBx {y:Yard} (h:y.ok=true) {a c:Nat} (ha:a<10) (hc:c<4):pf y (4*a+c)=[(kd y a).sort,(kd y a).room,(kd y a).eats,(kd y a).apart].getD c 0:=by
 rw [(ZI h).low a c ha hc]
 unfold kd kindOf
 cases hf:y.kinds.find? (fun k=>k.sort == (a:Int)) with
 | some k=>rfl
 | none =>
  match c,hc with
  | 0,_=>rfl
  | 1,_=>rfl
  | 2,_=>rfl
  | 3,_=>rfl
theorem ZJ {y:Yard} (h:y.ok=true) {k:Kd} (hk:k∈y.kinds):kd y k.sort=k:=by
 unfold Yard.ok at h
 simp only [Bool.and_eq_true] at h
 have hr:=h.2
 unfold kd kindOf
 have key:∀ (ks:List Kd),rising (ks.map Kd.sort)=true→k∈ks→ks.find? (fun x=>x.sort == k.sort)=some k:=by
  intro ks
  induction ks with
  | nil=>intro _ h;simp at h
  | cons x ks ih =>
   intro hr hm
   rcases List.mem_cons.1 hm with rfl | hm
   ·rw [List.find?_cons_of_pos (by simp)]
   ·have:=vY hr k.sort (List.mem_map.2 ⟨k,hm,rfl⟩)
    rw [List.find?_cons_of_neg (by simp;omega)]
    exact ih (by simp only [List.map_cons,rising,Bool.and_eq_true] at hr;exact hr.2) hm
 rw [key _ hr hk];rfl
theorem qH {y:Yard} {a:Int} (h:has y a=true):kd y a∈y.kinds∧(kd y a).sort=a:=by
 unfold has at h
 obtain ⟨k,hk⟩:=Option.isSome_iff_exists.1 h
 unfold kd
 rw [hk]
 exact ⟨List.mem_of_find?_eq_some hk,by simpa using List.find?_some hk⟩
theorem tU {y:Yard} {a:Int} (h:has y a=false):kd y a=kz:=by
 unfold has at h
 unfold kd
 cases hk:kindOf y a with
 | none=>rfl
 | some k=>rw [hk] at h;cases h
theorem zH {y:Yard} (h:y.ok=true) {a:Nat} (ha:a<10):isM (pf y (40+a)) fun b=>apt y a b=true:=by
 refine ((ZI h).msk a ha).congr fun b hb=>?_
 have hk9:∀ k∈y.kinds,1≤k.sort∧k.sort≤9:=fun k hk=>by
  unfold Yard.ok at h
  simp only [Bool.and_eq_true,List.all_eq_true,Kd.ok,within,decide_eq_true_eq] at h
  have:=(h.1.2 k hk).1.1.1.1
  omega
 unfold apt
 rw [Bool.or_eq_true]
 constructor
 ·rintro ⟨k,hk,⟨h1,h2⟩ | ⟨h1,h2⟩⟩
  ·have:=hk9 k hk
   left
   rw [show ((a:Nat):Int)=k.sort by omega,ZJ h hk];exact h1
  ·have:=hk9 k hk
   right
   rw [show ((b:Nat):Int)=k.sort by omega,ZJ h hk];exact h1
 ·rintro (hh | hh)
  ·cases hs:has y a with
   | false=>rw [tU hs] at hh;simp [bit,kz] at hh
   | true =>
    obtain ⟨h1,h2⟩:=qH hs
    exact ⟨_,h1,Or.inl ⟨hh,by rw [h2];simp⟩⟩
  ·cases hs:has y b with
   | false=>rw [tU hs] at hh;simp [bit,kz] at hh
   | true =>
    obtain ⟨h1,h2⟩:=qH hs
    exact ⟨_,h1,Or.inr ⟨hh,by rw [h2];simp⟩⟩
end Go.Pen
namespace Go.Pen
open Go.Sx
theorem rY {step:List CV→Option Ou} (n:Nat) (T:Nat→List CV) (p:Nat→Bool) (R:Nat→Option Ou) (X:Option Ou) {vs:List CV} (hv:vs=T 0) (hR:∀ i l,R i≠some (.nx l)) (hX:∀ l,X≠some (.nx l))
  (h1:∀ i,i<n→(∀ j,j<i→p j=false)→p i=false→step (T i)=some (.nx (T (i+1)))) (h2:∀ i,i<n→(∀ j,j<i→p j=false)→p i=true→step (T i)=R i) (h3:(∀ j,j<n→p j=false)→step (T n)=X) :
  aJ step vs=match (List.range n).find? p with
   | some i=>R i
   | none=>X:=by
 subst hv
 have to:∀ m,m≤n→(∀ j,j<m→p j=false)→aJ step (T 0)=aJ step (T m):=by
  intro m
  induction m with
  | zero=>intro _ _;rfl
  | succ m ih =>
   intro hm hj
   rw [ih (by omega) fun j h=>hj j (by omega)]
   exact dP (h1 m (by omega) (fun j h=>hj j (by omega)) (hj m (by omega)))
 cases hf:(List.range n).find? p with
 | none =>
  rw [List.find?_eq_none] at hf
  have hall:∀ j,j<n→p j=false:=fun j hj=>by simpa using hf j (by simpa using hj)
  rw [to n (Nat.le_refl _) hall]
  exact bE (h3 hall) hX
 | some i =>
  rw [List.find?_range_eq_some] at hf
  obtain ⟨hp,hi,hq⟩:=hf
  have hi':i<n:=by simpa using hi
  have hall:∀ j,j<i→p j=false:=fun j hj=>by simpa using hq j hj
  rw [to i (by omega) hall]
  exact bE (h2 i hi' hall hp) (hR i)
theorem aBy {y:Yard} {z w:BP} (h:okZ y (z++w)=true):okZ y z=true:=by
 induction w generalizing z with
 | nil=>simpa using h
 | cons a w ih =>
  have h1:okZ y (z++[a])=true:=ih (z:=z++[a]) (by simpa using h)
  rw [oW,Bool.and_eq_true] at h1
  exact h1.1
theorem ZK {y:Yard} {z:BP} (h:okZ y z=true) (i:Nat):okZ y (z.take i)=true:=aBy (w:=z.drop i) (by rw [List.take_append_drop];exact h)
def fA:BP→Int→Nat
 | [],_=>0
 | (s,q)::z,pen=>if q=pen then fA z pen ||| 2 ^ s.toNat else fA z pen
theorem PQ (z:BP) (s q pen:Int):fA (z++[(s,q)]) pen=if q=pen then fA z pen ||| 2 ^ s.toNat else fA z pen:=by
 induction z with
 | nil=>simp [fA]
 | cons a z ih =>
  obtain ⟨t,r⟩:=a
  simp only [List.cons_append,fA,ih]
  split <;> split <;> try rfl
  rw [Nat.or_assoc,Nat.or_assoc,Nat.or_comm (2 ^ s.toNat)]
theorem LJ {z:BP} (h:∀ x∈z,x.1≤9) (pen:Int):fA z pen<1024:=by
 induction z with
 | nil=>simp [fA]
 | cons a z ih =>
  obtain ⟨t,r⟩:=a
  have h1:=ih fun x hx=>h x (by simp [hx])
  have h2:t≤9:=h (t,r) (by simp)
  simp only [fA]
  split
  ·exact Nat.or_lt_two_pow (n:=10) h1 (Nat.pow_lt_pow_right (by decide) (by omega))
  ·exact h1
theorem BH (z:BP) (pen:Int) (b:Nat):(fA z pen).testBit b=true↔∃ x∈z,x.2=pen∧x.1.toNat=b:=by
 induction z with
 | nil=>simp [fA]
 | cons a z ih =>
  obtain ⟨t,r⟩:=a
  simp only [fA,List.mem_cons,exists_eq_or_imp]
  split
  ·rename_i e;rw [SF,Bool.or_eq_true,ih,decide_eq_true_eq];simp [e,or_comm]
  ·rename_i e;rw [ih];simp [e]
theorem rZ {y:Yard} (hy:y.ok=true) {z:BP} (hz:∀ x∈z,1≤x.1∧x.1≤9) {s q:Int} (hs:1≤s∧s≤9) (hq:within q 0 ((y.pens.length:Int) - 1)=true) {a:Int} (ha:isM a fun b=>apt y s b=true) :
  jO y z s q=(decide (rm y s≤y.pens.getD q.toNat 0 - load y z q)&&((wr (Int.ofNat (bAN a (fA z q:Int)))) == 0)):=by
 obtain ⟨m,rfl,hm,hb⟩:=ha
 replace hb:∀ b:Nat,b<10→(m.testBit b=true↔apt y s b=true):=hb
 unfold jO
 rw [hq,Bool.true_and,DK m _ hm (LJ (fun x hx=>(hz x hx).2) q)]
 congr 1
 ·rw [Bool.eq_iff_iff,decide_eq_true_eq,decide_eq_true_eq];omega
 ·rw [Bool.eq_iff_iff,List.all_eq_true,List.all_eq_true]
  simp only [List.mem_range,Bool.not_eq_true',Bool.and_eq_false_iff,beq_eq_false_iff_ne]
  constructor
  ·intro h i hi
   cases hc:m.testBit i with
   | false=>exact Or.inl rfl
   | true =>
    right
    rw [Bool.eq_false_iff]
    intro ht
    obtain ⟨x,hx,e1,e2⟩:=(BH z q i).1 ht
    have h1:=(hb i hi).1 hc
    have:=h x hx
    have e3:((i:Nat):Int)=x.1:=by have:=hz x hx;omega
    rw [e3,tR] at h1
    rcases this with h2 | h2
    ·exact h2 e1
    ·rw [h1] at h2;cases h2
  ·intro h x hx
   by_cases e:x.2=q
   ·right
    have hr:=hz x hx
    have h1:=h x.1.toNat (by omega)
    rw [Bool.eq_false_iff]
    intro ht
    rw [tR] at ht
    rcases h1 with h1 | h1
    ·have:=(hb x.1.toNat (by omega)).2 (by rw [show ((x.1.toNat:Nat):Int)=x.1 by omega];exact ht)
     rw [this] at h1;cases h1
    ·have:=(BH z q x.1.toNat).2 ⟨x,hx,e,rfl⟩
     rw [this] at h1;cases h1
   ·exact Or.inl e
theorem sB {y:Yard} (h:y.ok=true) {i:Nat} (hi:i<y.pens.length):0≤y.pens[i]∧y.pens[i]≤1000:=by
 unfold Yard.ok at h
 simp only [Bool.and_eq_true,List.all_eq_true,within,decide_eq_true_eq] at h
 exact h.1.1.2 _ (List.getElem_mem hi)
theorem LL {y:Yard} (h:y.ok=true) (z:BP) (j:Int):0≤load y z j:=by
 induction z with
 | nil=>simp [load]
 | cons a z ih =>
  obtain ⟨s,q⟩:=a
  simp only [load]
  have:=fH h s
  split <;> omega
def eM (y:Yard) (z:BP):List Int:=(List.range y.pens.length).map fun j=>y.pens.getD j 0 - load y z j
def fB (y:Yard) (z:BP):List Int:=(List.range y.pens.length).map fun (j:Nat)=>(fA z j:Int)
theorem VI (y:Yard):eM y []=y.pens:=by
 unfold eM
 apply List.ext_getElem (by simp)
 intro i h1 h2
 simp [load,h2]
theorem PR (y:Yard) (z:BP) (s:Int) {q:Nat} (hq:q<y.pens.length):eM y (z++[(s,(q:Int))])=(eM y z).set q (y.pens[q] - load y z q - rm y s):=by
 unfold eM
 apply List.ext_getElem (by simp)
 intro i h1 h2
 have hi:i<y.pens.length:=by simpa using h1
 rw [List.getElem_set]
 simp only [List.getElem_map,List.getElem_range,oY,load,Int.add_zero]
 by_cases e:q=i
 ·subst e
  rw [if_pos rfl,if_pos rfl]
  simp [hi];omega
 ·rw [if_neg e,if_neg (by omega)];omega
theorem PS (y:Yard) (z:BP) (s:Int) {q:Nat} (hq:q<y.pens.length):fB y (z++[(s,(q:Int))])=(fB y z).set q ((fA z q ||| 2 ^ s.toNat:Nat):Int):=by
 unfold fB
 apply List.ext_getElem (by simp)
 intro i h1 h2
 rw [List.getElem_set]
 simp only [List.getElem_map,List.getElem_range,PQ]
 by_cases e:q=i
 ·subst e
  rw [if_pos rfl,if_pos rfl]
 ·rw [if_neg e,if_neg (by omega)]
theorem vZ {y:Yard} {z:BP} {q:Nat} (hq:q<(eM y z).length):(eM y z)[q]=y.pens.getD q 0 - load y z q:=by simp [eM]
theorem wB {y:Yard} {z:BP} {q:Nat} (hq:q<(fB y z).length):(fB y z)[q]=(fA z q:Int):=by simp [fB]
@[simp] theorem EY (y:Yard) (z:BP):(eM y z).length=y.pens.length:=by simp [eM]
@[simp] theorem EZ (y:Yard) (z:BP):(fB y z).length=y.pens.length:=by simp [fB]
theorem VJ (y:Yard):ints (fB y [])=List.replicate y.pens.length [ci 0]:=by
 unfold fB ints
 apply List.ext_getElem (by simp)
 intro i h1 h2
 simp [fA]
theorem ints_set (l:List Int) (i:Nat) (x:Int):(ints l).set i [ci x]=ints (l.set i x):=by simp [ints,List.map_set]
end Go.Pen
namespace Go.Pen
open Go.Sx
theorem bP {A S:Type} {step:List CV→Option Ou} (l:List A) (E:Nat→S→List CV) (f:S→A→S) (P:Nat→S→Prop) (b:Nat) (G:S→List CV) (s:S) {vs:List CV} (hv:vs=E 0 s) (h0:P 0 s)
  (hs:∀ i (h:i<l.length) s,P i s→step (E i s)=some (.nx (E (i+1) (f s l[i])))∧P (i+1) (f s l[i])) (he:∀ s,P l.length s→step (E l.length s)=some (.br b (G s))) :
  aJ step vs=some (.br b (G (l.foldl f s)))∧P l.length (l.foldl f s):=by
 subst hv
 have key:∀ n,n≤l.length→aJ step (E 0 s)=aJ step (E n ((l.take n).foldl f s))∧P n ((l.take n).foldl f s):=by
  intro n
  induction n with
  | zero=>intro _;exact ⟨by simp,by simpa using h0⟩
  | succ n ih =>
   intro hn
   obtain ⟨h1,h2⟩:=ih (by omega)
   obtain ⟨h3,h4⟩:=hs n (by omega) _ h2
   have e:(l.take (n+1)).foldl f s=f ((l.take n).foldl f s) l[n]:=by
    rw [← List.take_append_getElem (show n<l.length by omega),List.foldl_append];rfl
   rw [e]
   exact ⟨h1.trans (dP h3),h4⟩
 obtain ⟨h1,h2⟩:=key l.length (Nat.le_refl _)
 rw [List.take_length] at h1 h2
 exact ⟨h1.trans (bE (he _ h2) (by simp)),h2⟩
def kW (y:Yard) (s:Stay):Bool:=has y s.sort&&within s.inn 0 100000&&(decide (s.out=-1) || within s.out s.inn 100000)
def hQ (y:Yard) (l:List Stay):Bool:=decide (l.length≤40)&&l.all (kW y)
def dM (y:Yard) (l:List Stay):Int:=if y.ok then (if hQ y l then 0 else 55) else 50
def lR (d:Int) (s:Stay):Bool:=decide (s.inn≤d)&&(decide (s.out=-1) || decide (d<s.out))
def places {A:Type} (p:A→Bool):List A→Int→List Int
 | [],_=>[]
 | a::l,i=>if p a=true then i::places p l (i+1) else places p l (i+1)
theorem xK {A:Type} (p:A→Bool) (a:A):∀ (l:List A) (i:Int),places p (l++[a]) i=places p l i++if p a=true then [i+l.length] else []
 | [],i=>by simp only [List.nil_append,places,List.length_nil];split <;> simp
 | b::l,i=>by
  have e:i+1+(l.length:Int)=i+((b::l).length:Int):=by simp;omega
  simp only [List.cons_append,places,xK p a l (i+1),e]
  split <;> simp
theorem sC {A:Type} (p:A→Bool):∀ (l:List A) (i:Int),(places p l i).length≤l.length
 | [],_=>by simp [places]
 | a::l,i=>by
  have:=sC p l (i+1)
  simp only [places]
  split <;> simp <;> omega
def dH (l:List Stay) (d:Int):List Int:=places (lR d) l 0
def fI (l:List Stay) (d:Int):List Int:=(l.filter (lR d)).map Stay.sort
theorem BI {A:Type} [Inhabited A] (p:A→Bool):∀ (l pre:List A),(places p l pre.length).map (fun i=>(pre++l).getD i.toNat default)=l.filter p
 | [],pre=>by simp [places]
 | a::l,pre=>by
  have ih:=BI p l (pre++[a])
  simp only [List.length_append,List.length_singleton,List.append_assoc,List.singleton_append] at ih
  simp only [places]
  have e:((pre.length:Int)+1)=((pre.length+1:Nat):Int):=by omega
  rw [e]
  split
  ·rename_i h
   rw [List.map_cons,ih,List.filter_cons_of_pos h]
   simp
  ·rename_i h
   rw [ih,List.filter_cons_of_neg h]
theorem tV {A:Type} (p:A→Bool):∀ (l:List A) (i:Int),∀ x∈places p l i,i≤x∧x<i+l.length
 | [],_,x,h=>by simp [places] at h
 | a::l,i,x,h=>by
  simp only [places] at h
  have ih:=tV p l (i+1) x
  split at h
  ·rcases List.mem_cons.1 h with rfl | h
   ·simp;omega
   ·have:=ih h;simp;omega
  ·have:=ih h;simp;omega
def eats (y:Yard) (d:Int) (s:Stay):Int:=(kd y s.sort).eats*max 0 ((if s.out=-1 then d else min d (s.out - 1)) - s.inn+1)
def pC (y:Yard) (l:List Stay) (d:Int):Int:=l.foldl (fun n s=>n+eats y d s) 0
theorem PT {y:Yard} (h:y.ok=true) {s:Stay} (hs:kW y s=true) {d:Int} (h0:-1≤d) (h1:d≤200000):0≤eats y d s∧eats y d s≤300000000:=by
 unfold kW within at hs
 simp only [Bool.and_eq_true,Bool.or_eq_true,decide_eq_true_eq] at hs
 have hm:=(qH hs.1.1).1
 unfold Yard.ok at h
 simp only [Bool.and_eq_true,List.all_eq_true,Kd.ok,within,decide_eq_true_eq] at h
 obtain ⟨e0,e1⟩:=(h.1.2 _ hm).1.1.2
 unfold eats
 generalize (kd y s.sort).eats=e at e0 e1
 have hx:0≤max 0 ((if s.out=-1 then d else min d (s.out - 1)) - s.inn+1)∧max 0 ((if s.out=-1 then d else min d (s.out - 1)) - s.inn+1)≤300000:=by split <;> omega
 generalize max 0 ((if s.out=-1 then d else min d (s.out - 1)) - s.inn+1)=x at hx
 refine ⟨Int.mul_nonneg e0 hx.1,?_⟩
 calc e*x≤1000*x:=Int.mul_le_mul_of_nonneg_right e1 hx.1
  _≤300000000:=by omega
def LM (f:Int→Bool):Nat→Int→Int→Int
 | 0,low,_=>low
 | k+1,low,high=>if low<high then (if f ((low+high+1) / 2)=true then LM f k ((low+high+1) / 2) high else LM f k low ((low+high+1) / 2 - 1)) else low
def aCo (y:Yard) (l:List Stay) (fodder:Int):Int:=LM (fun d=>decide (pC y l d≤fodder)) 17 0 100000
end Go.Pen
namespace Go.Pen
open Go.Sx
def rls (n:Nat):Nat→Nat→List (List Int)
 | 0,_=>[[]]
 | k+1,frm=>(List.range' frm (n - frm)).flatMap fun (i:Nat)=>(rls n k (i+1)).map fun l=>(i:Int)::l
theorem nG {n:Nat}:∀ {k frm:Nat} {x:List Int},x∈rls n k frm↔x.length=k∧x.Pairwise (·<·)∧∀ e∈x,(frm:Int)≤e∧e<n
 | 0,frm,x=>by
  simp only [rls,List.mem_singleton]
  constructor
  ·rintro rfl;simp
  ·rintro ⟨h,_⟩;exact List.length_eq_zero_iff.1 h
 | k+1,frm,x=>by
  simp only [rls,List.mem_flatMap,List.mem_map,List.mem_range'_1]
  constructor
  ·rintro ⟨i,⟨h1,h2⟩,l,hl,rfl⟩
   obtain ⟨e1,e2,e3⟩:=nG.1 hl
   refine ⟨by simp [e1],?_,?_⟩
   ·rw [List.pairwise_cons]
    exact ⟨fun a ha=>by have:=e3 a ha;omega,e2⟩
   ·intro e he
    rcases List.mem_cons.1 he with rfl | he
    ·omega
    ·have:=e3 e he;omega
  ·rintro ⟨h1,h2,h3⟩
   cases x with
   | nil=>simp at h1
   | cons a l =>
    rw [List.pairwise_cons] at h2
    have ha:=h3 a (by simp)
    refine ⟨a.toNat,by omega,l,nG.2 ⟨by simpa using h1,h2.2,fun e he=>?_⟩,by congr 1;omega⟩
    have:=h2.1 e he
    have:=h3 e (by simp [he])
    omega
def fW (y:Yard) (s:Int):Bool:=y.pens.all fun n=>!decide (rm y s≤n)
def total (y:Yard):Int:=y.pens.foldl (fun n x=>n+x) 0
def ofL (l by_:List Int):List Int:=by_.map fun i=>l.getD i.toNat 0
def nH (y:Yard) (l by_:List Int):Bool:=decide (rA y (ofL l by_) > total y)
def cK (y:Yard) (b:List Int):Bool:=(List.range b.length).all fun i=>(List.range i).all fun j=>apt y (b.getD i 0) (b.getD j 0)
def many (y:Yard) (l by_:List Int):Bool:=cK y (ofL l by_)&&decide (by_.length=y.pens.length+1)
def iM (y:Yard) (l by_:List Int):Bool:=!can y (ofL l by_)
def big (y:Yard) (l by_:List Int):Bool:=decide (by_.length=1)&&fW y (l.getD (by_.headD 0).toNat 0)
def least (ill:List Int→Bool):Nat→List Int→List Int
 | 0,b=>b
 | i+1,b=>least ill i (if ill (b.eraseIdx i)=true then b.eraseIdx i else b)
def idx (l:List Int):List Int:=(List.range l.length).map fun (i:Nat)=>(i:Int)
def refuse (y:Yard) (l:List Int):Int×List Int×Int:=
 if can y l=true then (0,[],3) else
 match (rls l.length 1 0).find? (big y l) with
 | some b=>(1,b,0)
 | none=>if nH y l (idx l)=true then (2,least (nH y l) l.length (idx l),0) else
  match (rls l.length (y.pens.length+1) 0).find? (many y l) with
  | some b=>(3,b,0)
  | none=>(4,least (iM y l) l.length (idx l),0)
def inR (l b:List Int):Prop:=∀ i∈b,0≤i∧i<l.length
theorem gN {l b:List Int} (h:inR l b) (i:Nat):inR l (b.eraseIdx i):=fun x hx=>h x (List.mem_of_mem_eraseIdx hx)
theorem tW (l:List Int):inR l (idx l):=by
 intro i hi
 obtain ⟨j,hj,rfl⟩:=List.mem_map.1 hi
 rw [List.mem_range] at hj
 omega
theorem zI {l b:List Int} (h:inR l b) {s:Int} (hs:s∈ofL l b):s∈l:=by
 obtain ⟨i,hi,rfl⟩:=List.mem_map.1 hs
 have:=h i hi
 have hlt:i.toNat<l.length:=by omega
 simp only [List.getD_eq_getElem?_getD,List.getElem?_eq_getElem hlt,Option.getD_some]
 exact List.getElem_mem hlt
theorem cT (l b:List Int):(ofL l b).length=b.length:=by simp [ofL]
theorem SH (l:List Int):ofL l (idx l)=l:=by
 unfold ofL idx
 rw [List.map_map]
 apply List.ext_getElem (by simp)
 intro i h1 h2
 simp [h2]
end Go.Pen
namespace Go.Pen
open Go.Sx
instance:Inhabited Stay:=⟨⟨0,0,0⟩⟩
def wC (s:Stay):List Int:=if s.out=-1 then [s.inn] else [s.inn,s.out]
def days (l:List Stay):List Int:=l.flatMap wC
def sD (y:Yard) (l:List Stay) (d:Int):Bool:=decide ((fI l d).length > 8) || !can y (fI l d)
def sorted (l:List Int):List Int:=l.mergeSort fun a b=>decide (a≤b)
def SI (y:Yard) (l:List Stay):Option Int:=(sorted (days l)).find? (sD y l)
theorem VK (l:List Stay) (s:Stay):days (l++[s])=days l++wC s:=by simp [days]
theorem LN (l:List Stay):(days l).length≤2*l.length:=by
 induction l with
 | nil=>simp [days]
 | cons s l ih =>
  have:days (s::l)=wC s++days l:=by simp [days]
  rw [this,List.length_append,List.length_cons]
  have:(wC s).length≤2:=by unfold wC;split <;> simp
  omega
theorem sE (l:List Int):(sorted l).length=l.length:=List.length_mergeSort l
def wD (l:List Stay) (k:Int):Int:=(l.getD k.toNat default).sort
theorem PU (l:List Stay) (d:Int):(dH l d).map (wD l)=fI l d:=by
 have:=BI (lR d) l []
 simp only [List.length_nil,List.nil_append] at this
 unfold dH fI wD
 rw [← this,List.map_map]
 rfl
end Go.Pen
namespace Go.Pen
open Go Go.Sx
def rowA {K V:Type} (kc:K→List CV) (vc:V→CV) (az:List (K×V)):List (List CV):=az.map fun e=>kc e.1++[vc e.2]
theorem wE {K V:Type} {kc:K→List CV} {vc:V→CV} (k:K) (v:V) (r:List (K×V)):rowA kc vc ((k,v)::r)=(kc k++[vc v])::rowA kc vc r:=rfl
section
variable {K V:Type} [DecidableEq K]
def jE:List (K×V)→K→Option V
 | [],_=>none
 | (k',v)::r,k=>if k=k' then some v else jE r k
def mN:List (K×V)→K→V→List (K×V)
 | [],k,v=>[(k,v)]
 | (k',v')::r,k,v=>if k=k' then (k,v)::r else (k',v')::mN r k v
theorem mO (k:K) (v:V) (q:K):∀ az:List (K×V),jE (mN az k v) q=if q=k then some v else jE az q
 | []=>by simp [mN,jE]
 | (k',v')::r=>by
  simp only [mN]
  split
  ·rename_i h;subst h
   simp only [jE]
   split <;> simp_all
  ·rename_i h
   simp only [jE,mO k v q r]
   split
   ·rename_i h2;subst h2
    rw [if_neg (fun e=>h e.symm)]
   ·rfl
structure MapC (n:Nat) (kc:K→List CV) (ok:K→Prop):Prop where
 len:∀ k,ok k→(kc k).length=n
 eq:∀ k k',ok k→ok k'→eqB ((kc k).map cvV) ((kc k').map cvV)=decide (k=k')
variable {n:Nat} {kc:K→List CV} {vc:V→CV} {ok:K→Prop}
theorem MapC.pos (h:MapC n kc ok) {k:K} (hk:ok k):∀ {az:List (K×V)},(∀ e∈az,ok e.1)→(bB n (kc k) (rowA kc vc az)<(rowA kc vc az).length↔(jE az k).isSome=true)
 | [],_=>by simp [rowA,bB,jE]
 | (k',v)::r,ha=>by
  have hk':=ha (k',v) (by simp)
  have ih:=h.pos hk (az:=r) fun e he=>ha e (by simp [he])
  have ht:(kc k'++[vc v]).take n=kc k':=by rw [List.take_append_of_le_length (by rw [h.len k' hk'];omega),← h.len k' hk',List.take_length]
  simp only [rowA,List.map_cons,bB,ht,h.eq k k' hk hk',jE,List.length_cons]
  by_cases e:k=k'
  ·simp [e]
  ·simp only [e,decide_false,Bool.false_eq_true,if_false]
   rw [← ih]
   simp only [rowA]
   omega
theorem MapC.look (h:MapC n kc ok) {k:K} (hk:ok k) (z:Value):∀ {az:List (K×V)},(∀ e∈az,ok e.1)→bG n (kc k) z (rowA kc vc az)=match jE az k with | some v=>vc v | none=>.val z
 | [],_=>by simp [rowA,bG,bB,jE]
 | (k',v)::r,ha=>by
  have hk':=ha (k',v) (by simp)
  have ih:=h.look hk z (az:=r) fun e he=>ha e (by simp [he])
  have ht:(kc k'++[vc v]).take n=kc k':=by rw [List.take_append_of_le_length (by rw [h.len k' hk'];omega),← h.len k' hk',List.take_length]
  unfold bG at ih ⊢
  simp only [rowA,List.map_cons,bB,ht,h.eq k k' hk hk',jE]
  by_cases e:k=k'
  ·simp only [e,decide_true,if_true,List.getD_cons_zero]
   rw [List.getD_eq_getElem?_getD,List.getElem?_append_right (by rw [h.len k' hk'];omega),h.len k' hk']
   simp
  ·simp only [e,decide_false,Bool.false_eq_true,if_false,List.getD_cons_succ]
   exact ih
theorem MapC.upd (h:MapC n kc ok) {k:K} (hk:ok k) (v:V):∀ {az:List (K×V)},(∀ e∈az,ok e.1)→kN n (kc k) (vc v) (rowA kc vc az)=rowA kc vc (mN az k v)
 | [],_=>by simp [rowA,kN,bB,mN]
 | (k',v')::r,ha=>by
  have hk':=ha (k',v') (by simp)
  have ih:=h.upd hk v (az:=r) fun e he=>ha e (by simp [he])
  have ht:(kc k'++[vc v']).take n=kc k':=by rw [List.take_append_of_le_length (by rw [h.len k' hk'];omega),← h.len k' hk',List.take_length]
  unfold kN at ih ⊢
  simp only [wE,bB,ht,h.eq k k' hk hk',mN,List.length_cons]
  by_cases e:k=k'
  ·subst e
   simp [wE]
  ·simp only [e,decide_false,Bool.false_eq_true,if_false,wE]
   by_cases hp:bB n (kc k) (rowA kc vc r)<(rowA kc vc r).length
   ·rw [if_pos hp] at ih
    rw [if_pos (by omega),List.set_cons_succ,ih]
   ·rw [if_neg hp] at ih
    rw [if_neg (by omega),List.cons_append,ih]
theorem HP {k:K} (hk:ok k) (v:V):∀ {az:List (K×V)},(∀ e∈az,ok e.1)→∀ e∈mN az k v,ok e.1
 | [],_=>by simp [mN,hk]
 | (k',v')::r,ha=>by
  simp only [mN]
  split
  ·intro e he
   rcases List.mem_cons.1 he with rfl | he
   ·exact hk
   ·exact ha e (by simp [he])
  ·intro e he
   rcases List.mem_cons.1 he with rfl | he
   ·exact ha _ (by simp)
   ·exact HP hk v (fun e he=>ha e (by simp [he])) e he
end
theorem LO:∀ (l m:List Int),l.length=m.length→eqB ((l.map ci).map cvV) ((m.map ci).map cvV)=decide (l=m)
 | [],[],_=>by simp [eqB]
 | a::l,b::m,h=>by
  simp only [List.map_cons,eqB,LO l m (by simpa using h),ci,cvV,vEq]
  rw [Bool.eq_iff_iff]
  simp
theorem FA:∀ (l m:List Bool),l.length=m.length→eqB ((l.map cb).map cvV) ((m.map cb).map cvV)=decide (l=m)
 | [],[],_=>by simp [eqB]
 | a::l,b::m,h=>by
  simp only [List.map_cons,eqB,FA l m (by simpa using h),cb,cvV,vEq]
  rw [Bool.eq_iff_iff]
  simp
theorem wF (n:Nat):MapC n (fun l:List Int=>l.map ci) fun l=>l.length=n:=
 ⟨fun k h=>by simpa using h,fun k k' h h'=>LO k k' (h.trans h'.symm)⟩
theorem BJ (n:Nat):MapC n (fun l:List Bool=>l.map cb) fun l=>l.length=n:=
 ⟨fun k h=>by simpa using h,fun k k' h h'=>FA k k' (h.trans h'.symm)⟩
theorem LP {K:Type} {kc:K→List CV} {kl:List LK} {az:List (K×Bool)} (h:∀ e∈az,(kc e.1).map kC=kl.map some):oN kl .bool (rowA kc cb az)=true:=by
 unfold oN rowA
 rw [List.all_eq_true]
 intro e he
 obtain ⟨a,ha,rfl⟩:=List.mem_map.1 he
 rw [beq_iff_eq,List.map_append,h a ha,List.map_append]
 rfl
theorem aBz {l:List Int} {n:Nat} (h:l.length=n):(l.map ci).map kC=(List.replicate n (LK.int .i64)).map some:=by
 rw [List.map_map,List.map_replicate,← h]
 apply List.ext_getElem (by simp)
 intro i h1 h2
 simp [kC,ci,kOf]
theorem ZL {l:List Bool} {n:Nat} (h:l.length=n):(l.map cb).map kC=(List.replicate n LK.bool).map some:=by
 rw [List.map_map,List.map_replicate,← h]
 apply List.ext_getElem (by simp)
 intro i h1 h2
 simp [kC,cb,kOf]
end Go.Pen
