/-
 The laws of the stints of a common hold at every input, without any condition.
-/
import Derived.KernelRfl
import Derived.Lib.AppendZerosOnto
import Derived.Test.YtfgdfpnkhdlmfaaGreatP07
namespace Go.Sx
open Go Go.RowKit
variable [G:Ghost]
def tI:List (List CV)->YF->List (List CV)->Option (List (List CV))
 | [],_,es=>some es
 | x::r,yf,es=>match yf es x with
  | some (true,es')=>tI r yf es'
  | some (false,es')=>some es'
  | none=>none
structure Its (P:Program) (sg:FuncId->Option Sig) (M:Den):Prop where
 itj:∀ f caps rows sh,sg f=none->M f caps=some [.row 0 rows,shC sh]->iI P f=true/\QH P f caps sh (tI rows)
def xM:Code->Bool
 | .rangeFunc ..=>true
 | .seq a b=>xM a || xM b
 | .block _ c=>xM c
 | .cond _ a b=>xM a || xM b
 | .loop c=>xM c
 | .scope c=>xM c
 | _=>false
def uX (step:List CV->List CV->Option Ou):List (List CV)->List CV->Option Ou
 | [],vs=>some (.nx vs)
 | x::xs,vs=>match step x vs with
  | some (.nx vs')=>uX step xs vs'
  | o=>o
def kK (it:Option (List (List CV))) (step:List CV->List CV->Option Ou) (vs:List CV):Option Ou:=match it with
 | some rows=>uX step rows vs
 | none=>none
open Classical in
noncomputable def IC (sg:FuncId->Option Sig) (M:Den) (c:CV) (sh:YSh):Option (List (List CV)):=match c with
 | .fn f caps=>match sg f with
  | none=>match M f caps with
   | some [.row 0 rows,c']=>if c'=shC sh then some rows else none
   | _=>none
  | some _=>none
 | _=>none
theorem aCK {sg:FuncId->Option Sig} {M:Den} {c:CV} {sh:YSh} {rows:List (List CV)} (h:IC sg M c sh=some rows):∃ f caps,c=.fn f caps/\sg f=none/\M f caps=some [.row 0 rows,shC sh]:=by
 have _:=G;unfold IC at h;grind
def brO:Option Ou->Option Ou
 | some (.br _ vs)=>some (.nx vs)
 | o=>o
def ouE:Ou->Bool×List (List CV)
 | .nx vs=>(true,[vs])
 | .br _ vs=>(false,[[],vs])
 | .ret l=>(false,[[],[],l])
def yfO (step:List CV->List CV->Option Ou):YF:=fun es x=>match es with
 | [vs]=>(step x vs).map ouE
 | _=>none
def vV (id:Nat):List (List CV)->Option Code
 | [_,_]=>some (.exit id)
 | [_,_,_]=>some .ret
 | _=>none
theorem HA {step:List CV->List CV->Option Ou}:∀ {rows:List (List CV)} {vs:List CV} {o:Ou},uX step rows vs=some o->tI rows (yfO step) [vs]=some (ouE o).2
 | [],vs,o,h=>by have _:=G;simp [uX] at h;subst h;rfl
 | x::r,vs,o,h=>by
  simp [uX] at h;simp [tI,yfO];cases hs:step x vs with
  | none=>grind
  | some o' =>
   rw [hs] at h;cases o' with
   | nx vs'=>exact HA h
   | br i vs'=>simp at h;subst h;rfl
   | ret l=>simp at h;subst h;rfl
def sYs:List Nat->List AV->SS->SS
 | p::ps,x::xs,s=>sYs ps xs (s.put (some p) x s.B s.V)
 | _,_,s=>s
def LH (sh:YSh) (x:List CV) (ps:List Nat) (s:SS):SS:=match sh with
 | .clo cs=>sYs ps (Sc.avs cs x 0) s
 | .lent T k=>sYs ps [.own s.V.length 1] ⟨s.n,s.t,s.B,s.V++[⟨true,T,k,1,cR (x.getD 0 dC)⟩]⟩
def SS.killY (sh:YSh) (nv:Nat) (s:SS):SS:=match sh with
 | .clo _=>s
 | .lent _ _=>⟨s.n,s.t,s.B,rS nv s.V⟩
def tJ (sh:YSh) (nv:Nat) (l:Lk):Lk:=match sh with
 | .clo _=>l
 | .lent _ _=>⟨l.t,l.b,nv::l.v,nv::l.o⟩
def aI3 (n:Nat) (ps:List Nat) (sh:YSh):Bool:=ps.all (fun p=>decide (p<n))&&(decide (sh.np=ps.length)&&match sh with
 | .clo _=>true
 | .lent T _=>decide (T<bQ))
def aIl (sh:YSh) (s3:St) (j:Nat):Prop:=match sh with
 | .clo _=>True
 | .lent _ _=>∀ v,s3.V[j]? = some v->v.live=false
def lkX (h:Hint) (lk:Lk) (s:SS):Lk:=⟨lk.t,lk.b,lk.v,(List.range s.V.length).filter fun i=>!h.vxu.contains i⟩
def SS.back (s:SS) (ks:List Nat) (s':SS):SS:=⟨s.n,(s.kept ks).t,s'.B,s'.V⟩
section
variable (P:Program) (sg:FuncId->Option Sig) (M:Den)
noncomputable def evT (inl:List (Option Nat×Hint×HT)->IN) (rt:SS->Option Ou):Code->HT->Lk->SS->(SS->Option Ou)->Option Ou
 | .seq a b,.two x y,lk,s,K=>match xM (.seq a b) with
  | true=>evT inl rt a x lk s fun s'=>evT inl rt b y lk s' K
  | false=>evB P sg M true inl rt (.seq a b) (.two x y) lk [] s K
 | .cond c a b,.cond none x y,lk,s,K=>match xM (.cond c a b) with
  | true=>match s.ev c with
   | .cv (.val (.bool t))=>aA t (evT inl rt a x lk s K) (evT inl rt b y lk s K)
   | _=>none
  | false=>evB P sg M true inl rt (.cond c a b) (.cond none x y) lk [] s K
 | .block id c,.thru x,lk,s,K=>match xM (.block id c) with
  | true=>evT inl rt c x lk s K
  | false=>evB P sg M true inl rt (.block id c) (.thru x) lk [] s K
 | .block id c,.rg sh h x y,lk,s,K=>match c with
  | .rangeFunc g ps assign body =>
   if (gF h lk s&&gF h (lkX h lk s) s&&h.vars.isEmpty&&(jJ s.V.length (h.vx.map (·.1)) == 0)&&aI3 s.n ps.toList sh)=true then
    match kI h s with
    | some v0=>match (bF h lk s v0).ev g with
     | .cv c=>aN (brO (kK (IC sg M c sh) (fun x1 vs=>evC P sg M inl (fun _=>none) assign x (tJ sh s.V.length (fT h lk s)) [] (LH sh x1 ps.toList (bF h lk s vs)) fun s1 =>
       evC P sg M inl (fun s'=>rt ((s.back (h.keep++lk.t) s').killY sh s.V.length)) body y (tJ sh s.V.length (fT h lk s)) [(id,h)] s1 fun s'=>(kI h (s.back (h.keep++lk.t) s')).map .nx) v0)) fun vs=>K (bF h lk s vs)
     | _=>none
    | none=>none
   else none
  | _=>none
 | .scope c,x,lk,s,K=>match xM (.scope c) with
  | true=>evT inl rt c x lk s K
  | false=>evB P sg M true inl rt (.scope c) x lk [] s K
 | c,ht,lk,s,K=>evB P sg M true inl rt c ht lk [] s K
end
section
variable {P:Program} {sg:FuncId->Option Sig} {M:Den} {F:Fence} {n:Nat}
theorem Em.sYs {m:Emb}:∀ {ps:List Nat} {xs:List AV} {s:SS} {st:St},Em m s st->AV.inns s.B.length s.V.length xs=true->Em m (Go.Sx.sYs ps xs s) ⟨mK st.t ps (AV.czs m xs),st.B,st.V⟩
 | [],_,s,st,h,_=>by simp_all [Go.Sx.sYs,mK]
 | p::ps,[],s,st,h,_=>by simp_all [Go.Sx.sYs,mK,AV.czs]
 | p::ps,x::xs,s,st,h,hx=>by
  simp [AV.inns] at hx;simp [Go.Sx.sYs];exact Em.sYs (h.put h.m (Emb.Up.refl _) (fun _ _=>rfl) (Nat.le_refl _) (Nat.le_refl _) hx.1 (some p)) hx.2
theorem aAh:∀ (ps:List Nat) (xs:List AV) (s:SS),(sYs ps xs s).B=s.B/\(sYs ps xs s).V=s.V/\(sYs ps xs s).n=s.n
 | [],_,s=>by have _:=G;simp [sYs]
 | p::ps,[],s=>by simp [sYs]
 | p::ps,x::xs,s=>aAh ps xs _
variable {m:Emb} {s:SS} {st:St}
theorem Em.killSt (h:Em m s st) {j:Nat} (hj:∀ i,i<s.V.length->m.fv i≠j):Em m s ⟨st.t,st.B,rS j st.V⟩:=by
 refine ⟨h.t,h.ti,⟨h.m.bl,h.m.vl,h.m.ol,h.m.b,fun i v hi hl=>?_,fun i hi=>?_,h.m.bi,h.m.vi⟩⟩
 ·rw [nW,h.m.v i v hi hl]
  grind
 ·rw [mL];exact h.m.vlt i hi
theorem Em.killSS (h:Em m s st) {nv:Nat} (xr:nv<s.V.length) {x:Vec} (hx:s.V[nv]? = some x) (hT:x.T≠ghT):Em m ⟨s.n,s.t,s.B,rS nv s.V⟩ ⟨st.t,st.B,rS (m.fv nv) st.V⟩:=by
 have hl:(rS nv s.V).length=s.V.length:=mL _ _;refine ⟨h.t,fun p hp=>by rw [hl];exact h.ti p hp,⟨h.m.bl,by rw [hl];exact h.m.vl,by rw [hl];exact h.m.ol,fun i b hb=>by rw [hl];exact h.m.b i b hb,fun i v hi lw=>?_,fun i hi=>?_,h.m.bi,fun i j hi hj=>h.m.vi i j (by grind) (by grind)⟩⟩
 ·rw [nW,Option.map_eq_some_iff] at hi
  obtain ⟨v0,h1,rfl⟩:=hi;have aq:=(List.getElem?_eq_some_iff.1 h1).1
  by_cases dc:i=nv
  ·grind
  ·simp [dc] at lw ⊢
   rw [nW,h.m.v i v0 h1 lw];have:m.fv i≠m.fv nv:=fun he=>dc (h.m.vi i nv aq xr he)
   grind
 ·rw [mL];rw [hl] at hi;exact h.m.vlt i hi
theorem Adv.killSt {lk:Lk} {m':Emb} {s':SS} {st':St} (h:Adv lk m s st m' s' st') {j:Nat} (hj:st.V.length<=j):Adv lk m s st m' s' ⟨st'.t,st'.B,rS j st'.V⟩:=by
 refine ⟨⟨h.stp.up,h.stp.bl,?_,h.stp.bn,h.stp.vn,h.stp.bf,fun i hi hn=>?_⟩,h.n,h.bl,h.vl,h.t,h.b,h.v,h.o⟩
 ·rw [mL];exact h.stp.vl
 ·rw [nW,h.stp.vf i hi hn]
  grind
variable {Q:Exit->St->Prop}
theorem aEC {c:Code} (h:W2 F n P c st (aGC Q)):W2 F n P (.scope c) st Q:=by
 intro n0 w0 m0 e a w Qr hr hm kj hk;refine KA (h n0 w0 m0 e a w _ hr hm kj ?_);intro ex e' st' a' w' hq ah ac hx;cases ex with
 | goto l=>exact hq.elim
 | _=>exact hk _ e' st' a' w' hq ah ac hx
open Classical in
theorem aI4 (hM:Fns P sg M) (hT:Its P sg M) (hF:Free F) (ba:F.round=none) {inl:List (Option Nat×Hint×HT)->IN} (hI:∀ (F:Fence) (n:Nat),Free F->∀ il,CP F n P (inl il)) {rt:SS->Option Ou} (mc:∀ s o,rt s=some o->∃ l,o=.ret l)
  {id:Nat} {g:Operand} {ps:Array Tmp} {assign body:Code} {sh:YSh} {h0:Hint} {x y:HT} {lk:Lk} {sA:SS} {K:SS->Option Ou} {r:Ou} {mA:Emb} {stA:St} (uh:Em mA sA stA)
  (h:(if (gF h0 lk sA&&gF h0 (lkX h0 lk sA) sA&&h0.vars.isEmpty&&(jJ sA.V.length (h0.vx.map (·.1)) == 0)&&aI3 sA.n ps.toList sh)=true then
      match kI h0 sA with
      | some v0=>match (bF h0 lk sA v0).ev g with
       | .cv c=>aN (brO (kK (IC sg M c sh) (fun x1 vs=>evC P sg M inl (fun _=>none) assign x (tJ sh sA.V.length (fT h0 lk sA)) [] (LH sh x1 ps.toList (bF h0 lk sA vs)) fun s1 =>
         evC P sg M inl (fun s'=>rt ((sA.back (h0.keep++lk.t) s').killY sh sA.V.length)) body y (tJ sh sA.V.length (fT h0 lk sA)) [(id,h0)] s1 fun s'=>(kI h0 (sA.back (h0.keep++lk.t) s')).map .nx) v0)) fun vs=>K (bF h0 lk sA vs)
       | _=>none
      | none=>none
   else none)=some r)
  (hK:∀ m' s' st',K s'=some r->Em m' s' st'->Q .normal st')
  (hR:∀ m' s' st',rt s'=some r->Em m' s' st'->Q .ret st'):W2 F n P (.block id (.rangeFunc g ps assign body)) stA Q:=by
 split at h
 case isFalse=>cases h
 rename_i hc;simp at hc;obtain ⟨⟨⟨⟨aa,Cf⟩,oh⟩,M5⟩,zl⟩:=hc;simp only [aI3,Bool.and_eq_true,decide_eq_true_eq] at zl;obtain ⟨nf,D6,Cg⟩:=zl;split at h
 case h_2=>cases h
 rename_i v0 ig;split at h
 case h_2=>cases h
 rename_i c hg
 generalize gg:(fun (x1 vs:List CV)=>evC P sg M inl (fun _=>none) assign x (tJ sh sA.V.length (fT h0 lk sA)) [] (LH sh x1 ps.toList (bF h0 lk sA vs)) fun s1 =>
       evC P sg M inl (fun s'=>rt ((sA.back (h0.keep++lk.t) s').killY sh sA.V.length)) body y (tJ sh sA.V.length (fT h0 lk sA)) [(id,h0)] s1 fun s'=>(kI h0 (sA.back (h0.keep++lk.t) s')).map .nx)=step at h
 obtain ⟨r0,l8⟩:∃ r0,kK (IC sg M c sh) step v0=some r0:=by
  cases hh:kK (IC sg M c sh) step v0 with
  | none=>grind [brO,aN]
  | some r0=>simp
 have G7:=l8;unfold kK at l8;split at l8
 case h_2=>grind
 rename_i rows Cc;obtain ⟨f,caps,rfl,M6,M7⟩:=aCK Cc;obtain ⟨dv,Ch⟩:=hT.itj f caps rows sh M6 M7;have jk:=HA l8;rw [G7] at h;have xr:∀ vs,(bF h0 lk sA vs).V.length=sA.V.length:=fun vs=>by grind [bF,aBa]
 obtain ⟨o1,o2,o3,o4,o5,o6,o7,o8,o9,o10⟩:=rP aa
 have y5:∀ vs,(bF h0 lk sA vs).t=(sA.kept (h0.keep++lk.t)).t:=by
  grind [bF,OH,SS.kept]
 have f9:∀ s':SS,kI h0 s'=kI h0 (sA.back (h0.keep++lk.t) s'):=by
  intro s'
  have hE:∀ (s1 s2:SS) (l:List (Nat×TypeId×List Sh)),s1.B=s2.B->s1.V=s2.V->HY s1 l=HY s2 l:=by
   intro s1 s2 l hb hv
   induction l with
   | nil=>rfl
   | cons q l ih=>grind [HY]
  have i7:∀ (s1 s2:SS) (l:List (Nat×TypeId×Nat×Option Nat)),s1.V=s2.V->SO s1 l=SO s2 l:=by
   intro s1 s2 l hv
   induction l with
   | nil=>rfl
   | cons q l ih=>grind [SO]
  unfold kI;rw [oh];simp [SS.back];grind
 obtain ⟨m1,st1,q1,q2,q3⟩:=oF (st0:=stA) (lk:=lkX h0 lk sA) uh uh (Adv.refl _ _ _ _) ig Cf;refine aI1 q1 (WK ?_)
 refine aCJ hF ba (sh:=sh) (R:=tI rows) (yf:=yfO step) (es0:=[v0]) (es1:=(ouE r0).2) (f:=f) (caps:=caps)
  (fun es st'=>(∃ vs m',(es=[vs]\/es=[[],vs])/\Em m' (bF h0 lk sA vs) st'/\Adv (cW h0 (lkX h0 lk sA) sA) mA sA stA m' (bF h0 lk sA vs) st')\/(∃ l m' s',es=[[],[],l]/\rt s'=some (.ret l)/\Em m' s' st')) (vV id)
  (by omega) ?_ dv Ch jk (.inl ⟨v0,m1,.inl rfl,q2,q3⟩) rfl ?_ ?_
 ·rw [q2.ev];show AV.cz m1 ((bF h0 lk sA v0).ev g)=_;grind [AV.cz]
 ·
  intro F' n' py es x1 b es' st' Cd Ci
  obtain ⟨vs,rfl⟩:∃ vs,es=[vs]:=by
   unfold yfO at Cd;grind
  simp [yfO] at Cd;obtain ⟨o,ho,Cj⟩:=Cd;obtain ⟨vs2,m',cr,g2,g3⟩ | ⟨l,m',s',cr,_⟩:=Ci
  rotate_left
  ·grind
  obtain rfl:vs=vs2:=by grind
  refine ⟨rfl,?_⟩;rw [<- gg] at ho
  obtain ⟨mB,Jj,G8,am⟩:∃ mB,Em mB (LH sh x1 ps.toList (bF h0 lk sA vs)) (stY sh x1 ps.toList st')/\Adv (fT h0 lk sA) m' (bF h0 lk sA vs) st' mB (LH sh x1 ps.toList (bF h0 lk sA vs)) (stY sh x1 ps.toList st') /\
    (match sh with | .clo _=>True | .lent T k=>mB.fv sA.V.length=st'.V.length/\mB.fo sA.V.length=0/\(LH sh x1 ps.toList (bF h0 lk sA vs)).V=(bF h0 lk sA vs).V++[⟨true,T,k,1,cR (x1.getD 0 dC)⟩]):=by
   cases sh with
   | clo cs =>
    obtain ⟨p1,p2⟩:=Sc.avs_pl cs x1 0 m' (bF h0 lk sA vs).B.length (bF h0 lk sA vs).V.length;have bY:=g2.sYs (ps:=ps.toList) p2;rw [p1] at bY;obtain ⟨z1,z2,z3⟩:=aAh ps.toList (Sc.avs cs x1 0) (bF h0 lk sA vs);refine ⟨m',bY,⟨Stp.refl _ _ _,z3,by show _<=(sYs _ _ _).B.length;grind,by show _<=(sYs _ _ _).V.length;grind,fun d hd=>by grind [fT],fun i _ _=>by show (sYs _ _ _).B[i]? = _;rw [z1],fun i _ _=>by show (sYs _ _ _).V[i]? = _;rw [z2],fun _ _ _=>rfl⟩,trivial⟩
   | lent T k =>
    have hl:m'.vb.length=m'.vm.length:=by rw [g2.m.ol,g2.m.vl]
    have B5:=Emb.pushV_fo (m:=m') st'.V.length hl;have ss:=Emb.pushV_up m' st'.V.length;have aj:m'.vm.length=sA.V.length:=by rw [g2.m.vl,xr]
    have bY:Em (m'.pushV st'.V.length) ⟨(bF h0 lk sA vs).n,(bF h0 lk sA vs).t,(bF h0 lk sA vs).B,(bF h0 lk sA vs).V++[⟨true,T,k,1,cR (x1.getD 0 dC)⟩]⟩ ⟨st'.t,st'.B,st'.V++[⟨true,T,k,1,cR (x1.getD 0 dC)⟩]⟩:=by
     have:=g2.put (g2.m.pushV (v:=⟨true,T,k,1,cR (x1.getD 0 dC)⟩)) ss B5 (Nat.le_refl _) (by simp) (x:=.any) rfl none
     grind [SS.put,St.put]
    have i7:=bY.sYs (ps:=ps.toList) (xs:=[.own (bF h0 lk sA vs).V.length 1]) (by simp [AV.inns,AV.inn])
    have bt:(m'.pushV st'.V.length).fv sA.V.length=st'.V.length:=by rw [<- aj];exact Emb.pushV_new _ _
    have Dx:(m'.pushV st'.V.length).fo sA.V.length=0:=by rw [<- aj];exact Emb.pushV_new0 _ hl
    obtain ⟨z1,z2,z3⟩:=aAh ps.toList [.own (bF h0 lk sA vs).V.length 1] ⟨(bF h0 lk sA vs).n,(bF h0 lk sA vs).t,(bF h0 lk sA vs).B,(bF h0 lk sA vs).V++[⟨true,T,k,1,cR (x1.getD 0 dC)⟩]⟩;refine ⟨m'.pushV st'.V.length,?_,⟨Stp.pushV _,z3,by show _<=(sYs _ _ _).B.length;grind,by show _<=(sYs _ _ _).V.length;grind,fun d hd=>by grind [fT],fun i _ _=>by show (sYs _ _ _).B[i]? = _;rw [z1],fun i _ hi=>by show (sYs _ _ _).V[i]? = _;grind,fun i _ hi=>B5 i (by grind)⟩,bt,Dx,?_⟩
    ·have ka:AV.czs (m'.pushV st'.V.length) [.own (bF h0 lk sA vs).V.length 1]=[.own st'.V.length 1]:=by
      grind [AV.czs,AV.cz]
     rw [ka] at i7;exact i7
    ·exact z2
  have Ck:∀ (m2:Emb) (s2:SS) (st2:St),Adv (tJ sh sA.V.length (fT h0 lk sA)) mB (LH sh x1 ps.toList (bF h0 lk sA vs)) (stY sh x1 ps.toList st') m2 s2 st2->Adv (fT h0 lk sA) m' (bF h0 lk sA vs) st' m2 s2 st2:=by
   intro m2 s2 st2 ha;refine G8.trans (ha.lkle ?_ ?_ ?_ ?_) <;> cases sh <;> simp [tJ] <;> intro d hd <;> simp [hd]
  have back:∀ {m2:Emb} {s2:SS} {st2:St},Em m2 s2 st2->Adv (fT h0 lk sA) m' (bF h0 lk sA vs) st' m2 s2 st2 ->
    Em m2 (sA.back (h0.keep++lk.t) s2) ⟨st'.t,st2.B,st2.V⟩/\Adv (cW h0 (lkX h0 lk sA) sA) mA sA stA m2 (sA.back (h0.keep++lk.t) s2) ⟨st'.t,st2.B,st2.V⟩:=by
   intro m2 s2 st2 i7 ha;have bg:sA.B.length<=(bF h0 lk sA vs).B.length:=g3.bl;have ik:sA.V.length<=(bF h0 lk sA vs).V.length:=g3.vl
   have ka:∀ d∈h0.keep++lk.t,(sA.get d).cz m'=(sA.get d).cz m2:=fun d hd =>
    AV.cz_noV (nb:=sA.B.length) (nv:=sA.V.length) (fun j hj=>(ha.stp.up.b j (by rw [g2.m.bl];omega)).symm) (fun j hj=>(ha.stp.up.v j (by rw [g2.m.vl];omega)).symm)
     (fun j hj Dn=>(ha.o j (by grind [fT]) (by omega)).symm) _ (uh.inn d) (o1 d hd)
   refine ⟨⟨?_,fun q hq=>?_,i7.m⟩,?_⟩
   ·show st'.t=mkT sA.n ((sA.kept (h0.keep++lk.t)).t.map fun p=>(p.1,p.2.cz m2))
    rw [g2.t,y5];congr 1;simp only [SS.kept,List.map_map];exact List.map_congr_left fun d hd=>by grind
   ·simp only [SS.back,SS.kept,List.mem_map] at hq
    obtain ⟨d,_,rfl⟩:=hq;have h1:=ha.bl;have h2:=ha.vl;exact AV.inn_mono (Nat.le_trans bg h1) (Nat.le_trans ik h2) _ (uh.inn d)
   ·have h1:=ha.bl
    have h2:=ha.vl;refine ⟨g3.stp.trans ha.stp,rfl,Nat.le_trans bg h1,Nat.le_trans ik h2,fun d hd=>?_,fun i hi aq=>?_,fun i hi aq=>?_,fun i hi aq=>?_⟩
    ·exact SS.kept_get hd
    ·exact (ha.b i hi (by omega)).trans (g3.b i hi aq)
    ·exact (ha.v i hi (by omega)).trans (g3.v i hi aq)
    ·exact (ha.o i hi (by omega)).trans (g3.o i hi aq)
  have G9:stA.V.length<=st'.V.length:=g3.stp.vl
  have gk:∀ (m2:Emb) (s2:SS) (st2:St),Em m2 s2 st2->Adv (tJ sh sA.V.length (fT h0 lk sA)) mB (LH sh x1 ps.toList (bF h0 lk sA vs)) (stY sh x1 ps.toList st') m2 s2 st2 ->
    (match sh with | .clo _=>True | .lent T k=>s2.V[sA.V.length]? = some ⟨true,T,k,1,cR (x1.getD 0 dC)⟩/\m2.fv sA.V.length=st'.V.length/\st2.V[st'.V.length]? = some ⟨true,T,k,1,cR (x1.getD 0 dC)⟩):=by
   intro m2 s2 st2 i7 ha;cases sh with
   | clo cs=>trivial
   | lent T k =>
    obtain ⟨w1,w2,w3⟩:=am;have hlt:sA.V.length<(LH (.lent T k) x1 ps.toList (bF h0 lk sA vs)).V.length:=by grind
    have e1:=ha.v sA.V.length (by simp [tJ]) hlt
    rw [w3,List.getElem?_append_right (by grind),xr,Nat.sub_self] at e1
    have e2:=ha.o sA.V.length (by simp [tJ]) hlt
    have e3:=ha.stp.up.v sA.V.length (by rw [Jj.m.vl];omega)
    have e4:=i7.m.v _ _ e1 (.inl rfl);grind [Vec.cz]
  have Ha:∀ (s:SS) (o:Ou),(fun s'=>rt ((sA.back (h0.keep++lk.t) s').killY sh sA.V.length)) s=some o->∃ l,o=.ret l:=fun s o hs=>mc _ o hs
  have again:∀ (m2:Emb) (s2:SS) (st2:St) (vs2:List CV),Em m2 s2 st2->Adv (tJ sh sA.V.length (fT h0 lk sA)) mB (LH sh x1 ps.toList (bF h0 lk sA vs)) (stY sh x1 ps.toList st') m2 s2 st2->kI h0 (sA.back (h0.keep++lk.t) s2)=some vs2 ->
    ∃ s3 m3,Wkd ⟨st'.t,st2.B,st2.V⟩ s3/\Em m3 (bF h0 lk sA vs2) s3/\Adv (cW h0 (lkX h0 lk sA) sA) mA sA stA m3 (bF h0 lk sA vs2) s3/\aIl sh s3 st'.V.length:=by
   intro m2 s2 st2 vs2 i7 ha hx;obtain ⟨b1,b2⟩:=back i7 (Ck _ _ _ ha);obtain ⟨m3,st3,w1,w2,w3,w4⟩:=VR (lk:=lkX h0 lk sA) uh b1 b2 hx Cf;have w4':∀ i,i<sA.V.length->m3.fv i=m2.fv i:=fun i hi=>w4 i (by rw [show (bF h0 (lkX h0 lk sA) sA vs2).V.length=sA.V.length from xr vs2];exact hi)
   cases sh with
   | clo cs=>exact ⟨st3,m3,w1.d,w2,w3,trivial⟩
   | lent T k =>
    obtain ⟨l1,l2,l3⟩:=gk _ _ _ i7 ha;have kr:sA.V.length<s2.V.length:=(List.getElem?_eq_some_iff.1 l1).1;refine ⟨⟨st3.t,st3.B,rS st'.V.length st3.V⟩,m3,w1.d.trans (Wkd.kill st3 _ ?_),w2.killSt ?_,w3.killSt G9,?_⟩
    ·intro v hv
     rw [w1.V] at hv;grind
    ·intro i hi he
     have gw:i<sA.V.length:=by rw [<- xr vs2];exact hi
     rw [w4' i gw,<- l2] at he;have:=i7.m.vi i sA.V.length (by omega) kr he
     omega
    ·intro v hv
     grind [nW,Option.map_eq_some_iff]
  have Dk:st'.B.length<=(stY sh x1 ps.toList st').B.length/\st'.V.length<=(stY sh x1 ps.toList st').V.length:=⟨G8.stp.bl,G8.stp.vl⟩
  have endY:∀ (m2:Emb) (s2:SS) (st2:St) (ex:Exit),Em m2 s2 st2->Adv (tJ sh sA.V.length (fT h0 lk sA)) mB (LH sh x1 ps.toList (bF h0 lk sA vs)) (stY sh x1 ps.toList st') m2 s2 st2 ->
    (∃ s3,Wkd ⟨st'.t,st2.B,st2.V⟩ s3/\((∃ vs m',(es'=[vs]\/es'=[[],vs])/\Em m' (bF h0 lk sA vs) s3/\Adv (cW h0 (lkX h0 lk sA) sA) mA sA stA m' (bF h0 lk sA vs) s3)\/(∃ l m' s',es'=[[],[],l]/\rt s'=some (.ret l)/\Em m' s' s3))/\aIl sh s3 st'.V.length) ->
    ((ex=.normal/\vV id es'=none/\b=true)\/(ex=.ret/\vV id es'=some .ret/\b=false)\/(∃ i,ex=.exit i/\vV id es'=some (.exit i)/\b=false)) ->
    aI2 sh x1 st' (fun st'=>(∃ vs m',(es'=[vs]\/es'=[[],vs])/\Em m' (bF h0 lk sA vs) st'/\Adv (cW h0 (lkX h0 lk sA) sA) mA sA stA m' (bF h0 lk sA vs) st')\/(∃ l m' s',es'=[[],[],l]/\rt s'=some (.ret l)/\Em m' s' st')) b (vV id es') ex st2:=by
   rintro m2 s2 st2 ex i7 ha ⟨s3,y1,y2,y3⟩ iN;refine ⟨s3,y1,?_,?_,y2,iN,?_⟩
   ·rw [y1.Bl];exact Nat.le_trans Dk.1 ha.stp.bl
   ·rw [y1.Vl];exact Nat.le_trans Dk.2 ha.stp.vl
   ·have:=gk _ _ _ i7 ha
    cases sh with
    | clo cs=>trivial
    | lent T k=>exact ⟨this.2.2,y3⟩
  refine nU hM py (hI F' n' py) (fun s o h=>by cases h) assign x _ [] _ _ o mB _ _ Jj ho ?_ (fun _ _ _ _ _ _ h=>by simp [xK] at h) (fun _ _ _ h=>by cases h)
  intro m2 s2 st2 e1 e2 e3;refine ⟨rfl,?_⟩;refine nU hM py (hI F' n' py) Ha body y _ [(id,h0)] _ _ o m2 _ _ e2 e1 ?_ ?_ ?_
  ·intro m3 s3 st3 f1 f2 f3
   simp only [Option.map_eq_some_iff] at f1;obtain ⟨vs2,f1,rfl⟩:=f1;cases Cj;obtain ⟨s4,m4,j1,j2,j3,j4⟩:=again m3 s3 st3 vs2 f2 (e3.trans f3) f1;exact endY m3 s3 st3 _ f2 (e3.trans f3) ⟨s4,j1,.inl ⟨vs2,m4,.inl rfl,j2,j3⟩,j4⟩ (.inl ⟨rfl,rfl,rfl⟩)
  ·intro i hh vs2 m3 s3 st3 f0 f1 f4 f2 f3
   subst f4;simp only [xK] at f0;split at f0
   case isFalse=>cases f0
   rename_i hi;subst hi;cases f0;cases Cj;rw [f9] at f1;obtain ⟨s4,m4,j1,j2,j3,j4⟩:=again m3 s3 st3 vs2 f2 (e3.trans f3) f1;exact endY m3 s3 st3 _ f2 (e3.trans f3) ⟨s4,j1,.inl ⟨vs2,m4,.inr rfl,j2,j3⟩,j4⟩ (.inr (.inr ⟨_,rfl,rfl,rfl⟩))
  ·intro m3 s3 st3 f1 f2 f3
   obtain ⟨l,rfl⟩:=mc _ _ f1;cases Cj;obtain ⟨b1,b2⟩:=back f2 (Ck _ _ _ (e3.trans f3));refine endY m3 s3 st3 _ f2 (e3.trans f3) ?_ (.inr (.inl ⟨rfl,rfl,rfl⟩));have D4:=gk _ _ _ f2 (e3.trans f3);cases sh with
   | clo cs=>exact ⟨_,(Wk.refl _).d,.inr ⟨l,m3,_,rfl,f1,b1⟩,trivial⟩
   | lent T k =>
    obtain ⟨l1,l2,l3⟩:=D4;refine ⟨⟨st'.t,st3.B,rS st'.V.length st3.V⟩,Wkd.kill ⟨st'.t,st3.B,st3.V⟩ _ ?_,.inr ⟨l,m3,_,rfl,f1,?_⟩,?_⟩
    ·intro v hv
     have hv:st3.V[st'.V.length]? = some v:=hv;rw [l3] at hv;cases hv;exact Nat.ne_of_lt (of_decide_eq_true Cg)
    ·have:=b1.killSS (nv:=sA.V.length) (by exact (List.getElem?_eq_some_iff.1 l1).1) (x:=⟨true,T,k,1,cR (x1.getD 0 dC)⟩) l1 (Nat.ne_of_lt (of_decide_eq_true Cg))
     rw [l2] at this;exact this
    ·intro v hv
     have hv:(rS st'.V.length st3.V)[st'.V.length]? = some v:=hv;rw [nW,Option.map_eq_some_iff] at hv;obtain ⟨v',_,rfl⟩:=hv;simp
 ·
  intro st' Ci;cases r0 with
  | nx vs0 =>
   simp only [brO,aN] at h;refine ⟨fun _=>?_,fun hp=>absurd hp (by simp [ouE,vV]),fun i hp=>absurd hp (by simp [ouE,vV]),.inl rfl⟩
   obtain ⟨vs,m',cr,g2,g3⟩ | ⟨l,m',s',cr,_⟩:=Ci
   ·simp only [ouE] at cr
    obtain rfl:vs0=vs:=by rcases cr with cr | cr <;> simp at cr <;> exact cr
    exact hK _ _ _ h g2
   ·simp [ouE] at cr
  | br i vs0 =>
   refine ⟨fun hp=>absurd hp (by simp [ouE,vV]),fun hp=>absurd hp (by simp [ouE,vV]),fun j hp=>?_,.inr (.inr ⟨_,rfl⟩)⟩
   simp only [ouE,vV,Option.some.injEq,Code.exit.injEq] at hp;subst hp;obtain ⟨vs,m',cr,g2,g3⟩ | ⟨l,m',s',cr,_⟩:=Ci
   ·simp only [ouE] at cr
    obtain rfl:vs0=vs:=by rcases cr with cr | cr <;> simp at cr <;> exact cr
    simp only [brO,aN] at h;simp only [if_true];exact hK _ _ _ h g2
   ·simp [ouE] at cr
  | ret l0 =>
   simp only [brO,aN,Option.some.injEq] at h;subst h;refine ⟨fun hp=>absurd hp (by simp [ouE,vV]),fun _=>?_,fun i hp=>absurd hp (by simp [ouE,vV]),.inr (.inl rfl)⟩
   obtain ⟨vs,m',cr,g2,g3⟩ | ⟨l,m',s',cr,g2,g3⟩:=Ci
   ·simp only [ouE] at cr;simp at cr
   ·simp only [ouE] at cr
    simp at cr;subst cr;exact hR _ _ _ g2 g3
theorem QJ (gt:G.yy=false) (hM:Fns P sg M) (hT:Its P sg M) (hF:Free F) (ba:F.round=none) {inl:List (Option Nat×Hint×HT)->IN} (hI:∀ (F:Fence) (n:Nat),Free F->∀ il,CP F n P (inl il)) {rt:SS->Option Ou} (mc:∀ s o,rt s=some o->∃ l,o=.ret l):∀ (c:Code) (ht:HT) (lk:Lk) (s:SS) (K:SS->Option Ou) (r:Ou) (m:Emb) (st:St) (Q:Exit->St->Prop),
  Em m s st->evT P sg M inl rt c ht lk s K=some r ->
  (∀ m' s' st',K s'=some r->Em m' s' st'->Q .normal st') ->
  (∀ m' s' st',rt s'=some r->Em m' s' st'->Q .ret st') ->
  W2 F n P c st Q:=by
 intro c
 have plain:∀ (c:Code) (ht:HT) (lk:Lk) (s:SS) (K:SS->Option Ou) (r:Ou) (m:Emb) (st:St) (Q:Exit->St->Prop),
  Em m s st->evB P sg M true inl rt c ht lk [] s K=some r ->
  (∀ m' s' st',K s'=some r->Em m' s' st'->Q .normal st') ->
  (∀ m' s' st',rt s'=some r->Em m' s' st'->Q .ret st')->W2 F n P c st Q:=
  fun c ht lk s K r m st Q hE h hK hR=>(QD (fun _=>gt) hM hF (hI F n hF) mc c ht lk [] s K r m st Q hE h (fun m' s' st' g1 g2 _=>hK m' s' st' g1 g2) (fun id h vs m' s' st' h0=>by grind [xK]) fun m' s' st' g1 g2 _=>hR m' s' st' g1 g2).w2
 induction c with
 | seq a b iha ihb =>
  intro ht lk s K r m st Q hE h hK hR;cases ht with
  | two x y =>
   simp [evT] at h;split at h
   ·refine aI0 (iha x lk s _ r m st _ hE h ?_ ?_)
    ·grind
    omega
   grind
  | _=>simp only [evT] at h;exact plain _ _ _ _ _ _ _ _ _ hE h hK hR
 | cond c a b iha ihb =>
  intro ht lk s K r m st Q hE h hK hR;cases ht with
  | cond j x y =>
   cases j with
   | none =>
    simp [evT] at h;split at h
    ·split at h
     ·rename_i t hc
      refine aG9 (b:=t) (by rw [hE.ev,hc];rfl) (fun ht=>?_) (fun ht=>?_)
      ·subst ht;exact iha x lk s K r m st Q hE h hK hR
      ·subst ht;exact ihb y lk s K r m st Q hE h hK hR
     grind
    grind
   | some h0=>grind [evT]
  | _=>simp only [evT] at h;exact plain _ _ _ _ _ _ _ _ _ hE h hK hR
 | block id c ih =>
  intro ht lk s K r m st Q hE h hK hR;cases ht with
  | rg sh h0 x y =>
   simp only [evT] at h;split at h
   case h_2=>cases h
   exact aI4 hM hT hF ba hI mc hE h hK hR
  | thru x =>
   simp [evT] at h;split at h
   ·refine WK (ih x lk s K r m st _ hE h ?_ ?_)
    ·exact hK
    omega
   grind
  | _=>simp only [evT] at h;exact plain _ _ _ _ _ _ _ _ _ hE h hK hR
 | scope c ih =>
  intro ht lk s K r m st Q hE h hK hR;simp [evT] at h;split at h
  ·exact aEC (ih ht lk s K r m st (aGC Q) hE h hK hR)
  grind
 | _=>intro ht lk s K r m st Q hE h hK hR;simp only [evT] at h;exact plain _ _ _ _ _ _ _ _ _ hE h hK hR
end
abbrev calm:Ghost:=⟨fun _ _=>False,0,default,false⟩
omit G in
theorem Mem.regh {G1 G2:Ghost} {n0:Nat} {w0:World} {e:Env} {B:List Box} {V:List Vec} {w:World} (h:@Mem G1 n0 w0 e B V w) (hy:e.y=false):@Mem G2 n0 w0 e B V w:=by
 obtain ⟨a1,a2,a3,a4,a5,a6,a7,a8,a9,a10,a11,a12,⟨b1,b2,b3,b4,b5⟩⟩:=h;refine @Mem.mk G2 n0 w0 e B V w a1 a2 a3 a4 a5 a6 a7 a8 a9 a10 a11 ⟨a12.1,fun hc=>by grind⟩ (@Hid.mk G2 e B V w b1 b2 b3 (fun i x hi hT=>?_) b5)
 grind
omit G in
theorem CallPc.regh {G1 G2:Ghost} {P:Program} {f:FuncId} {args:List AV} {K:AV->List Box->List Vec->Prop} (h:@CallPc G1 P f args K):@CallPc G2 P f args K:=by
 intro F n hF ba n0 w0 e w vs hy hm hv hs;refine CallsIn.mono (h F n hF ba n0 w0 e w vs hy (Mem.regh (G1:=G2) (G2:=G1) hm hy.1) hv hs) ?_;rintro en w' ⟨e',B',V',r,v,h1,h2,h3,h4,h5⟩;exact ⟨e',B',V',r,v,h1,h2,Mem.regh (G1:=G1) (G2:=G2) h3 (h4.ye.trans hy.1),h4,h5⟩
section
variable (P:Program) (sg:FuncId->Option Sig) (M:Den)
noncomputable def aI5 (fe:FE) (c:Code) (vs:List CV):Option (List CV):=
 if (Sc.avs fe.g.ps vs 0).length<=fe.n then
  aV (evT P sg M (inN P sg M true 8) (rtF P fe.rs fe.g.rs) c fe.ht ⟨[],[],[],[]⟩ ⟨fe.n,gW 0 (Sc.avs fe.g.ps vs 0),[],[]⟩ (rtF P fe.rs fe.g.rs))
 else none
def rtB (rs:List ResultVar) (T:TypeId) (ts:List (Option (TypeId×Nat))) (s:SS):Option Ou:=match rR P s rs with
 | some [.ptr i 0]=>match s.B[i]? with
  | some b=>match iH s.V b.cs with
   | some cs=>if (b.live&&(b.T == T&&(iT s.V ts b.cs&&TA (nF b.cs))))=true then some (.ret [.ref cs,BF T ts]) else none
   | none=>none
  | none=>none
 | _=>none
noncomputable def aHb (fe:FE) (T:TypeId) (ts:List (Option (TypeId×Nat))) (ht:HT) (c:Code) (vs:List CV):Option (List CV):=
 if (Sc.avs fe.g.ps vs 0).length<=fe.n then
  aV (evT P sg M (inN P sg M true 8) (rtB P fe.rs T ts) c ht ⟨[],[],[],[]⟩ ⟨fe.n,gW 0 (Sc.avs fe.g.ps vs 0),[],[]⟩ (rtB P fe.rs T ts))
 else none
def aAi:List Sc->Bool
 | [.one .ref]=>true
 | _=>false
def WM (T:TypeId) (ts:List (Option (TypeId×Nat))):Option (List CV)->Option (List CV)
 | some [.ref cs,.fn T' l]=>if T'=T/\SM ts l=true then some [.ref cs] else none
 | _=>none
def aCL (T:TypeId) (ts:List (Option (TypeId×Nat))):Option (List CV)->Option (List CV)
 | some [.ref cs,.fn T' l]=>if T'=T/\SM ts l=true then some [.ref cs,.fn T' l] else none
 | _=>none
noncomputable def evF (fe:FE) (c:Code) (vs:List CV):Option (List CV):=match fe.ht with
 | .bx T ts ht=>if aAi fe.g.rs=true then WM T ts (aHb P sg M fe T ts ht c vs) else none
 | _=>aI5 P sg M fe c vs
noncomputable def aAj (fe:FE) (c:Code) (vs:List CV):Option (List CV):=match fe.ht with
 | .bx T ts ht=>aCL T ts (aHb P sg M fe T ts ht c vs)
 | _=>none
end
section
variable {P:Program} {sg:FuncId->Option Sig} {M:Den}
variable {T:TypeId} {ts:List (Option (TypeId×Nat))}
theorem aHc {rs:List ResultVar} (s:SS) (o:Ou) (h:rtB P rs T ts s=some o):∃ l,o=.ret l:=by
 have _:=G;unfold rtB at h;grind
theorem aHd {m:Emb} {B:List Box} {V:List Vec} {B1:List Box} {V1:List Vec} (hE:EmM m B V B1 V1):∀ {ts:List (Option (TypeId×Nat))} {xs:List AV},iT V ts xs=true ->
  iT V1 ts (AV.czs m xs)=true/\nF (AV.czs m xs)=(nF xs).map m.fv/\∀ j∈nF xs,j<V.length:=by
 have _:=G;intro ts xs
 induction xs generalizing ts with
 | nil=>grind [iT,AV.czs,nF]
 | cons x xs ih =>
  intro hs;unfold iT at hs;split at hs
  ·grind
  ·grind [AV.czs,AV.cz,iT,nF]
  ·rename_i T k ts' j u xs' h1
   rw [Bool.and_eq_true] at hs;have h2:=hs.1;split at h2
   ·rename_i v hv
    simp at h2;obtain ⟨h3,rfl,rfl,rfl⟩:=h2;have bt:=hE.v j v hv (.inl h3);grind [AV.czs,AV.cz,nF,iT,Vec.cz]
   grind
  grind
theorem aCM {m:Emb} {l:List Nat} (hn:l.Nodup) (hi:∀ a∈l,∀ b∈l,m.fv a=m.fv b->a=b):(l.map m.fv).Nodup:=by
 have _:=G
 induction l with
 | nil=>simp
 | cons a l ih =>
  grind
variable {f:FuncId} {fn:Func} {fe:FE} {c:Code} {vs:List CV}
theorem WN (hM:@Fns calm P sg M) (hY:@Yls calm P M) (hT:Its P sg M) {ht:HT} {cs:List CV} (hf:P.funcs[f]? = some fn) (hb:fn.body=some c) (hn:fn.ntmps=fe.n) (hr:fn.results.toList=fe.rs)
  (h:aHb P sg M fe T ts ht c vs=some [.ref cs,BF T ts]):CallPc P f (Sc.avs fe.g.ps vs 0) (aDQ T ts cs):=by
 unfold aHb at h;split at h
 ·rename_i aj
  have h':evT P sg M (inN P sg M true 8) (rtB P fe.rs T ts) c ht ⟨[],[],[],[]⟩ ⟨fe.n,gW 0 (Sc.avs fe.g.ps vs 0),[],[]⟩ (rtB P fe.rs T ts)=some (.ret [.ref cs,BF T ts]):=by
   unfold aV at h;grind
  refine CallPc.regh (G1:=calm) ?_;refine @GZ calm _ _ _ _ _ _ hf hb fun F n hF ba=>?_
  rw [hn,start_eq _ _ aj]
  have hE:Em ⟨[],[],[]⟩ ⟨fe.n,gW 0 (Sc.avs fe.g.ps vs 0),[],[]⟩ ⟨mkT fe.n (gW 0 (Sc.avs fe.g.ps vs 0)),[],[]⟩:=by
   obtain ⟨p1,p2⟩:=Sc.avs_pl fe.g.ps vs 0 ⟨[],[],[]⟩ 0 0;refine ⟨?_,qQ _ _ p2,⟨rfl,rfl,rfl,by simp,by simp,by simp,by simp,by simp⟩⟩
   grind [qP,AV.czs_eq]
  have fin:∀ (m':Emb) (s':SS) (st':St),rtB P fe.rs T ts s'=some (.ret [.ref cs,BF T ts])->Em m' s' st'->∃ r,rM P st' fn.results.toList=some r/\aDQ T ts cs r st'.B st'.V:=by
   intro m' s' st' h1 jl;unfold rtB at h1;split at h1
   ·rename_i i dO
    split at h1
    ·rename_i b cd
     split at h1
     ·rename_i cs' hl
      split at h1
      ·rename_i hc
       simp at hc;obtain ⟨c1,c2,c3,c4⟩:=hc;simp at h1;subst h1;obtain ⟨b1,b2⟩:=jl.m.b i b cd;obtain ⟨q1,q2,q3⟩:=aHd jl.m c3;refine ⟨mJ (AV.czs m' [.ptr i 0]),?_,m'.fb i,b.cz m',by rfl,b1,c1,c2,ER jl.m hl,q1,?_⟩
       ·rw [hr]
        exact FI (uW jl dO)
       ·show (nF (AV.czs m' b.cs)).Nodup
        rw [q2];exact aCM (of_decide_eq_true c4) fun a ha b hb he=>jl.m.vi a b (q3 a ha) (q3 b hb) he
      grind
     grind
    grind
   grind
  refine @QJ calm _ _ _ _ _ rfl hM hT hF ba _ (fun F n hF=>@LF calm _ _ _ true (fun _=>rfl) hM hY 8 _ _ hF) _ (aHc) c ht _ _ _ _ _ _ _ hE h' ?_ ?_
  ·grind
  grind
 grind
variable {out:List CV}
theorem aAk (hM:@Fns calm P sg M) (hY:@Yls calm P M) (hT:Its P sg M) (hf:P.funcs[f]? = some fn) (hb:fn.body=some c) (hn:fn.ntmps=fe.n) (hr:fn.results.toList=fe.rs) (h:aI5 P sg M fe c vs=some out) :
  SpecR P f (Sc.avs fe.g.ps vs 0) (Sc.res fe.g.rs out):=by
 unfold aI5 at h;split at h
 ·rename_i aj
  have h':evT P sg M (inN P sg M true 8) (rtF P fe.rs fe.g.rs) c fe.ht ⟨[],[],[],[]⟩ ⟨fe.n,gW 0 (Sc.avs fe.g.ps vs 0),[],[]⟩ (rtF P fe.rs fe.g.rs)=some (.ret out):=by
   unfold aV at h;grind
  have bz:=Sc.avs_closed fe.g.ps vs 0
  have key:@CallPc calm P f (Sc.avs fe.g.ps vs 0) fun r B V=>∃ (m:Emb) (s:SS) (st:St) (xs:List AV) (l:List CV) (b:Bool),st.B=B/\st.V=V/\Em m s st/\rR P s fe.rs=some xs/\iB s.B s.V fe.g.rs xs=some (l,b)/\IB (Sc.lvs fe.g.rs) l=out /\
    r=mJ (AV.czs m xs):=by
   refine @GZ calm _ _ _ _ _ _ hf hb fun F n hF ba=>?_
   rw [hn,start_eq _ _ aj]
   have hE:Em ⟨[],[],[]⟩ ⟨fe.n,gW 0 (Sc.avs fe.g.ps vs 0),[],[]⟩ ⟨mkT fe.n (gW 0 (Sc.avs fe.g.ps vs 0)),[],[]⟩:=by
    obtain ⟨p1,p2⟩:=Sc.avs_pl fe.g.ps vs 0 ⟨[],[],[]⟩ 0 0;refine ⟨?_,qQ _ _ p2,⟨rfl,rfl,rfl,by simp,by simp,by simp,by simp,by simp⟩⟩
    grind [qP,AV.czs_eq]
   have fin:∀ (m':Emb) (s':SS) (st':St),rtF P fe.rs fe.g.rs s'=some (.ret out)->Em m' s' st'->∃ r,rM P st' fn.results.toList=some r /\
     ∃ (m:Emb) (s:SS) (st:St) (xs:List AV) (l:List CV) (b:Bool),st.B=st'.B/\st.V=st'.V/\Em m s st/\rR P s fe.rs=some xs/\iB s.B s.V fe.g.rs xs=some (l,b)/\IB (Sc.lvs fe.g.rs) l=out/\r=mJ (AV.czs m xs):=by
    intro m' s' st' h1 jl;unfold rtF at h1;split at h1
    ·rename_i xs dO
     split at h1
     ·rename_i l b hl
      cases h1;refine ⟨_,?_,m',s',st',xs,l,b,rfl,rfl,jl,dO,hl,rfl,rfl⟩;rw [hr];exact FI (uW jl dO)
     grind
    grind
   refine @QJ calm _ _ _ _ _ rfl hM hT hF ba _ (fun F n hF=>@LF calm _ _ _ true (fun _=>rfl) hM hY 8 _ _ hF) _ (aG4) c fe.ht _ _ _ _ _ _ _ hE h' ?_ ?_
   ·grind
   grind
  refine CallP.res (CallP.freeze (CallPc.regh (G2:=G) key) (AV.scos_closed _ _ _ bz)) ?_;rintro r B V ⟨rfl,rfl,r0,B0,V0,⟨m,s,st,xs,l,b,rfl,rfl,hE,dO,hl,rfl,rfl⟩,rfl⟩;refine ⟨Sc.res fe.g.rs l,?_,(aEt _ _).symm,rfl,rfl⟩;obtain ⟨q1,_⟩:=fS hE.m hl;have G0:=Sc.res_closed fe.g.rs l;exact ⟨aEu q1,fun _ _ _=>AV.sco_closed _ _ _ G0⟩
 grind
variable {x:Option (List CV)}
theorem QK (h:aCL T ts x=some out):∃ cs,out=[.ref cs,BF T ts]/\x=some [.ref cs,BF T ts]:=by
 unfold aCL at h;split at h
 ·rename_i cs T' l
  split at h
  ·rename_i hc
   obtain ⟨rfl,hc⟩:=hc;cases h;have:=FD hc;subst this;exact ⟨cs,rfl,rfl⟩
  grind
 grind
theorem aAl (h:WM T ts x=some out):∃ cs,out=[.ref cs]/\x=some [.ref cs,BF T ts]:=by
 unfold WM at h;split at h
 ·rename_i cs T' l
  split at h
  ·rename_i hc
   obtain ⟨rfl,hc⟩:=hc;cases h;have:=FD hc;subst this;exact ⟨cs,rfl,rfl⟩
  grind
 grind
theorem WO {l:List Sc} (h:aAi l=true):l=[.one .ref]:=by
 have _:=G;unfold aAi at h;grind
theorem aCN (hM:@Fns calm P sg M) (hY:@Yls calm P M) (hT:Its P sg M) (hf:P.funcs[f]? = some fn) (hb:fn.body=some c) (hn:fn.ntmps=fe.n) (hr:fn.results.toList=fe.rs) (h:evF P sg M fe c vs=some out) :
  SpecR P f (Sc.avs fe.g.ps vs 0) (Sc.res fe.g.rs out):=by
 unfold evF at h;split at h
 ·split at h
  ·rename_i hg
   obtain ⟨cs,rfl,hx⟩:=aAl h;have key:=WN hM hY hT hf hb hn hr hx;have bz:=Sc.avs_closed fe.g.ps vs 0;rw [WO hg];refine CallP.mono (CallP.freeze key (AV.scos_closed _ _ _ bz)) ?_;rintro r B V ⟨rfl,rfl,r0,B0,V0,⟨i,b,rfl,cd,hl,_,od,_⟩,rfl⟩;grind [AV.lend,Sc.res,Sc.av,Lf.av,cF]
  grind
 ·exact aAk hM hY hT hf hb hn hr h
theorem aED (h:aAj P sg M fe c vs=some out):∃ T ts cs,out=[.ref cs,BF T ts]:=by
 unfold aAj at h;split at h
 ·obtain ⟨cs,rfl,_⟩:=QK h
  grind
 grind
theorem aEE (hM:@Fns calm P sg M) (hY:@Yls calm P M) (hT:Its P sg M) (hf:P.funcs[f]? = some fn) (hb:fn.body=some c) (hn:fn.ntmps=fe.n) (hr:fn.results.toList=fe.rs) (h:aAj P sg M fe c vs=some out) :
  ∃ T ts cs,out=[.ref cs,BF T ts]/\CallPc P f (Sc.avs fe.g.ps vs 0) (aDQ T ts cs):=by
 unfold aAj at h;split at h
 ·rename_i T ts ht Pj
  obtain ⟨cs,rfl,hx⟩:=QK h;exact ⟨T,ts,cs,rfl,WN hM hY hT hf hb hn hr hx⟩
 grind
end
end Go.Sx
namespace Go.Sx
open Go Go.RowKit
theorem aBl:∀ {a b:Lf},lfC a=lfC b->a=b:=by
 intro a b h;cases a <;> cases b <;> simp_all [lfC]
theorem aEF (l:Lf):lfC l≠dC:=by cases l <;> simp [lfC,dC]
theorem aHe:∀ {a b:Sc},scC a=scC b->a=b:=by
 intro a b h;cases a <;> cases b
 ·grind [scC,aBl]
 ·simp [scC] at h;exact absurd h.1 (aEF _)
 ·simp [scC] at h;exact absurd h.1.symm (aEF _)
 grind [scC,List.map_inj_right,aBl]
theorem aBm:∀ {a b:YSh},shC a=shC b->a=b:=by
 intro a b h;cases a <;> cases b
 ·grind [shC,List.map_inj_right,aHe]
 ·grind [shC]
 ·grind [shC]
 simp_all [shC]
open Classical in
noncomputable def withY (M:Den) (l:Nat) (sh:YSh) (yf:YF):Den:=fun f vs =>
 if f=ghT then
  match vs with
  | .val (.func (.yield l') _ _)::c::.row _ es::x=>if l'=l/\c=shC sh then (match yf es x with
   | some (b,es')=>some [.val (.bool b),.row 0 es']
   | none=>none) else none
  | _=>none
 else M f vs
def rtY (s:SS):Option Ou:=match s.V[0]? with
 | some v=>if (v.T == ghT)=true then some (.ret [.row 0 v.es]) else none
 | none=>none
theorem aHf (s:SS) (o:Ou) (h:rtY s=some o):∃ l,o=.ret l:=by
 unfold rtY at h;grind
noncomputable def evY (P:Program) (sg:FuncId->Option Sig) (M:Den) (dp:Nat) (fe:FE) (c:Code) (l:Nat) (vs:List CV) (es:List (List CV)):Option (List CV):=
 if vs.length+1<=fe.n then
  aV (evC P sg M (inN P sg M false dp) rtY c fe.ht ⟨[],[],[],[]⟩ [] ⟨fe.n,gW 0 (.cv (.val (.func (.yield l) #[] #[]))::vs.map .cv),[],[⟨false,ghT,0,0,es⟩]⟩ rtY)
 else none
section
variable {P:Program} {sg:FuncId->Option Sig} {M:Den}
theorem Fns.withY [G:Ghost] (h:Fns P sg M) (hg:sg ghT=none) (_:∀ vs,M ghT vs=none) (l:Nat) (sh:YSh) (yf:YF):Fns P sg (Go.Sx.withY M l sh yf):=by
 have key:∀ f vs out,f≠ghT->Go.Sx.withY M l sh yf f vs=some out->M f vs=some out:=fun f vs out hf h=>by
  unfold Go.Sx.withY at h;grind
 have gh:∀ vs out,Go.Sx.withY M l sh yf ghT vs=some out->∃ b es',out=[.val (.bool b),.row 0 es']:=by
  intro vs out h;unfold Go.Sx.withY at h;grind
 refine ⟨fun f vs k es T hs hm=>?_,fun f k T by_ hs hm=>?_,fun f T k cs es es' hdr hs hm=>?_,fun f T fs hs hm=>?_,h.ent,fun f g T ts vs cs hs pi hm=>h.box f g T ts vs cs hs pi (key _ _ _ (by grind) hm),fun f g vs out hs hm=>?_⟩
 ·by_cases hf:f=ghT
  ·grind
  ·exact h.own f vs k es T hs (key _ _ _ hf hm)
 ·by_cases hf:f=ghT
  ·grind
  ·exact h.ins f k T by_ hs (key _ _ _ hf hm)
 ·by_cases hf:f=ghT
  ·grind
  ·exact h.mtt f T k cs es es' hdr hs (key _ _ _ hf hm)
 ·by_cases hf:f=ghT
  ·grind
  ·exact h.way f T fs hs (key _ _ _ hf hm)
 ·by_cases hf:f=ghT
  ·grind
  ·exact h.spec f g vs out hs (key _ _ _ hf hm)
theorem LI (hM:∀ [Ghost],Fns P sg M) (hg:sg ghT=none) (Hb:∀ vs,M ghT vs=none) {f:FuncId} {fn:Func} {c:Code} {fe:FE} {dp:Nat} {caps:List CV} {sh:YSh} {R:YF->List (List CV)->Option (List (List CV))} (hf:P.funcs[f]? = some fn) (hb:fn.body=some c) (hn:fn.ntmps=fe.n) (hr:fn.results.toList=[])
  (hR:∀ l yf es es',R yf es=some es'->evY P sg (withY M l sh yf) dp fe c l caps es=some [.row 0 es']):QH P f caps sh R:=by
 intro G l yf es es' hy M8 F n hF ba H S w lb ko hS hH D2 hJ fl uk;have Jk:=Fns.withY (G:=G) hM hg Hb l sh yf
 have M9:Yls P (withY M l sh yf):=by
  intro l' sh' es x out h;simp only [withY,if_true] at h;split at h
  ·rename_i hc
   obtain ⟨rfl,hc⟩:=hc;have:=aBm hc;subst this;split at h
   ·rename_i b es2 h1
    cases h;exact hy _ _ _ _ h1
   grind
  grind
 have aw:=hR l yf es es' M8;unfold evY at aw;split at aw
 case isFalse=>grind
 have Hc:evC P sg (withY M l sh yf) (inN P sg (withY M l sh yf) false dp) rtY c fe.ht ⟨[],[],[],[]⟩ [] ⟨fe.n,gW 0 (.cv (.val (.func (.yield l) #[] #[]))::caps.map .cv),[],[⟨false,ghT,0,0,es⟩]⟩ rtY=some (.ret [.row 0 es']):=by
  unfold aV at aw;grind
 refine callsIn_of_wp hf hb (hF.fn f) ?_ ba
 let e0:Env:=⟨fun _=>0,fun _ _=>undef,S,w.heap.size,H,true⟩
 have an:Mem w.heap.size w e0 [] [⟨false,ghT,0,0,es⟩] w:=by
  refine ⟨by simp,by simp,by simp,by simp,?_,?_,by simp,?_,hS,Below.refl _ _,Nat.le_refl _,⟨Nat.le_refl _,fun _=>uk⟩,⟨hH,by simp,?_,?_,D2⟩⟩
  ·grind
  ·grind
  ·grind
  ·grind
  grind
 have af:AV.all e0 w (kss [⟨false,ghT,0,0,es⟩]) (.cv (.val (.func (.yield l) #[] #[]))::caps.map .cv) (#[Value.func (.yield l) #[] #[]]++lb).toList:=by
  simp;exact ⟨by simp [AV.holds,CV.holds],AV.all.of_vals ko⟩
 have di:(#[Value.func (.yield l) #[] #[]]++lb).size=(AV.cv (.val (.func (.yield l) #[] #[]))::caps.map .cv).length:=by
  have:=af.length;omega
 have hE:Em ⟨[],[0],[0]⟩ ⟨fe.n,gW 0 (.cv (.val (.func (.yield l) #[] #[]))::caps.map .cv),[],[⟨false,ghT,0,0,es⟩]⟩ ⟨mkT fe.n (gW 0 (.cv (.val (.func (.yield l) #[] #[]))::caps.map .cv)),[],[⟨false,ghT,0,0,es⟩]⟩:=by
  refine ⟨?_,qQ _ _ (by rw [AV.inns_eq,List.all_eq_true];intro y hy;simp at hy;rcases hy with rfl | ⟨c,_,rfl⟩ <;> rfl),⟨rfl,rfl,rfl,by simp,?_,?_,by simp,?_⟩⟩
  ·simp [qP,AV.cz,Function.comp_def]
  ·grind [Emb.fv,Vec.cz,Emb.fo]
  ·grind [Emb.fv]
  simp
 have ah:Rel w.heap.size w e0 ⟨mkT fe.n (gW 0 (.cv (.val (.func (.yield l) #[] #[]))::caps.map .cv)),[],[⟨false,ghT,0,0,es⟩]⟩ { tmps:=(#[Value.func (.yield l) #[] #[]]++lb)++Array.replicate (fn.ntmps - (#[Value.func (.yield l) #[] #[]]++lb).size) undef,defers:=[] } w:=by
  rw [<- start_eq _ _ (by grind)]
  refine ⟨?_,?_,an⟩
  ·rw [Array.toList_append,Array.toList_replicate,di,hn]
   refine af.append ?_;generalize fe.n - _=k
   induction k with
   | zero=>simp [AV.all]
   | succ k ih=>grind [AV.all,AV.holds]
  grind [AV.scos_iff,AV.sco]
 have hW:=nU (F:=F) (n:=n) Jk hF (fun il=>LF (cm:=false) (fun h=>by cases h) Jk M9 dp hF il) aHf c fe.ht ⟨[],[],[],[]⟩ [] _ _ _ _ _ (fun ex st'=>(ex=.normal\/ex=.ret)/\∃ m' s',rtY s'=some (.ret [.row 0 es'])/\Em m' s' st') hE Hc
  (fun m' s' st' h1 h2 _=>⟨.inl rfl,m',s',h1,h2⟩) (fun id h vs m' s' st' h0=>by simp) (fun m' s' st' h1 h2 _=>⟨.inr rfl,m',s',h1,h2⟩)
 refine hW w.heap.size w e0 _ w _ ah ?_;rintro ex e' st' a' w' ⟨iN,m',s',h1,h2⟩ cy ac hx
 have ul:(results fn a'.tmps).run P w'=.ok (.tuple #[]) w':=by
  simp_all [results]
 have fin:(∃ v,Ending.returned (Value.tuple #[])=.returned v)/\w.heap.size<=w'.heap.size/\@GW G w'/\∃ H',G.J es' H'/\xH H' w':=by
  unfold rtY at h1;split at h1
  case h_2=>cases h1
  rename_i v hv;split at h1
  case isFalse=>cases h1
  rename_i hT;simp at h1;subst h1;simp at hT;have bt:=h2.m.v 0 v hv (.inr hT);obtain ⟨g1,g2,g3,g4⟩:=cy.mem.hid.gh _ _ bt hT;have bg:=cy.mem.below;exact ⟨⟨_,rfl⟩,hx.sz,⟨bg.os.trans uk.1,bg.tape.trans uk.2.1,bg.output.trans uk.2.2.1,uk.2.2.2⟩,e'.H,g3,cy.mem.hid.obj⟩
 rcases iN with rfl | rfl
 ·exact ⟨ac,_,ul,fin⟩
 ·exact ⟨ac,_,ul,fin⟩
end
end Go.Sx
namespace Go.Sx
open Go Go.RowKit
variable [G:Ghost]
def aE (f:Func):Code:=f.body.getD .skip
def ci (n:Int):CV:=.val (.int .i64 n)
def cb (b:Bool):CV:=.val (.bool b)
def gi (v:List CV) (i:Nat):Int:=cI (List.getD v i dC)
def gb (v:List CV) (i:Nat):Bool:=cB (List.getD v i dC)
def gr (v:List CV) (i:Nat):List (List CV):=cR (List.getD v i dC)
def el (es:List (List CV)) (i:Int):List CV:=List.getD es (Int.toNat i) []
def il {A:Type} (es:List A):Int:=Int.ofNat (List.length es)
def wr (x:Int):Int:=IntKind.wrap .i64 x
def inb {A:Type} (i:Int) (es:List A):Bool:=decide (0<=i)&&decide (i<il es)
def cis (v:List CV):Nat->Nat->List CV
 | _,0=>[]
 | i,n+1=>ci (gi v i)::cis v (i+1) n
def cat:List (List CV)->List CV
 | []=>[]
 | [x]=>x
 | x::xs=>x++cat xs
abbrev li:Lf:=.int .i64
abbrev lb:Lf:=.bool
def mM {A:Type} (k:Nat):List (Nat×A)->Option A
 | []=>none
 | (j,x)::r=>if j=k then some x else mM k r
def wM (tb:List (Nat×FE×Code)):FuncId->Option Sig:=fun f=>(mM f tb).map (·.1.g)
noncomputable def den (P:Program) (tb:List (Nat×FE×Code)) (its:List (Nat×(List CV->Option (List CV)))):Nat->Den
 | 0=>fun _ _=>none
 | n+1=>fun f vs=>match mM f tb with
  | some (fe,c)=>evF P (wM tb) (den P tb its n) fe c vs
  | none=>match mM f its with
   | some it=>it vs
   | none=>if f<KK then none else match mM (f - KK) tb with
    | some (fe,c)=>aAj P (wM tb) (den P tb its n) fe c vs
    | none=>none
structure EntOk (P:Program) (f:Nat) (fe:FE) (fn:Func):Prop where
 ent:iI P f=true
 isf:P.funcs[f]? = some fn
 body:fn.body.isSome=true
 n:fn.ntmps=fe.n
 rs:fn.results.toList=fe.rs
theorem qA {A:Type} {k:Nat} {x:A}:∀ {l:List (Nat×A)},mM k l=some x->(k,x)∈l
 | [],h=>by have _:=G;grind [mM]
 | (j,y)::r,h=>by
  simp only [mM] at h;split at h
  ·rename_i hj;cases h;subst hj;simp
  ·simp [qA h]
def QL (P:Program) (its:List (Nat×(List CV->Option (List CV)))):Prop:=∀ e∈its,∀ caps out,e.2 caps=some out ->
 (∀ rows sh,out=[.row 0 rows,shC sh]->iI P e.1=true/\QH P e.1 caps sh (tI rows)) /\
 (∀ k es T,out=[.row k es,.fn T []]->iI P e.1=true/\PJ P e.1 (caps.map .cv) T k es) /\
 (∀ T k cs es es' hdr,caps=.row k es::.fn T []::cs->out=[.row k es',.val (.bool hdr)]->iI P e.1=true/\OG P e.1 T k cs es es' hdr) /\
 (∀ k T by_,caps=[]->out=[.row k [],.fn T [],.fn by_ []]->iI P e.1=true/\aDP P e.1 T k by_) /\
 (∀ T fs,caps=.fn T []::fs.map (fun g=>.fn g [])->out=[.fn 0 []]->iI P e.1=true/\aCd P e.1 T fs)
variable {P:Program} {tb:List (Nat×FE×Code)} {its:List (Nat×(List CV->Option (List CV)))}
theorem LJ {n f:Nat} {caps out:List CV} (hs:wM tb f=none) (h:den P tb its n f caps=some out):(∃ it,(f,it)∈its/\it caps=some out)\/∃ T ts cs,out=[.ref cs,BF T ts]:=by
 cases n with
 | zero=>grind [den]
 | succ n =>
  simp [wM] at hs;simp [den,hs] at h;split at h
  ·rename_i it hl;exact .inl ⟨it,qA hl,h⟩
  ·split at h
   ·cases h
   ·split at h
    ·exact .inr (aED h)
    grind
theorem aBn (hi:QL P its):∀ n,Its P (wM tb) (den P tb its n):=
 fun n=>⟨fun f caps rows sh hs h=>by
  obtain ⟨it,h1,h2⟩:=(LJ hs h).resolve_right (by simp)
  exact (hi _ h1 caps _ h2).1 rows sh rfl⟩
theorem aHg:ghT<KK:=by have _:=G;decide
theorem aAm (hg:mM ghT tb=none/\mM ghT its=none):∀ n vs,den P tb its n ghT vs=none
 | 0,_=>have _:=G;rfl
 | n+1,vs=>by simp_all [den,aHg]
theorem Yls.none {P:Program} {M:Den} (h:∀ vs,M ghT vs=.none):Yls P M:=by
 intro l sh es x out hh;grind
theorem aHh (hi:∀ (G:Ghost),@QL G P its) (hg:mM ghT tb=none/\mM ghT its=none/\its.all (fun e=>decide (e.1<KK))=true) (ht:∀ e∈tb,∃ fn,EntOk P e.1 e.2.1 fn/\e.2.2=aE fn):∀ n,Fns P (wM tb) (den P tb its n):=by
 suffices aux:∀ (n:Nat) (G:Ghost),@Fns G P (wM tb) (den P tb its n) from fun n=>aux n G
 have ap:∀ (G:Ghost) n f vs k es T,wM tb f=none->den P tb its n f vs=some [.row k es,.fn T []]->iI P f=true/\PJ P f (vs.map .cv) T k es:=fun G n f vs k es T hs h=>by
  obtain ⟨it,h1,h2⟩:=(LJ hs h).resolve_right (by simp)
  exact (hi G _ h1 vs _ h2).2.1 k es T rfl
 have Cl:∀ (G:Ghost) n f k T by_,wM tb f=none->den P tb its n f []=some [.row k [],.fn T [],.fn by_ []]->iI P f=true/\aDP P f T k by_:=fun G n f k T by_ hs h=>by
  obtain ⟨it,h1,h2⟩:=(LJ hs h).resolve_right (by simp)
  exact (hi G _ h1 [] _ h2).2.2.2.1 k T by_ rfl rfl
 have Cn:∀ (G:Ghost) n f T k cs es es' hdr,wM tb f=none->den P tb its n f (.row k es::.fn T []::cs)=some [.row k es',.val (.bool hdr)]->iI P f=true/\OG P f T k cs es es' hdr:=fun G n f T k cs es es' hdr hs h=>by
  obtain ⟨it,h1,h2⟩:=(LJ hs h).resolve_right (by simp)
  exact (hi G _ h1 _ _ h2).2.2.1 T k cs es es' hdr rfl rfl
 have Co:∀ (G:Ghost) n f T fs,wM tb f=none->den P tb its n f (.fn T []::fs.map fun g=>.fn g [])=some [.fn 0 []]->iI P f=true/\aCd P f T fs:=fun G n f T fs hs h=>by
  obtain ⟨it,h1,h2⟩:=(LJ hs h).resolve_right (by simp)
  exact (hi G _ h1 _ _ h2).2.2.2.2 T fs rfl rfl
 have Cp:∀ f g,wM tb f=some g->iI P f=true:=fun f g hg=>by
  simp only [wM,Option.map_eq_some_iff] at hg;obtain ⟨⟨fe,c⟩,h1,_⟩:=hg;obtain ⟨fn,h2,_⟩:=ht _ (qA h1);exact h2.ent
 intro n
 induction n with
 | zero=>exact fun G=>⟨ap G 0,Cl G 0,Cn G 0,Co G 0,Cp,fun f g T ts vs cs hs pi h=>by grind [den],fun f g vs out hg h=>by grind [den]⟩
 | succ n ih =>
  refine fun G=>⟨ap G _,Cl G _,Cn G _,Co G _,Cp,fun f g T ts vs cs ez pi h=>?_,fun f g vs out ez h=>?_⟩
  ·simp only [wM,Option.map_eq_some_iff] at ez
   obtain ⟨⟨fe,c⟩,h1,h2⟩:=ez;simp [wM] at pi;simp [den,pi] at h;split at h
   ·rename_i it hl
    have:=List.all_eq_true.1 hg.2.2 _ (qA hl);grind
   ·simp [h1] at h
    obtain ⟨fn,h3,h4⟩:=ht _ (qA h1);simp only at h2 h4
    have hb:fn.body=some c:=by
     rw [h4,aE];cases hh:fn.body with
     | none=>have:=h3.body;grind
     | some c'=>rfl
    obtain ⟨T',ts',cs',he,Ix⟩:=aEE (G:=G) (ih calm) (@Yls.none calm _ _ (aAm ⟨hg.1,hg.2.1⟩ n)) (aBn (hi G) n) h3.isf hb h3.n h3.rs h;grind [BF,aGY]
  simp only [wM,Option.map_eq_some_iff] at ez;obtain ⟨⟨fe,c⟩,h1,h2⟩:=ez;simp [den,h1] at h;obtain ⟨fn,h3,h4⟩:=ht _ (qA h1);simp only at h2 h4;subst h2
  have hb:fn.body=some c:=by
   rw [h4,aE];cases hh:fn.body with
   | none=>have:=h3.body;grind
   | some c'=>rfl
  exact aCN (ih calm) (@Yls.none calm _ _ (aAm ⟨hg.1,hg.2.1⟩ n)) (aBn (hi G) n) h3.isf hb h3.n h3.rs h
end Go.Sx
namespace Go.Sx
open Go Go.RowKit
section
variable {P:Program}
theorem zI (w:World) (dT sT ty elem:TypeId) (g o dLen dCap:Nat) (a:Addr) (sLen sCap m k:Nat) (cur:Array Value) (t:TypeId) (cs:List Value)
  (hu:P.underlying dT=some (.slice elem)) (hs:∀ w,(Go.sizeOf elem).run P w=.ok k w)
  (hg:w.heap[g]? = some (.cells cur t (0,0))) (hm:m=Nat.min sLen dLen) (hn:cs.length=m*k)
  (mh:∀ j v,cs[j]? = some v->w.cell? (a.add j)=some v) (ck:o+cs.length<=cur.size) (h1:∀ v∈cs,v.oneCell'=true) :
  (Builtin.copy_ #[dT,sT] ty #[.slice (some ⟨g,o,none⟩) dLen dCap,.slice (some a) sLen sCap]).run P w =
   .ok (goInt m) (w.setRow g (cur.toList.take o++cs++cur.toList.drop (o+cs.length)).toArray):=by
 have hl:=run_loadCells_list (P:=P) w a cs mh;have ak:=run_storeCells_at P g o t cs 0 cur w hg (by omega) h1
 simp_all [Builtin.copy_,run_underlying,Builtin.lenOf,Builtin.firstCells]
theorem FL (w:World) (tS tR e:TypeId) (ht:P.underlying tS=some (.slice e)) (size:Nat) (hz:∀ w,(Go.sizeOf e).run P w=.ok size w)
  (a b:Addr) (la ca lb cb:Nat) (ax:a.block≠b.block) (va vb:Array Value) (tA tB:TypeId) (fz:Nat×Nat) (ha:w.heap[a.block]? = some (.cells va tA fz)) (Jl:va.size≠0) (hb:w.heap[b.block]? = some (.cells vb tB (0,0))) :
  (Extern.SlicesOverlaps.overlaps #[tS,tS] #[tR] #[.slice (some a) la ca,.slice (some b) lb cb]).run P w=.ok (.bool false) w:=by
 have qo:(a.block != b.block)=true:=by grind
 have yc:(a.block == b.block)=false:=by grind
 have xw:∀ o s,w.frozen? { block:=b.block,off:=o,spot:=s }=false:=fun o s=>by simp [World.frozen?,hb]
 have Jm:w.shape? a.block=some (tA,va.size):=by simp [World.shape?,ha]
 have sq:w.shape? b.block=some (tB,vb.size):=by simp [World.shape?,hb]
 have He:w.frozen? b=false:=xw b.off b.spot;obtain ⟨kA,Na⟩:∃ kA,va.size=kA+1:=⟨va.size - 1,by omega⟩
 rw [Na] at Jm
 change Sem.run P (α:=Value) (do
  let some t:=(#[tS,tS]:Array TypeId)[0]? | stuck "slices.overlaps: no parameter types"
  let .slice elem <- underlying t | stuck "slices.overlaps: slice type expected"
  let size <- sizeOf elem
  match (some a:Option Addr),(some b:Option Addr) with
  | some a,some b =>
   if la=0\/lb=0\/size=0 then pure (Value.bool false)
   else if a.block != b.block&&(<- frozen a)&&(<- frozen b) then unsupported .addressObserved
   else do
    if a.block != b.block then do
     noView a;noView b
     if <- mayBeOne a b then return Value.bool ((<- choose (.extern "sameAddr.stringBytes" 2)) == 1)
    pure (Value.bool (a.block == b.block&&a.off<b.off+lb*size&&b.off<a.off+la*size))
  | _,_=>pure (Value.bool false)) w=_
 by_cases h0:la=0\/lb=0\/size=0
 ·simp_all [run_underlying]
 ·cases Hf:w.frozen? a <;> cases Eu:w.frozen? { block:=a.block,off:=kA+1 } <;>
   simp [run_underlying ht,hz,h0,qo,yc,frozen,noView,viewAt,mayBeOne,stringish,shape,Sem.run,Jm,sq,Hf,Eu,He,xw]
variable {F:Fence} {n:Nat} {ops:Array Oper} {Qr:Exit->Act->World->Prop}
theorem aEG (hF:Free F) {o:Oper} {rest:List Oper} {a:Act} {w w':World} {v:Value} (hg:o.guard=none) (hd:∀ c,o.op≠.defer c) (ai:(execOp a.eval o).run P w=.ok (.value v) w') (h:wpListIn F n P ops Qr rest (a.put o.dst v) w') :
  wpListIn F n P ops Qr (o::rest) a w:=by
 simp [wpListIn,Region.wanted,hg];refine ⟨fun f _=>hF.fn f,?_⟩
 rw [Oper.semAt_plain F _ _ hd,ai];exact h
theorem eval_put (a:Act) (d k:Nat) (v:Value) (hd:d<a.tmps.size):(a.put (some d) v).eval (.tmp k)=if d=k then v else a.eval (.tmp k):=by
 simp [Act.eval,Act.put];grind
theorem size_put (a:Act) (d:Nat) (v:Value):(a.put (some d) v).tmps.size=a.tmps.size:=by simp [Act.put]
end
end Go.Sx
namespace Go.Sx
open Go Go.RowKit
variable [G:Ghost]
def lkv:List (Nat×Value)->Nat->Option Value
 | [],_=>none
 | (d,v)::l,k=>if d=k then some v else lkv l k
def iX (l:List (Nat×Value)):Operand->Option Value
 | .tmp d=>lkv l d
 | .const v=>some v
 | .func f=>some (.func (.func f) #[] #[])
 | _=>none
def Sl (N:Nat) (a:Act) (l:List (Nat×Value)):Prop:=a.tmps.size=N/\∀ d v,lkv l d=some v->a.eval (.tmp d)=v
def aJZ (l:List (Nat×Value)) (ρ:Operand->Value):Prop:=∀ x v,iX l x=some v->ρ x=v
theorem Sl.env {N:Nat} {a:Act} {l:List (Nat×Value)} (h:Sl N a l):aJZ l a.eval:=by
 have _:=G;intro x v hx;cases x with
 | tmp d=>exact h.2 d v hx
 | const c=>simp [iX] at hx;subst hx;rfl
 | func f=>simp [iX] at hx;subst hx;rfl
 | _=>cases hx
theorem Sl.put {N:Nat} {a:Act} {l:List (Nat×Value)} (h:Sl N a l) {d:Nat} (hd:d<N) (v:Value):Sl N (a.put (some d) v) ((d,v)::l):=by
 have _:=G;refine ⟨by rw [size_put];exact h.1,fun k u hk=>?_⟩
 rw [eval_put a d k v (by rw [h.1];exact hd)]
 simp [lkv] at hk;split at hk
 ·grind
 ·rename_i e;rw [if_neg e];exact h.2 k u hk
section
variable {P:Program} {F:Fence} {n:Nat} {ops:Array Oper} {Qr:Exit->Act->World->Prop}
def oM (P:Program) (l:List (Nat×Value)) (o:Oper) (v:Value) (w w':World):Prop:=∀ ρ:Operand->Value,aJZ l ρ->(execOp ρ o).run P w=.ok (.value v) w'
variable {N d:Nat} {a:Act} {l:List (Nat×Value)} {o:Oper} {v:Value} {w':World}
theorem aHi (hF:Free F) (hs:Sl N a l) {rest:List Oper} {w:World} (hg:o.guard=none) (dk:o.dst=some d) (hd:d<N) (df:∀ c,o.op≠.defer c) (ai:oM P l o v w w')
  (h:∀ a',a'.defers=a.defers->Sl N a' ((d,v)::l)->wpListIn F n P ops Qr rest a' w'):wpListIn F n P ops Qr (o::rest) a w:=by
 refine aEG hF hg df (ai _ hs.env) ?_;rw [dk];exact h _ rfl (hs.put hd v)
variable {id:Nat} {rest:Code}
theorem gL {w:World} (h:wpListIn F n P ops (fun ex a' w'=>ex=.normal/\rest.wpIn F n P Qr a' w') ops.toList a w):(Code.seq (.region id ops false) rest).wpIn F n P Qr a w:=have _:=G;
 wpIn_seq (wpIn_mono (wpIn_region_list h) fun ex a' w' hq=>by obtain ⟨rfl,hq⟩:=hq;exact hq)
theorem LL {x y:Code} {c:Operand} {w:World} (h:wpListIn F n P ops (fun ex a' w'=>ex=.normal/\(Code.cond c x y).wpIn F n P (Exit.then (rest.wpIn F n P Qr) Qr) a' w') ops.toList a w) :
  (Code.seq (.seq (.region id ops false) (.cond c x y)) rest).wpIn F n P Qr a w:=wpIn_seq (gL h)
theorem LM {w:World} (_:F.round=none) (hm:P.follows .mixedOrders=true)
  (h:wpAnyIn F n P .any ops (fun ex a' w'=>ex=.normal/\rest.wpIn F n P Qr a' w') ops.size (Array.replicate ops.size false) a { w with drawn:=w.drawn+1 }):(Code.seq (.region id ops true) rest).wpIn F n P Qr a w:=have _:=G;
 wpIn_seq (wpIn_mono (wpIn_region_any hm h) fun ex a' w' hq=>by obtain ⟨rfl,hq⟩:=hq;exact hq)
variable {Q:Exit->Act->World->Prop} {listed:Array Bool}
theorem aEH (ba:F.round=none) (hs:Sl N a l) {i fuel:Nat} {w:World} (hi:ops[i]? = some o)
  (D7:Region.noSelect ops=true) (hf:Region.free .any ops listed i=true) (hr:(Region.ready .any ops listed).contains i=true) (hQ:∀ c a w,¬Q (.panic c) a w) (hg:o.guard=none) (dk:o.dst=some d) (hd:d<N)
  (zw:∀ w ρ,o.about P w ρ=none) (ai:∀ w,oM P l o v w w) (h:∀ a',a'.defers=a.defers->Sl N a' ((d,v)::l)->wpAnyIn F n P .any ops Q fuel (listed.setIfInBounds i true) a' w):wpAnyIn F n P .any ops Q (fuel+1) listed a w:=by
 refine wpAnyIn_take ba hi D7 hf hr (fun c a w hq=>absurd hq (hQ c _ w)) (v:=v) ⟨.inl ⟨by simp [Region.wanted,hg],fun w=>ai w _ hs.env⟩,fun w=>zw w _⟩ ?_
 rw [dk];exact h _ rfl (hs.put hd v)
theorem LN (hF:Free F) (hs:Sl N a l) {i fuel:Nat} {w:World} (hi:ops[i]? = some o)
  (hr:Region.ready .any ops listed=[i]) (bo:Region.ready .any ops (listed.setIfInBounds i true)=[]) (hg:o.guard=none) (dk:o.dst=some d) (hd:d<N) (df:∀ c,o.op≠.defer c)
  (ai:oM P l o v w w') (h:∀ a',a'.defers=a.defers->Sl N a' ((d,v)::l)->Q .normal a' w'):wpAnyIn F n P .any ops Q (fuel+1) listed a w:=by
 refine wpAnyIn_all hr (by simp) ?_
 intro j hj;rw [List.mem_singleton] at hj;subst hj;unfold wpOpIn;rw [hi];simp [Region.wanted,hg];refine ⟨fun f _=>hF.fn f,?_⟩
 rw [Oper.semAt_plain F _ _ df,ai _ hs.env]
 have:wpAnyIn F n P .any ops Q fuel (listed.setIfInBounds j true) (a.put o.dst v) w':=by
  rw [dk];exact wpAnyIn_done bo (h (a.put (some d) v) rfl (hs.put hd v)) _
 exact this
variable {x:Operand}
theorem aF (ae:o.op=.move x) (hx:iX l x=some v) (w:World):oM P l o v w w:=have _:=G;fun ρ hρ=>by simp [execOp,ae,hρ _ _ hx]
theorem eI (ae:o.op=.assign x) (hx:iX l x=some v) (w:World):oM P l o v w w:=have _:=G;fun ρ hρ=>by simp [execOp,ae,hρ _ _ hx]
variable {T:TypeId} {ao:Option Addr} {m c:Nat}
theorem xN {e:TypeId} (hT:P.underlying T=some (.slice e)) (ae:o.op=.call { callee:=.builtin .len,args:=#[x],argTypes:=#[T] }) (hx:iX l x=some (.slice ao m c)) (w:World):oM P l o (.int .i64 m) w w:=have _:=G;fun ρ hρ=>by
 simp [execOp,ae,resolve,invoke,builtin,hρ _ _ hx,run_underlying hT,Builtin.len_,goInt]
theorem aEI {e:TypeId} (hT:P.underlying T=some (.slice e)) (ae:o.op=.call { callee:=.builtin .cap,args:=#[x],argTypes:=#[T] }) (hx:iX l x=some (.slice ao m c)) (w:World):oM P l o (.int .i64 c) w w:=have _:=G;fun ρ hρ=>by
 simp [execOp,ae,resolve,invoke,builtin,hρ _ _ hx,run_underlying hT,Builtin.cap_,goInt]
variable {y:Operand} {T':TypeId} {u r:Value}
theorem zJ {w:World} (ae:o.op=.call { callee:=.builtin .copy,args:=#[x,y],argTypes:=#[T,T'] }) (hx:iX l x=some v) (hy:iX l y=some u)
  (hr:(Builtin.copy_ #[T,T'] o.type #[v,u]).run P w=.ok r w'):oM P l o r w w':=have _:=G;fun ρ hρ=>by
 simp [execOp,ae,resolve,invoke,builtin,hρ _ _ hx,hρ _ _ hy,hr]
theorem xO {w:World} (ae:o.op=.call { callee:=.builtin .append,args:=#[x,y],argTypes:=#[T,T'] }) (hx:iX l x=some v) (hy:iX l y=some u)
  (hr:(Builtin.append_ #[T,T'] o.type #[v,u]).run P w=.ok r w'):oM P l o r w w':=have _:=G;fun ρ hρ=>by
 simp [execOp,ae,resolve,invoke,builtin,hρ _ _ hx,hρ _ _ hy,hr]
theorem aEJ {f:FuncId} {ts:Array TypeId} {w:World} (ae:o.op=.call { callee:=.value (.func f),args:=#[x,y],argTypes:=ts }) (hx:iX l x=some v) (hy:iX l y=some u)
  (hr:(callFunc f #[v,u]).run P w=.ok (.value r) w'):oM P l o r w w':=have _:=G;fun ρ hρ=>by
 have hf:ρ (.func f)=.func (.func f) #[] #[]:=hρ _ _ rfl;simp [execOp,ae,resolve,Deferred.ofValue,invoke,hρ _ _ hx,hρ _ _ hy,hf,hr]
theorem HB (w:World) (n cap:Nat) (vlo vhi:Option Value) (l h:Int) (fl:(vlo=none/\l=0)\/∃ k,vlo=some (.int k l)) (ot:(vhi=none/\h=n)\/∃ k,vhi=some (.int k h))
  (h0:0<=l) (h1:l<=h) (h2:h<=cap) (_:n<=cap):(Instr.sliceBounds true n cap vlo vhi none).run P w=.ok (l.toNat,h.toNat,cap) w:=by
 have bv:∀ k code,(Instr.sliceBound (.int k h) cap code).run P w=.ok h.toNat w:=fun k code=>run_sliceBound w rfl cap (by omega) (by omega) code
 have jb:∀ k code,(Instr.sliceBound (.int k l) h.toNat code).run P w=.ok l.toNat w:=fun k code=>run_sliceBound w rfl _ (by omega) (by omega) code
 rcases fl with ⟨rfl,rfl⟩ | ⟨k,rfl⟩ <;> rcases ot with ⟨rfl,rfl⟩ | ⟨k',rfl⟩
 ·rfl
 ·simp [Instr.sliceBounds,bv]
 ·simp_all [Instr.sliceBounds]
 simp_all [Instr.sliceBounds]
variable {k:Nat}
theorem TH {T e:Nat} {ad:Option Addr} {lo:Nat} (hT:P.underlying T=some (.slice e)) (hk:∀ w,(Go.sizeOf e).run P w=.ok k w) (ae:o.op=.slice T x (some y) none none) (hx:iX l x=some (.slice ad m c)) (hy:iX l y=some (.int .i64 lo)) (fl:lo<=m) (y6:m<=c) (w:World) :
  oM P l o (.slice (if c=lo then ad else ad.map fun q=>q.add (lo*k)) (m - lo) (c - lo)) w w:=fun ρ hρ=>by
 have hB:=uL (P:=P) w m c (some (.int .i64 lo)) none lo m (.inr ⟨_,rfl⟩) (.inl ⟨rfl,rfl⟩) (by omega) (by omega) (by omega) y6
 simp only [execOp,ae,Option.map_none,Option.map_some,hρ _ _ hx,hρ _ _ hy,Instr.sliceAt,Instr.slice,Sem.run_bind,run_underlying hT,Result.andThen_ok,hB,hk];simp
variable {g:Nat}
theorem qR {T e:Nat} {off:Nat} {lo:Nat} (hT:P.underlying T=some (.slice e)) (hk:∀ w,(Go.sizeOf e).run P w=.ok k w) (ae:o.op=.slice T x (some y) none none) (hx:iX l x=some (.slice (some ⟨g,off,none⟩) m c)) (hy:iX l y=some (.int .i64 lo)) (fl:lo<=m) (y6:m<=c) (ax:lo<c) (w:World) :
  oM P l o (.slice (some ⟨g,off+lo*k,none⟩) (m - lo) (c - lo)) w w:=by
 have h:=TH hT hk ae hx hy fl y6 w;have kx:(⟨g,off,none⟩:Addr).add (lo*k)=⟨g,off+lo*k,none⟩:=by unfold Addr.add;simp
 grind
theorem TJ {T e:Nat} {ad:Addr} {hi:Nat} (hT:P.underlying T=some (.slice e)) (hk:∀ w,(Go.sizeOf e).run P w=.ok k w) (ae:o.op=.slice T x none (some y) none) (hx:iX l x=some (.slice (some ad) m c)) (hy:iX l y=some (.int .i64 hi)) (fl:hi<=c) (y6:m<=c) (h0:ad.add 0=ad) (w:World) :
  oM P l o (.slice (some ad) hi c) w w:=fun ρ hρ=>by
 have hB:=HB (P:=P) w m c none (some (.int .i64 hi)) 0 hi (.inl ⟨rfl,rfl⟩) (.inr ⟨_,rfl⟩) (by omega) (by omega) (by omega) y6
 simp [execOp,ae,hρ _ _ hx,hρ _ _ hy,Instr.sliceAt,Instr.slice,run_underlying hT,hB,hk];grind
theorem WP {n:Nat} (h:n<9223372036854775808):IntKind.i64.wrap (n:Int)=n:=by have _:=G;grind [IntKind.wrap_i64]
variable {b:Int}
theorem CU {op:BinOp} {a:Int} (ae:o.op=.binOp op T x y T') (zl:¬(op=.shl\/op=.shr)) (hx:iX l x=some (.int .i64 a)) (hy:iX l y=some (.int .i64 b)) (hr:PB op .i64 a b=some (.cv (.val v))) (w:World):oM P l o v w w:=fun ρ hρ=>by
 obtain ⟨v',h1,_,h3⟩:=rI (P:=P) hr zl T x y w;simp at h1;subst h1;simp only [execOp,ae,hρ _ _ hx,hρ _ _ hy];simp only [Sem.run_bind] at h3 ⊢;simp [h3]
theorem tK {a b:Nat} (ae:o.op=.binOp .add T x y T') (hx:iX l x=some (.int .i64 a)) (hy:iX l y=some (.int .i64 b)) (h:a+b<9223372036854775808) (w:World):oM P l o (.int .i64 ((a+b:Nat):Int)) w w:=
 CU ae (by simp) hx hy (by simp;rw [<- Int.natCast_add,WP h]) w
theorem aEK {a b:Nat} (ae:o.op=.binOp .sub T x y T') (hx:iX l x=some (.int .i64 a)) (hy:iX l y=some (.int .i64 b)) (h:a<9223372036854775808) (hb:b<=a) (w:World):oM P l o (.int .i64 ((a - b:Nat):Int)) w w:=
 CU ae (by simp) hx hy (by simp;grind [WP]) w
theorem TL {a:Int} (ae:o.op=.binOp .eql T x y T') (hx:iX l x=some (.int .i64 a)) (hy:iX l y=some (.int .i64 b)) (w:World):oM P l o (.bool (a == b)) w w:=
 CU ae (by simp) hx hy (by rfl) w
theorem aHj {a:Int} (ae:o.op=.binOp .gtr T x y T') (hx:iX l x=some (.int .i64 a)) (hy:iX l y=some (.int .i64 b)) (w:World):oM P l o (.bool (decide (a > b))) w w:=
 CU ae (by simp) hx hy (by rfl) w
theorem aEL {b:Bool} (ae:o.op=.unOp .not T x) (hx:iX l x=some (.bool b)) (w:World):oM P l o (.bool !b) w w:=have _:=G;fun ρ hρ=>by
 simp [execOp,ae,hρ _ _ hx,Op.unary]
theorem all_one {e:Env} {w:World} {ks:List Nat} (hs:Sl N a l) {x:AV} (hd:lkv l d=some v) (hx:AV.holds e w ks x v):AV.all e w ks (mkT N [(d,x)]) a.tmps.toList:=by
 have key:∀ (xs:List AV) (vs:List Value),xs.length=vs.length->(∀ (i:Nat) (h:i<xs.length) (h':i<vs.length),AV.holds e w ks xs[i] vs[i])->AV.all e w ks xs vs:=by
  intro xs
  induction xs with
  | nil=>grind [AV.all]
  | cons x xs ih =>
   intro vs hl h;cases vs with
   | nil=>grind
   | cons v vs =>
    exact ⟨h 0 (by simp) (by simp),ih vs (by grind) fun i h1 h2=>h (i+1) (by grind) (by grind)⟩
 refine key _ _ (by simp [hs.1]) fun i h1 h2=>?_
 simp;split
 ·rename_i he
  subst he;have:=hs.2 d v hd;have qn:d<a.tmps.size:=by omega
  simp_all [Act.eval]
 ·simp [AV.holds]
theorem xP {f:FuncId} {fn:Func} {c:Code} {args:List AV} {B:List Box} {V:List Vec} {K:AV->List Box->List Vec->Prop} (hf:P.funcs[f]? = some fn) (hb:fn.body=some c)
  (h:∀ (F:Fence) (n:Nat),Free F->F.round=none->W F n P c ⟨args++List.replicate (fn.ntmps - args.length) .any,B,V⟩ fun ex st'=>(ex=.normal\/ex=.ret)/\∃ r,rM P st' fn.results.toList=some r/\K r st'.B st'.V) :
  CallP P f args B V K:=by
 intro F n hF ba n0 w0 e w vs hm hv hs;refine callsIn_of_wp hf hb (hF.fn f) ?_ ba
 have ah:Rel n0 w0 e ⟨args++List.replicate (fn.ntmps - args.length) .any,B,V⟩ { tmps:=vs++Array.replicate (fn.ntmps - vs.size) undef,defers:=[] } w:=by
  have hl:vs.size=args.length:=by have:=hv.length;omega
  refine ⟨?_,?_,hm⟩
  ·simp [hl]
   refine hv.append ?_;generalize fn.ntmps - args.length=k
   induction k with
   | zero=>simp [AV.all]
   | succ k ih=>grind [AV.all,AV.holds]
  grind [AV.scos_iff,AV.sco]
 refine h F n hF ba n0 w0 e _ w _ ah ?_;rintro ex e' st' a' w' ⟨iN,r,hr,hK⟩ cy ac hx;obtain ⟨v,a1,a2,a3⟩:=wZ (fn:=fn) cy hr;rcases iN with rfl | rfl
 ·exact ⟨ac,v,a1,e',st'.B,st'.V,r,v,rfl,hK,cy.mem,hx,a2,a3⟩
 ·exact ⟨ac,v,a1,e',st'.B,st'.V,r,v,rfl,hK,cy.mem,hx,a2,a3⟩
theorem aCO {α:Type} (C X V:List α) (p k m:Nat) (hV:V.length=k) (hX:X.length=p+m) (hC:C.take (p+m)=X) (aj:p+k+m<=C.length) :
  let C1:=have _:=G;C.take (p+k)++X.drop p++C.drop (p+k+m)
  let C2:=C1.take p++V++C1.drop (p+k)
  C2.take (p+k+m)=X.take p++V++X.drop p/\C2.length=C.length:=by
 intro C1 C2;have h3:C2=(X.take p++V++X.drop p)++C.drop (p+k+m):=by grind
 have hl:(X.take p++V++X.drop p).length=p+k+m:=by grind
 refine ⟨by grind,?_⟩
 rw [h3,List.length_append,hl,List.length_drop];omega
theorem aAn {α:Type} (R X V:List α) (p k m:Nat) (hV:V.length=k) (hX:X.length=p+m) (hR:R.take p=X.take p) (aj:p+k+m<=R.length) :
  let R1:=have _:=G;R.take p++V++R.drop (p+k)
  let R2:=R1.take (p+k)++X.drop p++R1.drop (p+k+m)
  R2.take (p+k+m)=X.take p++V++X.drop p/\R2.length=R.length:=by
 intro R1 R2;have gn:R1.length=R.length:=by grind
 have hl:(X.take p++V++X.drop p).length=p+k+m:=by grind
 have h3:R2=(X.take p++V++X.drop p)++R1.drop (p+k+m):=by grind
 refine ⟨by grind,?_⟩
 rw [h3,List.length_append,hl,List.length_drop,gn];omega
variable {cur vs:Array Value} {fz:Nat×Nat}
theorem zK {w:World} {t:TypeId} (h:w.heap[g]? = some (.cells cur t fz)):(w.setRow g vs).heap[g]? = some (.cells vs t fz):=by
 have _:=G;simp [World.setRow,Array.getElem?_modify,h]
theorem uY {w:World} (h:k≠g):(w.setRow g vs).heap[k]? = w.heap[k]?:=by
 have _:=G;simp only [World.setRow,Array.getElem?_modify];grind
theorem zL {w:World}:(w.setRow g vs).heap.size=w.heap.size:=by have _:=G;simp
theorem zM {w:World} {off j:Nat} {t:TypeId} (h:w.heap[g]? = some (.cells cur t fz)):w.cell? ((⟨g,off,none⟩:Addr).add j)=cur[off+j]?:=by
 have _:=G;have kx:(⟨g,off,none⟩:Addr).add j=⟨g,off+j,none⟩:=by unfold Addr.add;simp
 grind [World.cell?]
end
omit G in
theorem aHk {P:Program} {tb:List (Nat×FE×Code)} {its:List (Nat×(List CV->Option (List CV)))} {n f:Nat} {vs:List CV} {fe:FE} {c:Code} (h1:mM f tb=none) (h2:mM f its=none) (h3:¬f<KK) (h4:mM (f - KK) tb=some (fe,c)) :
  den P tb its (n+1) f vs=aAj P (wM tb) (den P tb its n) fe c vs:=by
 simp_all [den,if_neg]
section
variable {n0:Nat} {w0 w:World} {e:Env} {B X:List Box} {V Y:List Vec}
theorem aHl:Ext e w B.length (vers V) (kss (V++Y)) e w B.length (vers V) (kss V):=have _:=G;
 ⟨RO.refl _ _,fun _ _=>rfl,fun _ _ _ _=>rfl,Nat.le_refl _,Nat.le_refl _,fun _ _=>Nat.le_refl _,fun i hi=>by
  grind,Nat.le_refl _,fun _ h=>.inl h,rfl,fun _=>rfl,rfl⟩
theorem Mem.cut (h:Mem n0 w0 e (B++X) (V++Y) w) (dz:∀ b∈B,AV.scos B.length (vers V) b.cs):Mem n0 w0 e B V w:=by
 have gb:∀ {i:Nat} {b:Box},B[i]? = some b->(B++X)[i]? = some b:=fun {i b} hi=>by
  grind
 have gv:∀ {i:Nat} {x:Vec},V[i]? = some x->(V++Y)[i]? = some x:=fun {i b} hi=>by
  grind
 refine ⟨fun i b hi hl=>?_,fun i b hi=>dz b (List.mem_of_getElem? hi),fun i b hi hl=>h.boxlo i b (gb hi) hl,fun i j b b' h1 h2=>h.boxinj i j b b' (gb h1) (gb h2),fun i x hi hl=>h.vec i x (gv hi) hl,fun i x g hi=>h.vecS i x g (gv hi),fun i x j b g h1 l1 h2=>h.vecbox i x j b g (gv h1) l1 (gb h2),fun i x j y g h1 l1 h2=>h.vecinj i x j y g (gv h1) l1 (gv h2),h.ro,h.below,h.base,h.bl,?_⟩
 ·obtain ⟨vs,h1,h2⟩:=h.box i b (gb hi) hl
  exact ⟨vs,h1,AV.all.mono aHl _ _ (dz b (List.mem_of_getElem? hi)) h2⟩
 ·exact ⟨h.hid.obj,fun i b hi=>h.hid.box i b (gb hi),fun i x g hi=>h.hid.vec i x g (gv hi),fun i x hi=>h.hid.gh i x (gv hi),h.hid.own⟩
end
def rtM (T k:Nat) (s:SS):Option Ou:=match s.V[0]? with
 | some v=>if (v.live&&(v.ver == 0&&(v.T == T&&v.k == k)))=true then some (.ret [.row k v.es]) else none
 | none=>none
theorem aHm (T k:Nat) (s:SS) (o:Ou) (h:rtM T k s=some o):∃ l,o=.ret l:=by
 have _:=G;unfold rtM at h;grind
noncomputable def evM (P:Program) (sg:FuncId->Option Sig) (M:Den) (dp:Nat) (fe:FE) (c:Code) (T k:Nat) (cs:List CV) (es:List (List CV)):Option (List CV):=
 if cs.length+1<=fe.n then
  aV (evC P sg M (inN P sg M false dp) (rtM T k) c fe.ht ⟨[],[],[],[0]⟩ [] ⟨fe.n,gW 0 (.own 0 0::cs.map .cv),[],[⟨true,T,k,0,es⟩]⟩ (rtM T k))
 else none
theorem WQ {α:Type} {L L':List α} (_:L.length<=L'.length) (h:∀ j,j<L.length->L'[j]? = L[j]?):L'=L++L'.drop L.length:=by
 have _:=G;refine List.ext_getElem? fun i=>?_
 grind
section
variable {P:Program} {sg:FuncId->Option Sig} {M:Den}
theorem aBo (hM:Fns P sg M) (Hb:∀ vs,M ghT vs=none) {f:FuncId} {fn:Func} {c:Code} {fe:FE} {dp T k:Nat} {cs:List CV} {es es':List (List CV)} (hf:P.funcs[f]? = some fn) (hb:fn.body=some c) (hn:fn.ntmps=fe.n) (hr:fn.results.toList=[])
  (h:evM P sg M dp fe c T k cs es=some [.row k es']):OG P f T k cs es es' false:=by
 intro B V j v hv cu hT hk cn;have hl:=Vec.sl_live cu;have hj:=(List.getElem?_eq_some_iff.1 hv).1;unfold evM at h;split at h
 case isFalse=>cases h
 have aw:evC P sg M (inN P sg M false dp) (rtM T k) c fe.ht ⟨[],[],[],[0]⟩ [] ⟨fe.n,gW 0 (.own 0 0::cs.map .cv),[],[⟨true,T,k,0,es⟩]⟩ (rtM T k)=some (.ret [.row k es']):=by
  unfold aV at h;grind
 have key:CallP P f (.own j v.ver::cs.map .cv) B V fun r B' V'=>r=.tup []/\∃ X Y,B'=B++X/\V'=(V.set j ⟨v.live,v.T,v.k,v.ver,es'⟩)++Y:=by
  refine xP hf hb fun F n hF ba=>?_
  rw [hn,start_eq _ _ (by grind)]
  have hE:Em ⟨[],[j],[v.ver]⟩ ⟨fe.n,gW 0 (.own 0 0::cs.map .cv),[],[⟨true,T,k,0,es⟩]⟩ ⟨mkT fe.n (gW 0 (.own j v.ver::cs.map .cv)),B,V⟩:=by
   refine ⟨?_,qQ _ _ ?_,⟨rfl,rfl,rfl,by simp,?_,?_,by simp,?_⟩⟩
   ·simp [qP,AV.cz,Emb.fv,Emb.fo,Function.comp_def]
   ·simp [AV.inn,AV.inns_eq]
   ·intro i x hi _
    have h1:i<1:=(List.getElem?_eq_some_iff.1 hi).1;obtain rfl:i=0:=by omega
    simp at hi;subst hi;show V[j]? = _;cases v;simp_all [Vec.cz,Emb.fo]
   ·intro i hi
    simp at hi;obtain rfl:i=0:=by omega
    exact hj
   simp
  have fin:∀ (m':Emb) (s':SS) (st':St),rtM T k s'=some (.ret [.row k es'])->Em m' s' st'->Adv ⟨[],[],[],[0]⟩ ⟨[],[j],[v.ver]⟩ ⟨fe.n,gW 0 (.own 0 0::cs.map .cv),[],[⟨true,T,k,0,es⟩]⟩ ⟨mkT fe.n (gW 0 (.own j v.ver::cs.map .cv)),B,V⟩ m' s' st' ->
    ∃ r,rM P st' fn.results.toList=some r/\r=.tup []/\∃ X Y,st'.B=B++X/\st'.V=(V.set j ⟨v.live,v.T,v.k,v.ver,es'⟩)++Y:=by
   intro m' s' st' h1 jl ha;refine ⟨.tup [],by simp_all,rfl,st'.B.drop B.length,st'.V.drop V.length,?_,?_⟩
   ·exact WQ ha.stp.bl fun i hi=>ha.stp.bf i hi (by simp)
   ·unfold rtM at h1
    split at h1
    case h_2=>cases h1
    rename_i x hx;split at h1
    case isFalse=>cases h1
    rename_i hc;simp at hc;obtain ⟨c1,c2,c3,c4⟩:=hc;have h2:=jl.m.v 0 x hx (.inl c1);have h3:m'.fv 0=j:=ha.stp.up.v 0 (by simp)
    have h4:m'.fo 0=v.ver:=ha.o 0 (by simp) (by simp)
    have h5:x.cz m' 0=⟨v.live,v.T,v.k,v.ver,es'⟩:=by
     grind [Vec.cz]
    have:=WQ (L:=V.set j ⟨v.live,v.T,v.k,v.ver,es'⟩) (L':=st'.V) (by simpa using ha.stp.vl) fun i hi=>by
     rw [List.getElem?_set];simp at hi;split
     ·grind
     ·exact ha.stp.vf i hi (by grind)
    grind
  exact nU hM hF (fun il=>LF (cm:=false) (by simp) hM (Yls.none Hb) dp hF il) (aHm T k) c fe.ht _ [] _ _ _ _ _ _ hE aw
   (fun m' s' st' h1 h2 h3=>⟨.inl rfl,fin m' s' st' h1 h2 h3⟩) (fun id h vs m' s' st' h0=>by simp) (fun m' s' st' h1 h2 h3=>⟨.inr rfl,fin m' s' st' h1 h2 h3⟩)
 intro F n hF ba n0 w0 e w vs hm cr hs;refine CallsIn.mono (key F n hF ba n0 w0 e w vs hm cr hs) ?_;rintro en w' ⟨e',B',V',r,u,rfl,⟨rfl,X,Y,rfl,rfl⟩,h1,h2,h3,h4⟩
 have gen:∀ (g:Vec->Nat),g ⟨v.live,v.T,v.k,v.ver,es'⟩=g v->(V.set j ⟨v.live,v.T,v.k,v.ver,es'⟩).map g=V.map g:=by
  intro g hg;refine List.ext_getElem? fun i=>?_
  grind
 have jc:vers (V.set j ⟨v.live,v.T,v.k,v.ver,es'⟩)=vers V:=gen _ rfl;have Hg:kss (V.set j ⟨v.live,v.T,v.k,v.ver,es'⟩)=kss V:=gen _ rfl;refine ⟨e',B,_,.tup [],u,rfl,⟨by simp,rfl,rfl⟩,Mem.cut h1 ?_,?_,?_,by simp⟩
 ·intro b hb
  obtain ⟨i,hi⟩:=List.getElem?_of_mem hb;simp only [Bool.false_eq_true,if_false];rw [jc];exact hm.boxsc i b hi
 ·simp only [Bool.false_eq_true,if_false]
  rw [jc,Hg];exact ⟨h2.ro,h2.ρ,h2.hdr,Nat.le_refl _,Nat.le_refl _,fun _ _=>Nat.le_refl _,fun _ _=>rfl,h2.sz,h2.snew,h2.be,h2.he,h2.ye⟩
 grind [AV.holds,AV.all]
end
end Go.Sx
