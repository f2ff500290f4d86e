/-
 The laws of a pinder's court (plaints) hold at every input, without any condition.
-/
import Derived.RangeFuncLeaves
import Derived.RangeFuncNested
import Derived.Test.YtgpnoeojpmaeiaaGreatP05
set_option linter.unusedSectionVars false
set_option linter.unusedVariables false
set_option linter.unusedSimpArgs false
namespace Go.Sx
open Go Go.RowKit
section
variable (P:Program) (sg:FuncId->Option Sig) (M:Den) (cm:Bool)
noncomputable def evB (inl:List (Option Nat×Hint×HT)->IN) (rt:SS->Option Ou) (c:Code) (ht:HT) (lk:Lk) (env:List (Nat×Hint)) (s:SS) (K:SS->Option Ou):Option Ou:=
 let _:=cm
 evC P sg M inl rt c ht lk env s K
end
end Go.Sx
namespace Go.Sx
open Go Go.RowKit
variable [G:Ghost]
section
variable {F:Fence} {n:Nat} {P:Program} [C:Co P] {sg:FuncId->Option Sig} {M:Den} {rt:SS->Option Ou} {cm:Bool}
theorem JW (fq:cm=true->G.yy=false) (hM:Fns P sg M) (hF:Free F) {inl:List (Option Nat×Hint×HT)->IN} (hI:∀ il,zB F n P (inl il)) (l5:∀ s o,rt s=some o->∃ l,o=.ret l):∀ (c:Code) (ht:HT) (lk:Lk) (env:List (Nat×Hint)) (s:SS) (K:SS->Option Ou) (r:Ou) (m:Emb) (st:St) (Q:Exit->St->Prop),
  Em m s st->evB P sg M cm inl rt c ht lk env s K=some r ->
  (∀ m' s' st',K s'=some r->Em m' s' st'->Adv lk m s st m' s' st'->Q .normal st') ->
  (∀ id h vs m' s' st',kU id env=some h->iK h s'=some vs->r=.br id vs->Em m' s' st'->Adv lk m s st m' s' st'->Q (.exit id) st') ->
  (∀ m' s' st',rt s'=some r->Em m' s' st'->Adv lk m s st m' s' st'->Q .ret st') ->
  W F n P c st Q:=by
 let _:=fq
 intro c ht lk env s K r m st Q hE h hK hX hR;exact iB hM hF hI l5 c ht lk env s K r m st Q hE h hK hX hR
end
section
variable {F:Fence} {n:Nat} {P:Program} [C:Co P]
theorem VU {ops:Array Oper} {l:List Oper} {st s1:St} {Q:St->Prop} (hw:Wk st s1) (h:cE F n P ops l s1 Q):cE F n P ops l st Q:=by
 intro n0 w0 e a w Qr hr hk;have jd:=hw.weak hr;have hx:cL e st w e s1.B s1.V w:=(Ext.refl e w st.B.length (vers st.V) (kss st.V)).weak jd (by rw [hw.Bl];omega) (by rw [hw.V];simp)
 exact h n0 w0 e a w Qr (hr.weak jd) fun e' st' a' w' hq af bq ap=>hk e' st' a' w' hq af bq (hx.trans ap)
theorem PX {N:Nat} {l l1:List (Nat×AV)} {B:List Box} {V:List Vec} (bt:∀ d,d<N->LeS (lk l d) (lk l1 d)):Wk ⟨mkT N l,B,V⟩ ⟨mkT N l1,B,V⟩:=by
 refine ⟨?_,rfl,fun i b1 hb=>⟨b1,hb,fun hl=>⟨hl,rfl,AV.les_refl _⟩⟩,rfl,?_,fun _ _ i b b1 h1 h2 h3=>by grind⟩
 ·have:∀ (ls:List Nat),(∀ d∈ls,d<N)->AV.les (ls.map (lk l)) (ls.map (lk l1)):=by
   intro ls
   induction ls with
   | nil=>intro _;exact .nil
   | cons d ls ih =>
    intro hl;exact .cons (bt d (hl d (by simp))).1 (ih fun d hd=>hl d (by grind))
  exact this _ fun d hd=>by grind
 ·intro nB ws hs
  rw [AV.scos_iff] at hs ⊢;intro y hy;simp [mkT] at hy;obtain ⟨d,hd,rfl⟩:=hy;refine (bt d hd).2 nB ws (hs _ ?_);grind [mkT]
end
def aBl (P:Program) (s:SS):ResultVar->Option AV
 | .tmp t=>some (s.get t)
 | .cell t T=>match s.get t with
  | .ptr i off=>fW P ⟨[],s.B,s.V⟩ T (.ptr i off)
  | _=>none
def rA (P:Program) (s:SS):List ResultVar->Option (List AV)
 | []=>some []
 | r::rs=>match aBl P s r,rA P s rs with
  | some x,some xs=>some (x::xs)
  | _,_=>none
def kV:List AV->AV
 | [x]=>x
 | ys=>.tup ys
def mY (x:Option Ou) (k:List CV->Option Ou):Option Ou:=match x with
 | some (.ret vs)=>k vs
 | _=>none
theorem YS {x:Option Ou} {k:List CV->Option Ou} {r:Ou} (h:mY x k=some r):∃ vs,x=some (.ret vs)/\k vs=some r:=by
 unfold mY at h;grind
def YT (P:Program) (h:Hint) (ks:List Nat) (s:SS) (d:Option Nat) (rs:List ResultVar) (s':SS):Option Ou:=
 match rA P s' rs with
 | some ys=>(iK h ((s.kept ks).put d (kV ys) s'.B s'.V)).map .ret
 | none=>none
abbrev EV:=(SS->Option Ou)->Code->HT->Lk->SS->(SS->Option Ou)->Option Ou
def eP (h:Hint) (lk:Lk) (s:SS):Lk:=⟨[],(dD h lk s).b,(dD h lk s).v,(List.range s.V.length).filter fun i=>!h.vxu.contains i⟩
def aJ8 (n:Nat):List AV->Bool
 | .own j _::_=>j == n
 | _=>false
def YU:AV->AV
 | .fn f xs=>match dX xs with
  | some cs=>.cv (.fn f cs)
  | none=>.fn f xs
 | x=>x
def aFE (sg:FuncId->Option Sig) (M:Den) (lk:Lk) (s:SS) (hdr:Bool) (f:FuncId) (xs:List AV) (K:AV->Nat->Vec->Option Ou):Option Ou:=match sg f with
 | none=>match xs with
  | .own i u::ys=>match s.V[i]?,dX (ys.map YU) with
   | some v,some cs=>if (v.sl&&(v.ver == u&&!lk.v.contains i))=true then
     aA (M f (.row v.k v.es::.fn v.T []::cs)) fun out=>chk (lU v.k hdr out) (K (if hdr=true then .own i (v.ver+1) else .tup []) i ⟨v.live,v.T,v.k,if hdr=true then v.ver+1 else v.ver,cR (out.getD 0 dC)⟩)
    else none
   | _,_=>none
  | _=>none
 | some _=>none
def iZ:AV->Option (FuncId×List AV×List AV)
 | .cv (.fn f caps)=>some (f,[],caps.map .cv)
 | .cv (.val (.func (.func f) ⟨[]⟩ ⟨[]⟩))=>some (f,[],[])
 | .fn f [.gd [false] .any,x]=>some (f,[x],[])
 | .fn f caps=>if sS caps=true then none else some (f,[],caps)
 | _=>none
def MS (s:SS) (sh:YSh) (xs:List AV):Option (Bool×List CV):=match sh with
 | .clo cs=>match fP s.B s.V cs xs with
  | some (l,false)=>some (true,l)
  | _=>none
 | .lent T k=>match xs with
  | [.own i g]=>match s.V[i]? with
   | some v=>if (v.sl&&(v.ver == g&&(v.T == T&&v.k == k)))=true then some (gQ v.es,[.row k v.es]) else none
   | none=>none
  | _=>none
def lfC:Lf->CV
 | .int k=>.val (.int k 0)
 | .bool=>.val (.bool true)
 | .row k=>.row k []
 | .ref=>.ref []
 | .raw=>.fn 0 []
 | .mp k=>.mp k []
def scC:Sc->List CV
 | .one l=>[lfC l]
 | .agg ls=>dC::ls.map lfC
def shC:YSh->CV
 | .lent T k=>.fn T [.row k []]
 | .clo cs=>.row 0 (cs.map scC)
def aFF (M:Den) (lk:Lk) (s:SS) (sh:YSh) (x:AV) (xs:List AV) (K:Bool->Vec->Option Ou):Option Ou:=match x with
 | .cv (.val (.func (.yield l) ⟨[]⟩ ⟨[]⟩))=>match s.V[0]?,MS s sh xs with
  | some gv,some (b,cs)=>if (gv.T == ghT&&!lk.v.contains 0)=true then
    chk b (aA (M ghT (.val (.func (.yield l) #[] #[])::shC sh::.row 0 gv.es::cs)) fun out=>K (cB (out.getD 0 dC)) ⟨gv.live,gv.T,gv.k,gv.ver,cR (out.getD 1 dC)⟩)
   else none
  | _,_=>none
 | _=>none
def aFG (M:Den) (lk:Lk) (s:SS) (sh:YSh) (x y:AV) (K:Vec->Option Ou):Option Ou:=match x,sh with
 | .cv (.val (.chan (some c))),.clo _=>match s.V[0]?,MS s sh [y] with
  | some gv,some (b,cs)=>if (gv.T == ghT&&!lk.v.contains 0)=true then
    chk b (aA (M ghT (.val (.chan (some c))::shC sh::.row 0 gv.es::cs)) fun out=>K ⟨gv.live,gv.T,gv.k,gv.ver,cR (out.getD 1 dC)⟩)
   else none
  | _,_=>none
 | _,_=>none
noncomputable def aBm (P:Program) (sg:FuncId->Option Sig) (M:Den) (ev:EV) (il:List (Option Nat×Hint×HT)):IN:=fun lk s o next =>
 match aE1 o.dst il with
 | none=>none
 | some (_,.rt as)=>some (match o.guard,nR as lk s with
  | none,some s1=>evO P sg M lk false 0 s1 o fun x B V=>next (s1.put o.dst x B V)
  | _,_=>none)
 | some (_,.mt hdr)=>some (match o.guard,o.op with
  | none,.call { callee:=.value (.func f),args,.. }=>aFE sg M lk s hdr f (args.toList.map s.ev) fun x i v=>next (s.put o.dst x s.B (s.V.set i v))
  | _,_=>none)
 | some (_,.yl sh)=>some (match o.op with
  | .call { callee:=.value x,args,.. }=>aFF M lk s sh (s.ev x) (args.toList.map s.ev) fun b gv=>next (s.put o.dst (.cv (.val (.bool b))) s.B (s.V.set 0 gv))
  | .send ch x=>aFG M lk s sh (s.ev ch) (s.ev x) fun gv=>next (s.put o.dst .any s.B (s.V.set 0 gv))
  | _=>none)
 | some (h,ht)=>some (
  match o.op with
  | .call { callee:=.value x,args,argTypes:=_ } =>
   match iZ (s.ev x) with
   | some (f,pre,caps) =>
    match P.funcs[f]? with
    | some fn=>match fn.body with
     | some c =>
      if (dS P f&&(fM h lk s&&(cM (dD h lk s) o.dst&&decide ((pre++(args.toList.map s.ev++caps)).length<=fn.ntmps))))=true then
       mY (ev (YT P h (h.keep++lk.t) s o.dst fn.results.toList) c ht (eP h lk s) ⟨fn.ntmps,dB 0 (pre++(args.toList.map s.ev++caps)),s.B,s.V⟩ (YT P h (h.keep++lk.t) s o.dst fn.results.toList)) fun vs=>next (bF h lk s vs)
      else none
     | none=>none
    | none=>none
   | none=>none
  | _=>none)
structure FE where
 n:Nat
 rs:List ResultVar
 ht:HT
 g:Sig
section
variable (P:Program) (sg:FuncId->Option Sig) (M:Den)
def Sc.lvs:List Sc->List Lf
 | []=>[]
 | .one l::cs=>l::Sc.lvs cs
 | .agg ls::cs=>ls++Sc.lvs cs
def DB:List Lf->List CV->List CV
 | .row k::ls,.val (.slice none 0 0)::cs=>.row k []::DB ls cs
 | _::ls,c::cs=>c::DB ls cs
 | _,cs=>cs
def rtF (rs:List ResultVar) (gr:List Sc) (s:SS):Option Ou:=
 match rA P s rs with
 | some xs=>match fP s.B s.V gr xs with
  | some (l,_)=>some (.ret (DB (Sc.lvs gr) l))
  | none=>none
 | none=>none
def aJ:Option Ou->Option (List CV)
 | some (.ret l)=>some l
 | _=>none
noncomputable def inN (cm:Bool):Nat->List (Option Nat×Hint×HT)->IN
 | 0=>fun _=>aFw
 | k+1=>aBm P sg M fun rt c ht lk s K=>evB P sg M cm (inN cm k) rt c ht lk [] s K
end
section
variable {P:Program} [C:Co P] {sg:FuncId->Option Sig} {M:Den}
theorem MT:∀ (ls:List Lf) (cs:List CV) (k:Nat) (l:Lf),ls[k]? = some l->l.av ((DB ls cs).getD k dC)=l.av (cs.getD k dC)
 | [],cs,k,l,h=>by rfl
 | a::ls,[],k,l,h=>by grind [DB]
 | a::ls,c::cs,0,l,h=>by
  simp at h;unfold DB;grind [Lf.av,cR]
 | a::ls,c::cs,k+1,l,h=>by
  have ih:=MT ls cs k l h;unfold DB;grind
theorem PY {ls:List Lf} {cs:List CV}:∀ (sub:List Lf) (o:Nat),(∀ i l,sub[i]? = some l->ls[o+i]? = some l)->avs sub (DB ls cs) o=avs sub cs o
 | [],o,_=>rfl
 | l::sub,o,h=>by
  simp only [avs];rw [MT ls cs o l (by simpa using h 0 l rfl),PY sub (o+1) fun i x hx=>by rw [show o+1+i=o+(i+1) by omega];simp_all]
theorem FR {ls:List Lf} {cs:List CV}:∀ (gs:List Sc) (o:Nat),(∀ i l,(Sc.lvs gs)[i]? = some l->ls[o+i]? = some l)->Sc.avs gs (DB ls cs) o=Sc.avs gs cs o
 | [],o,_=>rfl
 | .one l::gs,o,h=>by
  simp only [Sc.avs,Sc.av,Sc.n];rw [MT ls cs o l (by simpa using h 0 l rfl),FR gs (o+1) fun i x hx=>by rw [show o+1+i=o+(i+1) by omega];simp_all [Sc.lvs]]
 | .agg sub::gs,o,h=>by
  simp only [Sc.avs,Sc.av,Sc.n]
  rw [PY sub o fun i l hl=>h i l (by grind [Sc.lvs]),
   FR gs (o+sub.length) fun i x hx=>by
    rw [show o+sub.length+i=o+(sub.length+i) by omega]
    simp_all [Sc.lvs,List.getElem?_append_right]]
theorem aBn (gs:List Sc) (cs:List CV):Sc.res gs (DB (Sc.lvs gs) cs)=Sc.res gs cs:=by
 have key:=FR (ls:=Sc.lvs gs) (cs:=cs) gs 0 fun i l h=>by grind
 unfold Sc.res;grind [Sc.avs]
variable {f:FuncId}
theorem CallP.res {args:List AV} {B:List Box} {V:List Vec} {K K':AV->List Box->List Vec->Prop} (h:CallP P f args B V K) (hk:∀ r B V,K r B V->∃ r',LeS r r'/\K' r' B V):CallP P f args B V K':=
 fun F n h1 h2 n0 w0 e w vs h3 h4 h5=>CallsCo.mono (h F n h1 h2 n0 w0 e w vs h3 h4 h5) fun en w' ⟨e',B',V',r,v,a1,a2,a3,a4,a5,a6⟩=>by
  obtain ⟨r',q1,q2⟩:=hk _ _ _ a2;exact ⟨e',B',V',r',v,a1,q2,a3,a4,q1.1 _ _ _ _ a5,q1.2 _ _ a6⟩
variable {m:Emb} {s:SS} {st:St} {x:AV}
theorem YV (hE:Em m s st) {r:ResultVar} (h:aBl P s r=some x):xJ P st r=some (x.cz m):=by
 unfold aBl at h;split at h
 ·cases h
  simp only [xJ,hE.get]
 ·rename_i t T
  split at h
  ·rename_i i off hx
   unfold fW at h;simp only [xJ,hE.get,hx,AV.cz];cases ai:aZ P T with
   | none=>grind
   | some ti =>
    simp only [ai] at h;split at h
    ·rename_i b hb
     obtain ⟨co,lz⟩:=hE.m.b i b hb;split at h
     ·simp only [fW,co,Box.cz,AV.czs_eq]
      split at h
      ·split at h
       ·injection h with h;subst h
        simp_all [AV.cz,AV.czs_eq]
       grind
      grind
     grind
    grind
  grind
theorem rX {m:Emb} {s:SS} {st:St} (hE:Em m s st):∀ {rs:List ResultVar} {xs:List AV},rA P s rs=some xs->mH P st rs=some (AV.czs m xs)
 | [],xs,h=>by grind [rA,mH,AV.czs]
 | r::rs,xs,h=>by
  simp only [rA] at h;split at h
  ·rename_i x xs' h1 h2
   cases h;simp only [mH,YV hE h1,rX hE h2,AV.czs]
  ·cases h
theorem lV (f:AV->AV):∀ (xs:List AV) (k:Nat),(dB k xs).map (fun p=>(p.1,f p.2))=dB k (xs.map f)
 | [],k=>by rfl
 | x::xs,k=>by simp [dB,lV f xs (k+1)]
theorem kA {nb nv:Nat}:∀ (xs:List AV) (k:Nat),AV.inns nb nv xs=true->∀ p∈dB k xs,AV.inn nb nv p.2=true
 | [],k,_,p,h=>by simp_all
 | x::xs,k,hx,p,h=>by
  simp [AV.inns] at hx;simp at h;rcases h with rfl | h
  ·grind
  ·exact kA xs (k+1) hx.2 p h
variable {rs:List ResultVar}
theorem aDE {gr:List Sc} (s:SS) (o:Ou) (h:rtF P rs gr s=some o):∃ l,o=.ret l:=by
 unfold rtF at h;grind
theorem aBo {B:List Box} {V:List Vec}:∀ {ys:List AV} {cs:List Sc} {out:List CV},AV.les (AV.lends B V ys) (Sc.avs cs out 0)->AV.le (AV.lend B V (kV ys)) (Sc.res cs out)
 | [],cs,out,h=>by
  cases cs with
  | nil=>exact AV.le_refl _
  | cons c cs=>cases h
 | [y],cs,out,h=>by
  cases cs with
  | nil=>cases h
  | cons c cs =>
   cases cs with
   | nil =>
    cases h with
    | cons h1 _=>exact h1
   | cons d cs =>
    cases h with
    | cons _ h2=>cases h2
 | y::z::ys,cs,out,h=>by
  cases cs with
  | nil=>cases h
  | cons c cs =>
   cases cs with
   | nil =>
    cases h with
    | cons _ h2=>cases h2
   | cons d cs =>
    intro e w ks v hv;obtain ⟨vs',h1,h2⟩:=hv;exact ⟨vs',h1,h.all h2⟩
variable {xs:List AV}
theorem BA (h:mH P st rs=some xs):nM P st rs=some (kV xs):=by
 unfold nM;rw [h];cases xs with
 | nil=>rfl
 | cons x xs=>cases xs <;> rfl
theorem aBp (hE:Em m s st) {r:ResultVar} (h:aBl P s r=some x):AV.inn s.B.length s.V.length x=true:=by
 unfold aBl at h;split at h
 ·cases h;exact hE.inn _
 ·split at h
  ·rename_i t T _ i off hx
   unfold fW at h;cases ai:aZ P T with
   | none=>grind
   | some ti =>
    simp [ai] at h;split at h
    ·rename_i b hb
     obtain ⟨_,lz⟩:=hE.m.b i b hb;grind [AV.inns_eq,AV.inn]
    grind
  grind
theorem JX {m:Emb} {s:SS} {st:St} (hE:Em m s st):∀ {rs:List ResultVar} {xs:List AV},rA P s rs=some xs->AV.inns s.B.length s.V.length xs=true
 | [],xs,h=>by simp [rA] at h;subst h;rfl
 | r::rs,xs,h=>by
  simp only [rA] at h;split at h
  ·rename_i x xs' h1 h2
   cases h;simp only [AV.inns,aBp hE h1,JX hE h2,Bool.and_self]
  ·cases h
theorem aBq (m:Emb) (ys:List AV):(kV ys).cz m=kV (AV.czs m ys):=by
 cases ys with
 | nil=>rfl
 | cons y ys=>cases ys <;> simp [kV,AV.cz,AV.czs]
theorem YW {nb nv:Nat} {ys:List AV} (h:AV.inns nb nv ys=true):AV.inn nb nv (kV ys)=true:=by
 cases ys with
 | nil=>rfl
 | cons y ys =>
  cases ys with
  | nil=>grind [kV,AV.inns]
  | cons z ys=>grind [kV,AV.inn]
variable {o:Oper} {rest:List Oper} {Q:St->Prop} {args:Array Operand} {ts:Array TypeId} {pre caps:List AV}
theorem TE {F:Fence} {n:Nat} {ops:Array Oper} (hF:Free F) {x:Operand}
  (aa:o.op=.call { callee:=.value x,args,argTypes:=ts }) (hx:iZ (st.ev x)=some (f,pre,caps))
  (da:Ent P f)
  (h:CallP P f (pre++(args.toList.map st.ev++caps)) st.B st.V fun r B' V'=>cE F n P ops rest (st.put o.dst r B' V') Q):OT F n P ops o rest st Q:=by
 unfold iZ at hx;split at hx
 ·rename_i g cs hg
  cases hx;exact qV hF aa (by rw [hg];rfl) da (by grind)
 ·rename_i g hg
  cases hx;intro n0 w0 e a w Qr hr hk;have cr:=(hr.ev x).1;rw [hg] at cr;refine yV aa cr.1 da fun w₁ hw₁=>?_
  obtain ⟨cf,ar⟩:=hr.rely hw₁;have b8:=cf.evs args.toList;refine CallsCo.mono (h F.plain (n - 1) hF.plain rfl n0 w0 e w₁ (#[]++args.map a.eval++#[]) cf.mem (by simpa using b8.1) (by simpa using b8.2)) ?_
  rintro en w' ⟨e',B',V',r,v,rfl,hK,hm,mq,kz,dj⟩;have ba:=cf.put hm mq kz dj o.dst;exact ⟨v,rfl,hK n0 w0 e' _ w' Qr ba fun e'' st' a' w'' hq af bq hx=>hk e'' st' a' w'' hq af (by rw [bq];cases o.dst <;> rfl) (ar.trans (mq.trans hx))⟩
 ·rename_i g y hg
  cases hx;intro n0 w0 e a w Qr hr hk;have cr:=hr.ev x;rw [hg] at cr;obtain ⟨⟨vs,h1,h2⟩,h3⟩:=cr
  obtain ⟨us,xe,rfl⟩:∃ us:Array Value,us.size=1/\vs=#[undef]++us:=by
   match hv:vs.toList with
   | []=>grind [AV.all]
   | u::us =>
    rw [hv] at h2;have hl:=h2.length;have hu:u=undef:=h2.1.2 (by simp)
    exact ⟨us.toArray,by grind,by grind⟩
  rw [show pQ [.gd [false] .any,y]=true from rfl,OG _ xe] at h1;simp at h2;refine yV (first:=us) (cvs:=#[]) aa h1 da fun w₁ hw₁=>?_
  obtain ⟨cf,ar⟩:=hr.rely hw₁;have b8:=cf.evs args.toList;have yt:=AV.all.mono ar [y] us.toList h3.2 h2.2;refine CallsCo.mono (h F.plain (n - 1) hF.plain rfl n0 w0 e w₁ (us++args.map a.eval++#[]) cf.mem ?_ ?_) ?_
  ·simpa using yt.append b8.1
  ·have:=h3.2
   have:=b8.2;simp_all
  rintro en w' ⟨e',B',V',r,v,rfl,hK,hm,mq,kz,dj⟩;have ba:=cf.put hm mq kz dj o.dst;exact ⟨v,rfl,hK n0 w0 e' _ w' Qr ba fun e'' st' a' w'' hq af bq hx=>hk e'' st' a' w'' hq af (by rw [bq];cases o.dst <;> rfl) (ar.trans (mq.trans hx))⟩
 ·split at hx
  ·cases hx
  ·cases hx
   refine qV hF aa ?_ da (by simpa using h)
   have:pQ caps=false:=by
    match caps with
    | []=>rfl
    | .gd _ _::_=>grind [sS]
    | .any::_=>rfl
    | .cv _::_=>rfl
    | .ptr _ _::_=>rfl
    | .own _ _::_=>rfl
    | .opt _ _ _ _::_=>rfl
    | .agg _::_=>rfl
    | .tup _::_=>rfl
    | .fn _ _::_=>rfl
   simp_all
 grind
theorem YX (m:Emb) (h:sS xs=false):sS (AV.czs m xs)=false:=by
 match xs with
 | []=>rfl
 | .gd _ _::_=>grind [sS]
 | .any::_=>rfl
 | .cv _::_=>rfl
 | .ptr _ _::_=>rfl
 | .own _ _::_=>rfl
 | .opt _ _ _ _::_=>rfl
 | .agg _::_=>rfl
 | .tup _::_=>rfl
 | .fn _ _::_=>rfl
theorem TF (h:sS caps=false):iZ (.fn f caps)=some (f,[],caps):=by
 match caps with
 | []=>rfl
 | .gd _ _::_=>grind [sS]
 | .any::_=>rfl
 | .cv _::_=>rfl
 | .ptr _ _::_=>rfl
 | .own _ _::_=>rfl
 | .opt _ _ _ _::_=>rfl
 | .agg _::_=>rfl
 | .tup _::_=>rfl
 | .fn _ _::_=>rfl
theorem TG (m:Emb) (h:iZ x=some (f,pre,caps)):iZ (x.cz m)=some (f,AV.czs m pre,AV.czs m caps):=by
 unfold iZ at h;split at h
 ·cases h
  simp [AV.czs_eq,AV.cz,iZ]
 ·grind [AV.cz,AV.czs,iZ]
 ·grind [AV.cz,AV.czs,iZ]
 ·split at h
  ·cases h
  ·rename_i ia
   cases h;simp [AV.cz];rw [TF (YX m (eq_false_of_ne_true ia))];rfl
 grind
theorem PZ {nb nv:Nat} (hx:AV.inn nb nv x=true) (h:iZ x=some (f,pre,caps)):AV.inns nb nv pre=true/\AV.inns nb nv caps=true:=by
 unfold iZ at h;grind [AV.inns_eq,AV.inn]
theorem YY {k:Nat} {hdr:Bool} {out:List CV} (h:lU k hdr out=true):∃ es',out=[.row k es',.val (.bool hdr)]:=by
 unfold lU at h;grind
theorem QA (m:Emb):∀ {ys:List AV} {cs:List CV},dX (ys.map YU)=some cs->AV.les (AV.czs m ys) (cs.map .cv)
 | [],cs,h=>by simp [dX] at h;subst h;exact .nil
 | y::ys,cs,h=>by
  have hy:∃ c cs',YU y=.cv c/\dX (ys.map YU)=some cs'/\cs=c::cs':=by
   rw [List.map_cons] at h;cases hc:YU y <;> rw [hc] at h <;> simp [dX] at h;obtain ⟨a,h1,h2⟩:=h;exact ⟨_,a,rfl,h1,h2.symm⟩
  obtain ⟨c,cs',h1,h2,rfl⟩:=hy;refine .cons ?_ (QA m h2);cases y <;> simp [YU] at h1
  ·subst h1;simp [AV.cz];exact AV.le_refl _
  ·split at h1
   ·rename_i ds qp
    cases h1;simp only [AV.cz,AV.czs_eq,eG qp];intro e w ks v hv;obtain ⟨vs,a1,a2⟩:=hv;rw [VB] at a1;exact ⟨vs,a1,jO a2⟩
   ·cases h1
variable {lk:Lk} {ops:List Oper} {r:Ou} {next:SS->Option Ou}
theorem aDF (hM:Fns P sg M) {F:Fence} {n:Nat} (hF:Free F) {hdr:Bool} (hE:Em m s st) (hw:Wants ops o st true) (hd:cM lk o.dst=true)
  (aa:o.op=.call { callee:=.value (.func f),args:=args,argTypes:=ts }) (h:(aFE sg M lk s hdr f (args.toList.map s.ev) fun x i v=>next (s.put o.dst x s.B (s.V.set i v)))=some r)
  (hk:∀ m' s' st',next s'=some r->Em m' s' st'->Adv lk m s st m' s' st'->cE F n P ops.toArray rest st' Q):cE F n P ops.toArray (o::rest) st Q:=by
 unfold aFE at h;split at h
 case h_2=>cases h
 rename_i qy;split at h
 case h_2=>cases h
 rename_i i u ys js;split at h
 case h_2=>cases h
 rename_i v cs hv bc;split at h
 case isFalse=>cases h
 rename_i hc;simp at hc;obtain ⟨dg,rfl,dc⟩:=hc;obtain ⟨out,h1,h2⟩:=dK h;obtain ⟨h3,h6⟩:=aW h2;obtain ⟨es',rfl⟩:=YY h3;obtain ⟨da,hI⟩:=hM.mtt f v.T v.k cs v.es es' hdr qy h1;have ah:=(List.getElem?_eq_some_iff.1 hv).1;have cx:=hE.m.v i v hv (.inl (Vec.sl_live dg))
 have ac:args.toList.map st.ev=.own (m.fv i) ((v.cz m i).ver)::AV.czs m ys:=by
  have:=bS hE args.toList;grind [AV.czs_eq,AV.cz,Vec.cz]
 have oe:=hI st.B st.V (m.fv i) (v.cz m i) cx dg rfl rfl rfl;refine dM hw (qV hF aa (f:=f) (caps:=[]) (by simp) (enters da) ?_)
 rw [List.append_nil,ac];have jr:=(List.getElem?_eq_some_iff.1 cx).1
 have dj:AV.scos st.B.length (vers st.V) (.own (m.fv i) ((v.cz m i).ver)::cs.map .cv):=by
  refine ⟨⟨by simpa using jr,?_⟩,AV.scos_cv _ _ _⟩
  simp [List.getD,cx]
 refine CallP.mono (CallP.args oe (.cons (AV.le_refl _) (QA m bc)) dj) ?_;rintro r' B' V' ⟨rfl,rfl,rfl⟩;have fy:¬lk.v.contains i=true:=by grind
 have hA:(if hdr=true then AV.own i (v.ver+1) else AV.tup []).cz m=(if hdr=true then AV.own (m.fv i) ((v.cz m i).ver+1) else AV.tup []):=by
  grind [AV.cz,AV.czs,Vec.cz]
 have hV:(⟨(v.cz m i).live,(v.cz m i).T,(v.cz m i).k,if hdr=true then (v.cz m i).ver+1 else (v.cz m i).ver,es'⟩:Vec)=(⟨v.live,v.T,v.k,if hdr=true then v.ver+1 else v.ver,es'⟩:Vec).cz m i:=by
  grind [Vec.cz]
 rw [hV,<- hA]
 have dm:AV.inn s.B.length (s.V.set i (⟨v.live,v.T,v.k,if hdr=true then v.ver+1 else v.ver,es'⟩:Vec)).length (if hdr=true then AV.own i (v.ver+1) else AV.tup [])=true:=by
  cases hdr
  ·rfl
  grind [AV.inn]
 refine hk m _ _ h6 (hE.put (hE.m.setV ah) (Emb.Up.refl _) (fun _ _=>rfl) (Nat.le_refl _) (by simp) dm o.dst)
  (Adv.put hd (Stp.setV hE.m ah _) (Nat.le_refl _) (by simp) (fun _ _ _=>rfl) (kS fy) (fun _ _=>rfl))
structure Yls (P:Program) [Co P] (M:Den):Prop where
 y:∀ (l:Nat) (sh:YSh) (es:List (List CV)) (x out:List CV),M ghT (.val (.func (.yield l) #[] #[])::shC sh::.row 0 es::x)=some out->lG P l sh es x (cB (out.getD 0 dC)) (cR (out.getD 1 dC))
 s:∀ (c:Nat) (sh:YSh) (es:List (List CV)) (x out:List CV),M ghT (.val (.chan (some c))::shC sh::.row 0 es::x)=some out->zD P c sh es x (cR (out.getD 1 dC))
theorem aDG (hY:Yls P M) {F:Fence} {n:Nat} (hF:Free F) {x:Operand} {sh:YSh} (hE:Em m s st) (hw:Wants ops o st true) (hd:cM lk o.dst=true)
  (aa:o.op=.call { callee:=.value x,args:=args,argTypes:=ts }) (h:(aFF M lk s sh (s.ev x) (args.toList.map s.ev) fun b gv=>next (s.put o.dst (.cv (.val (.bool b))) s.B (s.V.set 0 gv)))=some r)
  (hk:∀ m' s' st',next s'=some r->Em m' s' st'->Adv lk m s st m' s' st'->cE F n P ops.toArray rest st' Q):cE F n P ops.toArray (o::rest) st Q:=by
 unfold aFF at h;split at h
 case h_2=>cases h
 rename_i l hx;split at h
 case h_2=>cases h
 rename_i gv b cs hg bc;split at h
 case isFalse=>cases h
 rename_i hc;simp at hc;obtain ⟨j8,dc⟩:=hc;obtain ⟨hb,h1⟩:=aW h;obtain ⟨out,h2,h3⟩:=dK h1;subst hb;have ah:=(List.getElem?_eq_some_iff.1 hg).1;have cx:=hE.m.v 0 gv hg (.inr j8);have cr:st.ev x=.cv (.val (.func (.yield l) #[] #[])):=by rw [hE.ev,hx];rfl
 have vh:args.toList.map st.ev=AV.czs m (args.toList.map s.ev):=bS hE args.toList
 have ac:VS st sh (args.toList.map st.ev) cs:=by
  rw [vh];unfold MS at bc;split at bc
  ·split at bc
   ·rename_i l' hl
    cases bc;exact ((dY hE.m hl).2 rfl).1
   grind
  ·split at bc
   ·rename_i i g js
    split at bc
    ·rename_i v hv
     split at bc
     ·rename_i l4
      simp at l4;obtain ⟨c1,c2,c3,c4⟩:=l4;simp at bc;obtain ⟨c5,rfl⟩:=bc;have jm:=hE.m.v i v hv (.inl (Vec.sl_live c1));refine ⟨m.fv i,v.cz m i,?_,jm,c1,c3,c4,rfl,c5⟩;grind [AV.czs,AV.cz,Vec.cz]
     grind
    grind
   grind
 have ms:=hY.y l sh gv.es cs out h2;intro n0 w0 e a w Qr hr gm;have h0:m.fv 0=0:=(hr.mem.hid.gh _ _ cx j8).1;have hA:(AV.cv (.val (.bool (cB (out.getD 0 dC))))).cz m=.cv (.val (.bool (cB (out.getD 0 dC)))):=by rfl
 have fy:¬lk.v.contains 0=true:=by grind
 have vj:cE F n P ops.toArray (o::rest) st Q:=by
  have fh:st.V[0]? = some (gv.cz m 0):=by grind
  refine dM hw (TD hF aa cr fh (show (gv.cz m 0).T=ghT from j8) ac ms ?_);have hV:st.V.set 0 ⟨(gv.cz m 0).live,(gv.cz m 0).T,(gv.cz m 0).k,(gv.cz m 0).ver,cR (out.getD 1 dC)⟩=st.V.set (m.fv 0) ((⟨gv.live,gv.T,gv.k,gv.ver,cR (out.getD 1 dC)⟩:Vec).cz m 0):=by rw [h0];rfl
  rw [hV,<- hA]
  exact hk m _ _ h3 (hE.put (hE.m.setV ah) (Emb.Up.refl _) (fun _ _=>rfl) (Nat.le_refl _) (by simp) (by rfl) o.dst)
   (Adv.put hd (Stp.setV hE.m ah _) (Nat.le_refl _) (by simp) (fun _ _ _=>rfl) (kS fy) (fun _ _=>rfl))
 exact vj n0 w0 e a w Qr hr gm
theorem aDH (hY:Yls P M) {F:Fence} {n:Nat} {ch x:Operand} {sh:YSh} (hE:Em m s st) (hw:Wants ops o st true) (hd:cM lk o.dst=true)
  (aa:o.op=.send ch x) (h:(aFG M lk s sh (s.ev ch) (s.ev x) fun gv=>next (s.put o.dst .any s.B (s.V.set 0 gv)))=some r)
  (hk:∀ m' s' st',next s'=some r->Em m' s' st'->Adv lk m s st m' s' st'->cE F n P ops.toArray rest st' Q):cE F n P ops.toArray (o::rest) st Q:=by
 unfold aFG at h;split at h
 case h_2=>cases h
 rename_i c cs' hx;split at h
 case h_2=>cases h
 rename_i gv b cs hg bc;split at h
 case isFalse=>cases h
 rename_i hc;simp at hc;obtain ⟨j8,dc⟩:=hc;obtain ⟨hb,h1⟩:=aW h;obtain ⟨out,h2,h3⟩:=dK h1;subst hb;have ah:=(List.getElem?_eq_some_iff.1 hg).1;have cx:=hE.m.v 0 gv hg (.inr j8);have cr:st.ev ch=.cv (.val (.chan (some c))):=by rw [hE.ev,hx];rfl
 have ac:VS st (.clo cs') [st.ev x] cs:=by
  rw [hE.ev];simp only [MS] at bc;split at bc
  ·rename_i l' hl
   cases bc;exact ((dY hE.m hl).2 rfl).1
  ·cases bc
 have ms:=hY.s c (.clo cs') gv.es cs out h2;intro n0 w0 e a w Qr hr gm;have h0:m.fv 0=0:=(hr.mem.hid.gh _ _ cx j8).1;have fy:¬lk.v.contains 0=true:=by grind
 have vj:cE F n P ops.toArray (o::rest) st Q:=by
  have fh:st.V[0]? = some (gv.cz m 0):=by grind
  refine dM hw (YQ aa cr fh (show (gv.cz m 0).T=ghT from j8) ⟨cs',rfl⟩ ac ms ?_);have hV:st.V.set 0 ⟨(gv.cz m 0).live,(gv.cz m 0).T,(gv.cz m 0).k,(gv.cz m 0).ver,cR (out.getD 1 dC)⟩=st.V.set (m.fv 0) ((⟨gv.live,gv.T,gv.k,gv.ver,cR (out.getD 1 dC)⟩:Vec).cz m 0):=by rw [h0];rfl
  rw [hV,show AV.any=AV.any.cz m from rfl]
  exact hk m _ _ h3 (hE.put (hE.m.setV ah) (Emb.Up.refl _) (fun _ _=>rfl) (Nat.le_refl _) (by simp) (by rfl) o.dst)
   (Adv.put hd (Stp.setV hE.m ah _) (Nat.le_refl _) (by simp) (fun _ _ _=>rfl) (kS fy) (fun _ _=>rfl))
 exact vj n0 w0 e a w Qr hr gm
def aIO (P:Program) [Co P] (ev:EV):Prop:=
 ∀ (F:Fence) (n:Nat),Free F->∀ (rt:SS->Option Ou),(∀ s o,rt s=some o->∃ l,o=.ret l)->∀ (c:Code) (ht:HT) (lk:Lk) (s:SS) (K:SS->Option Ou) (r:Ou) (m:Emb) (st:St) (Q:Exit->St->Prop),
  Em m s st->ev rt c ht lk s K=some r->(∀ m' s' st',K s'=some r->Em m' s' st'->Adv lk m s st m' s' st'->Q .normal st')->(∀ m' s' st',rt s'=some r->Em m' s' st'->Adv lk m s st m' s' st'->Q .ret st')->W F n P c st Q
theorem aBr {h:Hint} {ks:List Nat} {s0:SS} {d:Option Nat} (s:SS) (o:Ou) (hh:YT P h ks s0 d rs s=some o):∃ l,o=.ret l:=by
 unfold YT at hh;grind [Option.map_eq_some_iff]
theorem Adv.lkle {lk':Lk} {m':Emb} {s':SS} {st':St} (h:Adv lk m s st m' s' st') (ht:∀ d∈lk'.t,d∈lk.t) (hb:∀ d∈lk'.b,d∈lk.b) (hv:∀ d∈lk'.v,d∈lk.v) (ho:∀ d∈lk'.o,d∈lk.o):Adv lk' m s st m' s' st':=
 ⟨h.stp,h.n,h.bl,h.vl,fun d hd=>h.t d (ht d hd),fun d hd=>h.b d (hb d hd),fun d hd=>h.v d (hv d hd),fun d hd=>h.o d (ho d hd)⟩
theorem aFH {F:Fence} {n:Nat} {h:Hint} {nt:Nat} {vs:List CV} {ys:List AV} (hE:Em m s st) (bg:fM h lk s=true) (uw:cM (dD h lk s) o.dst=true)
  (hk:∀ m' st',Em m' (bF h lk s vs) st'->Adv lk m s st m' (bF h lk s vs) st'->cE F n P ops.toArray rest st' Q)
  {m':Emb} {s':SS} {st':St} (ms:rA P s' rs=some ys) (g1:iK h ((s.kept (h.keep++lk.t)).put o.dst (kV ys) s'.B s'.V)=some vs) (iq:Em m' s' st')
  (ha:Adv (eP h lk s) m ⟨nt,dB 0 xs,s.B,s.V⟩ ⟨mkT nt (dB 0 (AV.czs m xs)),st.B,st.V⟩ m' s' st'):∃ r',nM P st' rs=some r'/\cE F n P ops.toArray rest (st.put o.dst r' st'.B st'.V) Q:=by
 obtain ⟨o1,o2,o3,o4,o5,o6,o7,o8,o9,o10⟩:=lS bg;refine ⟨_,BA (rX iq ms),?_⟩;rw [<- aBq]
 have dg:∀ d,d<s.n->LeS (Go.Sx.lk (s.t.map fun p=>(p.1,p.2.cz m)) d) (Go.Sx.lk ((s.kept (h.keep++lk.t)).t.map fun p=>(p.1,p.2.cz m')) d):=by
  intro d fm;rw [nO (AV.cz m) (by rfl),nO (AV.cz m') (by rfl)]
  simp only [SS.kept];rw [vR s.get];split
  ·have bv:d∈h.keep++lk.t:=by grind
   have:(s.get d).cz m'=(s.get d).cz m:=AV.cz_noV (nb:=s.B.length) (nv:=s.V.length) (fun j hj=>ha.stp.up.b j (by rw [hE.m.bl];exact hj)) (fun j hj=>ha.stp.up.v j (by rw [hE.m.vl];exact hj))
    (fun j hj Bk=>ha.o j (by grind [eP]) hj) _ (hE.inn d) (o1 d bv)
   rw [this];simp [SS.get,fm];exact LeS.refl _
  ·exact LeS.any _
 let s2:SS:=⟨s.n,(s.kept (h.keep++lk.t)).t,s'.B,s'.V⟩
 let st2:St:=⟨mkT s.n ((s.kept (h.keep++lk.t)).t.map fun p=>(p.1,p.2.cz m')),st'.B,st'.V⟩
 have ig:Em m' s2 st2:=by
  refine ⟨rfl,fun p hp=>?_,iq.m⟩
  simp only [s2,SS.kept,List.mem_map] at hp;obtain ⟨d,_,rfl⟩:=hp;exact AV.inn_mono ha.bl ha.vl _ (hE.inn d)
 have Bq:=ig.put iq.m (Emb.Up.refl _) (fun _ _=>rfl) (Nat.le_refl _) (Nat.le_refl _) (YW (JX iq ms)) o.dst
 have tj:Wk (st.put o.dst ((kV ys).cz m') st'.B st'.V) (st2.put o.dst ((kV ys).cz m') st'.B st'.V):=by
  cases Nu:o.dst with
  | none =>
   simp [hE.t];exact PX dg
  | some d =>
   simp [st2,hE.t];refine PX fun k hk=>?_
   simp;split
   ·exact LeS.refl _
   grind
 refine VU tj ?_
 have Dn:Adv (dD h lk s) m s st m' (s2.put o.dst (kV ys) s'.B s'.V) (st2.put o.dst ((kV ys).cz m') st'.B st'.V):=by
  refine ⟨ha.stp,rfl,ha.bl,ha.vl,fun d jw=>?_,ha.b,ha.v,fun i hi ah=>ha.o i ?_ ah⟩
  ·rw [SS.put_get uw d jw]
   exact SS.kept_get jw
  ·simp only [eP,List.mem_filter,List.mem_range,Bool.not_eq_true']
   exact ⟨ah,o10 i hi⟩
 obtain ⟨m1,st1,q1,q2,q3⟩:=gC hE Bq Dn g1 bg;exact VU q1 (hk m1 st1 q2 (q3.sub bg))
theorem aBs (hM:Fns P sg M) (hY:Yls P M) {F:Fence} {n:Nat} (hF:Free F) {ev:EV} (ay:aIO P ev) (il:List (Option Nat×Hint×HT)):zB F n P (aBm P sg M ev il):=by
 intro lk m s st ops o rest r Q next hE hw hd hh hk
 unfold aBm at hh;split at hh
 ·cases hh
 ·injection hh with hh
  split at hh
  ·rename_i s1 hg jn
   exact aDy hE jn fun m1 st1 cg d9=>JL hM hF cg (Wants.none hg) hd hh fun x B V m' B' V' hx he ha=>hk _ _ _ hx he (d9.trans ha)
  grind
 ·injection hh with hh
  split at hh
  ·rename_i f args ts hg aa
   exact aDF hM hF hE hw hd aa hh hk
  grind
 ·injection hh with hh
  split at hh
  ·rename_i x args ts aa
   exact aDG hY hF hE hw hd aa hh hk
  ·rename_i ch x aa
   exact aDH hY hE hw hd aa hh hk
  grind
 rename_i h ht _ _ _ Hj;injection hh with hh
 split at hh
 case h_2=>cases hh
 rename_i x args ats aa;split at hh
 case h_2=>cases hh
 rename_i f pre caps za;split at hh
 case h_2=>cases hh
 rename_i fn la;split at hh
 case h_2=>cases hh
 rename_i c d5;split at hh
 case isFalse=>cases hh
 rename_i hc;simp at hc;obtain ⟨da,bg,uw,ak⟩:=hc;obtain ⟨vs,h1,h2⟩:=YS hh;generalize js:pre++(args.toList.map s.ev++caps)=xs at *;have ac:AV.czs m pre++(args.toList.map st.ev++AV.czs m caps)=AV.czs m xs:=by grind [DQ,bS]
 refine dM hw (TE hF aa (by rw [hE.ev];exact TG m za) (enters da) ?_)
 rw [ac];refine OU la d5 fun F' n' qz=>?_
 have zb:(AV.czs m xs).length<=fn.ntmps:=by grind [AV.czs_eq]
 rw [start_eq _ _ zb]
 have Do:AV.inns s.B.length s.V.length xs=true:=by
  rw [AV.inns_eq,List.all_eq_true,<- js];intro y hy;have i9:=PZ (hE.innEv x) za;rcases List.mem_append.1 hy with hy | hy
  ·grind [AV.inns_eq]
  rcases List.mem_append.1 hy with hy | hy
  ·obtain ⟨a,_,rfl⟩:=List.mem_map.1 hy
   exact hE.innEv a
  grind [AV.inns_eq]
 have cg:Em m ⟨fn.ntmps,dB 0 xs,s.B,s.V⟩ ⟨mkT fn.ntmps (dB 0 (AV.czs m xs)),st.B,st.V⟩:=by
  refine ⟨?_,kA _ _ Do,hE.m⟩;rw [lV,<- AV.czs_eq]
 have fin:∀ (m':Emb) (s':SS) (st':St),YT P h (h.keep++lk.t) s o.dst fn.results.toList s'=some (.ret vs)->Em m' s' st'->Adv (eP h lk s) m ⟨fn.ntmps,dB 0 xs,s.B,s.V⟩ ⟨mkT fn.ntmps (dB 0 (AV.czs m xs)),st.B,st.V⟩ m' s' st' ->
   ∃ r',nM P st' fn.results.toList=some r'/\cE F n P ops.toArray rest (st.put o.dst r' st'.B st'.V) Q:=by
  intro m' s' st' g1 iq ha;unfold YT at g1;split at g1
  case h_2=>cases g1
  rename_i ys ms;simp at g1;exact aFH hE bg uw (fun m1 st1 q2 q3=>hk m1 _ st1 h2 q2 q3) ms g1 iq ha
 refine ay F' n' qz _ (aBr) c _ _ _ _ _ _ _ _ cg h1 (fun m' s' st' g1 g2 g3=>⟨.inl rfl,fin m' s' st' g1 g2 g3⟩) (fun m' s' st' g1 g2 g3=>⟨.inr rfl,fin m' s' st' g1 g2 g3⟩)
theorem rY {cm:Bool} (fq:cm=true->G.yy=false) (hM:Fns P sg M) (hY:Yls P M):∀ (k:Nat) {F:Fence} {n:Nat},Free F->∀ il,zB F n P (inN P sg M cm k il)
 | 0,F,n,hF,il=>aDn
 | k+1,F,n,hF,il=>by
  refine aBs hM hY hF ?_ il;intro F n hF rt l5 c ht lk s K r m st Q hE h hK hR;exact JW fq hM hF (rY fq hM hY k hF) l5 c ht lk [] s K r m st Q hE h hK (fun id h vs m' s' st' h0=>by grind [kU]) hR
end
structure ROw (w:World) (S:Nat->Prop) (w':World) (S':Nat->Prop):Prop where
 sub:∀ b,S b->S' b
 cell:∀ b o x,S b->w.cell? ⟨b,o,none⟩=some x->w'.cell? ⟨b,o,none⟩=some x
 map:∀ b arr c,S b->w.heap[b]? = some (.map arr c)->w'.heap[b]? = some (.map arr c)
mutual
theorem CV.holds.monoW {w w':World} {S S':Nat->Prop} (h:ROw w S w' S'):∀ (c:CV) (v:Value),CV.holds w S c v->CV.holds w' S' c v
 | .val _,_,hv=>by grind [CV.holds]
 | .row k es,v,hv=>by
  obtain ⟨a,cap,h1,h2,h3,h4⟩:=hv;refine ⟨a,cap,h1,h2,h3,?_⟩;rcases h4 with h4 | ⟨b,o,h4,h5,h6⟩
  ·grind
  ·exact .inr ⟨b,o,h4,h.sub b h5,CV.rows.monoW h k es b o h5 h6⟩
 | .ref cs,v,hv=>by
  obtain ⟨b,o,h1,h2,h3⟩:=hv;exact ⟨b,o,h1,h.sub b h2,CV.cells.monoW h cs b o h2 h3⟩
 | .fn f caps,v,hv=>by
  obtain ⟨vs,h1,h2⟩:=hv;exact ⟨vs,h1,CV.vals.monoW h caps _ h2⟩
 | .mp kn es,v,hv=>by
  obtain ⟨b,arr,c,ps,h1,h2,h3,h4,h5,h6⟩:=hv;exact ⟨b,arr,c,ps,h1,h.sub b h2,h.map b arr c h2 h3,h4,h5,CV.ents.monoW h kn es ps h6⟩
theorem CV.cells.monoW {w w':World} {S S':Nat->Prop} (h:ROw w S w' S'):∀ (cs:List CV) (b o:Nat),S b->CV.cells w S cs b o->CV.cells w' S' cs b o
 | [],_,_,_,_=>by simp [CV.cells]
 | c::cs,b,o,hb,hv=>by
  obtain ⟨⟨x,h1,h2⟩,h3⟩:=hv;exact ⟨⟨x,h.cell b o x hb h1,CV.holds.monoW h c x h2⟩,CV.cells.monoW h cs b (o+1) hb h3⟩
theorem CV.rows.monoW {w w':World} {S S':Nat->Prop} (h:ROw w S w' S') (k:Nat):∀ (es:List (List CV)) (b o:Nat),S b->CV.rows w S k es b o->CV.rows w' S' k es b o
 | [],_,_,_,_=>by simp [CV.rows]
 | e::es,b,o,hb,hv=>by
  obtain ⟨h1,h2,h3⟩:=hv;exact ⟨h1,CV.cells.monoW h e b o hb h2,CV.rows.monoW h k es b (o+k) hb h3⟩
theorem CV.vals.monoW {w w':World} {S S':Nat->Prop} (h:ROw w S w' S'):∀ (cs:List CV) (vs:List Value),CV.vals w S cs vs->CV.vals w' S' cs vs
 | [],[],_=>by simp [CV.vals]
 | c::cs,v::vs,hv=>by
  exact ⟨CV.holds.monoW h c v hv.1,CV.vals.monoW h cs vs hv.2⟩
 | [],_::_,hv=>by grind [CV.vals]
 | _::_,[],hv=>by grind [CV.vals]
theorem CV.ents.monoW {w w':World} {S S':Nat->Prop} (h:ROw w S w' S') (kn:Nat):∀ (es:List (List CV)) (ps:List (Value×Value)),CV.ents w S kn es ps->CV.ents w' S' kn es ps
 | [],[],_=>by simp [CV.ents]
 | e::es,p::ps,hv=>by
  obtain ⟨⟨vs,h1,h2⟩,h3⟩:=hv;exact ⟨⟨vs,CV.vals.monoW h e vs h1,h2⟩,CV.ents.monoW h kn es ps h3⟩
 | [],_::_,hv=>by grind [CV.ents]
 | _::_,[],hv=>by grind [CV.ents]
end
def Env.withS (e:Env) (S':Nat->Prop):Env:={ e with S:=S' }
@[simp] theorem Env.withS_ρ (e:Env) (S':Nat->Prop):(e.withS S').ρ=e.ρ:=rfl
@[simp] theorem Env.withS_hdr (e:Env) (S':Nat->Prop):(e.withS S').hdr=e.hdr:=rfl
@[simp] theorem Env.withS_S (e:Env) (S':Nat->Prop):(e.withS S').S=S':=rfl
@[simp] theorem Env.withS_base (e:Env) (S':Nat->Prop):(e.withS S').base=e.base:=rfl
mutual
theorem AV.holds.monoW {e:Env} {w w':World} {S':Nat->Prop} {ks:List Nat} (h:ROw w e.S w' S'):∀ (x:AV) (v:Value),AV.holds e w ks x v->AV.holds (e.withS S') w' ks x v
 | .any,_,hv=>by simp [AV.holds]
 | .cv c,v,hv=>by exact CV.holds.monoW h c v hv
 | .ptr i off,v,hv=>by simp_all [AV.holds]
 | .own i u,v,hv=>by grind [AV.holds,Env.withS_hdr]
 | .opt i u el o,v,hv=>by grind [AV.holds,Env.withS_hdr]
 | .agg cs,v,hv=>by
  obtain ⟨vs,h1,h2⟩:=hv;exact ⟨vs,h1,AV.all.monoW h cs _ h2⟩
 | .tup cs,v,hv=>by
  obtain ⟨vs,h1,h2⟩:=hv;exact ⟨vs,h1,AV.all.monoW h cs _ h2⟩
 | .fn f cs,v,hv=>by
  obtain ⟨vs,h1,h2⟩:=hv;exact ⟨vs,h1,AV.all.monoW h cs _ h2⟩
 | .gd L x,v,hv=>by
  exact ⟨fun hb=>AV.holds.monoW h x v (hv.1 hb),hv.2⟩
theorem AV.all.monoW {e:Env} {w w':World} {S':Nat->Prop} {ks:List Nat} (h:ROw w e.S w' S'):∀ (xs:List AV) (vs:List Value),AV.all e w ks xs vs->AV.all (e.withS S') w' ks xs vs
 | [],[],_=>by simp [AV.all]
 | x::xs,v::vs,hv=>by
  exact ⟨AV.holds.monoW h x v hv.1,AV.all.monoW h xs vs hv.2⟩
 | [],_::_,hv=>by grind [AV.all]
 | _::_,[],hv=>by grind [AV.all]
end
theorem OwnsS.isCells {w:World} {n0:Nat} {T:TypeId} {k:Nat} {v:Value} {n:Nat} {xs:List Value} (h:OwnsS w n0 T k v n xs) {g:Nat} (hg:aY v=some g):∃ o,w.heap[g]? = some o/\o.isCells=true:=by
 rcases h with ⟨a,rfl,_⟩ | ⟨⟨_,h1⟩,g',h3,h4⟩
 ·simp_all [aY]
 ·rw [hg] at h3;cases h3
  rcases h1 with ⟨rfl,_⟩ | ⟨g2,cap,cur,a1,a2,a3,a4⟩
  ·grind [aY]
  ·rw [a1] at h4
   simp [Value.ownBlock] at h4;subst h4;exact ⟨_,a3,rfl⟩
variable {n0:Nat} {w0 w w':World} {e:Env} {st:St} {a:Act} {row:Option Nat} {S':Nat->Prop}
theorem Rel.turn {a':Act} (h:Rel n0 w0 e st a w) (hg:w.grownBy w' row) (hr:∀ r,row=some r->n0<=r/\∃ o:Obj,w.heap[r]? = some o/\o.isCells=false/\∀ arr c,o≠.map arr c) (hH:∀ r,row=some r->e.H r=none) (Jy:∀ b,S' b->e.S b\/e.H b=none)
  (ic:∀ b,e.S b->S' b) (aj:∀ b,S' b->e.S b\/(b<w.heap.size/\∃ o:Obj,w.heap[b]? = some o/\o.isCells=false)) (ha:a'.tmps=a.tmps)
  (ui:∀ (i:Nat) (x:Vec),st.V[i]? = some x->x.live=true->x.T<bE\/∀ g,aY (e.hdr i x.ver)=some g->row≠some g/\(S' g->e.S g)):Rel n0 w0 (e.withS S') st a' w':=by
 have hm:=h.mem
 have same:∀ (b:Nat) (o:Obj),w.heap[b]? = some o->o.isCells=true->w'.heap[b]? = some o:=by
  intro b o hb hc;refine (hg.block b (Array.getElem?_eq_some_iff.1 hb).1 fun he=>?_).trans hb
  grind
 have am:ROw w e.S w' S':=by
  refine ⟨ic,fun b o x _ hc=>?_,fun b arr c _ hb=>(hg.block b (Array.getElem?_eq_some_iff.1 hb).1 fun he=>?_).trans hb⟩
  case refine_2 =>
   grind
  unfold World.cell? at hc;cases hb:w.heap[b]? with
  | none=>grind
  | some ob =>
   have oh:ob.isCells=true:=by grind [Obj.isCells]
   unfold World.cell?;grind
 have nS:∀ (b:Nat) (o:Obj),w.heap[b]? = some o->o.isCells=true->¬e.S b->¬S' b:=by
  grind
 refine ⟨?_,h.sc,?_⟩
 ·rw [ha];exact AV.all.monoW am _ _ h.tm
 ·refine ⟨fun i b hi hl=>?_,hm.boxsc,fun i b hi hl=>?_,hm.boxinj,fun i x hi hl=>?_,fun i x g hi hl qb=>?_,hm.vecbox,hm.vecinj,fun b hb=>?_,?_,?_,hm.bl,hm.hid.of rfl ⟨rfl,rfl⟩ Jy (SameG.refl _) (fun b hb hn=>hg.block b hb fun he=>hn (hH b he.symm)) (fun i b hb hl=>.inl ⟨i,b,hb,hl,rfl⟩) (fun i x g hx hl hg=>.inl ⟨i,x,hx,hl,hg⟩)⟩
  ·obtain ⟨vs,h1,h2⟩:=hm.box i b hi hl
   exact ⟨vs,same _ _ h1 rfl,AV.all.monoW am _ _ h2⟩
  ·obtain ⟨vs,h1,_⟩:=hm.box i b hi hl
   obtain ⟨h2,h3⟩:=hm.boxlo i b hi hl;exact ⟨h2,nS _ _ h1 rfl h3⟩
  ·obtain ⟨xs,h1,h2,h3⟩:=hm.vec i x hi hl
   refine ⟨xs,h1.keep fun g qb=>?_,CV.vals.monoW am _ _ h2,h3⟩
   rcases ui i x hi hl with hT | hT
   ·obtain ⟨o,q1,q2⟩:=(h1.s hT).isCells qb
    grind
   ·exact hg.block g (h1.lt g qb).2 fun he=>(hT g qb).1 he.symm
  ·obtain ⟨xs,h1,h2,h3⟩:=hm.vec i x hi hl
   rcases ui i x hi hl with hT | hT
   ·obtain ⟨o,q1,q2⟩:=(h1.s hT).isCells qb
    exact nS _ _ q1 q2 (hm.vecS i x g hi hl qb)
   ·exact fun hs=>hm.vecS i x g hi hl qb ((hT g qb).2 hs)
  ·rcases aj b hb with h' | ⟨h1,_⟩
   ·exact Nat.lt_of_lt_of_le (hm.ro b h') hg.size
   ·exact Nat.lt_of_lt_of_le h1 hg.size
  ·exact hm.below.grown hg hm.nbase fun k hk=>Nat.le_trans (e.nb_le n0) (hr k hk).1
  ·exact Nat.le_trans hm.base hg.size
theorem Rel.act {a':Act} (h:Rel n0 w0 e st a w) (ha:a'.tmps=a.tmps):Rel n0 w0 e st a' w:=⟨by rw [ha];exact h.tm,h.sc,h.mem⟩
variable {ks:List Nat} {e':Env}
theorem Ext.turn {nB:Nat} {vs:List Nat} {nB':Nat} {vs' ks':List Nat} {w'':World} (h:Ext e w nB vs ks e' w' nB' vs' ks') (hg:w'.grownBy w'' row) (hr:∀ r,row=some r->¬e.S r) (an:∀ b,e.S b->b<w'.heap.size)
  (ic:∀ b,e.S b->S' b) (aj:∀ b,S' b->e'.S b\/e.base<=b):Ext e w nB vs ks (e'.withS S') w'' nB' vs' ks':=
 ⟨⟨ic,fun b hb=>(hg.block b (an b hb) fun he=>hr b he.symm hb).trans (h.ro.same b hb)⟩,h.ρ,h.hdr,h.nB,h.nV,h.verle,h.kseq,Nat.le_trans h.sz hg.size,
  fun b hb=>(aj b hb).elim (fun h'=>h.snew b h') .inr,h.be,h.he,h.ye⟩
def BC (D:Nat):Deferred:={ target:=.collected D,args:=#[] }
def Mk (m0:Nat->Prop) (e:Env) (w:World) (ds:List Deferred):Prop:=∃ Ds:List Nat,ds=Ds.map BC/\Ds.Nodup/\∀ D∈Ds,m0 D/\e.S D/\w.heap[D]? = some (.deferred (some []))
theorem Mk.mono {m0:Nat->Prop} {ds:List Deferred} (h:Mk m0 e w ds) (hx:RO w e.S w' e'.S):Mk m0 e' w' ds:=by
 obtain ⟨Ds,h1,h2,h3⟩:=h;exact ⟨Ds,h1,h2,fun D hD=>by obtain ⟨q1,q2,q3⟩:=h3 D hD;exact ⟨q1,hx.sub D q2,(hx.same D q2).trans q3⟩⟩
def HardH (H:Nat->Option (Obj×Bool)):Prop:=∀ (b:Nat) (o:Obj) (f:Bool),H b=some (o,f)->f=true
theorem HardH.none:HardH fun _=>none:=fun _ _ _ h=>by cases h
def W2 (F:Fence) (n:Nat) (P:Program) [Co P] (c:Code) (st:St) (Q:Exit->St->Prop):Prop:=
 ∀ n0 w0 (m0:Nat->Prop) e a w (Qr:Exit->Act->World->Prop),Rel n0 w0 e st a w->Mk m0 e w a.defers->(∀ b,w.heap.size<=b->m0 b)/\e.y=false/\HardH e.H ->
  (∀ x e' st' a' w',Q x st'->Rel n0 w0 e' st' a' w'->Mk m0 e' w' a'.defers->cL e st w e' st'.B st'.V w'->Qr x a' w')->c.wpCo F n P Qr a w
section
variable {F:Fence} {n:Nat} {P:Program} [C:Co P]
theorem W.w2 {c:Code} {st:St} {Q:Exit->St->Prop} (h:W F n P c st Q):W2 F n P c st Q:=
 fun n0 w0 m0 e a w Qr hr hm ed hk=>h n0 w0 e a w Qr hr fun x e' st' a' w' hq af bq hx=>hk x e' st' a' w' hq af (by rw [bq];exact hm.mono hx.ro) hx
variable {st:St} {Q:Exit->St->Prop}
theorem nX {x y:Code} (h:W2 F n P x st fun ex st'=>match ex with | .normal=>W2 F n P y st' Q | ex=>Q ex st'):W2 F n P (.seq x y) st Q:=by
 intro n0 w0 m0 e a w Qr hr hm ed hk;refine tW (h n0 w0 m0 e a w _ hr hm ed ?_);intro ex e' st' a' w' hq af dl hx;cases ex with
 | normal=>exact hq n0 w0 m0 e' a' w' Qr af dl ⟨fun b hb=>ed.1 b (Nat.le_trans hx.sz hb),hx.ye.trans ed.2.1,by rw [hx.he ed.2.1];exact ed.2.2⟩ fun x e'' st'' a'' w'' nk de Dp ap=>hk x e'' st'' a'' w'' nk de Dp (hx.trans ap)
 | _=>exact hk _ e' st' a' w' hq af dl hx
theorem MU {c:Operand} {x y:Code} {b:Bool} (hc:st.ev c=.cv (.val (.bool b))) (ht:b=true->W2 F n P x st Q) (hf:b=false->W2 F n P y st Q):W2 F n P (.cond c x y) st Q:=by
 intro n0 w0 m0 e a w Qr hr hm ed hk;have h1:=(hr.ev c).1;rw [hc] at h1;exact mE h1.1 (fun hb=>ht hb n0 w0 m0 e a w Qr hr hm ed hk) (fun hb=>hf hb n0 w0 m0 e a w Qr hr hm ed hk)
theorem uJ {id:Nat} {c:Code} (h:W2 F n P c st fun ex st'=>match ex with | .exit i=>if i=id then Q .normal st' else Q (.exit i) st' | ex=>Q ex st'):W2 F n P (.block id c) st Q:=by
 intro n0 w0 m0 e a w Qr hr hm ed hk;refine xE (h n0 w0 m0 e a w _ hr hm ed ?_);grind [Exit.inBlock]
theorem MV {c:Code} {s1:St} (hw:Wk st s1) (h:W2 F n P c s1 Q):W2 F n P c st Q:=by
 intro n0 w0 m0 e a w Qr hr hm ed hk;have jd:=hw.weak hr;have hx:cL e st w e s1.B s1.V w:=(Ext.refl e w st.B.length (vers st.V) (kss st.V)).weak jd (by rw [hw.Bl];omega) (by rw [hw.V];simp)
 exact h n0 w0 m0 e a w Qr (hr.weak jd) hm ed fun ex e' st' a' w' hq af bq ap=>hk ex e' st' a' w' hq af bq (hx.trans ap)
end
section
variable {F:Fence} {n:Nat} {P:Program} [C:Co P]
theorem QB (W:World) (l:Nat) (o:Obj):W.grownBy (W.putObj l o) (some l):=grownBy_putObj' W l o
theorem zE {fn:Func} {tmps:Array Value} {R:Ending->World->Prop} {m0 n0:Nat} {w0:World} {e0 e:Env} {st0 st:St} {a:Act} {wA:World} (Bb:n0<=m0) (hS:∀ b,e0.S b->b<m0) (hH:∀ b,m0<=b->e0.H b=none) (hy:e0.y=false) :
  ∀ (Ds:List Nat) (w:World),Ds.Nodup->(∀ D∈Ds,m0<=D/\e.S D/\w.heap[D]? = some (.deferred (some [])))->Rel n0 w0 e st a w->cL e0 st0 wA e st.B st.V w->m0<=w.heap.size ->
   (∀ w',Rel n0 w0 e st a w'->cL e0 st0 wA e st.B st.V w'->gL P fn tmps R [] w')->gL P fn tmps R (Ds.map BC) w
 | [],w,_,_,hr,hx,_,hk=>hk w hr hx
 | D::Ds,w0',fc,Jz,gq,ei,Dq,hk=>by
  refine ⟨D,rfl,fun w hw=>?_⟩
  obtain ⟨hr,dw⟩:=gq.rely hw;have hx:cL e0 st0 wA e st.B st.V w:=ei.trans dw;have cn:m0<=w.heap.size:=Nat.le_trans Dq hw.size
  have hD:∀ D'∈D::Ds,m0<=D'/\e.S D'/\w.heap[D']? = some (.deferred (some [])):=fun D' hd=>by
   obtain ⟨q1,q2,q3⟩:=Jz D' hd;exact ⟨q1,q2,(hw.block D' (by grind)).trans q3⟩
  obtain ⟨h1,J0,h2⟩:=hD D (by simp)
  refine ⟨_,run_takeDeferred h2,?_⟩;have hg:=QB w D (.deferred none)
  have ge:∀ r,(some D:Option Nat)=some r->n0<=r/\∃ o:Obj,w.heap[r]? = some o/\o.isCells=false/\∀ arr c,o≠.map arr c:=by
   intro r he;cases he;exact ⟨Nat.le_trans Bb h1,_,h2,rfl,fun _ _ h=>by cases h⟩
  have ba:Rel n0 w0 (e.withS e.S) st a (w.putObj D (.deferred none)):=hr.turn hg ge (by intro r he;rw [hx.he hy];grind) (fun _ h=>.inl h) (fun _ h=>h) (fun _ h=>.inl h) rfl (fun i x hi hl=>.inr fun g qb=>⟨fun he=>by cases he;exact hr.mem.vecS i x D hi hl qb J0,fun h=>h⟩)
  have ap:Ext e0 wA st0.B.length (vers st0.V) (kss st0.V) (e.withS e.S) (w.putObj D (.deferred none)) st.B.length (vers st.V) (kss st.V):=
   hx.turn hg (by grind) (fun b hb=>by grind) (fun b hb=>hx.ro.sub b hb) (fun b hb=>.inl hb)
  rw [List.nodup_cons] at fc;refine zE Bb hS hH hy Ds _ fc.2 (fun D' vk=>?_) ba ap (Nat.le_trans cn hg.size) hk
  obtain ⟨q1,q0,q2⟩:=hD D' (by grind)
  refine ⟨q1,q0,?_⟩;have bY:D'≠D:=by grind
  exact (World.putObj_heap_other bY).trans q2
theorem oZ {f:FuncId} {fn:Func} {c:Code} {args:List AV} {K:AV->List Box->List Vec->Prop} (hf:P.funcs[f]? = some fn) (hb:fn.body=some c)
  (h:∀ (F:Fence) (n:Nat),Free F->F.round=none->W2 F n P c ⟨args++List.replicate (fn.ntmps - args.length) .any,[],[]⟩ fun ex st'=>(ex=.normal\/ex=.ret)/\∃ r,nM P st' fn.results.toList=some r/\K r st'.B st'.V) :
  CallPc P f args K:=by
 intro F n hF am n0 w0 e w vs hy hm hv hs;refine iQ hf hb ?_ am
 have af:Rel n0 w0 e ⟨args++List.replicate (fn.ntmps - args.length) .any,[],[]⟩ { tmps:=vs++Array.replicate (fn.ntmps - vs.size) undef,defers:=[] } w:=by
  have hl:vs.size=args.length:=by have:=hv.length;omega
  refine ⟨?_,?_,hm⟩
  ·simp [hl]
   refine hv.append ?_;generalize fn.ntmps - args.length=k
   induction k with
   | zero=>simp [AV.all]
   | succ k ih=>grind [AV.all,AV.holds]
  grind [AV.scos_iff,AV.sco]
 refine h F n hF am n0 w0 (w.heap.size<=·) e _ w _ af ⟨[],rfl,List.nodup_nil,by simp⟩ ⟨fun _ h=>h,hy.1,by rw [hy.2];exact HardH.none⟩ ?_
 rintro ex e' st' a' w' ⟨ja,r,hr,hK⟩ de ⟨Ds,qp,fc,hD⟩ hx;rcases ja with rfl | rfl
 all_goals
  show gL P fn a'.tmps _ a'.defers w';rw [qp];refine zE (n0:=n0) (w0:=w0) (e0:=e) (e:=e') (st0:=⟨args++List.replicate (fn.ntmps - args.length) .any,[],[]⟩) (st:=st') (a:=a') (wA:=w) hm.base (fun b hb=>hm.ro b hb) (fun b hb=>hm.hid.new hb) hy.1 Ds w' fc (fun D hd=>hD D hd) de hx hx.sz ?_
  intro w'' fa dw;intro w₁ hw₁;obtain ⟨xp,J1⟩:=fa.rely hw₁;obtain ⟨v,a1,a2,a3⟩:=uE (fn:=fn) xp hr;exact ⟨v,a1,e',st'.B,st'.V,r,v,rfl,hK,xp.mem,dw.trans J1,a2,a3⟩
end
mutual
theorem AV.holds.gen {e e':Env} {w:World} {ks:List Nat} (hρ:e'.ρ=e.ρ) (hh:e'.hdr=e.hdr) (hS:e'.S=e.S):∀ (x:AV) (v:Value),AV.holds e w ks x v->AV.holds e' w ks x v
 | .any,_,_=>by simp [AV.holds]
 | .cv c,v,h=>by grind [AV.holds]
 | .ptr i off,v,h=>by grind [AV.holds]
 | .own i u,v,h=>by grind [AV.holds]
 | .opt i u el o,v,h=>by grind [AV.holds]
 | .agg cs,v,h=>by obtain ⟨vs,h1,h2⟩:=h;exact ⟨vs,h1,AV.all.gen hρ hh hS cs _ h2⟩
 | .tup cs,v,h=>by obtain ⟨vs,h1,h2⟩:=h;exact ⟨vs,h1,AV.all.gen hρ hh hS cs _ h2⟩
 | .fn f cs,v,h=>by obtain ⟨vs,h1,h2⟩:=h;exact ⟨vs,h1,AV.all.gen hρ hh hS cs _ h2⟩
 | .gd L x,v,h=>by exact ⟨fun hb=>AV.holds.gen hρ hh hS x v (h.1 hb),h.2⟩
theorem AV.all.gen {e e':Env} {w:World} {ks:List Nat} (hρ:e'.ρ=e.ρ) (hh:e'.hdr=e.hdr) (hS:e'.S=e.S):∀ (xs:List AV) (vs:List Value),AV.all e w ks xs vs->AV.all e' w ks xs vs
 | [],[],_=>by simp [AV.all]
 | x::xs,v::vs,h=>by exact ⟨AV.holds.gen hρ hh hS x v h.1,AV.all.gen hρ hh hS xs vs h.2⟩
 | [],_::_,h=>by grind [AV.all]
 | _::_,[],h=>by grind [AV.all]
end
def Own (e:Env) (st:St) (b:Nat):Prop:=(∃ (i:Nat) (x:Box),st.B[i]? = some x/\x.live=true/\e.ρ i=b)\/(∃ (i:Nat) (x:Vec),st.V[i]? = some x/\x.live=true/\aY (e.hdr i x.ver)=some b)
theorem Own.lt {n0:Nat} {w0:World} {e:Env} {st:St} {w:World} (h:Mem n0 w0 e st.B st.V w) {b:Nat} (hb:Own e st b):b<w.heap.size/\¬e.S b/\e.H b=none/\n0<=b:=by
 rcases hb with ⟨i,x,h1,h2,rfl⟩ | ⟨i,x,h1,h2,h3⟩
 ·exact ⟨h.lt_box h1 h2,(h.boxlo i x h1 h2).2,h.hid.box i x h1 h2,(h.boxlo i x h1 h2).1⟩
 ·obtain ⟨xs,q1,_⟩:=h.vec i x h1 h2
  exact ⟨(q1.lt b h3).2,h.vecS i x b h1 h2 h3,h.hid.vec i x b h1 h2 h3,(q1.lt b h3).1⟩
theorem Rel.move (h:Rel n0 w0 e st a w) (hy:e.y=false) {H':Nat->Option (Obj×Bool)} (ic:∀ b,e.S b->S' b) (an:∀ b,S' b->b<w'.heap.size)
  (hO:∀ b,Own e st b->¬S' b/\H' b=none) (hk:∀ b,(b<n0\/e.S b\/Own e st b)->w'.heap[b]? = w.heap[b]?) (hb:n0<=w'.heap.size) (cn:w0.heap.size<=w'.heap.size)
  (zc:w'.os=w.os/\w'.tape=w.tape/\w'.output=w.output) (qf:iG H' w') (au:∀ b o,S' b->H' b≠some (o,true)):Rel n0 w0 { e with S:=S',H:=H' } st a w':=by
 have hm:=h.mem;have am:ROw w e.S w' S':=⟨ic,fun b o x hs hc=>by grind [World.cell?],fun b arr c hs hc=>(hk b (.inr (.inl hs))).trans hc⟩
 have ct:∀ xs vs,AV.all e w (kss st.V) xs vs->AV.all { e with S:=S',H:=H' } w' (kss st.V) xs vs:=fun xs vs hv=>AV.all.gen (e:=e.withS S') (e':={ e with S:=S',H:=H' }) rfl rfl rfl _ _ (AV.all.monoW am _ _ hv)
 refine ⟨ct _ _ h.tm,h.sc,⟨fun i b hi hl=>?_,hm.boxsc,fun i b hi hl=>⟨(hm.boxlo i b hi hl).1,(hO _ (.inl ⟨i,b,hi,hl,rfl⟩)).1⟩,hm.boxinj,fun i x hi hl=>?_,fun i x g hi hl hg=>(hO g (.inr ⟨i,x,hi,hl,hg⟩)).1,hm.vecbox,hm.vecinj,an,?_,hb,hm.bl,
  ⟨qf,fun i b hi hl=>(hO _ (.inl ⟨i,b,hi,hl,rfl⟩)).2,fun i x g hi hl hg=>(hO g (.inr ⟨i,x,hi,hl,hg⟩)).2,fun i x hi hT=>?_,au⟩⟩⟩
 ·obtain ⟨vs,q1,q2⟩:=hm.box i b hi hl
  exact ⟨vs,(hk _ (.inr (.inr (.inl ⟨i,b,hi,hl,rfl⟩)))).trans q1,ct _ _ q2⟩
 ·obtain ⟨xs,q1,q2,q3⟩:=hm.vec i x hi hl
  exact ⟨xs,q1.keep fun g hg=>hk g (.inr (.inr (.inr ⟨i,x,hi,hl,hg⟩))),CV.vals.monoW am _ _ q2,q3⟩
 ·have cd:=hm.below
  rw [Env.nb_false hy] at cd;rw [Env.nb_false (show ({ e with S:=S',H:=H' }:Env).y=false from hy)]
  exact ⟨zc.1.trans cd.os,zc.2.1.trans cd.tape,zc.2.2.trans cd.output,cn,fun k vo=>(hk k (.inl vo)).trans (cd.block k vo)⟩
 ·have:=(hm.hid.gh i x hi hT).2.1
  grind
def Env.noH (e:Env):Env:={ e with H:=fun _=>none }
variable {vs:List Value}
theorem AV.all.no {xs:List AV} (h:AV.all e w ks xs vs):AV.all e.noH w ks xs vs:=AV.all.gen (e:=e) (e':=e.noH) rfl rfl rfl _ _ h
theorem AV.all.ofNo {xs:List AV} (h:AV.all e.noH w ks xs vs):AV.all e w ks xs vs:=AV.all.gen (e:=e.noH) (e':=e) rfl rfl rfl _ _ h
abbrev Ext0 (e:Env) (st:St) (w:World) (e':Env) (st':St) (w':World):Prop:=cL e.noH st w e'.noH st'.B st'.V w'
theorem Ext0.of {st':St} (h:cL e st w e' st'.B st'.V w'):Ext0 e st w e' st' w':=
 ⟨h.ro,h.ρ,h.hdr,h.nB,h.nV,h.verle,h.kseq,h.sz,h.snew,h.be,fun _=>rfl,h.ye⟩
theorem Ext0.same {H':Nat->Option (Obj×Bool)} (ic:∀ b,e.S b->S' b) (hk:∀ b,e.S b->w'.heap[b]? = w.heap[b]?) (hs:w.heap.size<=w'.heap.size) (hn:∀ b,S' b->e.S b\/e.base<=b) :
  Ext0 e st w { e with S:=S',H:=H' } st w':=
 ⟨⟨ic,hk⟩,fun _ _=>rfl,fun _ _ _ _=>rfl,Nat.le_refl _,Nat.le_refl _,fun _ _=>Nat.le_refl _,fun _ _=>rfl,hs,hn,rfl,fun _=>rfl,rfl⟩
theorem Rel.dead (hr:Rel n0 w0 e st a w) {ds:List Vec} (hd:∀ v∈ds,v.live=false) (Dk:∀ v∈ds,v.T≠ghT) :
  Rel n0 w0 e ⟨st.t,st.B,st.V++ds⟩ a w/\cL e st w e st.B (st.V++ds) w:=by
 have hx:Ext e w st.B.length (vers st.V) (kss st.V) e w st.B.length (vers (st.V++ds)) (kss (st.V++ds)):=by
  refine ⟨RO.refl _ _,fun _ _=>rfl,fun _ _ _ _=>rfl,Nat.le_refl _,by simp,fun i hi=>?_,fun i hi=>?_,Nat.le_refl _,fun _ h=>.inl h,rfl,fun _=>rfl,rfl⟩
  ·grind
  grind
 have ae:∀ (i:Nat) (x:Vec),(st.V++ds)[i]? = some x->x.live=true->st.V[i]? = some x:=by
  grind
 have hm:=hr.mem;refine ⟨⟨AV.all.mono hx _ _ hr.sc hr.tm,hx.scos hr.sc,?_⟩,hx⟩
 refine ⟨fun i b hb hl=>?_,fun i b hb=>hx.scos (hm.boxsc i b hb),hm.boxlo,hm.boxinj,fun i x hx hl=>hm.vec i x (ae i x hx hl) hl,fun i x g hx hl=>hm.vecS i x g (ae i x hx hl) hl,fun i x j b g hx hl=>hm.vecbox i x j b g (ae i x hx hl) hl,fun i x j y g hx hl hy aq=>hm.vecinj i x j y g (ae i x hx hl) hl (ae j y hy aq) aq,hm.ro,hm.below,hm.base,hm.bl,hm.hid.of rfl ⟨rfl,rfl⟩ (fun _ h=>.inl h) (SameG.app Dk) (fun _ _ _=>rfl) (fun i b hb hl=>.inl ⟨i,b,hb,hl,rfl⟩) (fun i x g hx hl hg=>.inl ⟨i,x,ae i x hx hl,hl,hg⟩)⟩
 obtain ⟨vs,h1,h2⟩:=hm.box i b hb hl;exact ⟨vs,h1,AV.all.mono hx _ _ (hm.boxsc i b hb) h2⟩
theorem Rel.adopt (hr:Rel n0 w0 e st a w) (hy:e.y=false) {T:TypeId} {k:Nat} {v:Value} {el:List (List CV)} {xs:List Value} (hT:T<bE) (au:OwnsV w n0 T k v el.length xs) (hv:CV.vals w e.S el.flatten xs) (hk:∀ l∈el,l.length=k)
  (hg:∀ g,aY v=some g->¬e.S g/\e.H g=none/\¬Own e st g) :
  ∃ e',Rel n0 w0 e' ⟨st.t,st.B,st.V++[⟨true,T,k,1,el⟩]⟩ a w/\cL e st w e' st.B (st.V++[⟨true,T,k,1,el⟩]) w/\e'.hdr st.V.length 1=v/\e'.ρ=e.ρ/\e'.S=e.S/\e'.H=e.H/\e'.base=e.base/\e'.y=e.y/\(∀ i u,i<st.V.length->u<=(vers st.V).getD i 0->e'.hdr i u=e.hdr i u):=by
 obtain ⟨cf,ar⟩:=hr.dead (ds:=[⟨false,T,k,0,[]⟩]) (by simp) (by grind)
 have hi:(st.V++[(⟨false,T,k,0,[]⟩:Vec)])[st.V.length]? = some ⟨false,T,k,0,[]⟩:=by simp
 have vp:∀ g,aY v=some g->(∀ (j:Nat) (b:Box),st.B[j]? = some b->b.live=true->e.ρ j≠g)/\∀ (j:Nat) (y:Vec),(st.V++[(⟨false,T,k,0,[]⟩:Vec)])[j]? = some y->y.live=true->aY (e.hdr j y.ver)≠some g:=by
  intro g em;have jc:=(hg g em).2.2;refine ⟨fun j b hb bo hc=>jc (.inl ⟨j,b,hb,bo,hc⟩),fun j y hy aq hc=>?_⟩
  by_cases bk:j<st.V.length
  ·rw [List.getElem?_append_left bk] at hy
   exact jc (.inr ⟨j,y,hy,aq,hc⟩)
  grind
 obtain ⟨e',m1,m2,m3,m4,m5⟩:=cf.mem.fill2 hi rfl T v el xs au hv hk (fun g em=>(hg g em).1) (fun g em=>(vp g em).1) (fun g em=>(vp g em).2) (fun g em=>(hg g em).2.1)
 have jv:(st.V++[(⟨false,T,k,0,[]⟩:Vec)]).set st.V.length (Vec.mk true T k (0+1) el)=st.V++[⟨true,T,k,1,el⟩]:=by simp
 simp only [jv] at m1 m2;have gk:cL e st w e' st.B (st.V++[⟨true,T,k,1,el⟩]) w:=ar.trans m2;refine ⟨e',⟨AV.all.mono gk _ _ hr.sc hr.tm,gk.scos hr.sc,m1⟩,gk,m3,m4,m5,m2.he hy,m2.be,m2.ye,fun i u Nv hu=>gk.hdr i u (by grind) hu⟩
abbrev YF:=List (List CV)->List CV->Option (Bool×List (List CV))
def rB (P:Program) [Co P] (f:FuncId) (caps:List CV) (sh:YSh) (R:YF->List (List CV)->Option (List (List CV))):Prop:=
 ∀ (G:Ghost) (l:Nat) (yf:YF) (es es':List (List CV)),(∀ es x b es',yf es x=some (b,es')->@lG G P _ l sh es x b es')->R yf es=some es' ->
  ∀ (F:Fence) (n:Nat),Free F->F.round=none->∀ (H:Nat->Option (Obj×Bool)) (S:Nat->Prop) (w:World) (lb:Array Value),
   CV.vals w S caps lb.toList->(∀ b,S b->b<w.heap.size)->iG H w->(∀ b o,S b->H b≠some (o,true))->G.J es H->G.lo<=w.heap.size->@GW G w ->
   CallsCo F n P f (#[.func (.yield l) #[] #[]]++lb) w fun en w'=>(∃ v,en=.returned v)/\w.heap.size<=w'.heap.size/\@GW G w'/\∃ H',G.J es' H'/\iG H' w'
def iL:List AV->List Nat->List AV->List AV
 | t,p::ps,x::xs=>iL (t.set p x) ps xs
 | t,_,_=>t
theorem xV {e:Env} {w:World} {ks:List Nat}:∀ {ps:List Nat} {xs t:List AV} {us:List Value} {tm:Array Value},AV.all e w ks t tm.toList->AV.all e w ks xs us ->
  AV.all e w ks (iL t ps xs) ((ps.zip us).foldl (fun t (p,v)=>t.setIfInBounds p v) tm).toList
 | [],_,_,us,_,h,_=>by simp_all [iL]
 | p::ps,[],_,[],_,h,_=>by simp_all [iL]
 | p::ps,[],_,_::_,_,_,h=>by grind [AV.all]
 | p::ps,x::xs,_,[],_,_,h=>by grind [AV.all]
 | p::ps,x::xs,t,u::us,tm,h,h'=>by
  simp;exact xV (by simpa using h.set p h'.1) h'.2
theorem pV {nB:Nat} {vs:List Nat}:∀ {ps:List Nat} {xs t:List AV},AV.scos nB vs t->AV.scos nB vs xs->AV.scos nB vs (iL t ps xs)
 | [],_,_,h,_=>by grind [iL]
 | p::ps,[],_,h,_=>by grind [iL]
 | p::ps,x::xs,t,h,h'=>by
  simp [iL];refine pV ?_ h'.2;grind [AV.scos_iff]
def stY (sh:YSh) (x:List CV) (ps:List Nat) (st:St):St:=match sh with
 | .clo cs=>⟨iL st.t ps (Sc.avs cs x 0),st.B,st.V⟩
 | .lent T k=>⟨iL st.t ps [.own st.V.length 1],st.B,st.V++[⟨true,T,k,1,cR (x.getD 0 dC)⟩]⟩
def YSh.np:YSh->Nat
 | .clo cs=>cs.length
 | .lent _ _=>1
structure Wkd (st st1:St):Prop where
 t:AV.les st.t st1.t
 Bl:st1.B.length=st.B.length
 B:∀ (i:Nat) (b1:Box),st1.B[i]? = some b1->∃ b,st.B[i]? = some b/\(b1.live=true->b.live=true/\b1.T=b.T/\AV.les b.cs b1.cs)
 Vl:st1.V.length=st.V.length
 V:∀ (i:Nat) (v1:Vec),st1.V[i]? = some v1->∃ v,st.V[i]? = some v/\v1.ver=v.ver/\v1.k=v.k/\(v1.live=true\/v1.T=ghT->v1=v)
 sct:∀ nb vs,AV.scos nb vs st.t->AV.scos nb vs st1.t
 scB:∀ nb vs (i:Nat) (b b1:Box),st.B[i]? = some b->st1.B[i]? = some b1->AV.scos nb vs b.cs->AV.scos nb vs b1.cs
theorem Wkd.vers {st st1:St} (h:Wkd st st1):vers st1.V=vers st.V:=by
 refine List.ext_getElem? fun i=>?_
 cases hi:st1.V[i]? with
 | none =>
  have:st.V[i]? = none:=by rw [List.getElem?_eq_none_iff] at hi ⊢;rw [<- h.Vl];exact hi
  grind
 | some v1 =>
  obtain ⟨v,h1,h2,_⟩:=h.V i v1 hi;grind
theorem Wkd.weak {st1:St} (h:Wkd st st1) (hr:Rel n0 w0 e st a w):Weak st st1:=by
 refine ⟨h.t,h.B,h.V,?_,?_⟩
 ·rw [h.Bl,h.vers];exact h.sct _ _ hr.sc
 ·intro i b1 co
  obtain ⟨b,hb,_⟩:=h.B i b1 co;rw [h.Bl,h.vers];exact h.scB _ _ i b b1 hb co (hr.mem.boxsc i b hb)
theorem Wk.d {st1:St} (h:Wk st st1):Wkd st st1:=
 ⟨h.t,h.Bl,h.B,by rw [h.V],fun i v1 hv=>⟨v1,by rw [<- h.V];exact hv,rfl,rfl,fun _=>rfl⟩,h.sct,h.scB⟩
theorem BD:∀ {a b c:List AV},AV.les a b->AV.les b c->AV.les a c
 | _,_,_,.nil,.nil=>.nil
 | _,_,_,.cons h hs,.cons h' j9=>.cons (fun e w ks v hv=>h' e w ks v (h e w ks v hv)) (BD hs j9)
theorem Wkd.trans {a b c:St} (h:Wkd a b) (h':Wkd b c):Wkd a c:=by
 refine ⟨BD h.t h'.t,h'.Bl.trans h.Bl,fun i b1 hb=>?_,h'.Vl.trans h.Vl,fun i v1 hv=>?_,fun nb vs hs=>h'.sct nb vs (h.sct nb vs hs),fun nb vs i x y hx hy hs=>?_⟩
 ·obtain ⟨b2,h1,h2⟩:=h'.B i b1 hb
  obtain ⟨b3,h3,h4⟩:=h.B i b2 h1;exact ⟨b3,h3,fun hl=>⟨(h4 (h2 hl).1).1,(h2 hl).2.1.trans (h4 (h2 hl).1).2.1,BD (h4 (h2 hl).1).2.2 (h2 hl).2.2⟩⟩
 ·obtain ⟨v2,h1,h2,h3,h4⟩:=h'.V i v1 hv
  obtain ⟨v3,h5,h6,h7,h8⟩:=h.V i v2 h1;grind
 ·obtain ⟨z,h1,_⟩:=h'.B i y hy
  exact h'.scB nb vs i z y h1 hy (h.scB nb vs i x z hx h1 hs)
def pA (j:Nat) (V:List Vec):List Vec:=V.mapIdx fun i v=>if i=j then ⟨false,v.T,v.k,v.ver,v.es⟩ else v
theorem kD (j:Nat) (V:List Vec):(pA j V).length=V.length:=by simp [pA]
theorem lH (j:Nat) (V:List Vec) (i:Nat):(pA j V)[i]? = (V[i]?).map fun v=>if i=j then ⟨false,v.T,v.k,v.ver,v.es⟩ else v:=by simp [pA]
theorem Wkd.kill (st:St) (j:Nat) (hT:∀ v,st.V[j]? = some v->v.T≠ghT):Wkd st ⟨st.t,st.B,pA j st.V⟩:=by
 refine ⟨AV.les_refl _,rfl,fun i b1 hb=>⟨b1,hb,fun hl=>⟨hl,rfl,AV.les_refl _⟩⟩,kD _ _,fun i v1 hv=>?_,fun _ _ h=>h,fun _ _ i b b1 h1 h2 h3=>by grind⟩
 grind [lH,Option.map_eq_some_iff]
def aFI (sh:YSh) (x:List CV) (st':St) (I:St->Prop) (b:Bool) (pe:Option Code) (ex:Exit) (s2:St):Prop:=
 ∃ s3,Wkd ⟨st'.t,s2.B,s2.V⟩ s3/\st'.B.length<=s3.B.length/\st'.V.length<=s3.V.length/\I s3 /\
  ((ex=.normal/\pe=none/\b=true)\/(ex=.ret/\pe=some .ret/\b=false)\/(∃ id,ex=.exit id/\pe=some (.exit id)/\b=false)) /\
  (match sh with
   | .clo _=>True
   | .lent T k=>s2.V[st'.V.length]? = some ⟨true,T,k,1,cR (x.getD 0 dC)⟩/\∀ v,s3.V[st'.V.length]? = some v->v.live=false)
theorem JY {A:Type} (f:A->Nat×Value->A) (ps:Array Tmp) (args:Array Value) (t:A):(ps.zip args).foldl f t=(ps.toList.zip args.toList).foldl f t:=by
 rw [<- Array.foldl_toList];simp
def YIn (n0:Nat) (e:Env) (st:St) (w:World) (S:Nat->Prop) (X:Nat->Option (Obj×Bool)) (sh:YSh) (x:List CV) (args:Array Value):Prop:=match sh with
 | .clo cs=>∀ (e1:Env) (ks:List Nat),e1.S=S->AV.all e1 w ks (Sc.avs cs x 0) args.toList
 | .lent T k=>∃ (v:Value) (el:List (List CV)) (xs:List Value),x=[.row k el]/\args=#[v]/\T<bE/\OwnsV w n0 T k v el.length xs/\gQ el=true/\CV.vals w S el.flatten xs/\(∀ l∈el,l.length=k)/\(∀ g,aY v=some g->¬e.S g/\¬S g/\X g=none/\¬Own e st g)
def aIP (sh:YSh) (args:Array Value) (e:Env) (j:Nat):Prop:=match sh with
 | .clo _=>True
 | .lent _ _=>∃ v,args=#[v]/\e.hdr j 1=v
theorem Rel.inY (hr:Rel n0 w0 e st a w) (hy:e.y=false) (Hk:w0.heap.size<=w.heap.size) {S:Nat->Prop} {X:Nat->Option (Obj×Bool)} (hS:∀ b,S b->b<w.heap.size) (hX:iG X w) (Dr:∀ b o,e.S b\/S b->X b≠some (o,true)) (hO:∀ b,Own e st b->¬S b/\X b=none)
  (hn:∀ b,S b->e.S b\/e.base<=b) {sh:YSh} {x:List CV} {ps:Array Tmp} {args:Array Value}
  (ac:YIn n0 e st w S X sh x args) :
  ∃ e1,Rel n0 w0 e1 (stY sh x ps.toList st) { tmps:=(ps.zip args).foldl (fun t (p,v)=>t.setIfInBounds p v) a.tmps,defers:=[] } w/\Ext0 e st w e1 (stY sh x ps.toList st) w/\e1.H=X/\e1.S=(fun b=>e.S b\/S b)/\e1.y=false/\e1.base=e.base/\aIP sh args e1 st.V.length:=by
 have hm:=hr.mem
 have h1:Rel n0 w0 { e with S:=fun b=>e.S b\/S b,H:=X } st a w:=
  hr.move hy (fun _ h=>.inl h) (fun b hb=>hb.elim (hm.ro b) (hS b)) (fun b hb=>⟨fun h=>h.elim (Own.lt hm hb).2.1 (hO b hb).1,(hO b hb).2⟩) (fun _ _=>rfl) hm.base Hk ⟨rfl,rfl,rfl⟩ hX Dr
 have ar:Ext0 e st w { e with S:=fun b=>e.S b\/S b,H:=X } st w:=Ext0.same (fun _ h=>.inl h) (fun _ _=>rfl) (Nat.le_refl _) (fun b hb=>hb.elim .inl (hn b))
 cases sh with
 | clo cs =>
  refine ⟨_,⟨?_,?_,h1.mem⟩,ar,rfl,rfl,hy,rfl,trivial⟩
  ·rw [JY]
   refine xV h1.tm ?_;have h2:=ac ⟨e.ρ,e.hdr,S,e.base,X,e.y⟩ (kss st.V) rfl;exact AV.closeds_holds (e:=⟨e.ρ,e.hdr,S,e.base,X,e.y⟩) (fun b hb=>(Or.inr hb:e.S b\/S b)) _ _ (Sc.avs_closed cs x 0) h2
  ·exact pV h1.sc (AV.scos_closed _ _ _ (Sc.avs_closed cs x 0))
 | lent T k =>
  obtain ⟨v,el,xs,rfl,rfl,hT,au,eh,hv,hk,hg⟩:=ac;obtain ⟨e',g1,g2,g3,g4,g5,g6,g7,g8,g9⟩:=h1.adopt hy hT au (CV.flat_vals (vX eh) hv) hk (fun g em=>⟨fun h=>h.elim (hg g em).1 (hg g em).2.1,(hg g em).2.2.1,(hg g em).2.2.2⟩)
  refine ⟨e',⟨?_,?_,g1.mem⟩,ar.trans (Ext0.of (st':=⟨st.t,st.B,st.V++[⟨true,T,k,1,el⟩]⟩) g2),g6,g5,g8.trans hy,g7,v,rfl,g3⟩
  ·rw [JY]
   refine xV g1.tm ?_;simp [AV.all];exact ⟨g3.symm,au.one⟩
  ·show AV.scos st.B.length (vers (st.V++[⟨true,T,k,1,el⟩])) (iL st.t ps.toList [.own st.V.length 1])
   refine pV g1.sc ?_;simp
section
variable {F:Fence} {n:Nat} {P:Program} [C:Co P]
theorem zF {w w':World} {S S':Nat->Prop}:∀ {cs:List CV} {vs us:List Value},cs.all CV.flat=true->CV.vals w S cs vs->CV.vals w' S' cs us->vs=us
 | [],[],[],_,_,_=>rfl
 | [],[],_::_,_,_,h=>by grind [CV.vals]
 | [],_::_,_,_,h,_=>by grind [CV.vals]
 | _::_,[],_,_,h,_=>by grind [CV.vals]
 | _::_,_::_,[],_,_,h=>by grind [CV.vals]
 | c::cs,v::vs,u::us,hf,h,h'=>by
  simp only [List.all_cons,Bool.and_eq_true] at hf;obtain ⟨h1,h2⟩:=h;obtain ⟨h3,h4⟩:=h';have:=zF hf.2 h2 h4;cases c with
  | val x=>grind [CV.holds]
  | _=>simp [CV.flat] at hf
def aE2 (n0:Nat) (u:World) (S L:Nat->Prop) (H:Nat->Option (Obj×Bool)) (sh:YSh) (x:List CV) (args:Array Value):Prop:=match sh with
 | .clo cs=>(∀ b,¬L b)/\∀ (e1:Env) (ks:List Nat),e1.S=S->AV.all e1 u ks (Sc.avs cs x 0) args.toList
 | .lent T k=>∃ (v:Value) (el:List (List CV)) (xs:List Value),x=[.row k el]/\args=#[v]/\T<bE/\OwnsV u n0 T k v el.length xs/\gQ el=true/\CV.vals u S el.flatten xs/\(∀ l∈el,l.length=k)/\(∀ g,aY v=some g->H g=none/\¬S g)/\(∀ g,L g↔aY v=some g)
def aE3 (n0:Nat) (u u5:World) (S:Nat->Prop) (sh:YSh) (x:List CV) (args:Array Value):Prop:=match sh with
 | .clo _=>True
 | .lent T k=>∀ v el xs,x=[.row k el]->args=#[v]->gQ el=true->CV.vals u S el.flatten xs->OwnsV u5 n0 T k v el.length xs
structure Rest (n0:Nat) (w0:World) (e:Env) (st:St) (a:Act) (w:World) (l D lim:Nat) (R:Obj) (e':Env) (st':St) (H:Nat->Option (Obj×Bool)):Prop where
 y:e'.y=false
 h:e'.H=e.H
 jK:∀ b,e.H b≠none->H b≠none
 b:e'.base<=lim
 j1:∀ b,b<lim->H b≠none
 j2:∀ b,e'.S b↔∃ o,H b=some (o,false)
 j3:∀ b,Own e' st' b->H b≠none
 j5:¬e'.S l/\¬e'.S D
 j6:∀ b,Own e' st' b->b≠l/\b≠D
 j7:∀ W4,iG H W4->(W4.os=w.os/\W4.tape=w.tape/\W4.output=w.output)->Rel n0 w0 e' st' a W4/\cL e st w e' st'.B st'.V W4/\W4.heap[l]? = some R/\W4.heap[D]? = some (.deferred (some []))
def QC (n0:Nat) (w0:World) (e:Env) (st:St) (a:Act) (w u:World) (l D lim:Nat) (R:Obj) (I:St->Prop) (H:Nat->Option (Obj×Bool)) (S L:Nat->Prop) (sh:YSh) (x:List CV) (args:Array Value) (b:Bool) (en:Ending) (u5:World):Prop:=
 en=.returned (.bool b)/\∃ (e3:Env) (s3:St) (H3:Nat->Option (Obj×Bool)),I s3/\Rest n0 w0 e st a w l D lim R e3 s3 H3 /\
  iG H3 u5/\(∀ b,H3 b≠none->H b≠none\/S b\/u.heap.size<=b)/\(∀ b o,S b->H3 b≠some (o,true))/\u.heap.size<=u5.heap.size/\(u5.os=u.os/\u5.tape=u.tape/\u5.output=u.output) /\
  (∀ b,b<u.heap.size->H b=none->¬L b->u5.heap[b]? = u.heap[b]?)/\(∀ b,S b->u5.heap[b]? = u.heap[b]?)/\aE3 n0 u u5 S sh x args
open Classical in
theorem aDI {n0:Nat} {w0:World} {e e':Env} {st st':St} {a:Act} {w u:World} (_:Free F)
  {l D lim:Nat} {rec:LoopState->Option Code->Loop} {fn:FuncId} {ps:Array Tmp} {assign body:Code}
  (oo:rec=fun s pe=>{ state:=s,pending:=pe,fn,tmps:=a.tmps,params:=ps,assign,body,defers:=D }) 
  (oq:n0<=lim/\lim<=u.heap.size/\l<lim/\D<lim/\n0<=l/\l≠D/\w0.heap.size<=l/\w.heap.size<=l) (vq:u.os=w.os/\u.tape=w.tape/\u.output=w.output) {H:Nat->Option (Obj×Bool)} {S:Nat->Prop} (Br:iG H u) (hS:∀ b,S b->b<u.heap.size) (mf:∀ b o,S b->H b≠some (o,true))
  (hJ:Rest n0 w0 e st a w l D lim (.loop (rec .ready none)) e' st' H)
  {sh:YSh} {x:List CV} {args:Array Value} {b:Bool} {pe:Option Code} {I:St->Prop}
  (d5:W (F.inRound l) n P assign (stY sh x ps.toList st') fun ex s1=>ex=.normal/\W (F.inRound l) n P body s1 (aFI sh x st' I b pe))
  (J2:HardH e.H) (J3:e.H l=none/\e.H D=none) (L:Nat->Prop) (ac:aE2 n0 u S L H sh x args) :
  RoundCo F n P l fn ((ps.zip args).foldl (fun t (p,v)=>t.setIfInBounds p v) a.tmps) assign body u
   (QC n0 w0 e st a w u l D lim (.loop (rec (if pe.isNone then .ready else .done) pe)) I H S L sh x args b):=by
 obtain ⟨hy,Du,jK,iF,j1,j2,j3,j5,j6,j7⟩:=hJ;obtain ⟨af,fw,hl,hD⟩:=j7 u Br vq;obtain ⟨k1,k2,k3,k4,k5,k6,k7,k8⟩:=oq;have hm:=af.mem
 have noS:∀ c,c<lim->¬e'.S c->¬S c:=by
  intro c hc hn hs;cases hh:H c with
  | none=>grind
  | some o =>
   obtain ⟨o,f⟩:=o;simp_all
 let priv:Nat->Prop:=fun b=>b<u.heap.size/\H b=none/\¬S b/\¬L b
 have Dv:∀ c o f,e.H c=some (o,f)->u.heap[c]? = some o/\f=true:=fun c o f hc=>⟨hm.hid.obj c o f (by rw [Du];exact hc),J2 c o f hc⟩
 have Hl:∀ c,e.H c≠none->¬e'.S c:=by
  intro c hc hs;cases hh:e.H c with
  | none=>exact hc hh
  | some o =>
   obtain ⟨o,f⟩:=o;obtain rfl:=(Dv c o f hh).2;exact hm.hid.own c o hs (by rw [Du];exact hh)
 have Nw:∀ c,Own e' st' c->e.H c=none:=fun c hc=>by have:=(Own.lt hm hc).2.2.1;rw [Du] at this;exact this
 let X:Nat->Option (Obj×Bool):=fun b=>if priv b\/b=l\/b=D\/e.H b≠none then (u.heap[b]?).map (·,true) else none
 have J4:∀ c,X c≠none->priv c\/c=l\/c=D\/e.H c≠none:=by
  grind
 have Bs:∀ c o f,X c=some (o,f)->u.heap[c]? = some o/\f=true:=by
  grind
 have ra:∀ c,priv c\/c=l\/c=D\/e.H c≠none->∃ o,X c=some (o,true)/\u.heap[c]? = some o:=by
  intro c hc
  have an:∃ o,u.heap[c]? = some o:=by
   rcases hc with hc | rfl | rfl | hc
   ·exact ⟨u.heap[c]'hc.1,by simp [hc.1]⟩
   ·exact ⟨_,hl⟩
   ·exact ⟨_,hD⟩
   ·cases hh:e.H c with
    | none=>exact absurd hh hc
    | some o=>exact ⟨_,(Dv c o.1 o.2 hh).1⟩
  obtain ⟨o,ho⟩:=an;exact ⟨o,by show (if _ then _ else _)=_;rw [if_pos hc,ho];rfl,ho⟩
 have hX:iG X u:=fun c o f hc=>(Bs c o f hc).1
 have Dw:∀ c,S c->e.H c=none:=by
  intro c hs;cases hh:e.H c with
  | none=>rfl
  | some o =>
   exfalso;have h1:=jK c (by rw [hh];simp)
   cases h2:H c with
   | none=>exact h1 h2
   | some q =>
    obtain ⟨q,f⟩:=q;cases f with
    | true=>exact mf c q hs h2
    | false=>exact Hl c (by rw [hh];simp) ((j2 c).2 ⟨q,h2⟩)
 have Dr:∀ b o,e'.S b\/S b->X b≠some (o,true):=by
  intro b o hb hx;rcases J4 b (by rw [hx];simp) with h1 | h1 | h1 | h1
  ·grind
  ·grind
  ·grind
  ·rcases hb with hb | hb
   ·exact Hl b h1 hb
   ·exact h1 (Dw b hb)
 have hO:∀ b,Own e' st' b->¬S b/\X b=none:=by
  intro c hc;have h1:=(Own.lt hm hc).2.1;refine ⟨fun hs=>?_,?_⟩
  ·cases hh:H c with
   | none=>grind
   | some o =>
    obtain ⟨o,f⟩:=o;simp_all
  grind
 have hn:∀ b,S b->e'.S b\/e'.base<=b:=by
  grind
 have vr:∀ g,H g=none->¬e'.S g/\¬Own e' st' g/\g≠l/\g≠D:=fun g hg =>
  ⟨fun hs=>by grind,fun ho=>j3 g ho hg,fun he=>j1 g (by omega) hg,fun he=>j1 g (by omega) hg⟩
 obtain ⟨e1,r1,x1,eH,eS,ey,eb,elent⟩:=af.inY hy (by omega) (S:=S) (X:=X) hS hX Dr hO hn (sh:=sh) (x:=x) (ps:=ps) (args:=args) (by
  cases sh with
  | clo cs=>exact ac.2
  | lent T k =>
   obtain ⟨v,el,xs,q1,q2,q3,q4,q5,q6,q7,q8,q9⟩:=ac;refine ⟨v,el,xs,q1,q2,q3,q4,q5,q6,q7,fun g hg=>?_⟩
   grind)
 refine HO (d5 n0 w0 e1 _ u _ r1 ?_);rintro x2 e2 s1 a1 u1' ⟨rfl,hB⟩ r2' bq Dx;intro u1 A4;obtain ⟨r2,Dy⟩:=r2'.rely A4;have dw:=Dx.trans Dy;have Hm:e2.H=X:=(dw.he ey).trans eH;have pv:e2.y=false:=dw.ye.trans ey;obtain ⟨ol,Cl,zd⟩:=ra l (.inr (.inl rfl));rw [hl] at zd;cases zd;obtain ⟨oD,Dz,ze⟩:=ra D (.inr (.inr (.inl rfl)));rw [hD] at ze;cases ze;have i8:u1.heap[l]? = some (.loop (rec .ready none)):=r2.mem.hid.obj l _ true (by grind)
 have DO:=(Array.getElem?_eq_some_iff.1 i8).1;refine ⟨_,run_beginRound (P:=P) i8 (by grind),?_⟩
 obtain ⟨busy,zf⟩:∃ busy:Loop,busy={ rec .ready none with state:=.busy }:=⟨_,rfl⟩
 rw [<- zf]
 let X2:Nat->Option (Obj×Bool):=fun c=>if c=l then some (.loop busy,true) else X c
 have D0:X2 l=some (.loop busy,true):=if_pos rfl;have D1:∀ c,c≠l->X2 c=X c:=fun c hc=>if_neg hc
 have nS2:∀ c,X c≠none->¬e2.S c:=by
  intro c hc hs;cases hx:X c with
  | none=>grind
  | some o =>
   obtain ⟨o,f⟩:=o;have:=(Bs c o f hx).2;subst this;exact r2.mem.hid.own c o hs (by grind)
 have nO2:∀ c,Own e2 s1 c->X c=none:=fun c hc=>by have:=(Own.lt r2.mem hc).2.2.1;grind
 have D2:X l≠none:=by grind
 have r3:Rel n0 w0 { e2 with S:=e2.S,H:=X2 } s1 a1 (u1.putObj l (.loop busy)):=by
  refine r2.move pv (fun _ h=>h) (fun c hc=>by have:=r2.mem.ro c hc;simp_all) (fun c hc=>⟨(Own.lt r2.mem hc).2.1,?_⟩) (fun c hc=>World.putObj_heap_other ?_) (by grind [World.putObj]) (by grind [World.putObj]) ⟨rfl,rfl,rfl⟩ (fun c o f hc=>?_) (fun c o hs hc=>?_)
  ·grind
  ·grind
  ·by_cases bw:c=l
   ·subst bw;rw [D0] at hc;cases hc
    exact World.putObj_heap_same DO
   ·rw [D1 c bw] at hc
    rw [World.putObj_heap_other bw];exact r2.mem.hid.obj c o f (by grind)
  grind
 have x3:Ext0 e2 s1 u1 { e2 with S:=e2.S,H:=X2 } s1 (u1.putObj l (.loop busy)):=
  Ext0.same (fun _ h=>h) (fun c hc=>World.putObj_heap_other fun he=>nS2 l D2 (by grind)) (by simp) (fun _ h=>.inl h)
 refine hB n0 w0 _ a1 _ _ r3 ?_;rintro ex e3 s2 a2 u3' ⟨s3,vt,J5,Nx,hI,ja,fk⟩ r4' J6 D3
 suffices ij:∀ u3,Rely u3' u3->∃ v w',(Instr.endRound l pe).run P u3=.ok v w'/\QC n0 w0 e st a w u l D lim (.loop (rec (if pe.isNone then .ready else .done) pe)) I H S L sh x args b (.returned v) w' by
  rcases ja with ⟨rfl,q2,q3⟩ | ⟨rfl,q2,q3⟩ | ⟨id,rfl,q2,q3⟩
  all_goals
   subst q2;exact ij
 intro u3 J7;obtain ⟨r4,D4⟩:=r4'.rely J7;have zg:=D3.trans D4;have J8:e3.H=X2:=zg.he pv;have Hn:e3.y=false:=zg.ye.trans pv;have zh:u3.heap[l]? = some (.loop busy):=r4.mem.hid.obj l _ true (by grind)
 have D5:=(Array.getElem?_eq_some_iff.1 zh).1;have ji:=run_endRound (P:=P) pe zh;have zi:({ busy with state:=if pe.isNone=true then LoopState.ready else LoopState.done,pending:=pe }:Loop)=rec (if pe.isNone then .ready else .done) pe:=by grind
 rw [zi] at ji;generalize D6:u3.putObj l (.loop (rec (if pe.isNone then .ready else .done) pe))=u5 at ji
 have xB:Ext0 e1 (stY sh x ps.toList st') u e3 s2 u3:=((Ext0.of dw).trans x3).trans (Ext0.of zg);have xA:Ext0 e' st' u e3 s2 u3:=x1.trans xB;have mg:∀ c,c≠l->u5.heap[c]? = u3.heap[c]?:=fun c hc=>by rw [<- D6];exact World.putObj_heap_other hc
 have Ho:u5.heap[l]? = some (.loop (rec (if pe.isNone then .ready else .done) pe)):=by rw [<- D6];exact World.putObj_heap_same D5
 have Bt:u5.heap.size=u3.heap.size:=by grind [World.putObj]
 have nX3:∀ c,X c≠none->¬e3.S c:=by
  intro c hc hs
  by_cases bw:c=l
  ·subst bw;exact r4.mem.hid.own _ _ hs (by rw [J8];omega)
  ·cases hx:X c with
   | none=>grind
   | some o =>
    obtain ⟨o,f⟩:=o;have:=(Bs c o f hx).2;subst this;exact r4.mem.hid.own c o hs (by grind)
 have nO3:∀ c,Own e3 s2 c->X c=none/\c≠l:=by
  intro c hc;have h1:=(Own.lt r4.mem hc).2.2.1;grind
 have keepX:∀ c,c≠l->X c≠none->u3.heap[c]? = u.heap[c]?:=by
  intro c bw hc;cases hx:X c with
  | none=>grind
  | some o =>
   obtain ⟨o,f⟩:=o;rw [(Bs c o f hx).1];exact r4.mem.hid.obj c o f (by grind)
 have Cq:∀ c,S c->e3.S c:=fun c hs=>xB.ro.sub c (show e1.S c by grind)
 have qc:∀ c,S c->c≠l:=fun c hs he=>noS l k3 j5.1 (by grind)
 have Hp:∀ c,S c->u5.heap[c]? = u.heap[c]?:=fun c hs=>(mg c (qc c hs)).trans (xB.ro.same c (show e1.S c by grind))
 have vp:∀ c,Own e3 s3 c->Own e3 s2 c/\¬L c:=by
  intro c hc;rcases hc with ⟨i,y,q1,q2,q3⟩ | ⟨i,y,q1,q2,q3⟩
  ·obtain ⟨y0,z1,z2⟩:=vt.B i y q1
   have ho:Own e3 s2 c:=.inl ⟨i,y0,z1,(z2 q2).1,q3⟩;refine ⟨ho,fun hL=>?_⟩
   cases sh with
   | clo cs=>exact ac.1 c hL
   | lent T k =>
    obtain ⟨v,el,xs,p1,p2,p3,p4,p5,p6,p7,p8,p9⟩:=ac;obtain ⟨v',t1,t2⟩:=elent;rw [p2] at t1;cases t1;have hh:e3.hdr st'.V.length 1=v:=(xB.hdr st'.V.length 1 (by simp [stY,vers]) (by simp [stY,vers,List.getD])).trans t2
    exact r4.mem.vecbox _ _ i y0 c fk.1 rfl z1 (z2 q2).1 (by rw [hh];exact (p9 c).1 hL) q3
  ·obtain ⟨y0,z1,z2,z3,z4⟩:=vt.V i y q1
   obtain rfl:=z4 (.inl q2);have ho:Own e3 s2 c:=.inr ⟨i,y,z1,q2,q3⟩;refine ⟨ho,fun hL=>?_⟩
   cases sh with
   | clo cs=>exact ac.1 c hL
   | lent T k =>
    obtain ⟨v,el,xs,p1,p2,p3,p4,p5,p6,p7,p8,p9⟩:=ac;obtain ⟨v',t1,t2⟩:=elent;rw [p2] at t1;cases t1;have hh:e3.hdr st'.V.length 1=v:=(xB.hdr st'.V.length 1 (by simp [stY,vers]) (by simp [stY,vers,List.getD])).trans t2
    have:=r4.mem.vecinj _ _ i y c fk.1 rfl z1 q2 (by rw [hh];exact (p9 c).1 hL) q3
    subst this;rw [fk.2 _ q1] at q2;cases q2
 let H3:Nat->Option (Obj×Bool):=fun c=>if c<u.heap.size/\H c=none/\¬S c then none else (u5.heap[c]?).map fun o=>(o,decide (¬e3.S c))
 have zj:∀ c,¬(c<u.heap.size/\H c=none/\¬S c)->H3 c=(u5.heap[c]?).map fun o=>(o,decide (¬e3.S c)):=fun c hc=>if_neg hc
 have zk:∀ c,H3 c≠none->¬(c<u.heap.size/\H c=none/\¬S c):=fun c hc h=>hc (if_pos h)
 have rd:∀ c o f,H3 c=some (o,f)->u5.heap[c]? = some o/\f=decide (¬e3.S c):=by
  intro c o f hc;rw [zj c (zk c (by rw [hc];simp)),Option.map_eq_some_iff] at hc
  obtain ⟨o',h1,h2⟩:=hc;cases h2;exact ⟨h1,rfl⟩
 have some5:∀ c,c<u3.heap.size->¬(c<u.heap.size/\H c=none/\¬S c)->∃ o,H3 c=some (o,decide (¬e3.S c)):=by
  intro c hc re;have:c<u5.heap.size:=by rw [Bt];exact hc
  exact ⟨u5.heap[c],by rw [zj c re];simp [this]⟩
 have cn:u.heap.size<=u3.heap.size:=xA.sz
 have g1:∀ c,c<lim->H3 c≠none:=by
  intro c hc;obtain ⟨o,ho⟩:=some5 c (by omega) fun h=>j1 c hc h.2.1
  rw [ho];simp
 have gK:∀ c,e.H c≠none->H3 c≠none:=by
  intro c hc;obtain ⟨o,_,ho⟩:=ra c (.inr (.inr (.inr hc)));obtain ⟨o,ho⟩:=some5 c (Nat.lt_of_lt_of_le (Array.getElem?_eq_some_iff.1 ho).1 cn) fun h=>jK c hc h.2.1
  rw [ho];simp
 have Hq:∀ c,e.H c≠none->c≠l:=fun c hc he=>hc (he▸J3.1)
 have g2:∀ c,e3.S c↔∃ o,H3 c=some (o,false):=by
  intro c;constructor
  ·intro hs
   have an:=r4.mem.ro c hs
   have Bu:¬(c<u.heap.size/\H c=none/\¬S c):=by
    rintro ⟨z1,z2,z3⟩
    by_cases hL:L c
    ·cases sh with
     | clo cs=>exact ac.1 c hL
     | lent T k =>
      obtain ⟨v,el,xs,p1,p2,p3,p4,p5,p6,p7,p8,p9⟩:=ac;obtain ⟨v',t1,t2⟩:=elent;rw [p2] at t1;cases t1;have hh:e3.hdr st'.V.length 1=v:=(xB.hdr st'.V.length 1 (by simp [stY,vers]) (by simp [stY,vers,List.getD])).trans t2
      exact r4.mem.vecS _ _ c fk.1 rfl (by rw [hh];exact (p9 c).1 hL) hs
    ·obtain ⟨o,ho,_⟩:=ra c (.inl ⟨z1,z2,z3,hL⟩)
     exact nX3 c (by rw [ho];simp) hs
   obtain ⟨o,ho⟩:=some5 c an Bu;exact ⟨o,by rw [ho];simp [hs]⟩
  ·rintro ⟨o,ho⟩
   have:=(rd c o false ho).2;simpa using this.symm
 have g3:∀ c,Own e3 s3 c->H3 c≠none:=by
  intro c hc;obtain ⟨ho,hL⟩:=vp c hc;have an:=(Own.lt r4.mem ho).1
  obtain ⟨o,hh⟩:=some5 c an (by
   rintro ⟨z1,z2,z3⟩;obtain ⟨o,hx,_⟩:=ra c (.inl ⟨z1,z2,z3,hL⟩);rw [(nO3 c ho).1] at hx;cases hx)
  rw [hh];simp
 have tk:Rel n0 w0 e3 ⟨st'.t,s2.B,s2.V⟩ a u3:=⟨AV.all.ofNo (AV.all.mono xA _ _ af.sc (AV.all.no af.tm)),xA.scos af.sc,r4.mem⟩;have tj:=vt.weak tk;have jl:Rel n0 w0 e3 s3 a u3:=tk.weak tj;have mh:u3.os=u.os/\u3.tape=u.tape/\u3.output=u.output:=⟨r4.mem.below.os.trans hm.below.os.symm,r4.mem.below.tape.trans hm.below.tape.symm,r4.mem.below.output.trans hm.below.output.symm⟩;have vu:u5.os=u3.os/\u5.tape=u3.tape/\u5.output=u3.output:=by rw [<- D6];exact ⟨rfl,rfl,rfl⟩
 have fin:QC n0 w0 e st a w u l D lim (.loop (rec (if pe.isNone then .ready else .done) pe)) I H S L sh x args b (.returned (.bool pe.isNone)) u5:=by
  refine ⟨?_,{ e3 with S:=e3.S,H:=e.H },s3,H3,hI,⟨Hn,rfl,gK,by have:=xA.be;show e3.base<=lim;have h2:e3.base=e'.base:=this;omega,g1,g2,g3,⟨nX3 l D2,nX3 D (by rw [Dz];simp)⟩,fun c hc=>?_,fun W4 D7 ot=>?_⟩,fun c o f hc=>(rd c o f hc).1,fun c hc=>?_,fun c o hs hc=>?_,by rw [Bt];exact cn,
   ⟨vu.1.trans mh.1,vu.2.1.trans mh.2.1,vu.2.2.trans mh.2.2⟩,fun c hc re hL=>?_,Hp,?_⟩
  ·rcases ja with ⟨_,q2,q3⟩ | ⟨_,q2,q3⟩ | ⟨id,_,q2,q3⟩ <;> rw [q2,q3] <;> rfl
  ·have ho:=(vp c hc).1
   refine ⟨(nO3 c ho).2,fun he=>?_⟩
   have:=(nO3 c ho).1;rw [he,Dz] at this;cases this
  ·have agree:∀ c,H3 c≠none->W4.heap[c]? = u5.heap[c]?:=by
    intro c hc;cases hh:H3 c with
    | none=>exact absurd hh hc
    | some o =>
     obtain ⟨o,f⟩:=o;rw [D7 c o f hh,(rd c o f hh).1]
   have Ny:l<W4.heap.size:=by
    have:=agree l (g1 l k3);rw [Ho] at this;exact (Array.getElem?_eq_some_iff.1 this).1
   have agS:∀ c,e3.S c->W4.heap[c]? = u3.heap[c]?:=by
    intro c hs;obtain ⟨o,ho⟩:=(g2 c).1 hs;exact (agree c (by rw [ho];simp)).trans (mg c fun he=>nX3 l D2 (by rw [<- he];exact hs))
   have mj:=jl.move Hn (S':=e3.S) (H':=e.H) (fun _ h=>h) (fun c hs=>by
     have h1:=agS c hs;have h2:=r4.mem.ro c hs;have h3:u3.heap[c]? = some u3.heap[c]:=by simp [h2]
     rw [h3] at h1;exact (Array.getElem?_eq_some_iff.1 h1).1) (fun c hc=>⟨(Own.lt jl.mem hc).2.1,by
     have:=(nO3 c (vp c hc).1).1;cases hh:e.H c with
     | none=>rfl
     | some o=>exact absurd this (by obtain ⟨o,h,_⟩:=ra c (.inr (.inr (.inr (by rw [hh];simp))));rw [h];simp)⟩) (fun c hc=>by
     rcases hc with hc | hc | hc
     ·exact (agree c (g1 c (by omega))).trans (mg c (by omega))
     ·exact agS c hc
     ·exact (agree c (g3 c hc)).trans (mg c (nO3 c (vp c hc).1).2)) (by omega) (by omega) ⟨(ot.1.trans vq.1.symm).trans mh.1.symm,(ot.2.1.trans vq.2.1.symm).trans mh.2.1.symm,(ot.2.2.trans vq.2.2.symm).trans mh.2.2.symm⟩ (fun c o f hc=>by
     have gc:e.H c≠none:=by rw [hc];simp
     obtain ⟨o',h1,_⟩:=ra c (.inr (.inr (.inr gc)));rw [agree c (gK c gc),mg c (Hq c gc),keepX c (Hq c gc) (by rw [h1];simp)]
     exact (Dv c o f hc).1) (fun c o hs hc=>by
     obtain ⟨o',h1,_⟩:=ra c (.inr (.inr (.inr (by rw [hc];simp))))
     exact nX3 c (by rw [h1];simp) hs)
   refine ⟨mj,?_,(agree l (g1 l k3)).trans Ho,?_⟩
   ·have y1:Ext e.noH w st.B.length (vers st.V) (kss st.V) e3.noH u3 s2.B.length (vers s2.V) (kss s2.V):=(Ext0.of fw).trans xA
    have y2:=y1.weak (s:=⟨st'.t,s2.B,s2.V⟩) tj (Nat.le_trans fw.nB J5) (by have:=fw.nV;simp only [vers,List.length_map] at this ⊢;omega)
    exact ⟨⟨y2.ro.sub,fun c hs=>(agS c (y2.ro.sub c hs)).trans (y2.ro.same c hs)⟩,y2.ρ,y2.hdr,y2.nB,y2.nV,y2.verle,y2.kseq,by omega,y2.snew,y2.be,fun _=>rfl,y2.ye⟩
   ·exact (agree D (g1 D k4)).trans ((mg D (Ne.symm k6)).trans ((keepX D (Ne.symm k6) (by rw [Dz];simp)).trans hD))
  ·have:=zk c hc
   by_cases z1:H c=none
   ·by_cases z2:S c
    ·exact .inr (.inl z2)
    ·exact .inr (.inr (Nat.le_of_not_lt fun an=>this ⟨an,z1,z2⟩))
   ·exact .inl z1
  ·have:=(rd c o true hc).2
   simp [Cq c hs] at this
  ·by_cases hs:S c
   ·exact Hp c hs
   ·obtain ⟨o,ho,_⟩:=ra c (.inl ⟨hc,re,hs,hL⟩)
    have bw:c≠l:=(vr c re).2.2.1;exact (mg c bw).trans (keepX c bw (by rw [ho];simp))
  ·cases sh with
   | clo cs=>trivial
   | lent T k =>
    intro v el xs p1 p2 p5 p6;obtain ⟨v',el',xs',q1,q2,q3,q4,q5,q6,q7,q8,q9⟩:=ac;rw [p1] at q1;simp only [List.cons.injEq,CV.row.injEq,true_and,and_true] at q1;subst q1;rw [p2] at q2;simp only [Array.mk.injEq,List.cons.injEq,and_true] at q2;subst q2;obtain ⟨v',t1,t2⟩:=elent;rw [p2] at t1;cases t1;have hh:e3.hdr st'.V.length 1=v:=(xB.hdr st'.V.length 1 (by simp [stY,vers]) (by simp [stY,vers,List.getD])).trans t2
    obtain ⟨ys,y1,y2,y3⟩:=r4.mem.vec _ _ fk.1 rfl;have D8:cR (x.getD 0 dC)=el:=by rw [p1];rfl
    simp only [D8,hh] at y1 y2;have:=zF (vX p5) y2 p6;subst this;refine y1.keep fun g hg=>mg g ?_
    exact (vr g (q8 g hg).1).2.2.1
 exact ⟨_,_,ji,fin⟩
end
abbrev DU (J:List (List CV)->(Nat->Option (Obj×Bool))->Prop) (lo:Nat) (w:World):Ghost:=⟨J,lo,w,true⟩
section
variable {F:Fence} {n:Nat} {P:Program} [C:Co P]
theorem Sc.avs_length:∀ (cs:List Sc) (vs:List CV) (k:Nat),(Sc.avs cs vs k).length=cs.length
 | [],_,_=>rfl
 | c::cs,vs,k=>by simp [Sc.avs,Sc.avs_length cs vs]
open Classical in
theorem JZ (hF:Free F) (am:F.round=none) {g:Operand} {ps:Array Tmp} {assign body:Code} {st:St} {f:FuncId} {caps:List CV} {sh:YSh} {R:YF->List (List CV)->Option (List (List CV))} {yf:YF} {es0 es1:List (List CV)}
  (I:List (List CV)->St->Prop) (pend:List (List CV)->Option Code) {Q:Exit->St->Prop} (Bu:sh.np=ps.size) (hg:st.ev g=.cv (.fn f caps)) (da:dS P f=true) (vv:rB P f caps sh R) (hR:R yf es0=some es1) (h0:I es0 st) (Hr:pend es0=none)
  (d5:∀ (F:Fence) (n:Nat),Free F->∀ es x b es' st',yf es x=some (b,es')->I es st'->pend es=none/\W F n P assign (stY sh x ps.toList st') fun ex s1=>ex=.normal/\W F n P body s1 (aFI sh x st' (I es') b (pend es')))
  (ji:∀ st',I es1 st'->(pend es1=none->Q .normal st')/\(pend es1=some .ret->Q .ret st')/\(∀ id,pend es1=some (.exit id)->Q (.exit id) st')/\(pend es1=none\/pend es1=some .ret\/∃ id,pend es1=some (.exit id))) :
  W2 F n P (.rangeFunc g ps assign body) st Q:=by
 intro n0 w0 m0 e a w00 Qr gq zl ed cy;obtain ⟨ed,hy,J9⟩:=ed;have zm:=(gq.ev g).1;rw [hg] at zm;obtain ⟨lb,D9,Ea⟩:=zm
 have cj:∀ l,(do let d <- resolve a.eval (rangeCall g l) 0;invoke d.target d.args:Sem Next).calm P:=by
  intro l;simp only [rangeCall,resolve,D9,Deferred.ofValue,pure_bind,invoke];exact (enters da _).2
 refine EJ cj ?_;intro fn w hw;obtain ⟨hr,ei⟩:=gq.rely hw;have hm:=zl.mono ei.ro;replace ed:∀ b,w.heap.size<=b->m0 b:=fun b hb=>ed b (Nat.le_trans hw.size hb)
 have hk:∀ x e' st' a' w',Q x st'->Rel n0 w0 e' st' a' w'->Mk m0 e' w' a'.defers->cL e st w e' st'.B st'.V w'->Qr x a' w':=fun x e' st' a' w' h1 h2 h3 h4=>cy x e' st' a' w' h1 h2 h3 (ei.trans h4)
 have Bv:=(hr.ev g).1;rw [hg] at Bv;obtain ⟨lb',zn,ku⟩:=Bv;rw [D9] at zn;cases zn;clear cy ei hw zl gq Ea w00;have ee:=hr.mem;rw [am];obtain ⟨rec,oo⟩:∃ rec:LoopState->Option Code->Loop,rec=fun s pe=>{ state:=s,pending:=pe,fn,tmps:=a.tmps,params:=ps,assign,body,defers:=w.heap.size }:=⟨_,rfl⟩
 obtain ⟨W1,vw⟩:∃ W1,(w.alloc (.deferred (some []))).alloc (.loop (rec .ready none))=W1:=⟨_,rfl⟩
 have Ka:W1.heap[w.heap.size+1]? = some (.loop (rec .ready none)):=by
  have:=World.alloc_heap_new (w.alloc (.deferred (some []))) (.loop (rec .ready none));simp_all
 have vy:W1.heap[w.heap.size]? = some (.deferred (some [])):=by
  rw [<- vw];exact (Below.heap_alloc _ _ _ (by simp)).trans (World.alloc_heap_new w _)
 have Kb:W1.heap.size=w.heap.size+2:=by rw [<- vw];simp
 have cu:∀ c,c<w.heap.size->W1.heap[c]? = w.heap[c]?:=fun c hc=>by
  rw [<- vw];exact (Below.heap_alloc _ _ _ (by simp;omega)).trans (Below.heap_alloc _ _ _ hc)
 have vz:W1.os=w.os/\W1.tape=w.tape/\W1.output=w.output:=by rw [<- vw];exact ⟨rfl,rfl,rfl⟩
 have Hk:w0.heap.size<=w.heap.size:=ee.below.size
 have mo:∀ c,e.H c≠none->c<w.heap.size:=by
  intro c hc;cases hh:e.H c with
  | none=>exact absurd hh hc
  | some o=>exact (Array.getElem?_eq_some_iff.1 (ee.hid.obj c o.1 o.2 hh)).1
 have Kc:e.H (w.heap.size+1)=none/\e.H w.heap.size=none:=by
  constructor
  ·cases hh:e.H (w.heap.size+1) with
   | none=>rfl
   | some o=>have:=mo _ (by rw [hh];simp);omega
  ·cases hh:e.H w.heap.size with
   | none=>rfl
   | some o=>have:=mo _ (by rw [hh];simp);omega
 let Rec:List (List CV)->Obj:=fun es=>.loop (rec (if (pend es).isNone then .ready else .done) (pend es))
 let J:List (List CV)->(Nat->Option (Obj×Bool))->Prop:=fun es H=>∃ e' st',I es st'/\Rest n0 w0 e st a w (w.heap.size+1) w.heap.size (w.heap.size+2) (Rec es) e' st' H
 have wd:∀ es x b es',yf es x=some (b,es')->@lG (DU J n0 w) P _ (w.heap.size+1) sh es x b es':=by
  intro es x b es' we F' n' qz H S u args hJ Br kp hS mf ek;obtain ⟨e',st',hI,db⟩:=hJ;obtain ⟨Nz,A8⟩:=d5 (F'.inRound (w.heap.size+1)) n' (qz.inRound _) es x b es' st' we hI;have vq:u.os=w.os/\u.tape=w.tape/\u.output=w.output:=⟨kp.1,kp.2.1,kp.2.2.1⟩;have Eb:Rec es=.loop (rec .ready none):=by grind
  rw [Eb] at db;have yj:u.heap[w.heap.size+1]? = some (.loop (rec .ready none)):=(db.j7 u Br vq).2.2.1;have Kd:=(Array.getElem?_eq_some_iff.1 yj).1
  have oq:n0<=w.heap.size+2/\w.heap.size+2<=u.heap.size/\w.heap.size+1<w.heap.size+2/\w.heap.size<w.heap.size+2/\n0<=w.heap.size+1/\w.heap.size+1≠w.heap.size/\w0.heap.size<=w.heap.size+1/\w.heap.size<=w.heap.size+1:=by
   have:=ee.base;omega
  have ou:∀ (L:Nat->Prop),aE2 n0 u S L H sh x args->RoundCo F' n' P (w.heap.size+1) fn ((ps.zip args).foldl (fun t (p,v)=>t.setIfInBounds p v) a.tmps) assign body u (QC n0 w0 e st a w u (w.heap.size+1) w.heap.size (w.heap.size+2) (Rec es') (I es') H S L sh x args b):=
   fun L hL=>aDI qz oo oq vq Br hS mf db A8 J9 Kc L hL
  have post:∀ (L:Nat->Prop) (en:Ending) (u5:World),QC n0 w0 e st a w u (w.heap.size+1) w.heap.size (w.heap.size+2) (Rec es') (I es') H S L sh x args b en u5->en=.returned (.bool b)/\@PV (DU J n0 w) H S L es' u u5/\aE3 n0 u u5 S sh x args:=by
   rintro L en u5 ⟨rfl,e3,s3,H3,q1,q2,q3,q4,q5,q6,q7,q8,q9,q10⟩;exact ⟨rfl,⟨H3,⟨e3,s3,q1,q2⟩,q3,q4,q5,q6,q7.1,q7.2.1,q7.2.2,q8,q9⟩,q10⟩
  cases sh with
  | clo cs =>
   intro ac
   have cn:args.size=ps.size:=by
    have h1:=(ac ⟨e.ρ,e.hdr,S,e.base,e.H,e.y⟩ [] rfl).length;rw [Sc.avs_length] at h1;have:(YSh.clo cs).np=cs.length:=rfl;grind
   have jy:=run_yield (P:=P) (args:=args) yj (by grind)
   rw [oo] at jy;refine ⟨fn,_,assign,body,jy,(ou (fun _=>False) ⟨fun _ h=>h,ac⟩).mono fun en u5 hp=>?_⟩
   grind
  | lent T k =>
   intro v el xs hx eh ac hT au hv kc eg;have cn:args.size=ps.size:=by rw [<- Bu,ac];rfl
   have jy:=run_yield (P:=P) (args:=args) yj (by grind)
   rw [oo] at jy;refine ⟨fn,_,assign,body,jy,(ou (fun g=>aY v=some g) ⟨v,el,xs,hx,ac,hT,au,eh,hv,kc,eg,fun _=>Iff.rfl⟩).mono fun en u5 hp=>?_⟩
   obtain ⟨p1,p2,p3⟩:=post _ en u5 hp;exact ⟨p1,p2,p3 v el xs hx ac eh hv⟩
 let H0:Nat->Option (Obj×Bool):=fun c=>(W1.heap[c]?).map fun o=>(o,decide (¬e.S c))
 have zo:∀ c o f,H0 c=some (o,f)->W1.heap[c]? = some o/\f=decide (¬e.S c):=by
  grind
 have rh:∀ c,c<w.heap.size+2->∃ o,H0 c=some (o,decide (¬e.S c)):=by
  intro c hc;exact ⟨W1.heap[c],by grind⟩
 have wg:Rest n0 w0 e st a w (w.heap.size+1) w.heap.size (w.heap.size+2) (Rec es0) e st H0:=by
  refine ⟨hy,rfl,fun c hc=>(by obtain ⟨o,ho⟩:=rh c (by have:=mo c hc;omega);rw [ho];simp),by have:=ee.bl.1;have:=ee.base;omega,fun c hc=>?_,fun c=>⟨fun hs=>?_,fun ⟨o,ho⟩=>?_⟩,fun c hc=>?_,⟨fun hs=>?_,fun hs=>?_⟩,fun c hc=>?_,fun W4 D7 ot=>?_⟩
  ·grind
  ·obtain ⟨o,ho⟩:=rh c (by have:=ee.ro c hs;omega)
   grind
  ·grind
  ·obtain ⟨o,ho⟩:=rh c (by have:=(Own.lt ee hc).1;omega)
   grind
  ·have:=ee.ro _ hs;omega
  ·have:=ee.ro _ hs;omega
  ·have:=(Own.lt ee hc).1;omega
  ·have agree:∀ c,c<w.heap.size+2->W4.heap[c]? = W1.heap[c]?:=by
    intro c hc;obtain ⟨o,ho⟩:=rh c hc;rw [D7 c o _ ho,(zo c o _ ho).1]
   have Ke:W4.heap[w.heap.size+1]? = some (.loop (rec .ready none)):=(agree _ (by omega)).trans Ka
   have Kf:=(Array.getElem?_eq_some_iff.1 Ke).1;have agw:∀ c,c<w.heap.size->W4.heap[c]? = w.heap[c]?:=fun c hc=>(agree c (by omega)).trans (cu c hc)
   have mj:=hr.move hy (S':=e.S) (H':=e.H) (w':=W4) (fun _ h=>h) (fun c hs=>by have:=ee.ro c hs;omega) (fun c hc=>⟨(Own.lt ee hc).2.1,(Own.lt ee hc).2.2.1⟩) (fun c hc=>agw c (by
     rcases hc with hc | hc | hc
     ·have:=ee.base;omega
     ·exact ee.ro c hc
     ·exact (Own.lt ee hc).1)) (by have:=ee.base;omega) (by omega) ot (fun c o f hc=>(agw c (mo c (by rw [hc];simp))).trans (ee.hid.obj c o f hc)) (fun c o hs hc=>ee.hid.own c o hs hc)
   refine ⟨mj,?_,?_,(agree _ (by omega)).trans vy⟩
   ·exact ⟨⟨fun _ h=>h,fun c hs=>agw c (ee.ro c hs)⟩,fun _ _=>rfl,fun _ _ _ _=>rfl,Nat.le_refl _,Nat.le_refl _,fun _ _=>Nat.le_refl _,fun _ _=>rfl,by omega,fun _ h=>.inl h,rfl,fun _=>rfl,rfl⟩
   grind
 have oe:=vv (DU J n0 w) (w.heap.size+1) yf es0 es1 wd hR F (n+2) hF am H0 e.S W1 lb (by
   have Ec:RO w e.S W1 e.S:=⟨fun _ h=>h,fun c hs=>cu c (ee.ro c hs)⟩
   exact CV.vals.mono Ec _ _ ku) (fun c hs=>by have:=ee.ro c hs;omega) (fun c o f hc=>(zo c o f hc).1) (fun c o hs hc=>by grind) ⟨e,st,h0,wg⟩
  (by show n0<=_;have:=ee.base;omega) ⟨vz.1,vz.2.1,vz.2.2,rfl⟩
 refine ⟨w.heap.size+1,[{ target:=.collected w.heap.size,args:=#[] }],W1,f,#[.func (.yield (w.heap.size+1)) #[] #[]]++lb,W1,?_,?_,?_⟩
 ·rw [<- vw,oo];exact run_enterLoop_outer _ _ _ _ _
 ·simp only [rangeCall,resolve,D9,Deferred.ofValue,pure_bind,invoke]
  have h1:=(enters da (#[.func (.yield (w.heap.size+1)) #[] #[]]++lb)).1 W1
  have h2:(#[]++Array.map a.eval #[Operand.const (Value.func (Fn.yield (w.heap.size+1)) #[] #[])]++lb:Array Value)=#[.func (.yield (w.heap.size+1)) #[] #[]]++lb:=by
   simp;rfl
  rw [h2];exact h1
 ·refine oe.mono ?_
  rintro en W2' ⟨⟨v,rfl⟩,zp,ov,H2,⟨e',st',hI,db⟩,Ed⟩;intro W2 zq;have Kg:=Nat.le_trans zp zq.size;have wh:@GW (DU J n0 w) W2:=⟨zq.os.trans ov.1,zq.tape.trans ov.2.1,zq.output.trans ov.2.2.1,rfl⟩
  have Hm:iG H2 W2:=fun c o f hc=>by
   have h1:=Ed c o f hc;exact (zq.block c (Array.getElem?_eq_some_iff.1 h1).1).trans h1
  have Ee:W2.os=w.os/\W2.tape=w.tape/\W2.output=w.output:=⟨wh.1,wh.2.1,wh.2.2.1⟩;obtain ⟨r1,x1,l9,Kh⟩:=db.j7 W2 Hm Ee;have Ki:(rec (if (pend es1).isNone then .ready else .done) (pend es1)).pending=pend es1:=by grind
  have ax:(rec (if (pend es1).isNone then .ready else .done) (pend es1)).state≠.busy:=by
   grind
  have bt:=run_endLoop (P:=P) l9 ax;generalize Hs:W2.putObj (w.heap.size+1) _=W5 at bt;rw [Ki] at bt;have mg:∀ c,c≠w.heap.size+1->W5.heap[c]? = W2.heap[c]?:=fun c hc=>by rw [<- Hs];exact World.putObj_heap_other hc
  have Bt:W5.heap.size=W2.heap.size:=by grind [World.putObj]
  have NE:W5.heap[w.heap.size]? = some (.deferred (some [])):=(mg _ (by omega)).trans Kh
  have Kj:=r1.move db.y (S':=fun b=>e'.S b\/b=w.heap.size) (H':=e.H) (w':=W5) (fun _ h=>.inl h) (fun c hs=>by
    rw [Bt];rcases hs with hs | rfl
    ·exact r1.mem.ro c hs
    ·omega) (fun c hc=>⟨fun hs=>hs.elim (Own.lt r1.mem hc).2.1 (db.j6 c hc).2,by have:=(Own.lt r1.mem hc).2.2.1;rw [db.h] at this;exact this⟩) (fun c hc=>mg c (by
     rcases hc with hc | hc | hc
     ·have:=ee.base;omega
     ·exact fun he=>db.j5.1 (by grind)
     ·exact (db.j6 c hc).1)) (by have:=ee.base;omega) (by omega) (by rw [<- Hs];exact ⟨rfl,rfl,rfl⟩) (fun c o f hc=>(mg c (by have:=mo c (by rw [hc];simp);omega)).trans (r1.mem.hid.obj c o f (by rw [db.h];exact hc))) (fun c o hs hc=>hs.elim (fun hs=>r1.mem.hid.own c o hs (by rw [db.h];exact hc)) fun he=>by have:=mo c (by rw [hc];simp);omega)
  have wi:cL e st w { e' with S:=fun b=>e'.S b\/b=w.heap.size,H:=e.H } st'.B st'.V W5:=by
   refine ⟨⟨fun c hs=>.inl (x1.ro.sub c hs),fun c hs=>(mg c (by have:=ee.ro c hs;omega)).trans (x1.ro.same c hs)⟩,x1.ρ,x1.hdr,x1.nB,x1.nV,x1.verle,x1.kseq,by omega,fun c hs=>?_,x1.be,fun _=>rfl,x1.ye⟩
   rcases hs with hs | hs
   ·exact x1.snew c hs
   ·have:=ee.bl.1;have:=ee.base;omega
  obtain ⟨z1,z2,z3,z4⟩:=ji st' hI
  have ia:Mk m0 { e' with S:=fun b=>e'.S b\/b=w.heap.size,H:=e.H } W5 (BC w.heap.size::a.defers):=by
   obtain ⟨Ds,qp,fc,qd⟩:=hm;refine ⟨w.heap.size::Ds,by grind,?_,?_⟩
   ·grind
   ·intro D' vk
    rcases List.mem_cons.1 vk with rfl | vk
    ·grind
    ·obtain ⟨q1,q2,q3⟩:=qd D' vk
     exact ⟨q1,wi.ro.sub D' q2,(wi.ro.same D' q2).trans q3⟩
  have go:∀ ex,Q ex st'->Qr ex { a with defers:=BC w.heap.size::a.defers } W5:=fun ex hq =>
   hk ex _ st' { a with defers:=BC w.heap.size::a.defers } W5 hq (Kj.act rfl) ia wi
  refine ⟨pend es1,W5,bt,?_⟩;rcases z4 with z4 | z4 | ⟨id,z4⟩
  ·rw [z4];exact go .normal (z1 z4)
  ·rw [z4];exact OB (go .ret (z2 z4))
  ·rw [z4];exact IV (go (.exit id) (z3 id z4))
end
def fC:List (List CV)->YF->List (List CV)->Option (List (List CV))
 | [],_,es=>some es
 | x::r,yf,es=>match yf es x with
  | some (true,es')=>fC r yf es'
  | some (false,es')=>some es'
  | none=>none
structure Its (P:Program) [Co P] (sg:FuncId->Option Sig) (M:Den):Prop where
 itj:∀ f caps rows sh,sg f=none->M f caps=some [.row 0 rows,shC sh]->dS P f=true/\rB P f caps sh (fC rows)
def pB:Code->Bool
 | .rangeFunc ..=>true
 | .seq a b=>pB a || pB b
 | .block _ c=>pB c
 | .cond _ a b=>pB a || pB b
 | .loop c=>pB c
 | .scope c=>pB c
 | _=>false
def kE (step:List CV->List CV->Option Ou):List (List CV)->List CV->Option Ou
 | [],vs=>some (.nx vs)
 | x::xs,vs=>match step x vs with
  | some (.nx vs')=>kE step xs vs'
  | o=>o
def fN (it:Option (List (List CV))) (step:List CV->List CV->Option Ou) (vs:List CV):Option Ou:=match it with
 | some rows=>kE step rows vs
 | none=>none
open Classical in
noncomputable def rZ (sg:FuncId->Option Sig) (M:Den) (c:CV) (sh:YSh):Option (List (List CV)):=match c with
 | .fn f caps=>match sg f with
  | none=>match M f caps with
   | some [.row 0 rows,c']=>if c'=shC sh then some rows else none
   | _=>none
  | some _=>none
 | _=>none
theorem YZ {sg:FuncId->Option Sig} {M:Den} {c:CV} {sh:YSh} {rows:List (List CV)} (h:rZ sg M c sh=some rows):∃ f caps,c=.fn f caps/\sg f=none/\M f caps=some [.row 0 rows,shC sh]:=by
 unfold rZ at h;grind
def brO:Option Ou->Option Ou
 | some (.br _ vs)=>some (.nx vs)
 | o=>o
def ouE:Ou->Bool×List (List CV)
 | .nx vs=>(true,[vs])
 | .br _ vs=>(false,[[],vs])
 | .ret l=>(false,[[],[],l])
def yfO (step:List CV->List CV->Option Ou):YF:=fun es x=>match es with
 | [vs]=>(step x vs).map ouE
 | _=>none
def sU (id:Nat):List (List CV)->Option Code
 | [_,_]=>some (.exit id)
 | [_,_,_]=>some .ret
 | _=>none
theorem CJ {step:List CV->List CV->Option Ou}:∀ {rows:List (List CV)} {vs:List CV} {o:Ou},kE step rows vs=some o->fC rows (yfO step) [vs]=some (ouE o).2
 | [],vs,o,h=>by simp [kE] at h;subst h;rfl
 | x::r,vs,o,h=>by
  simp [kE] at h;simp [fC,yfO];cases hs:step x vs with
  | none=>grind
  | some o' =>
   rw [hs] at h;cases o' with
   | nx vs'=>exact CJ h
   | br i vs'=>simp at h;subst h;rfl
   | ret l=>simp at h;subst h;rfl
def sYs:List Nat->List AV->SS->SS
 | p::ps,x::xs,s=>sYs ps xs (s.put (some p) x s.B s.V)
 | _,_,s=>s
def FS (sh:YSh) (x:List CV) (ps:List Nat) (s:SS):SS:=match sh with
 | .clo cs=>sYs ps (Sc.avs cs x 0) s
 | .lent T k=>sYs ps [.own s.V.length 1] ⟨s.n,s.t,s.B,s.V++[⟨true,T,k,1,cR (x.getD 0 dC)⟩]⟩
def SS.killY (sh:YSh) (nv:Nat) (s:SS):SS:=match sh with
 | .clo _=>s
 | .lent _ _=>⟨s.n,s.t,s.B,pA nv s.V⟩
def rC (sh:YSh) (nv:Nat) (l:Lk):Lk:=match sh with
 | .clo _=>l
 | .lent _ _=>⟨l.t,l.b,nv::l.v,nv::l.o⟩
def aFJ (n:Nat) (ps:List Nat) (sh:YSh):Bool:=ps.all (fun p=>decide (p<n))&&(decide (sh.np=ps.length)&&match sh with
 | .clo _=>true
 | .lent T _=>decide (T<bE))
def aE4 (sh:YSh) (s3:St) (j:Nat):Prop:=match sh with
 | .clo _=>True
 | .lent _ _=>∀ v,s3.V[j]? = some v->v.live=false
def lkX (h:Hint) (lk:Lk) (s:SS):Lk:=⟨lk.t,lk.b,lk.v,(List.range s.V.length).filter fun i=>!h.vxu.contains i⟩
def SS.back (s:SS) (ks:List Nat) (s':SS):SS:=⟨s.n,(s.kept ks).t,s'.B,s'.V⟩
section
variable (P:Program) (sg:FuncId->Option Sig) (M:Den)
noncomputable def evT (inl:List (Option Nat×Hint×HT)->IN) (rt:SS->Option Ou):Code->HT->Lk->List (Nat×Hint)->SS->(SS->Option Ou)->Option Ou
 | .seq a b,.two x y,lk,env,s,K=>match pB (.seq a b) with
  | true=>evT inl rt a x lk env s fun s'=>evT inl rt b y lk env s' K
  | false=>evB P sg M true inl rt (.seq a b) (.two x y) lk env s K
 | .cond c a b,.cond none x y,lk,env,s,K=>match pB (.cond c a b) with
  | true=>match s.ev c with
   | .cv (.val (.bool t))=>aC t (evT inl rt a x lk env s K) (evT inl rt b y lk env s K)
   | _=>none
  | false=>evB P sg M true inl rt (.cond c a b) (.cond none x y) lk env s K
 | .cond c a b,.cond (some h) x y,lk,env,s,K=>match pB (.cond c a b) with
  | true=>match s.ev c with
   | .cv (.val (.bool t))=>if fM h lk s=true then
     bD (aC t (evT inl rt a x (dD h lk s) env s fun s'=>(iK h s').map .nx) (evT inl rt b y (dD h lk s) env s fun s'=>(iK h s').map .nx)) fun vs=>K (bF h lk s vs)
    else none
   | _=>none
  | false=>evB P sg M true inl rt (.cond c a b) (.cond (some h) x y) lk env s K
 | .block id c,.thru x,lk,env,s,K=>match pB (.block id c) with
  | true=>match kU id env with
   | none=>evT inl rt c x lk env s K
   | some _=>none
  | false=>evB P sg M true inl rt (.block id c) (.thru x) lk env s K
 | .block id c,.blk h x,lk,env,s,K=>match pB (.block id c) with
  | true=>if fM h lk s=true then
    bG id (evT inl rt c x (dD h lk s) ((id,h)::env) s fun s'=>(iK h s').map (.br id)) fun vs=>K (bF h lk s vs)
   else none
  | false=>evB P sg M true inl rt (.block id c) (.blk h x) lk env s K
 | .block id c,.rg sh h x y,lk,_,s,K=>match c with
  | .rangeFunc g ps assign body =>
   if (fM h lk s&&fM h (lkX h lk s) s&&h.vars.isEmpty&&(fY s.V.length (h.vx.map (·.1)) == 0)&&aFJ s.n ps.toList sh)=true then
    match iK h s with
    | some v0=>match (bF h lk s v0).ev g with
     | .cv c=>bD (brO (fN (rZ sg M c sh) (fun x1 vs=>evC P sg M inl (fun _=>none) assign x (rC sh s.V.length (eP h lk s)) [] (FS sh x1 ps.toList (bF h lk s vs)) fun s1 =>
       evC P sg M inl (fun s'=>rt ((s.back (h.keep++lk.t) s').killY sh s.V.length)) body y (rC sh s.V.length (eP h lk s)) [(id,h)] s1 fun s'=>(iK h (s.back (h.keep++lk.t) s')).map .nx) v0)) fun vs=>K (bF h lk s vs)
     | _=>none
    | none=>none
   else none
  | _=>none
 | .loop c,.lp as h x,lk,env,s,K=>match pB (.loop c) with
  | true=>match nR as lk s with
   | some s=>if fM h lk s=true then
     match iK h s with
     | some v0=>aH (fun vs=>evT inl rt c x (dD h lk s) env (bF h lk s vs) fun s'=>(iK h s').map .nx) v0
     | none=>none
    else none
   | none=>none
  | false=>evB P sg M true inl rt (.loop c) (.lp as h x) lk env s K
 | .scope c,x,lk,env,s,K=>match pB (.scope c) with
  | true=>evT inl rt c x lk env s K
  | false=>evB P sg M true inl rt (.scope c) x lk env s K
 | c,ht,lk,env,s,K=>evB P sg M true inl rt c ht lk env s K
end
section
variable {P:Program} [C:Co P] {sg:FuncId->Option Sig} {M:Den} {F:Fence} {n:Nat}
theorem Em.sYs {m:Emb}:∀ {ps:List Nat} {xs:List AV} {s:SS} {st:St},Em m s st->AV.inns s.B.length s.V.length xs=true->Em m (Go.Sx.sYs ps xs s) ⟨iL st.t ps (AV.czs m xs),st.B,st.V⟩
 | [],_,s,st,h,_=>by simp_all [Go.Sx.sYs,iL]
 | p::ps,[],s,st,h,_=>by simp_all [Go.Sx.sYs,iL,AV.czs]
 | p::ps,x::xs,s,st,h,hx=>by
  simp [AV.inns] at hx;simp [Go.Sx.sYs];exact Em.sYs (h.put h.m (Emb.Up.refl _) (fun _ _=>rfl) (Nat.le_refl _) (Nat.le_refl _) hx.1 (some p)) hx.2
theorem TH:∀ (ps:List Nat) (xs:List AV) (s:SS),(sYs ps xs s).B=s.B/\(sYs ps xs s).V=s.V/\(sYs ps xs s).n=s.n
 | [],_,s=>by simp [sYs]
 | p::ps,[],s=>by simp [sYs]
 | p::ps,x::xs,s=>TH ps xs _
variable {m:Emb} {s:SS} {st:St}
theorem Em.killSt (h:Em m s st) {j:Nat} (hj:∀ i,i<s.V.length->m.fv i≠j):Em m s ⟨st.t,st.B,pA j st.V⟩:=by
 refine ⟨h.t,h.ti,⟨h.m.bl,h.m.vl,h.m.ol,h.m.b,fun i v hi hl=>?_,fun i hi=>?_,h.m.bi,h.m.vi⟩⟩
 ·rw [lH,h.m.v i v hi hl]
  grind
 ·rw [kD];exact h.m.vlt i hi
theorem Em.killSS (h:Em m s st) {nv:Nat} (qu:nv<s.V.length) {x:Vec} (hx:s.V[nv]? = some x) (hT:x.T≠ghT):Em m ⟨s.n,s.t,s.B,pA nv s.V⟩ ⟨st.t,st.B,pA (m.fv nv) st.V⟩:=by
 have hl:(pA nv s.V).length=s.V.length:=kD _ _;refine ⟨h.t,fun p hp=>by rw [hl];exact h.ti p hp,⟨h.m.bl,by rw [hl];exact h.m.vl,by rw [hl];exact h.m.ol,fun i b hb=>by rw [hl];exact h.m.b i b hb,fun i v hi ly=>?_,fun i hi=>?_,h.m.bi,fun i j hi hj=>h.m.vi i j (by grind) (by grind)⟩⟩
 ·rw [lH,Option.map_eq_some_iff] at hi
  obtain ⟨v0,h1,rfl⟩:=hi;have ah:=(List.getElem?_eq_some_iff.1 h1).1
  by_cases dm:i=nv
  ·grind
  ·simp [dm] at ly ⊢
   rw [lH,h.m.v i v0 h1 ly];have:m.fv i≠m.fv nv:=fun he=>dm (h.m.vi i nv ah qu he)
   grind
 ·rw [kD];rw [hl] at hi;exact h.m.vlt i hi
variable {lk:Lk}
theorem Adv.killSt {m':Emb} {s':SS} {st':St} (h:Adv lk m s st m' s' st') {j:Nat} (hj:st.V.length<=j):Adv lk m s st m' s' ⟨st'.t,st'.B,pA j st'.V⟩:=by
 refine ⟨⟨h.stp.up,h.stp.bl,?_,h.stp.bn,h.stp.vn,h.stp.bf,fun i hi hn=>?_⟩,h.n,h.bl,h.vl,h.t,h.b,h.v,h.o⟩
 ·rw [kD];exact h.stp.vl
 ·rw [lH,h.stp.vf i hi hn]
  grind
variable {c:Code} {Q:Exit->St->Prop}
theorem aBt (h:W2 F n P c st (aDi Q)):W2 F n P (.scope c) st Q:=by
 intro n0 w0 m0 e a w Qr hr hm ed hk;refine EI (h n0 w0 m0 e a w _ hr hm ed ?_);intro ex e' st' a' w' hq af bq hx;cases ex with
 | goto l=>exact hq.elim
 | _=>exact hk _ e' st' a' w' hq af bq hx
open Classical in
theorem aFK (hM:Fns P sg M) (hT:Its P sg M) (hF:Free F) (am:F.round=none) {inl:List (Option Nat×Hint×HT)->IN} (hI:∀ (F:Fence) (n:Nat),Free F->∀ il,zB F n P (inl il)) {rt:SS->Option Ou} (l5:∀ s o,rt s=some o->∃ l,o=.ret l)
  {id:Nat} {g:Operand} {ps:Array Tmp} {assign body:Code} {sh:YSh} {h0:Hint} {x y:HT} {sA:SS} {K:SS->Option Ou} {r:Ou} {mA:Emb} {stA:St} (me:Em mA sA stA)
  (h:(if (fM h0 lk sA&&fM h0 (lkX h0 lk sA) sA&&h0.vars.isEmpty&&(fY sA.V.length (h0.vx.map (·.1)) == 0)&&aFJ sA.n ps.toList sh)=true then
      match iK h0 sA with
      | some v0=>match (bF h0 lk sA v0).ev g with
       | .cv c=>bD (brO (fN (rZ sg M c sh) (fun x1 vs=>evC P sg M inl (fun _=>none) assign x (rC sh sA.V.length (eP h0 lk sA)) [] (FS sh x1 ps.toList (bF h0 lk sA vs)) fun s1 =>
         evC P sg M inl (fun s'=>rt ((sA.back (h0.keep++lk.t) s').killY sh sA.V.length)) body y (rC sh sA.V.length (eP h0 lk sA)) [(id,h0)] s1 fun s'=>(iK h0 (sA.back (h0.keep++lk.t) s')).map .nx) v0)) fun vs=>K (bF h0 lk sA vs)
       | _=>none
      | none=>none
   else none)=some r)
  (hK:∀ m' s' st',K s'=some r->Em m' s' st'->Adv lk mA sA stA m' s' st'->Q .normal st')
  (hR:∀ m' s' st',rt s'=some r->Em m' s' st'->Q .ret st'):W2 F n P (.block id (.rangeFunc g ps assign body)) stA Q:=by
 split at h
 case isFalse=>cases h
 rename_i hc;simp at hc;obtain ⟨⟨⟨⟨bg,wj⟩,l6⟩,ri⟩,s9⟩:=hc;simp only [aFJ,Bool.and_eq_true,decide_eq_true_eq] at s9;obtain ⟨xj,Bu,zt⟩:=s9;split at h
 case h_2=>cases h
 rename_i v0 fh;split at h
 case h_2=>cases h
 rename_i c hg
 have tl:∀ (m':Emb) (vs:List CV) (st':St),Adv (dD h0 (lkX h0 lk sA) sA) mA sA stA m' (bF h0 lk sA vs) st'->Adv lk mA sA stA m' (bF h0 lk sA vs) st':=by
  intro m' vs st' ha;have h1:=ha.sub wj;obtain ⟨_,_,_,_,_,_,_,_,_,p5⟩:=lS bg;refine ⟨h1.stp,h1.n,h1.bl,h1.vl,h1.t,h1.b,h1.v,fun i hi hl=>h1.o i ?_ hl⟩
  have:=p5 i hi;simp only [lkX,List.mem_filter,List.mem_range];exact ⟨hl,by rw [this];rfl⟩
 generalize aw:(fun (x1 vs:List CV)=>evC P sg M inl (fun _=>none) assign x (rC sh sA.V.length (eP h0 lk sA)) [] (FS sh x1 ps.toList (bF h0 lk sA vs)) fun s1 =>
       evC P sg M inl (fun s'=>rt ((sA.back (h0.keep++lk.t) s').killY sh sA.V.length)) body y (rC sh sA.V.length (eP h0 lk sA)) [(id,h0)] s1 fun s'=>(iK h0 (sA.back (h0.keep++lk.t) s')).map .nx)=step at h
 obtain ⟨r0,gq⟩:∃ r0,fN (rZ sg M c sh) step v0=some r0:=by
  cases hh:fN (rZ sg M c sh) step v0 with
  | none=>grind [brO,bD]
  | some r0=>simp
 have Ef:=gq;unfold fN at gq;split at gq
 case h_2=>grind
 rename_i rows vv;obtain ⟨f,caps,rfl,Kk,Eg⟩:=YZ vv;obtain ⟨da,zu⟩:=hT.itj f caps rows sh Kk Eg;have ej:=CJ gq;rw [Ef] at h;have qu:∀ vs,(bF h0 lk sA vs).V.length=sA.V.length:=fun vs=>by grind [bF,VN]
 obtain ⟨o1,o2,o3,o4,o5,o6,o7,o8,o9,o10⟩:=lS bg
 have wk:∀ vs,(bF h0 lk sA vs).t=(sA.kept (h0.keep++lk.t)).t:=by
  grind [bF,HV,SS.kept]
 have fw:∀ s':SS,iK h0 s'=iK h0 (sA.back (h0.keep++lk.t) s'):=by
  intro s'
  have hE:∀ (s1 s2:SS) (l:List (Nat×TypeId×List Sh)),s1.B=s2.B->s1.V=s2.V->DA s1 l=DA s2 l:=by
   intro s1 s2 l hb hv
   induction l with
   | nil=>rfl
   | cons q l ih=>grind [DA]
  have ig:∀ (s1 s2:SS) (l:List (Nat×TypeId×Nat×Option Nat)),s1.V=s2.V->MH s1 l=MH s2 l:=by
   intro s1 s2 l hv
   induction l with
   | nil=>rfl
   | cons q l ih=>grind [MH]
  unfold iK;rw [l6];simp [SS.back];grind
 obtain ⟨m1,st1,q1,q2,q3⟩:=gC (st0:=stA) (lk:=lkX h0 lk sA) me me (Adv.refl _ _ _ _) fh wj;refine MV q1 (uJ ?_)
 refine JZ hF am (sh:=sh) (R:=fC rows) (yf:=yfO step) (es0:=[v0]) (es1:=(ouE r0).2) (f:=f) (caps:=caps)
  (fun es st'=>(∃ vs m',(es=[vs]\/es=[[],vs])/\Em m' (bF h0 lk sA vs) st'/\Adv (dD h0 (lkX h0 lk sA) sA) mA sA stA m' (bF h0 lk sA vs) st')\/(∃ l m' s',es=[[],[],l]/\rt s'=some (.ret l)/\Em m' s' st')) (sU id)
  (by omega) ?_ da zu ej (.inl ⟨v0,m1,.inl rfl,q2,q3⟩) rfl ?_ ?_
 ·rw [q2.ev];show AV.cz m1 ((bF h0 lk sA v0).ev g)=_;grind [AV.cz]
 ·
  intro F' n' qz es x1 b es' st' we zw
  obtain ⟨vs,rfl⟩:∃ vs,es=[vs]:=by
   unfold yfO at we;grind
  simp [yfO] at we;obtain ⟨o,ho,Eh⟩:=we;obtain ⟨vs2,m',dk,g2,g3⟩ | ⟨l,m',s',dk,_⟩:=zw
  rotate_left
  ·grind
  obtain rfl:vs=vs2:=by grind
  refine ⟨rfl,?_⟩;rw [<- aw] at ho
  obtain ⟨mB,Ht,Ei,aj⟩:∃ mB,Em mB (FS sh x1 ps.toList (bF h0 lk sA vs)) (stY sh x1 ps.toList st')/\Adv (eP h0 lk sA) m' (bF h0 lk sA vs) st' mB (FS sh x1 ps.toList (bF h0 lk sA vs)) (stY sh x1 ps.toList st') /\
    (match sh with | .clo _=>True | .lent T k=>mB.fv sA.V.length=st'.V.length/\mB.fo sA.V.length=0/\(FS sh x1 ps.toList (bF h0 lk sA vs)).V=(bF h0 lk sA vs).V++[⟨true,T,k,1,cR (x1.getD 0 dC)⟩]):=by
   cases sh with
   | clo cs =>
    obtain ⟨p1,p2⟩:=Sc.avs_pl cs x1 0 m' (bF h0 lk sA vs).B.length (bF h0 lk sA vs).V.length;have cg:=g2.sYs (ps:=ps.toList) p2;rw [p1] at cg;obtain ⟨z1,z2,z3⟩:=TH ps.toList (Sc.avs cs x1 0) (bF h0 lk sA vs);refine ⟨m',cg,⟨Stp.refl _ _ _,z3,by show _<=(sYs _ _ _).B.length;grind,by show _<=(sYs _ _ _).V.length;grind,fun d hd=>by grind [eP],fun i _ _=>by show (sYs _ _ _).B[i]? = _;rw [z1],fun i _ _=>by show (sYs _ _ _).V[i]? = _;rw [z2],fun _ _ _=>rfl⟩,trivial⟩
   | lent T k =>
    have hl:m'.vb.length=m'.vm.length:=by rw [g2.m.ol,g2.m.vl]
    have Hu:=Emb.pushV_fo (m:=m') st'.V.length hl;have yr:=Emb.pushV_up m' st'.V.length;have ak:m'.vm.length=sA.V.length:=by rw [g2.m.vl,qu]
    have cg:Em (m'.pushV st'.V.length) ⟨(bF h0 lk sA vs).n,(bF h0 lk sA vs).t,(bF h0 lk sA vs).B,(bF h0 lk sA vs).V++[⟨true,T,k,1,cR (x1.getD 0 dC)⟩]⟩ ⟨st'.t,st'.B,st'.V++[⟨true,T,k,1,cR (x1.getD 0 dC)⟩]⟩:=by
     have:=g2.put (g2.m.pushV (v:=⟨true,T,k,1,cR (x1.getD 0 dC)⟩)) yr Hu (Nat.le_refl _) (by simp) (x:=.any) rfl none
     grind [SS.put,St.put]
    have ig:=cg.sYs (ps:=ps.toList) (xs:=[.own (bF h0 lk sA vs).V.length 1]) (by simp [AV.inns,AV.inn])
    have cx:(m'.pushV st'.V.length).fv sA.V.length=st'.V.length:=by rw [<- ak];exact Emb.pushV_new _ _
    have jm:(m'.pushV st'.V.length).fo sA.V.length=0:=by rw [<- ak];exact Emb.pushV_new0 _ hl
    obtain ⟨z1,z2,z3⟩:=TH ps.toList [.own (bF h0 lk sA vs).V.length 1] ⟨(bF h0 lk sA vs).n,(bF h0 lk sA vs).t,(bF h0 lk sA vs).B,(bF h0 lk sA vs).V++[⟨true,T,k,1,cR (x1.getD 0 dC)⟩]⟩;refine ⟨m'.pushV st'.V.length,?_,⟨Stp.pushV _,z3,by show _<=(sYs _ _ _).B.length;grind,by show _<=(sYs _ _ _).V.length;grind,fun d hd=>by grind [eP],fun i _ _=>by show (sYs _ _ _).B[i]? = _;rw [z1],fun i _ hi=>by show (sYs _ _ _).V[i]? = _;grind,fun i _ hi=>Hu i (by grind)⟩,cx,jm,?_⟩
    ·have im:AV.czs (m'.pushV st'.V.length) [.own (bF h0 lk sA vs).V.length 1]=[.own st'.V.length 1]:=by
      grind [AV.czs,AV.cz]
     rw [im] at ig;exact ig
    ·exact z2
  have zx:∀ (m2:Emb) (s2:SS) (st2:St),Adv (rC sh sA.V.length (eP h0 lk sA)) mB (FS sh x1 ps.toList (bF h0 lk sA vs)) (stY sh x1 ps.toList st') m2 s2 st2->Adv (eP h0 lk sA) m' (bF h0 lk sA vs) st' m2 s2 st2:=by
   intro m2 s2 st2 ha;refine Ei.trans (ha.lkle ?_ ?_ ?_ ?_) <;> cases sh <;> simp [rC] <;> intro d hd <;> simp [hd]
  have back:∀ {m2:Emb} {s2:SS} {st2:St},Em m2 s2 st2->Adv (eP h0 lk sA) m' (bF h0 lk sA vs) st' m2 s2 st2 ->
    Em m2 (sA.back (h0.keep++lk.t) s2) ⟨st'.t,st2.B,st2.V⟩/\Adv (dD h0 (lkX h0 lk sA) sA) mA sA stA m2 (sA.back (h0.keep++lk.t) s2) ⟨st'.t,st2.B,st2.V⟩:=by
   intro m2 s2 st2 ig ha;have bo:sA.B.length<=(bF h0 lk sA vs).B.length:=g3.bl;have jr:sA.V.length<=(bF h0 lk sA vs).V.length:=g3.vl
   have im:∀ d∈h0.keep++lk.t,(sA.get d).cz m'=(sA.get d).cz m2:=fun d hd =>
    AV.cz_noV (nb:=sA.B.length) (nv:=sA.V.length) (fun j hj=>(ha.stp.up.b j (by rw [g2.m.bl];omega)).symm) (fun j hj=>(ha.stp.up.v j (by rw [g2.m.vl];omega)).symm)
     (fun j hj Bk=>(ha.o j (by grind [eP]) (by omega)).symm) _ (me.inn d) (o1 d hd)
   refine ⟨⟨?_,fun q hq=>?_,ig.m⟩,?_⟩
   ·show st'.t=mkT sA.n ((sA.kept (h0.keep++lk.t)).t.map fun p=>(p.1,p.2.cz m2))
    rw [g2.t,wk];congr 1;simp only [SS.kept,List.map_map];exact List.map_congr_left fun d hd=>by grind
   ·simp only [SS.back,SS.kept,List.mem_map] at hq
    obtain ⟨d,_,rfl⟩:=hq;have h1:=ha.bl;have h2:=ha.vl;exact AV.inn_mono (Nat.le_trans bo h1) (Nat.le_trans jr h2) _ (me.inn d)
   ·have h1:=ha.bl
    have h2:=ha.vl;refine ⟨g3.stp.trans ha.stp,rfl,Nat.le_trans bo h1,Nat.le_trans jr h2,fun d hd=>?_,fun i hi ah=>?_,fun i hi ah=>?_,fun i hi ah=>?_⟩
    ·exact SS.kept_get hd
    ·exact (ha.b i hi (by omega)).trans (g3.b i hi ah)
    ·exact (ha.v i hi (by omega)).trans (g3.v i hi ah)
    ·exact (ha.o i hi (by omega)).trans (g3.o i hi ah)
  have Ej:stA.V.length<=st'.V.length:=g3.stp.vl
  have fk:∀ (m2:Emb) (s2:SS) (st2:St),Em m2 s2 st2->Adv (rC sh sA.V.length (eP h0 lk sA)) mB (FS sh x1 ps.toList (bF h0 lk sA vs)) (stY sh x1 ps.toList st') m2 s2 st2 ->
    (match sh with | .clo _=>True | .lent T k=>s2.V[sA.V.length]? = some ⟨true,T,k,1,cR (x1.getD 0 dC)⟩/\m2.fv sA.V.length=st'.V.length/\st2.V[st'.V.length]? = some ⟨true,T,k,1,cR (x1.getD 0 dC)⟩):=by
   intro m2 s2 st2 ig ha;cases sh with
   | clo cs=>trivial
   | lent T k =>
    obtain ⟨w1,w2,w3⟩:=aj;have an:sA.V.length<(FS (.lent T k) x1 ps.toList (bF h0 lk sA vs)).V.length:=by grind
    have e1:=ha.v sA.V.length (by simp [rC]) an
    rw [w3,List.getElem?_append_right (by grind),qu,Nat.sub_self] at e1
    have e2:=ha.o sA.V.length (by simp [rC]) an
    have e3:=ha.stp.up.v sA.V.length (by rw [Ht.m.vl];omega)
    have e4:=ig.m.v _ _ e1 (.inl rfl);grind [Vec.cz]
  have Ek:∀ (s:SS) (o:Ou),(fun s'=>rt ((sA.back (h0.keep++lk.t) s').killY sh sA.V.length)) s=some o->∃ l,o=.ret l:=fun s o hs=>l5 _ o hs
  have again:∀ (m2:Emb) (s2:SS) (st2:St) (vs2:List CV),Em m2 s2 st2->Adv (rC sh sA.V.length (eP h0 lk sA)) mB (FS sh x1 ps.toList (bF h0 lk sA vs)) (stY sh x1 ps.toList st') m2 s2 st2->iK h0 (sA.back (h0.keep++lk.t) s2)=some vs2 ->
    ∃ s3 m3,Wkd ⟨st'.t,st2.B,st2.V⟩ s3/\Em m3 (bF h0 lk sA vs2) s3/\Adv (dD h0 (lkX h0 lk sA) sA) mA sA stA m3 (bF h0 lk sA vs2) s3/\aE4 sh s3 st'.V.length:=by
   intro m2 s2 st2 vs2 ig ha hx;obtain ⟨b1,b2⟩:=back ig (zx _ _ _ ha);obtain ⟨m3,st3,w1,w2,w3,w4⟩:=PN (lk:=lkX h0 lk sA) me b1 b2 hx wj;have w4':∀ i,i<sA.V.length->m3.fv i=m2.fv i:=fun i hi=>w4 i (by rw [show (bF h0 (lkX h0 lk sA) sA vs2).V.length=sA.V.length from qu vs2];exact hi)
   cases sh with
   | clo cs=>exact ⟨st3,m3,w1.d,w2,w3,trivial⟩
   | lent T k =>
    obtain ⟨l1,l2,l3⟩:=fk _ _ _ ig ha;have ud:sA.V.length<s2.V.length:=(List.getElem?_eq_some_iff.1 l1).1;refine ⟨⟨st3.t,st3.B,pA st'.V.length st3.V⟩,m3,w1.d.trans (Wkd.kill st3 _ ?_),w2.killSt ?_,w3.killSt Ej,?_⟩
    ·intro v hv
     rw [w1.V] at hv;grind
    ·intro i hi he
     have dd:i<sA.V.length:=by rw [<- qu vs2];exact hi
     rw [w4' i dd,<- l2] at he;have:=ig.m.vi i sA.V.length (by omega) ud he
     omega
    ·intro v hv
     grind [lH,Option.map_eq_some_iff]
  have Bf:st'.B.length<=(stY sh x1 ps.toList st').B.length/\st'.V.length<=(stY sh x1 ps.toList st').V.length:=⟨Ei.stp.bl,Ei.stp.vl⟩
  have endY:∀ (m2:Emb) (s2:SS) (st2:St) (ex:Exit),Em m2 s2 st2->Adv (rC sh sA.V.length (eP h0 lk sA)) mB (FS sh x1 ps.toList (bF h0 lk sA vs)) (stY sh x1 ps.toList st') m2 s2 st2 ->
    (∃ s3,Wkd ⟨st'.t,st2.B,st2.V⟩ s3/\((∃ vs m',(es'=[vs]\/es'=[[],vs])/\Em m' (bF h0 lk sA vs) s3/\Adv (dD h0 (lkX h0 lk sA) sA) mA sA stA m' (bF h0 lk sA vs) s3)\/(∃ l m' s',es'=[[],[],l]/\rt s'=some (.ret l)/\Em m' s' s3))/\aE4 sh s3 st'.V.length) ->
    ((ex=.normal/\sU id es'=none/\b=true)\/(ex=.ret/\sU id es'=some .ret/\b=false)\/(∃ i,ex=.exit i/\sU id es'=some (.exit i)/\b=false)) ->
    aFI sh x1 st' (fun st'=>(∃ vs m',(es'=[vs]\/es'=[[],vs])/\Em m' (bF h0 lk sA vs) st'/\Adv (dD h0 (lkX h0 lk sA) sA) mA sA stA m' (bF h0 lk sA vs) st')\/(∃ l m' s',es'=[[],[],l]/\rt s'=some (.ret l)/\Em m' s' st')) b (sU id es') ex st2:=by
   rintro m2 s2 st2 ex ig ha ⟨s3,y1,y2,y3⟩ ja;refine ⟨s3,y1,?_,?_,y2,ja,?_⟩
   ·rw [y1.Bl];exact Nat.le_trans Bf.1 ha.stp.bl
   ·rw [y1.Vl];exact Nat.le_trans Bf.2 ha.stp.vl
   ·have:=fk _ _ _ ig ha
    cases sh with
    | clo cs=>trivial
    | lent T k=>exact ⟨this.2.2,y3⟩
  refine iB hM qz (hI F' n' qz) (fun s o h=>by cases h) assign x _ [] _ _ o mB _ _ Ht ho ?_ (fun _ _ _ _ _ _ h=>by simp [kU] at h) (fun _ _ _ h=>by cases h)
  intro m2 s2 st2 e1 e2 e3;refine ⟨rfl,?_⟩;refine iB hM qz (hI F' n' qz) Ek body y _ [(id,h0)] _ _ o m2 _ _ e2 e1 ?_ ?_ ?_
  ·intro m3 s3 st3 f1 f2 f3
   simp only [Option.map_eq_some_iff] at f1;obtain ⟨vs2,f1,rfl⟩:=f1;cases Eh;obtain ⟨s4,m4,j1,j2,j3,j4⟩:=again m3 s3 st3 vs2 f2 (e3.trans f3) f1;exact endY m3 s3 st3 _ f2 (e3.trans f3) ⟨s4,j1,.inl ⟨vs2,m4,.inl rfl,j2,j3⟩,j4⟩ (.inl ⟨rfl,rfl,rfl⟩)
  ·intro i hh vs2 m3 s3 st3 f0 f1 f4 f2 f3
   subst f4;simp only [kU] at f0;split at f0
   case isFalse=>cases f0
   rename_i hi;subst hi;cases f0;cases Eh;rw [fw] at f1;obtain ⟨s4,m4,j1,j2,j3,j4⟩:=again m3 s3 st3 vs2 f2 (e3.trans f3) f1;exact endY m3 s3 st3 _ f2 (e3.trans f3) ⟨s4,j1,.inl ⟨vs2,m4,.inr rfl,j2,j3⟩,j4⟩ (.inr (.inr ⟨_,rfl,rfl,rfl⟩))
  ·intro m3 s3 st3 f1 f2 f3
   obtain ⟨l,rfl⟩:=l5 _ _ f1;cases Eh;obtain ⟨b1,b2⟩:=back f2 (zx _ _ _ (e3.trans f3));refine endY m3 s3 st3 _ f2 (e3.trans f3) ?_ (.inr (.inl ⟨rfl,rfl,rfl⟩));have zh:=fk _ _ _ f2 (e3.trans f3);cases sh with
   | clo cs=>exact ⟨_,(Wk.refl _).d,.inr ⟨l,m3,_,rfl,f1,b1⟩,trivial⟩
   | lent T k =>
    obtain ⟨l1,l2,l3⟩:=zh;refine ⟨⟨st'.t,st3.B,pA st'.V.length st3.V⟩,Wkd.kill ⟨st'.t,st3.B,st3.V⟩ _ ?_,.inr ⟨l,m3,_,rfl,f1,?_⟩,?_⟩
    ·intro v hv
     have hv:st3.V[st'.V.length]? = some v:=hv;rw [l3] at hv;cases hv;exact Nat.ne_of_lt (of_decide_eq_true zt)
    ·have:=b1.killSS (nv:=sA.V.length) (by exact (List.getElem?_eq_some_iff.1 l1).1) (x:=⟨true,T,k,1,cR (x1.getD 0 dC)⟩) l1 (Nat.ne_of_lt (of_decide_eq_true zt))
     rw [l2] at this;exact this
    ·intro v hv
     have hv:(pA st'.V.length st3.V)[st'.V.length]? = some v:=hv;rw [lH,Option.map_eq_some_iff] at hv;obtain ⟨v',_,rfl⟩:=hv;simp
 ·
  intro st' zw;cases r0 with
  | nx vs0 =>
   simp only [brO,bD] at h;refine ⟨fun _=>?_,fun hp=>absurd hp (by simp [ouE,sU]),fun i hp=>absurd hp (by simp [ouE,sU]),.inl rfl⟩
   obtain ⟨vs,m',dk,g2,g3⟩ | ⟨l,m',s',dk,_⟩:=zw
   ·simp only [ouE] at dk
    obtain rfl:vs0=vs:=by rcases dk with dk | dk <;> simp at dk <;> exact dk
    exact hK _ _ _ h g2 (tl _ _ _ g3)
   ·simp [ouE] at dk
  | br i vs0 =>
   refine ⟨fun hp=>absurd hp (by simp [ouE,sU]),fun hp=>absurd hp (by simp [ouE,sU]),fun j hp=>?_,.inr (.inr ⟨_,rfl⟩)⟩
   simp only [ouE,sU,Option.some.injEq,Code.exit.injEq] at hp;subst hp;obtain ⟨vs,m',dk,g2,g3⟩ | ⟨l,m',s',dk,_⟩:=zw
   ·simp only [ouE] at dk
    obtain rfl:vs0=vs:=by rcases dk with dk | dk <;> simp at dk <;> exact dk
    simp only [brO,bD] at h;simp only [if_true];exact hK _ _ _ h g2 (tl _ _ _ g3)
   ·simp [ouE] at dk
  | ret l0 =>
   simp only [brO,bD,Option.some.injEq] at h;subst h;refine ⟨fun hp=>absurd hp (by simp [ouE,sU]),fun _=>?_,fun i hp=>absurd hp (by simp [ouE,sU]),.inr (.inl rfl)⟩
   obtain ⟨vs,m',dk,g2,g3⟩ | ⟨l,m',s',dk,g2,g3⟩:=zw
   ·simp only [ouE] at dk;simp at dk
   ·simp only [ouE] at dk
    simp at dk;subst dk;exact hR _ _ _ g2 g3
theorem VV (h:W2 F n P c st fun ex st'=>∃ st1,Wk st' st1/\Q ex st1):W2 F n P c st Q:=by
 intro n0 w0 m0 e a w Qr hr hm ed hk;refine h n0 w0 m0 e a w Qr hr hm ed ?_;rintro ex e' st' a' w' ⟨st1,hw,hq⟩ af bq hx;have jd:=hw.weak af;refine hk ex e' st1 a' w' hq (af.weak jd) bq ?_;exact hx.weak jd (by rw [hw.Bl];exact hx.nB) (by rw [hw.V];simpa using hx.nV)
theorem aDJ {ps:List Pa} {s1:SS} (hE:Em m s st) (h:nR ps lk s=some s1)
  (hk:∀ m1 st1,Em m1 s1 st1->Adv lk m s st m1 s1 st1->W2 F n P c st1 Q):W2 F n P c st Q:=by
 intro n0 w0 m0 e a w Qr hr hm ed gm;obtain ⟨m1,st1,e',cg,ha,ba,ap⟩:=uH hE h n0 w0 e a w hr;exact hk m1 st1 cg ha n0 w0 m0 e' a w Qr ba (hm.mono ap.ro) ⟨fun b hb=>ed.1 b (Nat.le_trans ap.sz hb),ap.ye.trans ed.2.1,by rw [ap.he ed.2.1];exact ed.2.2⟩ fun ex e'' st' a' w'' hq af bq ld=>gm ex e'' st' a' w'' hq af bq (ap.trans ld)
open Classical in
theorem aBu {body:Code} (I:Nat->St->Prop) {k0:Nat} (h0:I k0 st)
  (d5:∀ k s,I k s->W2 F n P body s fun ex s'=>match ex with
   | .normal=>∃ s1,Wk s' s1/\∃ k',k'<k/\I k' s1
   | ex=>Q ex s'):W2 F n P (.loop body) st Q:=by
 intro n0 w0 m0 e a w Qr hr hm ed hk
 let J:Nat->Act->World->Prop:=fun k a' w'=>∃ e' s,I k s/\Rel n0 w0 e' s a' w'/\Mk m0 e' w' a'.defers/\cL e st w e' s.B s.V w'
 have ii:∀ a' w',(∃ k,J k a' w')->∃ k,J k a' w'/\∀ j,J j a' w'->k<=j:=fun a' w' h=>exists_least h
 let μr:Act->World->Nat:=fun a' w'=>if h:∃ k,J k a' w' then Classical.choose (ii a' w' h) else 0
 have hμ:∀ a' w' (h:∃ k,J k a' w'),J (μr a' w') a' w'/\∀ j,J j a' w'->μr a' w'<=j:=by
  intro a' w' h;grind
 refine AG (fun a' w'=>∃ k,J k a' w') μr ⟨k0,e,st,h0,hr,hm,Ext.refl _ _ _ _ _⟩ ?_
 intro a1 w1 hJ;obtain ⟨⟨e1,s,hI,cf,xn,ar⟩,vg⟩:=hμ a1 w1 hJ;refine d5 _ s hI n0 w0 m0 e1 a1 w1 _ cf xn ⟨fun b hb=>ed.1 b (Nat.le_trans ar.sz hb),ar.ye.trans ed.2.1,by rw [ar.he ed.2.1];exact ed.2.2⟩ ?_
 intro ex e2 s2 a2 w2 hq fa ur dw;cases ex with
 | normal =>
  obtain ⟨s3,jl,k',an,y9⟩:=hq;have jd:=jl.weak fa;have oc:J k' a2 w2:=⟨e2,s3,y9,fa.weak jd,ur,ar.trans (dw.weak jd (by rw [jl.Bl];exact dw.nB) (by rw [jl.V];simpa using dw.nV))⟩
  refine ⟨⟨_,oc⟩,?_⟩;have:=(hμ a2 w2 ⟨_,oc⟩).2 _ oc;omega
 | _=>exact hk _ e2 s2 a2 w2 hq fa ur (ar.trans dw)
theorem BE (fq:G.yy=false) (hM:Fns P sg M) (hT:Its P sg M) (hF:Free F) (am:F.round=none) {inl:List (Option Nat×Hint×HT)->IN} (hI:∀ (F:Fence) (n:Nat),Free F->∀ il,zB F n P (inl il)) {rt:SS->Option Ou} (l5:∀ s o,rt s=some o->∃ l,o=.ret l):∀ (c:Code) (ht:HT) (lk:Lk) (env:List (Nat×Hint)) (s:SS) (K:SS->Option Ou) (r:Ou) (m:Emb) (st:St) (Q:Exit->St->Prop),
  Em m s st->evT P sg M inl rt c ht lk env s K=some r ->
  (∀ m' s' st',K s'=some r->Em m' s' st'->Adv lk m s st m' s' st'->Q .normal st') ->
  (∀ id h vs m' s' st',kU id env=some h->iK h s'=some vs->r=.br id vs->Em m' s' st'->Adv lk m s st m' s' st'->Q (.exit id) st') ->
  (∀ m' s' st',rt s'=some r->Em m' s' st'->Q .ret st') ->
  W2 F n P c st Q:=by
 intro c
 have plain:∀ (c:Code) (ht:HT) (lk:Lk) (env:List (Nat×Hint)) (s:SS) (K:SS->Option Ou) (r:Ou) (m:Emb) (st:St) (Q:Exit->St->Prop),
  Em m s st->evB P sg M true inl rt c ht lk env s K=some r ->
  (∀ m' s' st',K s'=some r->Em m' s' st'->Adv lk m s st m' s' st'->Q .normal st') ->
  (∀ id h vs m' s' st',kU id env=some h->iK h s'=some vs->r=.br id vs->Em m' s' st'->Adv lk m s st m' s' st'->Q (.exit id) st') ->
  (∀ m' s' st',rt s'=some r->Em m' s' st'->Q .ret st')->W2 F n P c st Q:=
  fun c ht lk env s K r m st Q hE h hK hX hR=>(JW (fun _=>fq) hM hF (hI F n hF) l5 c ht lk env s K r m st Q hE h hK hX fun m' s' st' g1 g2 _=>hR m' s' st' g1 g2).w2
 induction c with
 | seq a b iha ihb =>
  intro ht lk env s K r m st Q hE h hK hX hR;cases ht with
  | two x y =>
   simp only [evT] at h;split at h
   ·refine nX (iha x lk env s _ r m st _ hE h ?_ ?_ ?_)
    ·intro m' s' st' h1 h2 h3
     exact ihb y lk env s' K r m' st' Q h2 h1 (fun m'' s'' st'' g1 g2 g3=>hK m'' s'' st'' g1 g2 (h3.trans g3))
      (fun id h vs m'' s'' st'' g0 g1 g2 g3 g4=>hX id h vs m'' s'' st'' g0 g1 g2 g3 (h3.trans g4)) hR
    ·exact hX
    ·exact hR
   ·exact plain _ _ _ _ _ _ _ _ _ _ hE h hK hX hR
  | _=>simp only [evT] at h;exact plain _ _ _ _ _ _ _ _ _ _ hE h hK hX hR
 | cond c a b iha ihb =>
  intro ht lk env s K r m st Q hE h hK hX hR;cases ht with
  | cond j x y =>
   cases j with
   | none =>
    simp only [evT] at h;split at h
    ·split at h
     ·rename_i t hc
      refine MU (b:=t) (by rw [hE.ev,hc];rfl) (fun ht=>?_) (fun ht=>?_)
      ·subst ht;exact iha x lk env s K r m st Q hE h hK hX hR
      ·subst ht;exact ihb y lk env s K r m st Q hE h hK hX hR
     ·cases h
    ·exact plain _ _ _ _ _ _ _ _ _ _ hE h hK hX hR
   | some h0 =>
    simp only [evT] at h;split at h
    ·split at h
     ·rename_i t hc
      split at h
      ·rename_i bg
       rcases AZ h with ⟨vs,h1,h2⟩ | ⟨h1,h2⟩
       ·refine VV (MU (b:=t) (by rw [hE.ev,hc];rfl) (fun ht=>?_) (fun ht=>?_))
        all_goals
         subst ht
         first
         | refine iha x (dD h0 lk s) env s _ _ m st _ hE h1 ?_ ?_ ?_
         | refine ihb y (dD h0 lk s) env s _ _ m st _ hE h1 ?_ ?_ ?_
         ·intro m' s' st' g1 g2 g3
          simp only [Option.map_eq_some_iff] at g1;obtain ⟨vs',g1,g4⟩:=g1;cases g4;obtain ⟨m1,st1,q1,q2,q3⟩:=gC hE g2 g3 g1 bg;exact ⟨st1,q1,hK m1 _ st1 h2 q2 (q3.sub bg)⟩
         ·intro id h vs' m' s' st' g0 g1 g2 g3 g4;cases g2
         ·intro m' s' st' g1 g2
          obtain ⟨l,hl⟩:=l5 _ _ g1;cases hl
       ·refine MU (b:=t) (by rw [hE.ev,hc];rfl) (fun ht=>?_) (fun ht=>?_)
        all_goals
         subst ht
         first
         | refine iha x (dD h0 lk s) env s _ _ m st _ hE h1 ?_ ?_ ?_
         | refine ihb y (dD h0 lk s) env s _ _ m st _ hE h1 ?_ ?_ ?_
         ·intro m' s' st' g1 g2 g3
          simp only [Option.map_eq_some_iff] at g1;obtain ⟨vs',g1,g4⟩:=g1;exact absurd g4.symm (h2 vs')
         ·intro id h vs' m' s' st' g0 g1 g2 g3 g4;exact hX id h vs' m' s' st' g0 g1 g2 g3 (g4.sub bg)
         ·intro m' s' st' g1 g2;exact hR m' s' st' g1 g2
      ·cases h
     ·cases h
    ·exact plain _ _ _ _ _ _ _ _ _ _ hE h hK hX hR
  | _=>simp only [evT] at h;exact plain _ _ _ _ _ _ _ _ _ _ hE h hK hX hR
 | block id c ih =>
  intro ht lk env s K r m st Q hE h hK hX hR;cases ht with
  | rg sh h0 x y =>
   simp only [evT] at h;split at h
   case h_2=>cases h
   exact aFK hM hT hF am hI l5 hE h hK hR
  | thru x =>
   simp only [evT] at h;split at h
   ·split at h
    case h_2=>cases h
    rename_i dc;refine uJ (ih x lk env s K r m st _ hE h ?_ ?_ ?_)
    ·exact hK
    ·intro i hh vs m' s' st' g0 g1 g2 g3 g4
     by_cases hi:i=id
     ·subst hi;rw [dc] at g0;cases g0
     ·simp only [hi,if_false];exact hX i hh vs m' s' st' g0 g1 g2 g3 g4
    ·exact hR
   ·exact plain _ _ _ _ _ _ _ _ _ _ hE h hK hX hR
  | blk h0 x =>
   simp only [evT] at h;split at h
   ·split at h
    case isFalse=>cases h
    rename_i bg;rcases JV h with ⟨vs,h1,h2⟩ | ⟨h1,h2⟩
    ·refine VV (uJ (ih x (dD h0 lk s) _ s _ _ m st _ hE h1 ?_ ?_ ?_))
     ·intro m' s' st' g1 g2 g3
      simp only [Option.map_eq_some_iff] at g1;obtain ⟨vs',g1,g4⟩:=g1;cases g4;obtain ⟨m1,st1,q1,q2,q3⟩:=gC hE g2 g3 g1 bg;exact ⟨st1,q1,hK m1 _ st1 h2 q2 (q3.sub bg)⟩
     ·intro i h vs' m' s' st' g0 g1 g2 g3 g4
      cases g2;rw [rW,if_pos rfl] at g0;cases g0;obtain ⟨m1,st1,q1,q2,q3⟩:=gC hE g3 g4 g1 bg;simp;exact ⟨st1,q1,hK m1 _ st1 h2 q2 (q3.sub bg)⟩
     ·intro m' s' st' g1 g2
      obtain ⟨l,hl⟩:=l5 _ _ g1;cases hl
    ·refine uJ (ih x (dD h0 lk s) _ s _ _ m st _ hE h1 ?_ ?_ ?_)
     ·grind [Option.map_eq_some_iff]
     ·intro i h vs' m' s' st' g0 g1 g2 g3 g4
      by_cases hi:i=id
      ·grind
      ·simp [hi]
       rw [rW,if_neg (fun h=>hi h.symm)] at g0
       exact hX i h vs' m' s' st' g0 g1 g2 g3 (g4.sub bg)
     ·intro m' s' st' g1 g2;exact hR m' s' st' g1 g2
   ·exact plain _ _ _ _ _ _ _ _ _ _ hE h hK hX hR
  | _=>simp only [evT] at h;exact plain _ _ _ _ _ _ _ _ _ _ hE h hK hX hR
 | loop c ih =>
  intro ht lk env s K r m st Q hE h hK hX hR;cases ht with
  | lp as h0 x =>
   simp only [evT] at h;split at h
   ·split at h
    case h_2=>cases h
    rename_i sA Dm;refine aDJ hE Dm fun mA stA me Bp=>?_
    split at h
    case isFalse=>cases h
    rename_i bg;split at h
    case h_2=>cases h
    rename_i v0 fh;obtain ⟨k0,cy⟩:=nW.1 h;obtain ⟨m1,st1,q1,q2,q3⟩:=gC (st0:=stA) me me (Adv.refl _ _ _ _) fh bg;refine MV q1 ?_
    refine aBu (fun k st'=>∃ vs m',iS (fun vs=>evT P sg M inl rt c x (dD h0 lk sA) env (bF h0 lk sA vs) fun s'=>(iK h0 s').map .nx) k vs=some r /\
     Em m' (bF h0 lk sA vs) st'/\Adv (dD h0 lk sA) mA sA stA m' (bF h0 lk sA vs) st') ⟨v0,m1,cy,q2,q3⟩ ?_
    rintro k s1 ⟨vs,m',g1,g2,g3⟩;cases k with
    | zero=>grind [iS]
    | succ k =>
     simp only [iS] at g1;split at g1
     ·rename_i vs' aw
      refine ih x (dD h0 lk sA) env _ _ _ m' s1 _ g2 aw ?_ ?_ ?_
      ·intro m2 s2 st2 e1 e2 e3
       simp only [Option.map_eq_some_iff] at e1;obtain ⟨vs2,e1,e4⟩:=e1;obtain ⟨m3,st3,w1,w2,w3⟩:=gC me e2 (g3.trans e3) e1 bg;grind
      ·intro id h vs2 m2 s2 st2 e0 e1 e2 e3 e4;cases e2
      ·intro m2 s2 st2 e1 e2
       obtain ⟨l,hl⟩:=l5 _ _ e1;cases hl
     ·rename_i bY
      refine ih x (dD h0 lk sA) env _ _ r m' s1 _ g2 g1 ?_ ?_ ?_
      ·intro m2 s2 st2 e1 e2 e3
       simp only [Option.map_eq_some_iff] at e1;obtain ⟨vs2,e1,e4⟩:=e1;subst e4;grind
      ·intro id h vs2 m2 s2 st2 e0 e1 e2 e3 e4
       exact hX id h vs2 m2 s2 st2 e0 e1 e2 e3 (Bp.trans ((g3.trans e4).sub bg))
      ·intro m2 s2 st2 e1 e2
       exact hR m2 s2 st2 e1 e2
   ·exact plain _ _ _ _ _ _ _ _ _ _ hE h hK hX hR
  | _=>simp only [evT] at h;exact plain _ _ _ _ _ _ _ _ _ _ hE h hK hX hR
 | scope c ih =>
  intro ht lk env s K r m st Q hE h hK hX hR;simp only [evT] at h;split at h
  ·exact aBt (ih ht lk env s K r m st (aDi Q) hE h hK hX hR)
  ·exact plain _ _ _ _ _ _ _ _ _ _ hE h hK hX hR
 | _=>intro ht lk env s K r m st Q hE h hK hX hR;simp only [evT] at h;exact plain _ _ _ _ _ _ _ _ _ _ hE h hK hX hR
end
abbrev calm:Ghost:=⟨fun _ _=>False,0,default,false⟩
omit G in
theorem Mem.regh {G1 G2:Ghost} {B:List Box} {V:List Vec} (h:@Mem G1 n0 w0 e B V w) (hy:e.y=false):@Mem G2 n0 w0 e B V w:=by
 obtain ⟨a1,a2,a3,a4,a5,a6,a7,a8,a9,a10,a11,a12,⟨b1,b2,b3,b4,b5⟩⟩:=h;refine @Mem.mk G2 n0 w0 e B V w a1 a2 a3 a4 a5 a6 a7 a8 a9 a10 a11 ⟨a12.1,fun hc=>by grind⟩ (@Hid.mk G2 e B V w b1 b2 b3 (fun i x hi hT=>?_) b5)
 grind
omit G in
theorem CallPc.regh {G1 G2:Ghost} {P:Program} [Co P] {f:FuncId} {args:List AV} {K:AV->List Box->List Vec->Prop} (h:@CallPc G1 P _ f args K):@CallPc G2 P _ f args K:=by
 intro F n hF am n0 w0 e w vs hy hm hv hs;refine CallsCo.mono (h F n hF am n0 w0 e w vs hy (Mem.regh (G1:=G2) (G2:=G1) hm hy.1) hv hs) ?_;rintro en w' ⟨e',B',V',r,v,h1,h2,h3,h4,h5⟩;exact ⟨e',B',V',r,v,h1,h2,Mem.regh (G1:=G1) (G2:=G2) h3 (h4.ye.trans hy.1),h4,h5⟩
section
variable (P:Program) (sg:FuncId->Option Sig) (M:Den)
noncomputable def evF (fe:FE) (c:Code) (vs:List CV):Option (List CV):=
 if (Sc.avs fe.g.ps vs 0).length<=fe.n then
  aJ (evT P sg M (inN P sg M true 8) (rtF P fe.rs fe.g.rs) c fe.ht ⟨[],[],[],[]⟩ [] ⟨fe.n,dB 0 (Sc.avs fe.g.ps vs 0),[],[]⟩ (rtF P fe.rs fe.g.rs))
 else none
end
section
variable {P:Program} [C:Co P] {sg:FuncId->Option Sig} {M:Den}
theorem ZA (hM:@Fns calm P _ sg M) (hY:@Yls calm P _ M) (hT:Its P sg M) {f:FuncId} {fn:Func} {fe:FE} {c:Code} {vs out:List CV} (hf:P.funcs[f]? = some fn) (hb:fn.body=some c) (hn:fn.ntmps=fe.n) (hr:fn.results.toList=fe.rs) (h:evF P sg M fe c vs=some out) :
  SpecR P f (Sc.avs fe.g.ps vs 0) (Sc.res fe.g.rs out):=by
 unfold evF at h;split at h
 ·rename_i ak
  have h':evT P sg M (inN P sg M true 8) (rtF P fe.rs fe.g.rs) c fe.ht ⟨[],[],[],[]⟩ [] ⟨fe.n,dB 0 (Sc.avs fe.g.ps vs 0),[],[]⟩ (rtF P fe.rs fe.g.rs)=some (.ret out):=by
   unfold aJ at h;grind
  have bw:=Sc.avs_closed fe.g.ps vs 0
  have key:@CallPc calm P _ f (Sc.avs fe.g.ps vs 0) fun r B V=>∃ (m:Emb) (s:SS) (st:St) (xs:List AV) (l:List CV) (b:Bool),st.B=B/\st.V=V/\Em m s st/\rA P s fe.rs=some xs/\fP s.B s.V fe.g.rs xs=some (l,b)/\DB (Sc.lvs fe.g.rs) l=out /\
    r=kV (AV.czs m xs):=by
   refine @oZ calm _ _ _ _ _ _ _ hf hb fun F n hF am=>?_
   rw [hn,start_eq _ _ ak]
   have hE:Em ⟨[],[],[]⟩ ⟨fe.n,dB 0 (Sc.avs fe.g.ps vs 0),[],[]⟩ ⟨mkT fe.n (dB 0 (Sc.avs fe.g.ps vs 0)),[],[]⟩:=by
    obtain ⟨p1,p2⟩:=Sc.avs_pl fe.g.ps vs 0 ⟨[],[],[]⟩ 0 0;refine ⟨?_,kA _ _ p2,⟨rfl,rfl,rfl,by simp,by simp,by simp,by simp,by simp⟩⟩
    grind [lV,AV.czs_eq]
   have fin:∀ (m':Emb) (s':SS) (st':St),rtF P fe.rs fe.g.rs s'=some (.ret out)->Em m' s' st'->∃ r,nM P st' fn.results.toList=some r /\
     ∃ (m:Emb) (s:SS) (st:St) (xs:List AV) (l:List CV) (b:Bool),st.B=st'.B/\st.V=st'.V/\Em m s st/\rA P s fe.rs=some xs/\fP s.B s.V fe.g.rs xs=some (l,b)/\DB (Sc.lvs fe.g.rs) l=out/\r=kV (AV.czs m xs):=by
    intro m' s' st' h1 iq;unfold rtF at h1;split at h1
    ·rename_i xs js
     split at h1
     ·rename_i l b hl
      cases h1;refine ⟨_,?_,m',s',st',xs,l,b,rfl,rfl,iq,js,hl,rfl,rfl⟩;rw [hr];exact BA (rX iq js)
     grind
    grind
   refine @BE calm _ _ _ _ _ _ rfl hM hT hF am _ (fun F n hF=>@rY calm _ _ _ _ true (fun _=>rfl) hM hY 8 _ _ hF) _ (aDE) c fe.ht _ _ _ _ _ _ _ _ hE h' ?_ (fun _ _ _ _ _ _ h0=>by simp [kU] at h0) ?_
   ·grind
   grind
  refine CallP.res (CallP.freeze (CallPc.regh (G2:=G) key) (AV.scos_closed _ _ _ bw)) ?_;rintro r B V ⟨rfl,rfl,r0,B0,V0,⟨m,s,st,xs,l,b,rfl,rfl,hE,js,hl,rfl,rfl⟩,rfl⟩;refine ⟨Sc.res fe.g.rs l,?_,(aBn _ _).symm,rfl,rfl⟩;obtain ⟨q1,_⟩:=dY hE.m hl;have D8:=Sc.res_closed fe.g.rs l;exact ⟨aBo q1,fun _ _ _=>AV.sco_closed _ _ _ D8⟩
 grind
end
end Go.Sx
