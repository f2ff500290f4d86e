/-
 The laws of a pinder's court (plaints) hold at every input, without any condition.
-/
import Derived.Conc.Beside
import Derived.Conc.CrowdComm
import Derived.DuoClaim
import Derived.Test.YtgpnoeojpmaeiaaGreatP06
set_option linter.unusedSectionVars false
set_option linter.unusedVariables false
set_option linter.unusedSimpArgs false
namespace Go.Sx
open Go Go.RowKit
theorem VW:∀ {a b:Lf},lfC a=lfC b->a=b:=by
 intro a b h;cases a <;> cases b <;> simp_all [lfC]
theorem aBv (l:Lf):lfC l≠dC:=by cases l <;> simp [lfC,dC]
theorem aDK:∀ {a b:Sc},scC a=scC b->a=b:=by
 intro a b h;cases a <;> cases b
 ·grind [scC,VW]
 ·simp [scC] at h;exact absurd h.1 (aBv _)
 ·simp [scC] at h;exact absurd h.1.symm (aBv _)
 grind [scC,List.map_inj_right,VW]
theorem DV:∀ {a b:YSh},shC a=shC b->a=b:=by
 intro a b h;cases a <;> cases b
 ·grind [shC,List.map_inj_right,aDK]
 ·grind [shC]
 ·grind [shC]
 simp_all [shC]
open Classical in
noncomputable def withY (M:Den) (l:Nat) (sh:YSh) (yf:YF):Den:=fun f vs =>
 if f=ghT then
  match vs with
  | .val (.func (.yield l') _ _)::c::.row _ es::x=>if l'=l/\c=shC sh then (match yf es x with
   | some (b,es')=>some [.val (.bool b),.row 0 es']
   | none=>none) else none
  | _=>none
 else M f vs
def rtY (s:SS):Option Ou:=match s.V[0]? with
 | some v=>if (v.T == ghT)=true then some (.ret [.row 0 v.es]) else none
 | none=>none
theorem VX (s:SS) (o:Ou) (h:rtY s=some o):∃ l,o=.ret l:=by
 unfold rtY at h;grind
noncomputable def evY (P:Program) (sg:FuncId->Option Sig) (M:Den) (dp:Nat) (fe:FE) (c:Code) (l:Nat) (vs:List CV) (es:List (List CV)):Option (List CV):=
 if vs.length+1<=fe.n then
  aJ (evC P sg M (inN P sg M false dp) rtY c fe.ht ⟨[],[],[],[]⟩ [] ⟨fe.n,dB 0 (.cv (.val (.func (.yield l) #[] #[]))::vs.map .cv),[],[⟨false,ghT,0,0,es⟩]⟩ rtY)
 else none
section
variable {P:Program} [C:Co P] {sg:FuncId->Option Sig} {M:Den}
theorem Fns.withY [G:Ghost] (h:Fns P sg M) (hg:sg ghT=none) (_:∀ vs,M ghT vs=none) (l:Nat) (sh:YSh) (yf:YF):Fns P sg (Go.Sx.withY M l sh yf):=by
 have key:∀ f vs out,f≠ghT->Go.Sx.withY M l sh yf f vs=some out->M f vs=some out:=fun f vs out hf h=>by
  unfold Go.Sx.withY at h;grind
 have gh:∀ vs out,Go.Sx.withY M l sh yf ghT vs=some out->∃ b es',out=[.val (.bool b),.row 0 es']:=by
  intro vs out h;unfold Go.Sx.withY at h;grind
 refine ⟨fun f vs k es T hs hm=>?_,fun f T k cs es es' hdr hs hm=>?_,fun f T fs hs hm=>?_,h.ent,fun f g vs out hs hm=>?_⟩
 ·by_cases hf:f=ghT
  ·grind
  ·exact h.own f vs k es T hs (key _ _ _ hf hm)
 ·by_cases hf:f=ghT
  ·grind
  ·exact h.mtt f T k cs es es' hdr hs (key _ _ _ hf hm)
 ·by_cases hf:f=ghT
  ·grind
  ·exact h.way f T fs hs (key _ _ _ hf hm)
 ·by_cases hf:f=ghT
  ·grind
  ·exact h.spec f g vs out hs (key _ _ _ hf hm)
theorem QD (hM:∀ [Ghost],Fns P sg M) (hg:sg ghT=none) (ow:∀ vs,M ghT vs=none) {f:FuncId} {fn:Func} {c:Code} {fe:FE} {dp:Nat} {caps:List CV} {sh:YSh} {R:YF->List (List CV)->Option (List (List CV))} (hf:P.funcs[f]? = some fn) (hb:fn.body=some c) (hn:fn.ntmps=fe.n) (hr:fn.results.toList=[])
  (hR:∀ l yf es es',R yf es=some es'->evY P sg (withY M l sh yf) dp fe c l caps es=some [.row 0 es']):rB P f caps sh R:=by
 intro G l yf es es' hy zy F n hF am H S w lb ku hS hH mf hJ ek kp;have rj:=Fns.withY (G:=G) hM hg ow l sh yf
 have El:Yls P (withY M l sh yf):=by
  refine ⟨?_,fun c' sh' es x out h=>by simp [withY] at h⟩
  intro l' sh' es x out h;simp only [withY,if_true] at h;split at h
  ·rename_i hc
   obtain ⟨rfl,hc⟩:=hc;have:=DV hc;subst this;split at h
   ·rename_i b es2 h1
    cases h;exact hy _ _ _ _ h1
   grind
  grind
 have ay:=hR l yf es es' zy;unfold evY at ay;split at ay
 case isFalse=>grind
 have wm:evC P sg (withY M l sh yf) (inN P sg (withY M l sh yf) false dp) rtY c fe.ht ⟨[],[],[],[]⟩ [] ⟨fe.n,dB 0 (.cv (.val (.func (.yield l) #[] #[]))::caps.map .cv),[],[⟨false,ghT,0,0,es⟩]⟩ rtY=some (.ret [.row 0 es']):=by
  unfold aJ at ay;grind
 refine iQ hf hb ?_ am
 let e0:Env:=⟨fun _=>0,fun _ _=>undef,S,w.heap.size,H,true⟩
 have bv:Mem w.heap.size w e0 [] [⟨false,ghT,0,0,es⟩] w:=by
  refine ⟨by simp,by simp,by simp,by simp,?_,?_,by simp,?_,hS,Below.refl _ _,Nat.le_refl _,⟨Nat.le_refl _,fun _=>kp⟩,⟨hH,by simp,?_,?_,mf⟩⟩
  ·grind
  ·grind
  ·grind
  ·grind
  grind
 have ac:AV.all e0 w (kss [⟨false,ghT,0,0,es⟩]) (.cv (.val (.func (.yield l) #[] #[]))::caps.map .cv) (#[Value.func (.yield l) #[] #[]]++lb).toList:=by
  simp;exact ⟨by simp [AV.holds,CV.holds],AV.all.of_vals ku⟩
 have cn:(#[Value.func (.yield l) #[] #[]]++lb).size=(AV.cv (.val (.func (.yield l) #[] #[]))::caps.map .cv).length:=by
  have:=ac.length;omega
 have hE:Em ⟨[],[0],[0]⟩ ⟨fe.n,dB 0 (.cv (.val (.func (.yield l) #[] #[]))::caps.map .cv),[],[⟨false,ghT,0,0,es⟩]⟩ ⟨mkT fe.n (dB 0 (.cv (.val (.func (.yield l) #[] #[]))::caps.map .cv)),[],[⟨false,ghT,0,0,es⟩]⟩:=by
  refine ⟨?_,kA _ _ (by rw [AV.inns_eq,List.all_eq_true];intro y hy;simp at hy;rcases hy with rfl | ⟨c,_,rfl⟩ <;> rfl),⟨rfl,rfl,rfl,by simp,?_,?_,by simp,?_⟩⟩
  ·simp [lV,AV.cz,Function.comp_def]
  ·grind [Emb.fv,Vec.cz,Emb.fo]
  ·grind [Emb.fv]
  simp
 have af:Rel w.heap.size w e0 ⟨mkT fe.n (dB 0 (.cv (.val (.func (.yield l) #[] #[]))::caps.map .cv)),[],[⟨false,ghT,0,0,es⟩]⟩ { tmps:=(#[Value.func (.yield l) #[] #[]]++lb)++Array.replicate (fn.ntmps - (#[Value.func (.yield l) #[] #[]]++lb).size) undef,defers:=[] } w:=by
  rw [<- start_eq _ _ (by grind)]
  refine ⟨?_,?_,bv⟩
  ·rw [Array.toList_append,Array.toList_replicate,cn,hn]
   refine ac.append ?_;generalize fe.n - _=k
   induction k with
   | zero=>simp [AV.all]
   | succ k ih=>grind [AV.all,AV.holds]
  grind [AV.scos_iff,AV.sco]
 have hW:=iB (F:=F) (n:=n) rj hF (fun il=>rY (cm:=false) (fun h=>by cases h) rj El dp hF il) VX c fe.ht ⟨[],[],[],[]⟩ [] _ _ _ _ _ (fun ex st'=>(ex=.normal\/ex=.ret)/\∃ m' s',rtY s'=some (.ret [.row 0 es'])/\Em m' s' st') hE wm
  (fun m' s' st' h1 h2 _=>⟨.inl rfl,m',s',h1,h2⟩) (fun id h vs m' s' st' h0=>by simp) (fun m' s' st' h1 h2 _=>⟨.inr rfl,m',s',h1,h2⟩)
 refine hW w.heap.size w e0 _ w _ af ?_;rintro ex e' st' a' w2 ⟨ja,m',s',h1,h2⟩ jb bq dw
 suffices ij:gL P fn a'.tmps (fun en w'=>(∃ v,en=.returned v)/\w.heap.size<=w'.heap.size/\@GW G w'/\∃ H',G.J es' H'/\iG H' w') a'.defers w2 by
  rcases ja with rfl | rfl
  ·exact ij
  ·exact ij
 have bq:a'.defers=[]:=bq;rw [bq];intro w' xl;obtain ⟨de,En⟩:=jb.rely xl;have hx:=dw.trans En
 have iu:(results fn a'.tmps).run P w'=.ok (.tuple #[]) w':=by
  simp_all [results]
 have fin:(∃ v,Ending.returned (Value.tuple #[])=.returned v)/\w.heap.size<=w'.heap.size/\@GW G w'/\∃ H',G.J es' H'/\iG H' w':=by
  unfold rtY at h1;split at h1
  case h_2=>cases h1
  rename_i v hv;split at h1
  case isFalse=>cases h1
  rename_i hT;simp at h1;subst h1;simp at hT;have cx:=h2.m.v 0 v hv (.inr hT);obtain ⟨g1,g2,g3,g4⟩:=de.mem.hid.gh _ _ cx hT;have bo:=de.mem.below;exact ⟨⟨_,rfl⟩,hx.sz,⟨bo.os.trans kp.1,bo.tape.trans kp.2.1,bo.output.trans kp.2.2.1,kp.2.2.2⟩,e'.H,g3,de.mem.hid.obj⟩
 exact ⟨_,iu,fin⟩
end
end Go.Sx
namespace Go.Sx
open Go Go.RowKit
variable [G:Ghost]
def aB (f:Func):Code:=f.body.getD .skip
def ci (n:Int):CV:=.val (.int .i64 n)
def cb (b:Bool):CV:=.val (.bool b)
def gi (v:List CV) (i:Nat):Int:=cI (List.getD v i dC)
def gb (v:List CV) (i:Nat):Bool:=cB (List.getD v i dC)
def gr (v:List CV) (i:Nat):List (List CV):=cR (List.getD v i dC)
def el (es:List (List CV)) (i:Int):List CV:=List.getD es (Int.toNat i) []
def il {A:Type} (es:List A):Int:=Int.ofNat (List.length es)
def wr (x:Int):Int:=IntKind.wrap .i64 x
def inb {A:Type} (i:Int) (es:List A):Bool:=decide (0<=i)&&decide (i<il es)
def cis (v:List CV):Nat->Nat->List CV
 | _,0=>[]
 | i,n+1=>ci (gi v i)::cis v (i+1) n
def cat:List (List CV)->List CV
 | []=>[]
 | [x]=>x
 | x::xs=>x++cat xs
abbrev li:Lf:=.int .i64
abbrev lb:Lf:=.bool
def nY {A:Type} (k:Nat):List (Nat×A)->Option A
 | []=>none
 | (j,x)::r=>if j=k then some x else nY k r
def jG (tb:List (Nat×FE×Code)):FuncId->Option Sig:=fun f=>(nY f tb).map (·.1.g)
def aIQ:HT->Bool
 | .fv [] _=>true
 | _=>false
noncomputable def den (P:Program) (tb:List (Nat×FE×Code)) (its:List (Nat×(List CV->Option (List CV)))):Nat->Den
 | 0=>fun _ _=>none
 | n+1=>fun f vs=>match nY f tb with
  | some (fe,c)=>if aIQ fe.ht=true then (match nY f its with
   | some it=>it vs
   | none=>none) else evF P (jG tb) (den P tb its n) fe c vs
  | none=>match nY f its with
   | some it=>it vs
   | none=>none
structure EntOk (P:Program) (f:Nat) (fe:FE) (fn:Func):Prop where
 ent:dS P f=true
 isf:P.funcs[f]? = some fn
 body:fn.body.isSome=true
 n:fn.ntmps=fe.n
 rs:fn.results.toList=fe.rs
theorem rD {A:Type} {k:Nat} {x:A}:∀ {l:List (Nat×A)},nY k l=some x->(k,x)∈l
 | [],h=>by grind [nY]
 | (j,y)::r,h=>by
  simp only [nY] at h;split at h
  ·rename_i hj;cases h;subst hj;simp
  ·simp [rD h]
def sV (P:Program) [Co P] (sg:FuncId->Option Sig) (its:List (Nat×(List CV->Option (List CV)))):Prop:=∀ e∈its,∀ caps out,e.2 caps=some out ->
 (∀ g,sg e.1=some g->SpecR P e.1 (Sc.avs g.ps caps 0) (Sc.res g.rs out)) /\
 (∀ rows sh,out=[.row 0 rows,shC sh]->dS P e.1=true/\rB P e.1 caps sh (fC rows)) /\
 (∀ k es T,out=[.row k es,.fn T []]->dS P e.1=true/\sT P e.1 (caps.map .cv) T k es) /\
 (∀ T k cs es es' hdr,caps=.row k es::.fn T []::cs->out=[.row k es',.val (.bool hdr)]->dS P e.1=true/\AQ P e.1 T k cs es es' hdr) /\
 (∀ k T by_,caps=[]->out=[.row k [],.fn T [],.fn by_ []]->dS P e.1=true/\aGT P e.1 T k by_) /\
 (∀ T fs,caps=.fn T []::fs.map (fun g=>.fn g [])->out=[.fn 0 []]->dS P e.1=true/\XU P e.1 T fs)
variable {tb:List (Nat×FE×Code)} {its:List (Nat×(List CV->Option (List CV)))}
theorem MW {P:Program} [Co P] {n f:Nat} {caps out:List CV} (hs:jG tb f=none) (h:den P tb its n f caps=some out):∃ it,(f,it)∈its/\it caps=some out:=by
 cases n with
 | zero=>grind [den]
 | succ n =>
  simp [jG] at hs;simp [den,hs] at h;split at h
  ·rename_i it hl;exact ⟨it,rD hl,h⟩
  ·cases h
theorem VY {P:Program} [Co P] (hi:sV P (jG tb) its):∀ n,Its P (jG tb) (den P tb its n):=
 fun n=>⟨fun f caps rows sh hs h=>by
  obtain ⟨it,h1,h2⟩:=MW hs h;exact (hi _ h1 caps _ h2).2.1 rows sh rfl⟩
theorem uK {P:Program} [Co P] (hg:nY ghT tb=none/\nY ghT its=none):∀ n vs,den P tb its n ghT vs=none
 | 0,_=>rfl
 | n+1,vs=>by simp_all [den]
theorem Yls.none {P:Program} [Co P] {M:Den} (h:∀ vs,M ghT vs=.none):Yls P M:=by
 refine ⟨fun l sh es x out hm=>?_,fun c sh es x out hm=>?_⟩ <;>
  simp [h] at hm
theorem jA {P:Program} [Co P] (hi:∀ (G:Ghost),@sV G P _ (jG tb) its) (hg:nY ghT tb=none/\nY ghT its=none/\its.all (fun e=>decide (e.1<aFv))=true) (ht:∀ e∈tb,∃ fn,EntOk P e.1 e.2.1 fn/\e.2.2=aB fn):∀ n,Fns P (jG tb) (den P tb its n):=by
 suffices aux:∀ (n:Nat) (G:Ghost),@Fns G P _ (jG tb) (den P tb its n) from fun n=>aux n G
 have au:∀ (G:Ghost) n f vs k es T,jG tb f=none->den P tb its n f vs=some [.row k es,.fn T []]->dS P f=true/\sT P f (vs.map .cv) T k es:=fun G n f vs k es T hs h=>by
  obtain ⟨it,h1,h2⟩:=MW hs h;exact (hi G _ h1 vs _ h2).2.2.1 k es T rfl
 have z5:∀ (G:Ghost) n f T k cs es es' hdr,jG tb f=none->den P tb its n f (.row k es::.fn T []::cs)=some [.row k es',.val (.bool hdr)]->dS P f=true/\AQ P f T k cs es es' hdr:=fun G n f T k cs es es' hdr hs h=>by
  obtain ⟨it,h1,h2⟩:=MW hs h;exact (hi G _ h1 _ _ h2).2.2.2.1 T k cs es es' hdr rfl rfl
 have z6:∀ (G:Ghost) n f T fs,jG tb f=none->den P tb its n f (.fn T []::fs.map fun g=>.fn g [])=some [.fn 0 []]->dS P f=true/\XU P f T fs:=fun G n f T fs hs h=>by
  obtain ⟨it,h1,h2⟩:=MW hs h;exact (hi G _ h1 _ _ h2).2.2.2.2.2 T fs rfl rfl
 have ox:∀ f g,jG tb f=some g->dS P f=true:=fun f g hg=>by
  simp only [jG,Option.map_eq_some_iff] at hg;obtain ⟨⟨fe,c⟩,h1,_⟩:=hg;obtain ⟨fn,h2,_⟩:=ht _ (rD h1);exact h2.ent
 intro n
 induction n with
 | zero=>exact fun G=>⟨au G 0,z5 G 0,z6 G 0,ox,fun f g vs out hg h=>by grind [den]⟩
 | succ n ih =>
  refine fun G=>⟨au G _,z5 G _,z6 G _,ox,fun f g vs out em h=>?_⟩
  have Eo:=em;simp only [jG,Option.map_eq_some_iff] at em;obtain ⟨⟨fe,c⟩,h1,h2⟩:=em;simp [den,h1] at h;split at h
  ·split at h
   ·rename_i it hl
    exact (hi G _ (rD hl) vs _ h).1 g Eo
   ·cases h
  obtain ⟨fn,h3,h4⟩:=ht _ (rD h1);simp only at h2 h4;subst h2
  have hb:fn.body=some c:=by
   rw [h4,aB];cases hh:fn.body with
   | none=>have:=h3.body;grind
   | some c'=>rfl
  exact ZA (ih calm) (@Yls.none calm _ _ _ (uK ⟨hg.1,hg.2.1⟩ n)) (VY (hi G) n) h3.isf hb h3.n h3.rs h
section
variable {P:Program} [C:Co P]
theorem pC {f:FuncId} {fn:Func} {c:Code} {args:List AV} {B:List Box} {V:List Vec} {K:AV->List Box->List Vec->Prop} (hf:P.funcs[f]? = some fn) (hb:fn.body=some c)
  (h:∀ (F:Fence) (n:Nat),Free F->F.round=none->W F n P c ⟨args++List.replicate (fn.ntmps - args.length) .any,B,V⟩ fun ex st'=>(ex=.normal\/ex=.ret)/\∃ r,nM P st' fn.results.toList=some r/\K r st'.B st'.V) :
  CallP P f args B V K:=by
 intro F n hF am n0 w0 e w vs hm hv hs;refine iQ hf hb ?_ am
 have af:Rel n0 w0 e ⟨args++List.replicate (fn.ntmps - args.length) .any,B,V⟩ { tmps:=vs++Array.replicate (fn.ntmps - vs.size) undef,defers:=[] } w:=by
  have hl:vs.size=args.length:=by have:=hv.length;omega
  refine ⟨?_,?_,hm⟩
  ·simp [hl]
   refine hv.append ?_;generalize fn.ntmps - args.length=k
   induction k with
   | zero=>simp [AV.all]
   | succ k ih=>grind [AV.all,AV.holds]
  grind [AV.scos_iff,AV.sco]
 refine h F n hF am n0 w0 e _ w _ af ?_;rintro ex e' st' a' w2 ⟨ja,r,hr,hK⟩ jb bq dw
 have main:∀ R:Ending->World->Prop,(∀ w',Rely w2 w'->∃ v,(results fn a'.tmps).run P w'=.ok v w'/\R (.returned v) w')->gL P fn a'.tmps R a'.defers w2:=fun R h=>by
  have bq:a'.defers=[]:=bq;rw [bq];exact h
 have fin:∀ w',Rely w2 w'->∃ v,(results fn a'.tmps).run P w'=.ok v w'/\∃ e' B' V' r v',Ending.returned v=.returned v'/\K r B' V'/\Mem n0 w0 e' B' V' w'/\Ext e w B.length (vers V) (kss V) e' w' B'.length (vers V') (kss V') /\
   AV.holds e' w' (kss V') r v'/\AV.sco B'.length (vers V') r:=by
  intro w' xl;obtain ⟨de,En⟩:=jb.rely xl;obtain ⟨v,a1,a2,a3⟩:=uE (fn:=fn) de hr;exact ⟨v,a1,e',st'.B,st'.V,r,v,rfl,hK,de.mem,dw.trans En,a2,a3⟩
 rcases ja with rfl | rfl
 ·exact main _ fin
 ·exact main _ fin
end
section
variable {n0:Nat} {w0 w:World} {e:Env} {B X:List Box} {V Y:List Vec}
theorem aDL:Ext e w B.length (vers V) (kss (V++Y)) e w B.length (vers V) (kss V):=
 ⟨RO.refl _ _,fun _ _=>rfl,fun _ _ _ _=>rfl,Nat.le_refl _,Nat.le_refl _,fun _ _=>Nat.le_refl _,fun i hi=>by
  grind,Nat.le_refl _,fun _ h=>.inl h,rfl,fun _=>rfl,rfl⟩
theorem Mem.cut (h:Mem n0 w0 e (B++X) (V++Y) w) (dj:∀ b∈B,AV.scos B.length (vers V) b.cs):Mem n0 w0 e B V w:=by
 have gb:∀ {i:Nat} {b:Box},B[i]? = some b->(B++X)[i]? = some b:=fun {i b} hi=>by
  grind
 have gv:∀ {i:Nat} {x:Vec},V[i]? = some x->(V++Y)[i]? = some x:=fun {i b} hi=>by
  grind
 refine ⟨fun i b hi hl=>?_,fun i b hi=>dj b (List.mem_of_getElem? hi),fun i b hi hl=>h.boxlo i b (gb hi) hl,fun i j b b' h1 h2=>h.boxinj i j b b' (gb h1) (gb h2),fun i x hi hl=>h.vec i x (gv hi) hl,fun i x g hi=>h.vecS i x g (gv hi),fun i x j b g h1 l1 h2=>h.vecbox i x j b g (gv h1) l1 (gb h2),fun i x j y g h1 l1 h2=>h.vecinj i x j y g (gv h1) l1 (gv h2),h.ro,h.below,h.base,h.bl,?_⟩
 ·obtain ⟨vs,h1,h2⟩:=h.box i b (gb hi) hl
  exact ⟨vs,h1,AV.all.mono aDL _ _ (dj b (List.mem_of_getElem? hi)) h2⟩
 ·exact ⟨h.hid.obj,fun i b hi=>h.hid.box i b (gb hi),fun i x g hi=>h.hid.vec i x g (gv hi),fun i x hi=>h.hid.gh i x (gv hi),h.hid.own⟩
end
def rtM (T k:Nat) (s:SS):Option Ou:=match s.V[0]? with
 | some v=>if (v.live&&(v.ver == 0&&(v.T == T&&v.k == k)))=true then some (.ret [.row k v.es]) else none
 | none=>none
theorem aDM (T k:Nat) (s:SS) (o:Ou) (h:rtM T k s=some o):∃ l,o=.ret l:=by
 unfold rtM at h;grind
noncomputable def evM (P:Program) (sg:FuncId->Option Sig) (M:Den) (dp:Nat) (fe:FE) (c:Code) (T k:Nat) (cs:List CV) (es:List (List CV)):Option (List CV):=
 if cs.length+1<=fe.n then
  aJ (evC P sg M (inN P sg M false dp) (rtM T k) c fe.ht ⟨[],[],[],[0]⟩ [] ⟨fe.n,dB 0 (.own 0 0::cs.map .cv),[],[⟨true,T,k,0,es⟩]⟩ (rtM T k))
 else none
theorem zG {α:Type} {L L':List α} (_:L.length<=L'.length) (h:∀ j,j<L.length->L'[j]? = L[j]?):L'=L++L'.drop L.length:=by
 refine List.ext_getElem? fun i=>?_
 grind
section
variable {P:Program} [C:Co P] {sg:FuncId->Option Sig} {M:Den}
theorem DW (hM:Fns P sg M) (ow:∀ vs,M ghT vs=none) {f:FuncId} {fn:Func} {c:Code} {fe:FE} {dp T k:Nat} {cs:List CV} {es es':List (List CV)} (hf:P.funcs[f]? = some fn) (hb:fn.body=some c) (hn:fn.ntmps=fe.n) (hr:fn.results.toList=[])
  (h:evM P sg M dp fe c T k cs es=some [.row k es']):AQ P f T k cs es es' false:=by
 intro B V j v hv dg hT hk b8;have hl:=Vec.sl_live dg;have hj:=(List.getElem?_eq_some_iff.1 hv).1;unfold evM at h;split at h
 case isFalse=>cases h
 have ay:evC P sg M (inN P sg M false dp) (rtM T k) c fe.ht ⟨[],[],[],[0]⟩ [] ⟨fe.n,dB 0 (.own 0 0::cs.map .cv),[],[⟨true,T,k,0,es⟩]⟩ (rtM T k)=some (.ret [.row k es']):=by
  unfold aJ at h;grind
 have key:CallP P f (.own j v.ver::cs.map .cv) B V fun r B' V'=>r=.tup []/\∃ X Y,B'=B++X/\V'=(V.set j ⟨v.live,v.T,v.k,v.ver,es'⟩)++Y:=by
  refine pC hf hb fun F n hF am=>?_
  rw [hn,start_eq _ _ (by grind)]
  have hE:Em ⟨[],[j],[v.ver]⟩ ⟨fe.n,dB 0 (.own 0 0::cs.map .cv),[],[⟨true,T,k,0,es⟩]⟩ ⟨mkT fe.n (dB 0 (.own j v.ver::cs.map .cv)),B,V⟩:=by
   refine ⟨?_,kA _ _ ?_,⟨rfl,rfl,rfl,by simp,?_,?_,by simp,?_⟩⟩
   ·simp [lV,AV.cz,Emb.fv,Emb.fo,Function.comp_def]
   ·simp [AV.inn,AV.inns_eq]
   ·intro i x hi _
    have h1:i<1:=(List.getElem?_eq_some_iff.1 hi).1;obtain rfl:i=0:=by omega
    simp at hi;subst hi;show V[j]? = _;cases v;simp_all [Vec.cz,Emb.fo]
   ·intro i hi
    simp at hi;obtain rfl:i=0:=by omega
    exact hj
   simp
  have fin:∀ (m':Emb) (s':SS) (st':St),rtM T k s'=some (.ret [.row k es'])->Em m' s' st'->Adv ⟨[],[],[],[0]⟩ ⟨[],[j],[v.ver]⟩ ⟨fe.n,dB 0 (.own 0 0::cs.map .cv),[],[⟨true,T,k,0,es⟩]⟩ ⟨mkT fe.n (dB 0 (.own j v.ver::cs.map .cv)),B,V⟩ m' s' st' ->
    ∃ r,nM P st' fn.results.toList=some r/\r=.tup []/\∃ X Y,st'.B=B++X/\st'.V=(V.set j ⟨v.live,v.T,v.k,v.ver,es'⟩)++Y:=by
   intro m' s' st' h1 iq ha;refine ⟨.tup [],by simp_all,rfl,st'.B.drop B.length,st'.V.drop V.length,?_,?_⟩
   ·exact zG ha.stp.bl fun i hi=>ha.stp.bf i hi (by simp)
   ·unfold rtM at h1
    split at h1
    case h_2=>cases h1
    rename_i x hx;split at h1
    case isFalse=>cases h1
    rename_i hc;simp at hc;obtain ⟨c1,c2,c3,c4⟩:=hc;have h2:=iq.m.v 0 x hx (.inl c1);have h3:m'.fv 0=j:=ha.stp.up.v 0 (by simp)
    have h4:m'.fo 0=v.ver:=ha.o 0 (by simp) (by simp)
    have h5:x.cz m' 0=⟨v.live,v.T,v.k,v.ver,es'⟩:=by
     grind [Vec.cz]
    have:=zG (L:=V.set j ⟨v.live,v.T,v.k,v.ver,es'⟩) (L':=st'.V) (by simpa using ha.stp.vl) fun i hi=>by
     rw [List.getElem?_set];simp at hi;split
     ·grind
     ·exact ha.stp.vf i hi (by grind)
    grind
  exact iB hM hF (fun il=>rY (cm:=false) (by simp) hM (Yls.none ow) dp hF il) (aDM T k) c fe.ht _ [] _ _ _ _ _ _ hE ay
   (fun m' s' st' h1 h2 h3=>⟨.inl rfl,fin m' s' st' h1 h2 h3⟩) (fun id h vs m' s' st' h0=>by simp) (fun m' s' st' h1 h2 h3=>⟨.inr rfl,fin m' s' st' h1 h2 h3⟩)
 intro F n hF am n0 w0 e w vs hm dk hs;refine CallsCo.mono (key F n hF am n0 w0 e w vs hm dk hs) ?_;rintro en w' ⟨e',B',V',r,u,rfl,⟨rfl,X,Y,rfl,rfl⟩,h1,h2,h3,h4⟩
 have gen:∀ (g:Vec->Nat),g ⟨v.live,v.T,v.k,v.ver,es'⟩=g v->(V.set j ⟨v.live,v.T,v.k,v.ver,es'⟩).map g=V.map g:=by
  intro g hg;refine List.ext_getElem? fun i=>?_
  grind
 have ir:vers (V.set j ⟨v.live,v.T,v.k,v.ver,es'⟩)=vers V:=gen _ rfl;have Ep:kss (V.set j ⟨v.live,v.T,v.k,v.ver,es'⟩)=kss V:=gen _ rfl;refine ⟨e',B,_,.tup [],u,rfl,⟨by simp,rfl,rfl⟩,Mem.cut h1 ?_,?_,?_,by simp⟩
 ·intro b hb
  obtain ⟨i,hi⟩:=List.getElem?_of_mem hb;simp only [Bool.false_eq_true,if_false];rw [ir];exact hm.boxsc i b hi
 ·simp only [Bool.false_eq_true,if_false]
  rw [ir,Ep];exact ⟨h2.ro,h2.ρ,h2.hdr,Nat.le_refl _,Nat.le_refl _,fun _ _=>Nat.le_refl _,fun _ _=>rfl,h2.sz,h2.snew,h2.be,h2.he,h2.ye⟩
 grind [AV.holds,AV.all]
end
end Go.Sx
namespace Go
open Go.Conc
def EvIn (X:Nat->Prop) (e:Event):Prop:=match e.loc with
 | .cell a=>X a.block
 | .obj r=>X r
 | .mark m=>m=.noRoom
 | _=>False
theorem EvIn.mono {X Y:Nat->Prop} {e:Event} (h:EvIn X e) (N0:∀ b,X b->Y b):EvIn Y e:=by
 unfold EvIn at *;grind
variable {P:Program} {w:World} {m:Bool}
theorem VZ {at_:Addr} {u:TypeId} {k:Addr} {r:Array Value×TypeId×(Nat×Nat)×Nat×Value×List (Nat×Nat×List UInt8)} (h:w.seen P at_ u k m=.ok r):at_.block<w.heap.size:=by
 rcases Nat.lt_or_ge at_.block w.heap.size with h1 | h1
 ·exact h1
 ·have h2:w.heap[at_.block]? = none:=Array.getElem?_eq_none h1
  simp [World.seen] at h
  repeat' split at h
  all_goals first | cases h | (simp_all;done)
variable {l:List Addr}
theorem QE {a:Addr} {v:Value} (h:w.farLoad P a m=.ok (v,l)):∀ x∈l,x.block<w.heap.size:=by
 unfold World.farLoad at h;split at h
 ·split at h
  ·rename_i r hr
   simp [World.viewLoad,bind,Except.bind] at hr;split at hr
   ·cases hr
   ·rename_i q hq
    have:=VZ hq;split at hr
    ·obtain ⟨_,rfl⟩:=hr
     grind
    ·cases hr
  grind
 grind
theorem MX {w':World} {a:Addr} {u:Value} (h:w.farStore P a u m=.ok (w',l)):w'.heap.size=w.heap.size/\∀ x∈l,x.block<w.heap.size:=by
 unfold World.farStore at h;split at h
 ·split at h
  ·rename_i r hr
   cases h;simp only [World.viewStore,bind,Except.bind] at hr;split at hr
   ·cases hr
   ·split at hr
    ·cases hr
    ·rename_i q hq
     have:=VZ hq;split at hr
     ·split at hr
      ·cases hr
      ·split at hr
       ·cases hr
       ·obtain ⟨rfl,rfl⟩:=hr
        grind
     ·cases hr
  grind
 grind
theorem CK {α:Type} (s:Sem α):∀ {w w':World} {a:α} {acc:Array Event},s.calm P->s.run P w=.ok a w' ->
  w.heap.size<=w'.heap.size/\∀ e∈(s.runT P w acc).2,e∈acc\/EvIn (fun b=>b<w'.heap.size) e:=by
 induction s with
 | pure a =>
  simp_all
 | halt h=>simp
 | load m a k ih =>
  intro w w' b acc h hr;simp only [Sem.run,Sem.runT] at hr ⊢;split at hr
  ·rename_i v hv
   obtain ⟨h1,h2⟩:=ih v (acc:=acc.push ⟨.cell a,false,m == .atomic⟩) (h v) hr;refine ⟨h1,fun e he=>?_⟩
   rcases h2 e he with h3 | h3
   ·rcases Array.mem_push.1 h3 with h3 | rfl
    ·grind
    ·refine .inr ?_
     have:a.block<w.heap.size:=by unfold World.cell? at hv;grind
     exact Nat.lt_of_lt_of_le this h1
   grind
  ·split at hr
   ·rename_i v l hf
    have hl:=QE hf;obtain ⟨h1,h2⟩:=ih v (acc:=acc++l.toArray.map (⟨.cell ·,false,m == .atomic⟩)) (h v) hr
    refine ⟨h1,fun e he=>?_⟩
    rcases h2 e he with h3 | h3
    ·rcases Array.mem_append.1 h3 with h3 | h3
     ·grind
     ·simp at h3
      obtain ⟨x,hx,rfl⟩:=h3;exact .inr (Nat.lt_of_lt_of_le (hl x hx) h1)
    grind
   grind
 | store m a v k ih =>
  intro w w' b acc h hr;cases v <;> simp only [Sem.run,Sem.runT,reduceCtorEq] at hr ⊢ <;>
  ·split at hr
   ·rename_i u hv
    split at hr
    ·cases hr
    ·rename_i hf
     rw [if_neg hf];obtain ⟨h1,h2⟩:=ih (acc:=acc.push ⟨.cell a,true,m == .atomic⟩) h hr;simp only [World.size_setCell] at h1;refine ⟨h1,fun e he=>?_⟩
     rcases h2 e he with h3 | h3
     ·rcases Array.mem_push.1 h3 with h3 | rfl
      ·exact .inl h3
      ·refine .inr ?_
       have:a.block<w.heap.size:=by unfold World.cell? at hv;grind
       exact Nat.lt_of_lt_of_le this h1
     ·exact .inr h3
   ·split at hr
    ·rename_i w2 l hf
     have hl:=MX hf;obtain ⟨h1,h2⟩:=ih (acc:=acc++l.toArray.map (⟨.cell ·,true,m == .atomic⟩)) h hr
     rw [hl.1] at h1;refine ⟨h1,fun e he=>?_⟩
     rcases h2 e he with h3 | h3
     ·rcases Array.mem_append.1 h3 with h3 | h3
      ·exact .inl h3
      ·simp only [List.map_toArray,List.mem_toArray,List.mem_map] at h3
       obtain ⟨x,hx,rfl⟩:=h3;exact .inr (Nat.lt_of_lt_of_le (hl.2 x hx) h1)
     ·exact .inr h3
    ·cases hr
 | new o k ih =>
  intro w w' a acc h hr;simp only [Sem.run,Sem.runT] at hr ⊢;rcases h with h | h
  ·obtain ⟨h1,h2⟩:=ih _ (acc:=acc) (h.2 _) hr
   grind
  ·exact absurd hr (Sem.dead_run _ (h _))
 | shape r k ih=>intro w w' a acc h hr;exact absurd hr (Sem.dead_run (.shape r k) h)
 | freeze a n k ih=>intro w w' b acc h hr;exact absurd hr (Sem.dead_run (.freeze a n k) h)
 | frozen a k ih=>intro w w' b acc h hr;exact absurd hr (Sem.dead_run (.frozen a k) h)
 | getObj r k ih =>
  intro w w' a acc h hr;simp only [Sem.run,Sem.runT] at hr ⊢;split at hr
  ·cases hr
  ·rename_i o bY ho
   obtain ⟨h1,h2⟩:=ih o (acc:=acc.push ⟨.obj r,false,o.isChan⟩) (h o) hr;refine ⟨h1,fun e he=>?_⟩
   rcases h2 e he with h3 | h3
   ·rcases Array.mem_push.1 h3 with h3 | rfl
    ·grind
    ·refine .inr ?_
     have:r<w.heap.size:=(Array.getElem?_eq_some_iff.1 ho).1;exact Nat.lt_of_lt_of_le this h1
   grind
  grind
 | setObj r o k ih =>
  intro w w' a acc h hr;simp [Sem.run,Sem.runT] at hr ⊢;split at hr
  ·cases hr
  ·rename_i o' bY ho
   rcases h with h | h
   ·obtain ⟨h1,h2⟩:=ih (acc:=acc.push ⟨.obj r,true,o.isChan⟩) h.2 hr
    simp at h1;refine ⟨h1,fun e he=>?_⟩
    rcases h2 e he with h3 | h3
    ·rcases Array.mem_push.1 h3 with h3 | rfl
     ·grind
     ·refine .inr ?_
      have:r<w.heap.size:=(Array.getElem?_eq_some_iff.1 ho).1;exact Nat.lt_of_lt_of_le this h1
    grind
   ·exact absurd hr (Sem.dead_run _ h)
  grind
 | choose q k ih =>
  intro w w' a acc h hr;simp [Sem.run,Sem.runT] at hr ⊢;split at hr
  ·rename_i hq
   rw [if_pos hq];exact ih _ (h _) hr
  ·rename_i hq
   rw [if_neg hq];exact ih _ (h _) hr
 | sys c k ih=>intro w w' a acc h hr;exact absurd hr (Sem.dead_run (.sys c k) h)
 | program k ih=>intro w w' a acc h hr;exact ih _ h hr
 | mark m k ih =>
  intro w w' a acc h hr;rcases h with h | h
  ·obtain ⟨h1,h2⟩:=ih (acc:=acc.push ⟨.mark m,false,true⟩) h.2 hr
   refine ⟨h1,fun e he=>?_⟩
   rcases h2 e he with h3 | h3
   ·rcases Array.mem_push.1 h3 with h3 | rfl
    ·grind
    ·exact .inr h.1
   grind
  ·exact absurd hr (Sem.dead_run _ h)
end Go
namespace Go
open Go.Conc
open Go.ConcN (sumTo upd sumTo_upd upd_ne upd_same)
abbrev pW:Loc->Prop:=fun _=>False
def Beside (P:Program) (gs:Array Goroutine) (t:Trace) (w:World):Prop:=∃ q,Leavers P t gs q/\Past pW w.heap.size t
theorem pX {g:Nat} {fn:FuncId} {pos:String} {es:Array Event} {op:MemOp} (h:op∈MemOp.ofEvents g fn pos es):op.g=g:=by
 obtain ⟨e,_,rfl⟩:=Conc.mem_ofEvents h;rfl
theorem TJ {B:Nat} {e:Event} (h:EvIn (fun b=>b<B) e):EvL pW B e:=by
 obtain ⟨loc,wr,sy⟩:=e;refine ⟨fun x _ hs=>hs.elim,?_,?_,?_⟩
 ·grind [EvIn]
 ·grind [EvIn]
 ·cases loc with
  | cell a=>exact h
  | obj r=>cases wr <;> cases sy <;> exact h
  | mark m=>subst h;trivial
  | _=>exact h.elim
theorem vY (w:World) (d:Nat):Rely w (w.at d):=⟨rfl,rfl,rfl,Nat.le_refl _,fun _ _=>rfl⟩
theorem FT {P:Program} {N M:Nat} {m m':Machine} {r:Stepped×Trace} {t t':Trace} (h:runNT P N m t=(.next m',t')) (h':runNT P M m' t'=r):runNT P (N+M) m t=r:=by
 grind [runNT_add]
section
variable {P:Program}
variable {gs:Array Goroutine} {t:Trace} {q:Nat->Nat} {a:Goroutine}
theorem awakes (h0:gs[0]? = some a) (hr:a.status=.running) (hL:Leavers P t gs q):∀ g∈gs,awake g:=by
 intro g hg;obtain ⟨i,hi,rfl⟩:=Array.mem_iff_getElem.1 hg;rcases Nat.eq_zero_or_pos i with rfl | dy
 ·have:gs[0]=a:=by grind
  rw [this];exact awake_of (.inl hr)
 ·exact awake_of ((hL.old i _ dy (Array.getElem?_eq_getElem hi)).status.elim .inl fun x=>.inr (.inr x))
variable {g:Goroutine}
theorem CL {a':Goroutine} {w':World} {fn:FuncId} {pos:String} {es:Array Event} (an:0<gs.size) (hL:Leavers P t gs q) :
  Leavers P (t++MemOp.ofEvents 0 fn pos es) ((gs.map (woken P g a' w')).setIfInBounds 0 a') q:=
 ⟨fun j x hj hx=>by
  have bY:0≠j:=by omega
  rw [Array.getElem?_setIfInBounds_ne bY,Array.getElem?_map] at hx;obtain ⟨y,hy,rfl⟩:=Option.map_eq_some_iff.1 hx;have hq:=hL.old j y hj hy;rw [woken_quitsD hq,Deaf_other t (by omega) _ (fun op aa=>pX aa)]
  exact hq,fun j hj=>by
  rw [Deaf_other t (g':=0) (by grind) _ (fun op aa=>pX aa)]
  exact hL.above j (by grind)⟩
variable {w:World}
theorem MY {sl:Option (Nat×Nat)} {i:Nat} {B:Nat} (h0:gs[0]? = some a) (d6:a.status=.running) (hL:Leavers P t gs q) (hP:Past pW B t)
  (dy:0<i) (hi:gs[i]? = some g) (hg:g.status=.running) :
  ∃ gs' t' q',runT P (crowd gs w sl) i=(.next (crowd gs' w sl),t')/\gs'[0]? = some a/\gs'.size=gs.size/\Leavers P (t++t') gs' q'/\Past pW B (t++t')/\sumTo gs'.size q'<sumTo gs.size q:=by
 have hq:=hL.old i g dy hi;have qr:(i == 0)=false:=by grind
 have an:i<gs.size:=(Array.getElem?_eq_some_iff.1 hi).1;cases tn:q i with
 | zero=>rw [tn] at hq;rw [hq.1] at hg;cases hg
 | succ k =>
  rw [tn] at hq;rcases hq with ⟨hf,_⟩ | ⟨_,g',es,hm,oy,nk⟩
  ·grind
  have dh:=runT_crowd_go (P:=P) (sl:=sl) (i:=i) hi (by rw [qr];exact oy w)
  have cn:((gs.map (woken P g g' w)).setIfInBounds i g').size=gs.size:=by simp
  have lq:sumTo gs.size (upd q i k)+(k+1)=sumTo gs.size q+k:=by
   have:=sumTo_upd q k id an;simp_all
  refine ⟨_,_,upd q i k,dh,?_,cn,⟨fun j x hj hx=>?_,fun j hj=>?_⟩,hP.mute (by omega) hm,by grind⟩
  ·grind [woken_run]
  ·by_cases i7:i=j
   ·grind [upd_same,Deaf_own]
   ·rw [Array.getElem?_setIfInBounds_ne i7,Array.getElem?_map] at hx
    obtain ⟨y,hy,rfl⟩:=Option.map_eq_some_iff.1 hx;have qt:=hL.old j y hj hy;rw [woken_quitsD qt,upd_ne q k (Ne.symm i7),Deaf_other t i7 _ (fun op aa=>pX aa)]
    omega
  ·rw [Deaf_other t (g':=i) (by omega) _ (fun op aa=>pX aa)]
   exact hL.above j (by omega)
variable (P) in
def GoM (S:Goroutine->World->Prop) (g:Goroutine) (w:World):Prop:=
 ∀ (gs:Array Goroutine) (w₁:World) (sl:Option (Nat×Nat)) (t:Trace),Rely w w₁->gs[0]? = some g->Beside P gs t w₁ ->
  ∃ (N:Nat) (gs':Array Goroutine) (g':Goroutine) (w':World) (sl':Option (Nat×Nat)) (t':Trace),runNT P N (crowd gs w₁ sl) t=(.next (crowd gs' w' sl'),t')/\gs'[0]? = some g'/\S g' w'/\Beside P gs' t' w'
variable {S:Goroutine->World->Prop}
theorem step0 (hg:g.status=.running)
  (h:∀ (gs:Array Goroutine) (w₁:World) (sl:Option (Nat×Nat)) (t:Trace) (q:Nat->Nat),Rely w w₁->gs[0]? = some g->Leavers P t gs q->Past pW w₁.heap.size t ->
   ∃ (N:Nat) (gs':Array Goroutine) (g':Goroutine) (w':World) (sl':Option (Nat×Nat)) (t':Trace),(match runT P (crowd gs w₁ sl) 0 with | (.next m,ops)=>runNT P N m (t++ops) | (e,ops)=>(e,t++ops))=(.next (crowd gs' w' sl'),t')/\gs'[0]? = some g'/\S g' w'/\Beside P gs' t' w') :
  GoM P S g w:=by
 intro gs w₁ sl t hw h0 ⟨q,hL,hP⟩;generalize hn:sumTo gs.size q=n
 induction n using Nat.strongRecOn generalizing gs w₁ sl t q with
 | _ n ih =>
  obtain ⟨i,g1,d,sl',hi,xd,ax⟩:=crowd_pick (P:=P) (w:=w₁) (sl:=sl) (awakes h0 hg hL) ⟨0,g,h0,hg⟩;rcases Nat.eq_zero_or_pos i with rfl | dy
  ·obtain ⟨N,gs',g',w',sl2,t',hr,h1,h2,h3⟩:=h gs (w₁.at d) sl' t q (Co.aIL hw (vY _ _)) h0 hL hP
   exact ⟨N+1,gs',g',w',sl2,t',by grind [runNT],h1,h2,h3⟩
  ·obtain ⟨gs2,ops,q2,ag,Kl,cn,Km,Kn,an⟩:=MY (w:=w₁.at d) (sl:=sl') h0 hg hL hP dy hi xd
   obtain ⟨N,gs',g',w',sl2,t',hr,h1,h2,h3⟩:=ih _ (by omega) gs2 (w₁.at d) sl' (t++ops) (Co.aIL hw (vY _ _)) Kl q2 Km Kn rfl
   exact ⟨N+1,gs',g',w',sl2,t',by grind [runNT],h1,h2,h3⟩
theorem GoM.rely {w₁:World} (h:GoM P S g w) (hw:Rely w w₁):GoM P S g w₁:=
 fun gs w₂ sl t h2 h0 hb=>h gs w₂ sl t (Co.aIL hw h2) h0 hb
theorem GoM.stop {S:Goroutine->World->Prop} {g:Goroutine} {w:World} (h:∀ w₁,Rely w w₁->S g w₁):GoM P S g w:=
 fun gs w₁ sl t hw h0 hb=>⟨0,gs,g,w₁,sl,t,rfl,h0,h w₁ hw,hb⟩
theorem GoM.sem {α:Type} (s:Sem α) (k:α->Option Goroutine) {S:Goroutine->World->Prop} {fr:Frame} {cs:List Frame} {w:World} (hc:s.calm P)
  (hs:∀ w₁ a w' g',k a=some g'->s.run P w₁=.ok a w'->∃ es,stepG P true (Conc.G fr cs) w₁=.go g' w' es/\∀ e∈es,e∈s.events P w₁ #[])
  (h:∀ w₁,Rely w w₁->∃ a w' g',s.run P w₁=.ok a w'/\k a=some g'/\GoM P S g' w'):GoM P S (Conc.G fr cs) w:=by
 refine step0 rfl fun gs w₁ sl t q hw h0 hL hP=>?_
 obtain ⟨a,w',g',ag,hk,vj⟩:=h w₁ hw;obtain ⟨es,aw,b8⟩:=hs w₁ a w' g' hk ag;have dh:=runT_crowd_go (P:=P) (sl:=sl) (i:=0) h0 (show stepG P (0 == 0) (Conc.G fr cs) w₁=_ from aw);obtain ⟨cn,ay⟩:=CK s (acc:=#[]) hc ag;have Ko:∀ e∈es,EvL pW w'.heap.size e:=fun e he=>TJ ((ay e (b8 e he)).resolve_left (by simp))
 have an:0<gs.size:=(Array.getElem?_eq_some_iff.1 h0).1;obtain ⟨N,gs',g2,w2,sl2,t2,hr,h1,h2,h3⟩:=vj ((gs.map (woken P (Conc.G fr cs) g' w')).setIfInBounds 0 g') w' sl (t++MemOp.ofEvents 0 (Conc.G fr cs).frame.fn (Conc.G fr cs).frame.place es) (Co.aJX _) (by grind) ⟨q,CL an hL,(hP.mono cn).own Ko⟩
 exact ⟨N,gs',g2,w2,sl2,t2,by grind,h1,h2,h3⟩
end
@[reducible] def gS (P:Program):Co P:=⟨true,GoM P,GoM.stop,GoM.rely,GoM.sem,fun _ _ _ _ _=>False,fun h _=>h,fun h _=>h,fun h _ _=>h.elim⟩
theorem ZB {P:Program} {Post:Value->World->Prop} {fr:Frame} {w:World}
  (h:GoM P (fun g w=>g.status=.running/\∀ w₁,Rely w w₁->∃ v es,stepG P true g w₁=.ended (.done v) w₁ es/\(∀ e∈es,EvL pW w₁.heap.size e)/\Post v w₁) (G fr []) w) :
  ∃ N last o w' t',runNT P (N+1) (solo (G fr []) w) #[]=(.ended o w',t')/\runN P N (solo (G fr []) w)=.next last/\step P last=.ended o w'/\Conc.Good P Post last o w' t':=by
 obtain ⟨N,gs,g,w',sl,t,hr,h0,⟨hg,hS⟩,q,hL,hP⟩:=h #[G fr []] w none #[] (Co.aJX _) rfl ⟨_,leavers_one P _,past_nil.mono (Nat.zero_le _)⟩
 obtain ⟨M,last,o,w2,t2,h1,h2,h3,h4⟩:=beside_ends (P:=P) (Shun:=pW) (B:=w'.heap.size) (D:=fun _ _ _=>False) (Post:=Post) (fun _ _ _ h=>h.elim) (sl:=sl) (n:=0) h0 hL hP (fun w₁ hw=>by
  obtain ⟨d,rfl⟩:=hw;obtain ⟨v,es,a1,a2,a3⟩:=hS (w'.at d) (vY _ _);exact ⟨hg,v,es,a1,a2,a3⟩)
 refine ⟨N+M,last,o,w2,t2,?_,?_,h3,h4⟩
 ·rw [Nat.add_assoc]
  exact FT hr h1
 ·have ba:runN P N (solo (G fr []) w)=.next (crowd gs w' sl):=by
   have:=congrArg Prod.fst hr;rw [runNT_fst] at this;exact this
  grind [runN_add]
end Go
namespace Go.Sx
open Go Go.RowKit
variable [G:Ghost]
section
variable {F:Fence} {n:Nat} {P:Program} [C:Co P] {ops:List Oper} {N:Nat} {l:List (Nat×AV)} {B:List Box} {V:List Vec}
variable {d:Nat}
theorem evs (h:d<N):St.ev ⟨mkT N l,B,V⟩ (.tmp d)=lk l d:=by simp_all
variable {A:AV} {B':List Box} {V':List Vec}
theorem MZ:St.put ⟨mkT N l,B,V⟩ (some d) A B' V'=⟨mkT N ((d,A)::l),B',V'⟩:=by simp
theorem aFL:St.put ⟨mkT N l,B,V⟩ none A B' V'=⟨mkT N l,B',V'⟩:=rfl
variable {o:Oper} {rest:List Oper} {Q:St->Prop}
theorem wop (hF:Free F) (hg:o.guard=none) (hd:o.dst=some d) (h:bI P ⟨mkT N l,B,V⟩ o.op=some (A,B',V')) (hk:cE F n P ops.toArray rest ⟨mkT N ((d,A)::l),B',V'⟩ Q) :
  cE F n P ops.toArray (o::rest) ⟨mkT N l,B,V⟩ Q:=
 dM (Wants.none hg) (MG hF h (AV.le_refl _) (fun _ _ h=>h) (by grind [MZ]))
theorem aDN (hF:Free F) (hg:o.guard=none) (hd:o.dst=none) (h:bI P ⟨mkT N l,B,V⟩ o.op=some (A,B',V')) (hk:cE F n P ops.toArray rest ⟨mkT N l,B',V'⟩ Q) :
  cE F n P ops.toArray (o::rest) ⟨mkT N l,B,V⟩ Q:=
 dM (Wants.none hg) (MG hF h (AV.le_refl _) (fun _ _ h=>h) (by grind [aFL]))
theorem aGY (hF:Free F) (hg:o.guard=none) (hd:o.dst=none) (fc:∀ c,o.op≠.defer c) (hc:∀ a:Act,(execOp a.eval o).calm P) (ax:Step P o ⟨mkT N l,B,V⟩ A B' V') (hk:cE F n P ops.toArray rest ⟨mkT N l,B',V'⟩ Q) :
  cE F n P ops.toArray (o::rest) ⟨mkT N l,B,V⟩ Q:=
 dM (Wants.none hg) (qY hF fc hc ax (by simp_all))
theorem aBw (hF:Free F) (hg:o.guard=none) (hd:o.dst=some d) (fc:∀ c,o.op≠.defer c) (hc:∀ a:Act,(execOp a.eval o).calm P) (ax:Step P o ⟨mkT N l,B,V⟩ A B' V')
  (hk:cE F n P ops.toArray rest ⟨mkT N ((d,A)::l),B',V'⟩ Q):cE F n P ops.toArray (o::rest) ⟨mkT N l,B,V⟩ Q:=
 dM (Wants.none hg) (qY hF fc hc ax (by simp_all))
variable {args:Array Operand} {ts:Array TypeId} {f:FuncId}
theorem aBx (hF:Free F) {as:List AV} {r:AV} (hg:o.guard=none) (hd:o.dst=some d) (aa:o.op=.call { callee:=.value (.func f),args,argTypes:=ts }) (da:dS P f=true)
  (hs:SpecR P f as r) (ha:args.toList.map (St.ev ⟨mkT N l,B,V⟩)=as) (hc:AV.closeds as=true) (hr:AV.closed r=true) (hk:cE F n P ops.toArray rest ⟨mkT N ((d,r)::l),B,V⟩ Q):cE F n P ops.toArray (o::rest) ⟨mkT N l,B,V⟩ Q:=by
 refine dM (Wants.none hg) (qV hF (f:=f) (caps:=[]) aa (by rfl) (enters da) ?_)
 rw [List.append_nil,ha];refine CallP.mono (SpecR.frame hs hc hr B V) ?_;simp_all
variable {T:TypeId} {x:Operand} {i off:Nat} {b:Box} {ti:TI} {st:St}
theorem vZ (hx:st.ev x=.ptr i off) (ai:aZ P T=some ti) (ha:ti.kind.agg=false) (hb:st.B[i]? = some b) (hl:b.live=true) (hA:b.cs[off]? = some A):bI P st (.load T x)=some (A,st.B,st.V):=by
 simp_all
variable {y:Operand} {k by_ sz:Nat} {z:List Value} {q:IntKind}
theorem NA {len e:Nat} {j:Int} {r:Nat} (hx:st.ev x=.slb len i off) (hy:st.ev y=.cv (.val (.int q j))) (ai:aZ P T=some ⟨sz,z,.slc e k by_⟩) (hk:k≠0) (h0:0<=j) (h1:j<(len:Int)) (hr:off+j.toNat*k=r):bI P st (.indexAddr T x y)=some (.ptr i r,st.B,st.V):=by
 grind [bI,dW,AV.slb]
variable {j:Nat} {v:Vec}
theorem TL {u e:Nat} {i:Int} (hx:st.ev x=.own j u) (hy:st.ev y=.cv (.val (.int q i))) (ai:aZ P T=some ⟨sz,z,.slc e k by_⟩) (hk:k≠0) (hv:st.V[j]? = some v) (hs:v.sl=true) (hu:v.ver=u) (sj:v.k=k)
  (h0:0<=i) (h1:i<(v.es.length:Int)):bI P st (.indexAddr T x y)=some (.opt j u i.toNat 0,st.B,st.V):=by
 simp_all
theorem aBy {u el o:Nat} {r:List CV} {c:CV} (hx:st.ev x=.opt j u el o) (ai:aZ P T=some ti) (ha:ti.kind.agg=false) (hv:st.V[j]? = some v) (hs:v.sl=true) (hu:v.ver=u) (hr:v.es[el]? = some r) (hc:r[o]? = some c) :
  bI P st (.load T x)=some (.cv c,st.B,st.V):=by
 simp_all
theorem aBz {A':AV} (hx:st.ev x=.ptr i off) (hy:st.ev y=A) (hc:A.cells=some [A']) (ai:aZ P T=some ti) (cn:ti.size=1) (hb:st.B[i]? = some b) (hl:b.live=true) (mb:off<b.cs.length) (ho:AV.one A'=true) :
  bI P st (.store T x y)=some (.any,st.B.set i { b with cs:=splice b.cs off [A'] },st.V):=by
 have h1:off+1<=b.cs.length:=mb;simp_all
theorem ZC {new:List AV} (hx:st.ev x=.ptr i off) (hy:st.ev y=A) (hc:A.cells=some new) (ai:aZ P T=some ti) (cn:new.length=ti.size) (hb:st.B[i]? = some b) (hl:b.live=true) (mb:off+new.length<=b.cs.length) (ho:new.all AV.one=true) :
  bI P st (.store T x y)=some (.any,st.B.set i { b with cs:=splice b.cs off new },st.V):=by
 simp_all
theorem aFM {e:Nat} {j:Int} {es:List (List CV)} {r:List CV} (hx:st.ev x=.cv (.row k es)) (hy:st.ev y=.cv (.val (.int q j))) (ai:aZ P T=some ⟨sz,z,.slc e k by_⟩) (hk:k≠0) (h0:0<=j) (h1:j<(es.length:Int)) (hr:es.getD j.toNat []=r) :
  bI P st (.indexAddr T x y)=some (.cv (.ref r),st.B,st.V):=by
 simp_all
theorem TM {q1 q2:IntKind} {l:Nat} {s e':Nat} {te:TI} {u:Value} (aa:o.op=.makeSlice T x y) (hx:st.ev x=.cv (.val (.int q1 l))) (hy:st.ev y=.cv (.val (.int q2 l)))
  (ai:aZ P T=some ⟨s,z,.slc e' 1 by_⟩) (d7:aZ P e'=some te) (hz:te.zero=[u]) (f9:u.oneCell'=true) (h2:l*by_<=140737488355328) (h3:l<=maxLen) :
  Step P o st (.slb l st.B.length 0) (st.B++[⟨true,e',List.replicate l (.cv (.val u))⟩]) st.V:=by
 intro n0 w0 e a w hr;have cr:=(hr.ev x).1;rw [hx] at cr;have ju:=(hr.ev y).1;rw [hy] at ju;obtain ⟨hT,Bc,xc⟩:=cZ ai;obtain ⟨i,d,i1,i2,i3,i4,i5⟩:=fA d7
 obtain ⟨zv,Be,xg⟩:∃ zv,i.zero=some zv/\zv.cells.toList=te.zero:=by
  grind
 have cn:i.size=1:=by grind [Program.cellsOf]
 have jf:i.bytes=by_:=by grind [Program.bytesOf]
 have ag:=run_make (P:=P) w T e' i zv hT i1 Be q1 q2 l l (by omega) (by omega) (by
  grind) (Int.ofNat_le.2 (show l<=9223372036854775807 from Nat.le_trans h3 (by decide)))
 have bc:zv.cells.size=1:=by
  have:zv.cells.toList.length=1:=by grind
  omega
 have ce:(madeCells zv.cells (l*i.size)).toList=iR te.zero l:=by
  rw [cn,<- xg];rw [show l*1=l*zv.cells.size by rw [bc]]
  exact rS zv.cells (by omega) l
 have ct:AV.all e w (kss st.V) (List.replicate l (AV.cv (.val u))) (madeCells zv.cells (l*i.size)).toList:=by
  rw [ce,hz];clear ag ce h2 h3 hx hy cr ju
  induction l with
  | zero=>simp [AV.all]
  | succ l ih =>
   exact ⟨⟨rfl,f9⟩,ih⟩
 obtain ⟨e1,m1,m2,m3,m4,m5⟩:=hr.mem.newBox e' (List.replicate l (AV.cv (.val u))) (madeCells zv.cells (l*i.size)) (by grind [AV.scos_iff,AV.sco]) ct
 refine ⟨.value (.slice (some ⟨w.heap.size,0,none⟩) l l),.slice (some ⟨w.heap.size,0,none⟩) l l,_,e1,?_,.inl rfl,m1,m2,?_,?_⟩
 ·simp [execOp,aa,cr.1,ju.1,ag]
 ·rw [AV.slb_holds,m3]
 ·simp [AV.slb]
theorem ZD {l e:Nat} (aa:o.op=.call { callee:=.builtin .len,args:=#[x],argTypes:=#[T] }) (hx:st.ev x=.slb l i off) (ai:aZ P T=some ⟨sz,z,.slc e k by_⟩) :
  Step P o st (.cv (.val (.int .i64 l))) st.B st.V:=by
 intro n0 w0 e1 a w hr;have cr:=(hr.ev x).1;rw [hx,AV.slb_holds] at cr;obtain ⟨hT,_,_⟩:=cZ ai;refine ⟨.value (.int .i64 l),.int .i64 l,w,e1,?_,.inl rfl,hr.mem,Ext.refl _ _ _ _ _,by simp [AV.holds,CV.holds],by simp⟩
 simp_all [execOp,resolve,invoke,builtin,Builtin.len_,run_underlying,goInt]
variable {vb:Nat->Prop} {acc:List FP}
theorem dop (hF:Free F) (rb rv:List Nat) (hg:o.guard=none) (hd:o.dst=some d) (hk:nN o.op<=1) (ny:RY o.op=false) (jk:∀ i∈rb,i<B.length)
  (hB:∀ T x i off,o.op=.load T x->St.ev ⟨mkT N l,B,V⟩ x=.ptr i off->i∈rb) (hV:rdV o.op=true->∀ x∈o.op.operands,∀ i,fQ (St.ev ⟨mkT N l,B,V⟩ x)=some i->i∈rv) (h:bI P ⟨mkT N l,B,V⟩ o.op=some (A,B,V))
  (kc:oY F n P ops vb rest (acc++[⟨rb,none,none,none,rv,[],false⟩]) ⟨mkT N ((d,A)::l),B,V⟩ Q):oY F n P ops vb (o::rest) acc ⟨mkT N l,B,V⟩ Q:=by
 refine .inl ⟨_,A,Eff.none',(aEW hF rb rv (Wants.none hg) hk ny jk hB hV h).1,?_⟩
 have:stF o ⟨mkT N l,B,V⟩ A Eff.none'=⟨mkT N ((d,A)::l),B,V⟩:=by
  simp only [stF,hd,Eff.none_B];exact MZ
 grind
def aGZ (st:St) (rb:List Nat) (op:Op):Bool:=match op with
 | .load _ x=>match st.ev x with
  | .ptr i _=>rb.contains i
  | _=>true
 | _=>true
theorem uL (hF:Free F) (rb rv:List Nat) (hg:o.guard=none) (hd:o.dst=some d) (hk:nN o.op<=1) (ny:RY o.op=false) (jk:rb.all (fun i=>decide (i<B.length))=true)
  (hB:aGZ ⟨mkT N l,B,V⟩ rb o.op=true) (hV:o.op.operands.toList.map (fun x=>fQ (St.ev ⟨mkT N l,B,V⟩ x))=rv.map some++List.replicate (o.op.operands.size - rv.length) none) (h:bI P ⟨mkT N l,B,V⟩ o.op=some (A,B,V))
  (kc:oY F n P ops vb rest (acc++[⟨rb,none,none,none,rv,[],false⟩]) ⟨mkT N ((d,A)::l),B,V⟩ Q):oY F n P ops vb (o::rest) acc ⟨mkT N l,B,V⟩ Q:=by
 refine dop hF rb rv hg hd hk ny (fun i hi=>of_decide_eq_true (List.all_eq_true.1 jk i hi)) (fun T x i off h1 h2=>?_) (fun _ x hx i hi=>?_) h kc
 ·grind [aGZ]
 ·have h1:fQ (St.ev ⟨mkT N l,B,V⟩ x)∈o.op.operands.toList.map (fun x=>fQ (St.ev ⟨mkT N l,B,V⟩ x)):=List.mem_map.2 ⟨x,by grind,rfl⟩
  grind
theorem aG0 (hF:Free F) {k1 k2:IntKind} {l1 c:Int} {e':Nat} {te:TI} (hg:o.guard=none) (hd:o.dst=some d) (aa:o.op=.makeSlice T x y)
  (hx:St.ev ⟨mkT N l,B,V⟩ x=.cv (.val (.int k1 l1))) (hy:St.ev ⟨mkT N l,B,V⟩ y=.cv (.val (.int k2 c))) (ai:aZ P T=some ⟨sz,z,.slc e' k by_⟩) (cy:k≠0) (d7:aZ P e'=some te) (eu:te.zero.length=k) (f9:te.zero.all Value.oneCell'=true)
  (h0:0<=l1) (h1:l1<=c) (h2:c.toNat*by_<=140737488355328) (h3:c.toNat<=maxLen) (hv:V[j]? = some v) (aT:v.live=false) (sj:v.k=k) (hj:¬vb j)
  (kc:oY F n P ops vb rest (acc++[⟨[],none,none,some j,[],[],false⟩]) ⟨mkT N ((d,.own j (v.ver+1))::l),B,V.set j ⟨true,e',v.k,v.ver+1,List.replicate l1.toNat (te.zero.map .val)⟩⟩ Q):oY F n P ops vb (o::rest) acc ⟨mkT N l,B,V⟩ Q:=by
 refine .inl ⟨_,_,_,VM hF (Wants.none hg) aa hx hy ai cy d7 eu f9 h0 h1 h2 h3 hv aT sj hj,?_⟩;simp_all [stF,Eff.B,Eff.V]
theorem dcall (hF:Free F) {as:List AV} {r:AV} (hg:o.guard=none) (hd:o.dst=some d) (aa:o.op=.call { callee:=.value (.func f),args,argTypes:=ts }) (da:dS P f=true)
  (hs:SpecR P f as r) (ha:args.toList.map (St.ev ⟨mkT N l,B,V⟩)=as) (hc:AV.closeds as=true) (hr:AV.closed r=true)
  (kc:oY F n P ops vb rest (acc++[⟨[],none,none,none,[],[],false⟩]) ⟨mkT N ((d,r)::l),B,V⟩ Q):oY F n P ops vb (o::rest) acc ⟨mkT N l,B,V⟩ Q:=by
 refine .inl ⟨_,r,Eff.none',VL (caps:=[]) hF aa (Wants.none hg) (by rfl) da (by rw [List.append_nil,ha];exact AV.les_refl _) hc hs hr,?_⟩
 simp_all [stF,Eff.none_B,Eff.none_V]
theorem W.qq {c:Code} {Q Q':Exit->St->Prop} (h:W F n P c st Q) (hq:∀ ex st',Q ex st'->Q' ex st'):W F n P c st Q':=
 fun n0 w0 e a w Qr hr hk=>h n0 w0 e a w Qr hr fun x e' st' a' w' nk=>hk x e' st' a' w' (hq _ _ nk)
variable {l':List (Nat×AV)}
theorem Wk.mk' (h:∀ p∈l',lk l p.1=p.2\/p.2=.any) (hl:B'.length=B.length) (hB:∀ (i:Nat) (b:Box),B'[i]? = some b->B[i]? = some b\/(b.live=false/\b.cs=[])):Wk ⟨mkT N l,B,V⟩ ⟨mkT N l',B',V⟩:=by
 have key:∀ d,lk l' d=lk l d\/lk l' d=.any:=by
  intro d
  induction l' with
  | nil=>simp
  | cons p r ih =>
   rw [show p=(p.1,p.2) from rfl,vQ];grind
 have Er:∀ (k:List Nat),AV.les (k.map (lk l)) (k.map (lk l')):=by
  intro k
  induction k with
  | nil=>exact .nil
  | cons d k ih =>
   refine .cons ?_ ih;rcases key d with h1 | h1
   ·rw [h1];exact AV.le_refl _
   ·rw [h1];exact AV.le_any _
 refine ⟨Er _,hl,fun i b1 h1=>?_,rfl,fun nb vs hs=>?_,fun nb vs i b b1 h1 h2 hs=>?_⟩
 ·have hi:=(List.getElem?_eq_some_iff.1 h1).1
  obtain ⟨b,hb⟩:∃ b,B[i]? = some b:=⟨B[i],by simp⟩
  refine ⟨b,hb,fun ly=>?_⟩
  rcases hB i b1 h1 with h2 | h2
  ·rw [hb] at h2;cases h2
   exact ⟨ly,rfl,AV.les_refl _⟩
  grind
 ·grind [AV.scos_iff,mkT,AV.sco]
 grind [AV.scos]
theorem Wk.slots (h:∀ p∈l',lk l p.1=p.2\/p.2=.any):Wk ⟨mkT N l,B,V⟩ ⟨mkT N l',B,V⟩:=Wk.mk' h rfl fun _ _ h=>.inl h
theorem CallP.freezeL {args:List AV} {K:AV->List Box->List Vec->Prop} (h:CallPc P f args K) (ac:AV.scos 0 [] args) {y:AV} (hy:AV.closed y=true)
  (hL:∀ n0 w0 e w r B V S v,K r B V->Mem n0 w0 e B V w->(∀ b,e.S b->S b)->(∀ (i:Nat) (b:Box),B[i]? = some b->b.live=true->S (e.ρ i))->(∀ (i:Nat) (x:Vec) (g:Nat),V[i]? = some x->x.live=true->aY (e.hdr i x.ver)=some g->S g)->AV.holds e w (kss V) r v->AV.holds { e with S:=S } w [] y v) :
  SpecR P f args y:=by
 intro F n hF am n0 w0 e w vs hm hv hs;refine CallsCo.mono (h F n hF am w.heap.size w { e with base:=w.heap.size,H:=fun _=>none,y:=false } w vs ⟨rfl,rfl⟩ (Mem.nothing e w hm.ro) (AV.rebases _ _ _ hv) ac) ?_
 rintro en w' ⟨e1,B1,V0,r0,v,rfl,hk,h1,ar,hr,dj⟩
 let S':Nat->Prop:=fun b=>e.S b\/(w.heap.size<=b/\b<w'.heap.size)
 have hS:∀ b,e1.S b->S' b:=fun b hb=>(ar.snew b hb).elim .inl fun hl=>.inr ⟨hl,h1.ro b hb⟩
 have ba:=hL _ _ _ _ _ _ _ S' v hk h1 hS (fun i b hb hl=>.inr ⟨(h1.boxlo i b hb hl).1,h1.lt_box hb hl⟩) (fun i x g hx hl hg=>.inr (by obtain ⟨xs,a1,_⟩:=h1.vec i x hx hl;exact a1.lt g hg)) hr
 have h2:Mem w.heap.size w { e1 with S:=S' } [] [] w':=by
  refine ⟨by simp,by simp,by simp,by simp,by simp,by simp,by simp,by simp,?_,h1.below,h1.base,h1.bl,h1.hid.of rfl ⟨rfl,rfl⟩ (fun b _=>.inr (by rw [ar.he rfl])) (fun i x h=>by grind) (fun _ _ _=>rfl) (by simp) (by simp)⟩
  rintro b (hb | hb)
  ·exact h1.ro b (ar.ro.sub b hb)
  omega
 obtain ⟨e',hρ,G0,nm,px,dl,hx⟩:=hm.beside h2 ar.ye S' (fun b hb=>.inl hb) (fun b hb=>hb.elim .inl fun hl=>.inr ⟨hl.1,hl.2,.inr hl⟩) (fun _ _ _ _ _ h=>h)
 refine ⟨e',[],[],y,v,rfl,⟨rfl,rfl,rfl⟩,dl,hx,?_,AV.sco_closed _ _ _ hy⟩;exact AV.closed_holds (e:={ e1 with S:=S' }) (fun b hb=>by grind) _ v hy ba
theorem aE5 {w:World} {S:Nat->Prop} {b:Nat}:∀ {cs:List CV} {o:Nat},CV.cells w S cs b o->CV.rows w S 1 (cs.map fun c=>[c]) b o
 | [],_,_=>by simp [CV.rows]
 | c::cs,o,h=>by
  obtain ⟨h1,h2⟩:=h;exact ⟨rfl,⟨h1,by simp [CV.cells]⟩,aE5 h2⟩
end
structure InvI (es:List (List CV)) (H:Nat->Option (Obj×Bool)) (e:Env) (w:World) (ds:List Deferred):Prop where
 y:e.y=false
 hard:HardH e.H
 hc:∀ (b:Nat) (o:Obj) (f:Bool),H b=some (o,f)->e.S b\/e.H b=some (o,true)
 hs:∀ (b:Nat) (o:Obj),e.S b->H b≠some (o,true)
 hid:iG H w
 j:G.J es H
 gw:GW w
 lo:G.lo<=w.heap.size
 mks:Mk (fun D=>H D=none) e w ds
section
variable {F:Fence} {n:Nat} {P:Program} [C:Co P]
variable {es:List (List CV)} {H:Nat->Option (Obj×Bool)} {st:St} {w':World} {a:Act} {ds:List Deferred}
theorem InvI.step {n0:Nat} {w0:World} {e e':Env} {st':St} {w:World} {a':Act} {ds':List Deferred} (h:InvI es H e w ds) (hr:Rel n0 w0 e st a w) (ba:Rel n0 w0 e' st' a' w') (hx:cL e st w e' st'.B st'.V w') (ia:Mk (fun D=>H D=none) e' w' ds'):InvI es H e' w' ds':=by
 have hH:=hx.he h.y;have hb:=hr.mem.below;have cd:=ba.mem.below;refine ⟨hx.ye.trans h.y,by rw [hH];exact h.hard,fun b o f rk=>?_,fun b o hs rk=>?_,fun b o f rk=>?_,h.j,⟨(cd.os.trans hb.os.symm).trans h.gw.1,(cd.tape.trans hb.tape.symm).trans h.gw.2.1,(cd.output.trans hb.output.symm).trans h.gw.2.2.1,h.gw.2.2.2⟩,Nat.le_trans h.lo hx.sz,ia⟩
 ·rcases h.hc b o f rk with h1 | h1
  ·exact .inl (hx.ro.sub b h1)
  grind
 ·rcases h.hc b o true rk with h1 | h1
  ·exact h.hs b o h1 rk
  ·exact ba.mem.hid.own b o hs (by grind)
 ·rcases h.hc b o f rk with h1 | h1
  ·exact (hx.ro.same b h1).trans (h.hid b o f rk)
  ·exact ba.mem.hid.obj b o true (by grind)
theorem InvI.step' {n0:Nat} {w0:World} {e e':Env} {st':St} {w:World} {a':Act} (h:InvI es H e w ds) (hr:Rel n0 w0 e st a w) (ba:Rel n0 w0 e' st' a' w') (hx:cL e st w e' st'.B st'.V w'):InvI es H e' w' ds:=
 h.step hr ba hx (h.mks.mono hx.ro)
def WI (F:Fence) (n:Nat) (P:Program) [Co P] (c:Code) (es:List (List CV)) (st:St) (Q:Exit->List (List CV)->St->Prop):Prop:=
 ∀ n0 w0 H e a w (Qr:Exit->Act->World->Prop),Rel n0 w0 e st a w->InvI es H e w a.defers ->
  (∀ x w0' H' e' es' st' a' w',Q x es' st'->Rel n0 w0' e' st' a' w'->InvI es' H' e' w' a'.defers->Qr x a' w')->c.wpCo F n P Qr a w
def CM (F:Fence) (n:Nat) (P:Program) [Co P] (ops:Array Oper) (l:List Oper) (es:List (List CV)) (st:St) (Q:List (List CV)->St->Prop):Prop:=
 ∀ n0 w0 H e a w (Qr:Exit->Act->World->Prop),Rel n0 w0 e st a w->InvI es H e w a.defers ->
  (∀ w0' H' e' es' st' a' w',Q es' st'->Rel n0 w0' e' st' a' w'->InvI es' H' e' w' a'.defers->Qr .normal a' w')->bP F n P ops Qr l a w
omit G in
theorem Rel.regh {G1 G2:Ghost} {n0:Nat} {w0:World} {e:Env} {st:St} {a:Act} {w:World} (h:@Rel G1 n0 w0 e st a w) (hy:e.y=false):@Rel G2 n0 w0 e st a w:=
 @Rel.mk G2 n0 w0 e st a w (@Rel.tm G1 _ _ _ _ _ _ h) (@Rel.sc G1 _ _ _ _ _ _ h) (Mem.regh (G1:=G1) (G2:=G2) (@Rel.mem G1 _ _ _ _ _ _ h) hy)
variable {c:Code} {Q:Exit->List (List CV)->St->Prop}
theorem QF (h:@W2 calm F n P _ c st fun ex st'=>Q ex es st'):WI F n P c es st Q:=by
 intro n0 w0 H e a w Qr hr hi hk;refine h n0 w0 (fun D=>H D=none) e a w Qr (Rel.regh (G2:=calm) hr hi.y) hi.mks ⟨fun b hb=>?_,hi.y,hi.hard⟩ ?_
 ·cases hh:H b with
  | none=>rfl
  | some o=>have:=(Array.getElem?_eq_some_iff.1 (hi.hid b o.1 o.2 hh)).1;omega
 ·intro x e' st' a' w' hq ba ia hx
  have fa:=Rel.regh (G2:=G) ba (hx.ye.trans hi.y);exact hk x w0 H e' es st' a' w' hq fa (hi.step hr fa hx ia)
theorem nZ {x y:Code} (h:WI F n P x es st fun ex es' st'=>match ex with | .normal=>WI F n P y es' st' Q | ex=>Q ex es' st'):WI F n P (.seq x y) es st Q:=by
 intro n0 w0 H e a w Qr hr hi hk;refine tW (h n0 w0 H e a w _ hr hi ?_);intro ex w0' H' e' es' st' a' w' hq ba dd;cases ex with
 | normal=>exact hq n0 w0' H' e' a' w' Qr ba dd hk
 | _=>exact hk _ w0' H' e' es' st' a' w' hq ba dd
theorem WA {c:Operand} {x y:Code} {b:Bool} (hc:st.ev c=.cv (.val (.bool b))) (ht:b=true->WI F n P x es st Q) (hf:b=false->WI F n P y es st Q):WI F n P (.cond c x y) es st Q:=by
 intro n0 w0 H e a w Qr hr hi hk;have h1:=(hr.ev c).1;rw [hc] at h1;exact mE h1.1 (fun hb=>ht hb n0 w0 H e a w Qr hr hi hk) (fun hb=>hf hb n0 w0 H e a w Qr hr hi hk)
theorem QG {id:Nat} (h:WI F n P c es st fun ex es' st'=>match ex with | .exit i=>if i=id then Q .normal es' st' else Q (.exit i) es' st' | ex=>Q ex es' st'):WI F n P (.block id c) es st Q:=by
 intro n0 w0 H e a w Qr hr hi hk;refine xE (h n0 w0 H e a w _ hr hi ?_);grind [Exit.inBlock]
theorem aDO {Q':Exit->List (List CV)->St->Prop} (h:WI F n P c es st Q) (hq:∀ ex es' st',Q ex es' st'->Q' ex es' st'):WI F n P c es st Q':=
 fun n0 w0 H e a w Qr hr hi hk=>h n0 w0 H e a w Qr hr hi fun x w0' H' e' es' st' a' w' nk=>hk x w0' H' e' es' st' a' w' (hq _ _ _ nk)
theorem aFN {s1:St} (hw:Wk st s1) (h:WI F n P c es s1 Q):WI F n P c es st Q:=
 fun n0 w0 H e a w Qr hr hi hk=>h n0 w0 H e a w Qr (hr.weak (hw.weak hr)) hi hk
theorem aDP {ps:List Pa} {lk:Lk} {m:Emb} {s s1:SS} (hE:Em m s st) (h:nR ps lk s=some s1)
  (hk:∀ m1 st1,Em m1 s1 st1->Adv lk m s st m1 s1 st1->WI F n P c es st1 Q):WI F n P c es st Q:=by
 intro n0 w0 H e a w Qr hr hi gm;obtain ⟨m1,st1,e',cg,ha,ba,ap⟩:=uH hE h n0 w0 e a w hr;exact hk m1 st1 cg ha n0 w0 H e' a w Qr ba (hi.step' hr ba ap) gm
open Classical in
theorem aBA {body:Code} (I:Nat->List (List CV)->St->Prop) {k0:Nat} (h0:I k0 es st)
  (d5:∀ k es s,I k es s->WI F n P body es s fun ex es' s'=>match ex with
   | .normal=>∃ s1,Wk s' s1/\∃ k',k'<k/\I k' es' s1
   | ex=>Q ex es' s'):WI F n P (.loop body) es st Q:=by
 intro n0 w0 H e a w Qr hr hi hk
 let J:Nat->Act->World->Prop:=fun k a' w'=>∃ w0' H' e' es' s,I k es' s/\Rel n0 w0' e' s a' w'/\InvI es' H' e' w' a'.defers
 have ii:∀ a' w',(∃ k,J k a' w')->∃ k,J k a' w'/\∀ j,J j a' w'->k<=j:=fun a' w' h=>exists_least h
 let μr:Act->World->Nat:=fun a' w'=>if h:∃ k,J k a' w' then Classical.choose (ii a' w' h) else 0
 have hμ:∀ a' w' (h:∃ k,J k a' w'),J (μr a' w') a' w'/\∀ j,J j a' w'->μr a' w'<=j:=by
  intro a' w' h;grind
 refine AG (fun a' w'=>∃ k,J k a' w') μr ⟨k0,w0,H,e,es,st,h0,hr,hi⟩ ?_
 intro a1 w1 hJ;obtain ⟨⟨w01,H1,e1,es1,s,hI,cf,qo⟩,vg⟩:=hμ a1 w1 hJ;refine d5 _ es1 s hI n0 w01 H1 e1 a1 w1 _ cf qo ?_;intro ex w02 H2 e2 es2 s2 a2 w2 hq fa xq;cases ex with
 | normal =>
  obtain ⟨s3,jl,k',an,y9⟩:=hq;have oc:J k' a2 w2:=⟨w02,H2,e2,es2,s3,y9,fa.weak (jl.weak fa),xq⟩;refine ⟨⟨_,oc⟩,?_⟩;have:=(hμ a2 w2 ⟨_,oc⟩).2 _ oc;omega
 | _=>exact hk _ w02 H2 e2 es2 s2 a2 w2 hq fa xq
theorem ZE {id:Nat} {ops:Array Oper} (h:CM F n P ops ops.toList es st (Q .normal)):WI F n P (.region id ops false) es st Q:=
 fun n0 w0 H e a w Qr hr hi hk=>lD (h n0 w0 H e a w Qr hr hi fun w0' H' e' es' st' a' w' hq ba dd=>hk .normal w0' H' e' es' st' a' w' hq ba dd)
theorem ZF {ops:Array Oper} {Q:List (List CV)->St->Prop} (h:Q es st):CM F n P ops [] es st Q:=
 fun _ w0 H e a w _ hr hi hk=>hk w0 H e es st a w h hr hi
variable {rest:List Oper}
theorem aBB {ops:Array Oper} {o:Oper} {Q:List (List CV)->St->Prop} {av:AV} {B':List Box} {V':List Vec} (hg:o.guard=none) (aa:bI P st o.op=some (av,B',V'))
  (h:CM F n P ops rest es (st.put o.dst av B' V') Q):CM F n P ops (o::rest) es st Q:=by
 intro n0 w0 H e a w Qr hr hi hk;simp [bP,show Region.wanted o (yielded ops a.tmps)=true from by simp [Region.wanted,hg]]
 refine jF (by grind [bI]) (vP aa hr) fun w₁ hw₁=>?_
 obtain ⟨cf,ar⟩:=hr.rely hw₁;have qo:=hi.step' hr cf ar;obtain ⟨nx,v,w',e',h1,h2,h3,h4,h5,h6⟩:=rT aa n0 w0 e a w₁ cf;have ba:=cf.put h3 h4 h5 h6 o.dst;have dd:=qo.step' cf ba (by cases o.dst <;> exact h4)
 exact ⟨nx,v,w',h1,h2,h n0 w0 H e' _ w' Qr ba (by grind [put_defers]) hk⟩
theorem Rel.moveI {n0:Nat} {w0:World} {e:Env} {w:World} (h:Rel n0 w0 e st a w) (hy:e.y=false) {H':Nat->Option (Obj×Bool)} (hO:∀ b,Own e st b->H' b=none) (hk:∀ b,(e.S b\/Own e st b)->w'.heap[b]? = w.heap[b]?) (hb:w.heap.size<=w'.heap.size)
  (qf:iG H' w') (au:∀ b o,e.S b->H' b≠some (o,true)):Rel n0 w' { e with H:=H' } st a w':=by
 have hm:=h.mem;have am:ROw w e.S w' e.S:=⟨fun _ h=>h,fun b o x hs hc=>by grind [World.cell?],fun b arr c hs hc=>(hk b (.inl hs)).trans hc⟩
 have ct:∀ xs vs,AV.all e w (kss st.V) xs vs->AV.all { e with H:=H' } w' (kss st.V) xs vs:=fun xs vs hv=>AV.all.gen (e:=e.withS e.S) (e':={ e with H:=H' }) rfl rfl rfl _ _ (AV.all.monoW am _ _ hv)
 refine ⟨ct _ _ h.tm,h.sc,⟨fun i b hi hl=>?_,hm.boxsc,hm.boxlo,hm.boxinj,fun i x hi hl=>?_,hm.vecS,hm.vecbox,hm.vecinj,fun b hs=>Nat.lt_of_lt_of_le (hm.ro b hs) hb,Below.refl _ _,Nat.le_trans hm.base hb,⟨hm.bl.1,fun hc=>by grind⟩,
  ⟨qf,fun i b hi hl=>hO _ (.inl ⟨i,b,hi,hl,rfl⟩),fun i x g hi hl hg=>hO g (.inr ⟨i,x,hi,hl,hg⟩),fun i x hi hT=>?_,au⟩⟩⟩
 ·obtain ⟨vs,q1,q2⟩:=hm.box i b hi hl
  exact ⟨vs,(hk _ (.inr (.inl ⟨i,b,hi,hl,rfl⟩))).trans q1,ct _ _ q2⟩
 ·obtain ⟨xs,q1,q2,q3⟩:=hm.vec i x hi hl
  exact ⟨xs,q1.keep fun g hg=>hk g (.inr (.inr ⟨i,x,hi,hl,hg⟩)),CV.vals.monoW am _ _ q2,q3⟩
 ·have:=(hm.hid.gh i x hi hT).2.1
  grind
def CV.firm:CV->Bool
 | .val _=>true
 | .row k es=>k != 0&&gQ es
 | _=>false
theorem CV.cells_flat {w:World} {S S':Nat->Prop}:∀ {cs:List CV} {b o:Nat},cs.all CV.flat=true->CV.cells w S cs b o->CV.cells w S' cs b o
 | [],_,_,_,_=>by simp [CV.cells]
 | c::cs,b,o,hf,h=>by
  simp only [List.all_cons,Bool.and_eq_true] at hf;obtain ⟨⟨x,h1,h2⟩,h3⟩:=h;refine ⟨⟨x,h1,?_⟩,CV.cells_flat hf.2 h3⟩;cases c with
  | val y=>exact h2
  | _=>simp [CV.flat] at hf
theorem CV.rows_flat {w:World} {S S':Nat->Prop} {k:Nat}:∀ {es:List (List CV)} {b o:Nat},gQ es=true->CV.rows w S k es b o->CV.rows w S' k es b o
 | [],_,_,_,_=>by simp [CV.rows]
 | l::es,b,o,hf,h=>by
  simp only [gQ,List.all_cons,Bool.and_eq_true] at hf;exact ⟨h.1,CV.cells_flat hf.1 h.2.1,CV.rows_flat hf.2 h.2.2⟩
theorem CV.firm_sub {w:World} {S S':Nat->Prop} (hS:∀ b,S b->(∃ o:Obj,w.heap[b]? = some o/\o.isCells=true)->S' b):∀ {c:CV} {v:Value},c.firm=true->CV.holds w S c v->CV.holds w S' c v
 | .val _,_,_,h=>h
 | .row k es,v,hf,h=>by
  simp [CV.firm] at hf;obtain ⟨a,cap,h1,h2,h3,h4⟩:=h;refine ⟨a,cap,h1,h2,h3,?_⟩;rcases h4 with h4 | ⟨b,o,h4,h5,h6⟩
  ·grind
  ·match es,h6,hf with
   | [],_,_=>simp
   | l::r,h6,hf =>
    refine .inr ⟨b,o,h4,hS b h5 ?_,CV.rows_flat hf.2 h6⟩;obtain ⟨h7,h8,_⟩:=h6
    match l,h7,h8 with
    | [],h7,_=>grind
    | c::cs,_,h8 =>
     obtain ⟨⟨x,hx,_⟩,_⟩:=h8;unfold World.cell? at hx;grind [Obj.isCells]
 | .ref _,_,hf,_=>by grind [CV.firm]
 | .fn _ _,_,hf,_=>by grind [CV.firm]
 | .mp _ _,_,hf,_=>by grind [CV.firm]
theorem CV.firm_subs {w:World} {S S':Nat->Prop} (hS:∀ b,S b->(∃ o:Obj,w.heap[b]? = some o/\o.isCells=true)->S' b):∀ {cs:List CV} {vs:List Value},cs.all CV.firm=true->CV.vals w S cs vs->CV.vals w S' cs vs
 | [],[],_,_=>by simp [CV.vals]
 | c::cs,v::vs,hf,h=>by
  simp only [List.all_cons,Bool.and_eq_true] at hf;exact ⟨CV.firm_sub hS hf.1 h.1,CV.firm_subs hS hf.2 h.2⟩
 | [],_::_,_,h=>by grind [CV.vals]
 | _::_,[],_,h=>by grind [CV.vals]
theorem AV.all_cvs {e:Env} {w:World} {ks:List Nat}:∀ {cs:List CV} {vs:List Value},AV.all e w ks (cs.map .cv) vs->CV.vals w e.S cs vs
 | [],[],_=>by simp [CV.vals]
 | _::_,_::_,h=>⟨h.1,AV.all_cvs h.2⟩
 | [],_::_,h=>by grind [AV.all]
 | _::_,[],h=>by grind [AV.all]
open Classical in
theorem QH (hF:Free F) {ops:Array Oper} {o:Oper} {es':List (List CV)} {Q:List (List CV)->St->Prop} {x:Operand} {args:Array Operand} {ts:Array TypeId} {l:Nat} {cs:List Sc} {xs vs0:List CV} {b:Bool}
  (hg:o.guard=none) (aa:o.op=.call { callee:=.value x,args,argTypes:=ts }) (hx:st.ev x=.cv (.val (.func (.yield l) #[] #[]))) (ac:args.toList.map st.ev=vs0.map .cv) (dj:Sc.avs cs xs 0=vs0.map .cv) (z7:vs0.all CV.firm=true)
  (hy:lG P l (.clo cs) es xs b es') (h:CM F n P ops rest es' (st.put o.dst (.cv (.val (.bool b))) st.B st.V) Q):CM F n P ops (o::rest) es st Q:=by
 intro n0 w0 H e a wO Qr lj Kp hk;simp [bP,show Region.wanted o (yielded ops a.tmps)=true from by simp [Region.wanted,hg]]
 have oa:=(lj.ev x).1;rw [hx] at oa;have ft:o.semAt F.round a.eval=execOp a.eval o:=Oper.semAt_plain F _ _ (by grind)
 refine .inl ⟨by rw [ft];simp [execOp,aa,resolve,oa.1];exact UR _ _,fun w hw₁=>?_⟩
 rw [ft];obtain ⟨hr,ei⟩:=lj.rely hw₁;have hi:=Kp.step' lj hr ei;have cr:=(hr.ev x).1;rw [hx] at cr;have b8:=hr.evs args.toList;obtain ⟨Ds,qp,fc,qd⟩:=hi.mks
 have h1:=hy F (n - 1) hF H (fun b=>e.S b/\b ∉ Ds) w (args.map a.eval) hi.j hi.hid hi.gw (fun b hb=>hr.mem.ro b hb.1) (fun b o hb=>hi.hs b o hb.1) hi.lo (fun e1 ks hS=>by
  rw [dj];refine AV.all.of_vals ?_
  have ic:∀ c,e.S c->(∃ o:Obj,w.heap[c]? = some o/\o.isCells=true)->e.S c/\c ∉ Ds:=by
   grind [Obj.isCells]
  have h2:=b8.1;rw [ac] at h2;have h3:=CV.firm_subs (S':=fun b=>e.S b/\b ∉ Ds) ic z7 (AV.all_cvs h2)
  simp_all)
 obtain ⟨fn,tmps,as,bd,q1,q2⟩:=h1
 have ag:(execOp a.eval o).run P w=.ok (.round l fn tmps as bd) w:=by
  simp [execOp,aa,resolve,cr.1,Deferred.ofValue,invoke];omega
 refine ⟨_,w,ag,?_⟩;simp [Oper.uponCo];refine RoundCo.any (F:=F) (n:=n) (q2.mono ?_);rintro en w' ⟨rfl,H',p1,p2,p3,p4,p5,p6,p7,p8,p9,p10⟩
 have N1:∀ c,Own e st c->H c=none/\¬e.S c/\c<w.heap.size:=by
  intro c hc;have ho:=Own.lt hr.mem hc;refine ⟨?_,ho.2.1,ho.1⟩;cases hh:H c with
  | none=>rfl
  | some q =>
   rcases hi.hc c q.1 q.2 hh with h2 | h2
   ·grind
   grind
 have jc:∀ c,H c=none->¬(e.S c/\c ∉ Ds)->c<w.heap.size->H' c=none:=by
  grind
 have Kr:∀ D∈Ds,H' D=none:=fun D hD=>jc D (qd D hD).1 (fun h2=>h2.2 hD) (hr.mem.ro D (qd D hD).2.1)
 have bz:∀ c,(e.S c\/Own e st c)->w'.heap[c]? = w.heap[c]?:=by
  grind
 have fa:=hr.moveI hi.y (H':=fun c=>if e.S c then none else (H' c).map fun p=>(p.1,true)) (fun c hc=>by
   grind) bz p5 (fun c q f hc=>by
   by_cases hs:e.S c
   ·grind
   ·simp only [if_neg hs,Option.map_eq_some_iff] at hc
    obtain ⟨p,h2,h3⟩:=hc;cases h3;exact p2 c p.1 p.2 h2) (fun c q hs hc=>by grind)
 have xq:InvI es' H' { e with H:=fun c=>if e.S c then none else (H' c).map fun p=>(p.1,true) } w' a.defers:=by
  refine ⟨hi.y,fun c q f hc=>?_,fun c q f hc=>?_,fun c q hs hc=>?_,p2,p1,⟨p6.trans hi.gw.1,p7.trans hi.gw.2.1,p8.trans hi.gw.2.2.1,hi.gw.2.2.2⟩,Nat.le_trans hi.lo p5,Ds,qp,fc,fun D hD=>⟨Kr D hD,(qd D hD).2.1,(bz D (.inl (qd D hD).2.1)).trans (qd D hD).2.2⟩⟩
  ·by_cases hs:e.S c
   ·grind
   ·simp at hc
    grind
  ·grind
  grind
 have ba:=fa.put fa.mem (Ext.refl _ _ _ _ _) (x:=.cv (.val (.bool b))) (v:=.bool b) (by simp [AV.holds,CV.holds]) (by simp) o.dst
 exact ⟨.bool b,rfl,h n0 w' H' _ _ w' Qr ba (by grind [put_defers]) hk⟩
theorem WB {fn:Func} {tmps:Array Value} {R:Ending->World->Prop} {H:Nat->Option (Obj×Bool)} {s0:Nat} (iu:∀ w,(results fn tmps).run P w=.ok (.tuple #[]) w) (hR:∀ w,iG H w->GW w->s0<=w.heap.size->R (.returned (.tuple #[])) w) :
  ∀ (Ds:List Nat) (w:World),Ds.Nodup->(∀ D∈Ds,H D=none/\w.heap[D]? = some (.deferred (some [])))->iG H w->GW w->s0<=w.heap.size->gL P fn tmps R (Ds.map BC) w
 | [],w,_,_,hH,hg,hs=>fun w₁ hw=>⟨_,iu w₁,hR w₁ (fun c o f hc=>(hw.block c (Array.getElem?_eq_some_iff.1 (hH c o f hc)).1).trans (hH c o f hc)) ⟨hw.os.trans hg.1,hw.tape.trans hg.2.1,hw.output.trans hg.2.2.1,hg.2.2.2⟩ (Nat.le_trans hs hw.size)⟩
 | D::Ds,w,fc,hD,hH,hg,hs=>by
  refine ⟨D,rfl,fun w₁ hw=>?_⟩
  have Ks:iG H w₁:=fun c o f hc=>(hw.block c (Array.getElem?_eq_some_iff.1 (hH c o f hc)).1).trans (hH c o f hc)
  have Es:∀ D'∈D::Ds,H D'=none/\w₁.heap[D']? = some (.deferred (some [])):=fun D' hd=>⟨(hD D' hd).1,(hw.block D' (Array.getElem?_eq_some_iff.1 (hD D' hd).2).1).trans (hD D' hd).2⟩
  rw [List.nodup_cons] at fc;refine ⟨_,run_takeDeferred (Es D (by simp)).2,WB iu hR Ds _ fc.2 (fun D' hd=>⟨(Es D' (by grind)).1,?_⟩) (fun c o f hc=>?_) ⟨hw.os.trans hg.1,hw.tape.trans hg.2.1,hw.output.trans hg.2.2.1,hg.2.2.2⟩ (Nat.le_trans hs (Nat.le_trans hw.size (by simp)))⟩
  ·have bY:D'≠D:=fun he=>fc.1 (he▸hd)
   exact (World.putObj_heap_other bY).trans (Es D' (by grind)).2
  ·have bY:c≠D:=fun he=>by grind
   exact (World.putObj_heap_other bY).trans (Ks c o f hc)
end
open Classical in
omit G in
theorem aBC {P:Program} [C:Co P] {f:FuncId} {fn:Func} {c:Code} {N:Nat} {caps:List CV} {sh:YSh} {R:YF->List (List CV)->Option (List (List CV))} (hf:P.funcs[f]? = some fn) (hb:fn.body=some c) (hn:fn.ntmps=N) (hN:caps.length+1<=N) (hr:fn.results.toList=[])
  (h:∀ (G:Ghost) (l:Nat) (yf:YF) (es es':List (List CV)),(∀ es x b es',yf es x=some (b,es')->@lG G P _ l sh es x b es')->R yf es=some es'->∀ (F:Fence) (n:Nat),Free F->F.round=none ->
   @WI G F n P _ c es ⟨mkT N (dB 0 (.cv (.val (.func (.yield l) #[] #[]))::caps.map .cv)),[],[⟨false,0,0,0,[]⟩]⟩ fun ex es2 _=>(ex=.normal\/ex=.ret)/\es2=es'):rB P f caps sh R:=by
 intro G l yf es es' hy zy F n hF am H S w lb ku hS hH mf hJ ek kp;refine iQ hf hb ?_ am
 let e0:Env:=⟨fun _=>0,fun _ _=>undef,S,w.heap.size,fun b=>if S b then none else (H b).map fun p=>(p.1,true),false⟩
 have Et:∀ b o f,e0.H b=some (o,f)->¬S b/\f=true/\∃ f',H b=some (o,f'):=by
  intro b o f hc
  by_cases hs:S b
  ·grind
  ·simp only [e0,if_neg hs,Option.map_eq_some_iff] at hc
   grind
 have bv:Mem w.heap.size w e0 [] [⟨false,0,0,0,[]⟩] w:=by
  refine ⟨by simp,by simp,by simp,by simp,?_,?_,by simp,?_,hS,Below.refl _ _,Nat.le_refl _,⟨Nat.le_refl _,fun hc=>by cases hc⟩,⟨fun b o f hc=>?_,by simp,?_,?_,fun b o hs hc=>(Et b o true hc).1 hs⟩⟩
  ·grind
  ·grind
  ·grind
  ·obtain ⟨_,_,f',h2⟩:=Et b o f hc
   exact hH b o f' h2
  ·grind
  ·intro i x hi hT
   cases i with
   | zero=>cases hi;exact absurd hT (by decide)
   | succ i=>grind
 have hi:InvI es H e0 w []:=by
  refine ⟨rfl,fun b o f hc=>(Et b o f hc).2.1,fun b o f hc=>?_,mf,hH,hJ,kp,ek,[],rfl,List.nodup_nil,by simp⟩
  grind
 have ac:AV.all e0 w (kss [⟨false,0,0,0,[]⟩]) (.cv (.val (.func (.yield l) #[] #[]))::caps.map .cv) (#[Value.func (.yield l) #[] #[]]++lb).toList:=by
  simp;exact ⟨by simp [AV.holds,CV.holds],AV.all.of_vals ku⟩
 have cn:(#[Value.func (.yield l) #[] #[]]++lb).size=(AV.cv (.val (.func (.yield l) #[] #[]))::caps.map .cv).length:=by
  have:=ac.length;omega
 have af:Rel w.heap.size w e0 ⟨mkT N (dB 0 (.cv (.val (.func (.yield l) #[] #[]))::caps.map .cv)),[],[⟨false,0,0,0,[]⟩]⟩ { tmps:=(#[Value.func (.yield l) #[] #[]]++lb)++Array.replicate (fn.ntmps - (#[Value.func (.yield l) #[] #[]]++lb).size) undef,defers:=[] } w:=by
  rw [<- start_eq _ _ (by grind)]
  refine ⟨?_,?_,bv⟩
  ·rw [Array.toList_append,Array.toList_replicate,cn,hn]
   refine ac.append ?_;generalize N - _=k
   induction k with
   | zero=>simp [AV.all]
   | succ k ih=>grind [AV.all,AV.holds]
  grind [AV.scos_iff,AV.sco]
 refine h G l yf es es' hy zy F n hF am w.heap.size w H e0 _ w _ af hi ?_;rintro ex w0' H' e' es2 st' a' w' ⟨ja,rfl⟩ ba dd;have iF:=ba.mem.base
 suffices ij:gL P fn a'.tmps (fun en w'=>(∃ v,en=.returned v)/\w.heap.size<=w'.heap.size/\@GW G w'/\∃ H',G.J es2 H'/\iG H' w') a'.defers w' by
  rcases ja with rfl | rfl
  ·exact ij
  ·exact ij
 obtain ⟨Ds,qp,fc,qd⟩:=dd.mks;rw [qp];refine WB (H:=H') (s0:=w.heap.size) (fun w2=>?_) (fun w2 q1 q2 q3=>⟨⟨_,rfl⟩,q3,q2,H',dd.j,q1⟩) Ds w' fc (fun D hD=>⟨(qd D hD).1,(qd D hD).2.2⟩) dd.hid dd.gw iF
 simp_all [results]
section
variable {P:Program} [C:Co P] {sg:FuncId->Option Sig} {M:Den}
def rtO (P:Program) (rs:List ResultVar) (s:SS):Option Ou:=match rA P s rs with
 | some [.own i u]=>match s.V[i]? with
  | some v=>if (v.live&&v.ver == u)=true then some (.ret [.row v.k v.es,.fn v.T []]) else none
  | none=>none
 | _=>none
theorem aDQ {rs:List ResultVar} (s:SS) (o:Ou) (h:rtO P rs s=some o):∃ l,o=.ret l:=by
 unfold rtO at h;grind
noncomputable def aBD (P:Program) (sg:FuncId->Option Sig) (M:Den) (fe:FE) (c:Code) (vs:List CV):Option (List CV):=
 if vs.length<=fe.n then
  aJ (evT P sg M (inN P sg M true 8) (rtO P fe.rs) c fe.ht ⟨[],[],[],[]⟩ [] ⟨fe.n,dB 0 (vs.map .cv),[],[]⟩ (rtO P fe.rs))
 else none
theorem xW (hM:@Fns calm P _ sg M) (hY:@Yls calm P _ M) (hT:Its P sg M) {f:FuncId} {fn:Func} {fe:FE} {c:Code} {vs:List CV} {k:Nat} {es:List (List CV)} {T:TypeId} (hf:P.funcs[f]? = some fn) (hb:fn.body=some c) (hn:fn.ntmps=fe.n) (hr:fn.results.toList=fe.rs)
  (h:aBD P sg M fe c vs=some [.row k es,.fn T []]):sT P f (vs.map .cv) T k es:=by
 unfold aBD at h;split at h
 ·have h':evT P sg M (inN P sg M true 8) (rtO P fe.rs) c fe.ht ⟨[],[],[],[]⟩ [] ⟨fe.n,dB 0 (vs.map .cv),[],[]⟩ (rtO P fe.rs)=some (.ret [.row k es,.fn T []]):=by
   unfold aJ at h;grind
  refine CallPc.regh (G1:=calm) ?_;refine @oZ calm _ _ _ _ _ _ _ hf hb fun F n hF am=>?_
  rw [hn,start_eq _ _ (by grind)]
  have hE:Em ⟨[],[],[]⟩ ⟨fe.n,dB 0 (vs.map .cv),[],[]⟩ ⟨mkT fe.n (dB 0 (vs.map .cv)),[],[]⟩:=by
   refine ⟨?_,kA _ _ (by rw [AV.inns_eq,List.all_eq_true];intro y hy;obtain ⟨c,_,rfl⟩:=List.mem_map.1 hy;rfl),⟨rfl,rfl,rfl,by simp,by simp,by simp,by simp,by simp⟩⟩
   rw [lV,List.map_map];rfl
  have fin:∀ (m':Emb) (s':SS) (st':St),rtO P fe.rs s'=some (.ret [.row k es,.fn T []])->Em m' s' st'->∃ r,nM P st' fn.results.toList=some r /\
    ∃ i v,r=.own i v.ver/\st'.V[i]? = some v/\v.live=true/\v.T=T/\v.k=k/\v.es=es:=by
   intro m' s' st' h1 iq;unfold rtO at h1;split at h1
   ·rename_i i u js
    split at h1
    ·rename_i v hv
     split at h1
     ·rename_i hc
      simp at hc;obtain ⟨hl,rfl⟩:=hc;obtain ⟨⟨rfl,rfl⟩,rfl⟩:=h1;refine ⟨kV (AV.czs m' [.own i v.ver]),?_,m'.fv i,v.cz m' i,?_,iq.m.v i v hv (.inl hl),hl,rfl,rfl,rfl⟩
      ·rw [hr]
       exact BA (rX iq js)
      rfl
     grind
    grind
   grind
  refine @BE calm _ _ _ _ _ _ rfl hM hT hF am _ (fun F n hF=>@rY calm _ _ _ _ true (fun _=>rfl) hM hY 8 _ _ hF) _ (aDQ) c fe.ht _ _ _ _ _ _ _ _ hE h' ?_ (fun _ _ _ _ _ _ h0=>by simp) ?_
  ·grind
  grind
 grind
theorem Fns.none' (P:Program) [Co P]:Fns P (fun _=>none) (fun _ _=>none) where
 own:=fun _ _ _ _ _ _ h=>by cases h
 mtt:=fun _ _ _ _ _ _ _ _ h=>by cases h
 way:=fun _ _ _ _ h=>by cases h
 ent:=fun _ _ h=>by cases h
 spec:=fun _ _ _ _ h=>by cases h
theorem Its.none' (P:Program) [Co P]:Its P (fun _=>none) (fun _ _=>none):=⟨fun _ _ _ _ _ h=>(by cases h)⟩
end
section
variable {n0:Nat} {w0 w:World} {e:Env} {B:List Box} {V:List Vec}
theorem KA (V:List Vec) (j:Nat) (x y:Vec) (hk:y.k=x.k) (hj:V[j]? = some x):kss (V.set j y)=kss V:=by
 refine List.ext_getElem? fun i=>?_
 grind
theorem Mem.rever (h:Mem n0 w0 e B V w) {j:Nat} {x:Vec} (hj:V[j]? = some x) (hx:x.T≠ghT) {o g:Nat} (og:o<g) (dj:∀ b∈B,AV.scos B.length (vers (V.set j ⟨x.live,x.T,x.k,o,x.es⟩)) b.cs) :
  ∃ e',Mem n0 w0 e' B (V.set j ⟨x.live,x.T,x.k,g,x.es⟩) w/\e'.hdr j g=e.hdr j x.ver/\Ext e w B.length (vers (V.set j ⟨x.live,x.T,x.k,o,x.es⟩)) (kss V) e' w B.length (vers (V.set j ⟨x.live,x.T,x.k,g,x.es⟩)) (kss (V.set j ⟨x.live,x.T,x.k,g,x.es⟩)):=by
 let e':Env:={ e with hdr:=fun i u=>if i=j/\g<=u then e.hdr j x.ver else e.hdr i u }
 have Bw:=KA V j x ⟨x.live,x.T,x.k,g,x.es⟩ rfl hj
 have ar:Ext e w B.length (vers (V.set j ⟨x.live,x.T,x.k,o,x.es⟩)) (kss V) e' w B.length (vers (V.set j ⟨x.live,x.T,x.k,g,x.es⟩)) (kss (V.set j ⟨x.live,x.T,x.k,g,x.es⟩)):=by
  refine ⟨RO.refl _ _,fun _ _=>rfl,fun i u hi hu=>?_,Nat.le_refl _,by simp,fun i hi=>?_,fun i hi=>by rw [Bw],Nat.le_refl _,fun _ h=>.inl h,rfl,fun _=>rfl,rfl⟩
  ·grind
  grind
 have get:∀ (i:Nat) (y:Vec),(V.set j ⟨x.live,x.T,x.k,g,x.es⟩)[i]? = some y->∃ y0,V[i]? = some y0/\y0.live=y.live/\y0.T=y.T/\y0.k=y.k/\y0.es=y.es/\e'.hdr i y.ver=e.hdr i y0.ver:=by
  grind
 refine ⟨e',⟨fun i b hi hl=>?_,fun i b hi=>ar.scos (dj b (List.mem_of_getElem? hi)),h.boxlo,h.boxinj,fun i y hi hl=>?_,fun i y q hi hl hq=>?_,fun i y j' b q hi hl hb bo hq=>?_,fun i y j' z q hi hl hz eu hq nk=>?_,h.ro,h.below,h.base,h.bl,?_⟩,by grind,ar⟩
 ·obtain ⟨vs,h1,h2⟩:=h.box i b hi hl
  exact ⟨vs,h1,AV.all.mono ar _ _ (dj b (List.mem_of_getElem? hi)) h2⟩
 ·obtain ⟨y0,g1,g2,g3,g4,g5,g6⟩:=get i y hi
  obtain ⟨xs,q1,q2,q3⟩:=h.vec i y0 g1 (g2.trans hl);grind
 ·obtain ⟨y0,g1,g2,g3,g4,g5,g6⟩:=get i y hi
  exact h.vecS i y0 q g1 (g2.trans hl) (by grind)
 ·obtain ⟨y0,g1,g2,g3,g4,g5,g6⟩:=get i y hi
  exact h.vecbox i y0 j' b q g1 (g2.trans hl) hb bo (by grind)
 ·obtain ⟨y0,g1,g2,g3,g4,g5,g6⟩:=get i y hi
  obtain ⟨z0,k1,k2,k3,k4,k5,k6⟩:=get j' z hz;exact h.vecinj i y0 j' z0 q g1 (g2.trans hl) k1 (k2.trans eu) (by grind) (by grind)
 ·refine ⟨h.hid.obj,h.hid.box,fun i y q hi hl hq=>?_,fun i y hi hT=>?_,h.hid.own⟩
  ·obtain ⟨y0,g1,g2,g3,g4,g5,g6⟩:=get i y hi
   exact h.hid.vec i y0 q g1 (g2.trans hl) (by grind)
  ·obtain ⟨y0,g1,g2,g3,g4,g5,g6⟩:=get i y hi
   have:=h.hid.gh i y0 g1 (g3.trans hT);grind
end
def QI (T k d:Nat) (s:SS):Option Ou:=match s.get d,s.V[0]? with
 | .own 0 u,some v=>if (v.live&&(v.ver == u&&(v.T == T&&v.k == k)))=true then some (.ret [.row k v.es]) else none
 | _,_=>none
theorem aBE (T k d:Nat) (s:SS) (o:Ou) (h:QI T k d s=some o):∃ l,o=.ret l:=by
 unfold QI at h;grind
noncomputable def aFO (P:Program) (sg:FuncId->Option Sig) (M:Den) (dp:Nat) (fe:FE) (c:Code) (T k d:Nat) (cs:List CV) (es:List (List CV)):Option (List CV):=
 if cs.length+1<=fe.n then
  aJ (evC P sg M (inN P sg M false dp) (QI T k d) c fe.ht ⟨[],[],[],[]⟩ [] ⟨fe.n,dB 0 (.own 0 0::cs.map .cv),[],[⟨true,T,k,0,es⟩]⟩ (QI T k d))
 else none
section
variable {P:Program} [C:Co P] {sg:FuncId->Option Sig} {M:Den}
theorem aBF (hM:Fns P sg M) (ow:∀ vs,M ghT vs=none) {f:FuncId} {fn:Func} {c:Code} {fe:FE} {dp T k d:Nat} {cs:List CV} {es es':List (List CV)} (hf:P.funcs[f]? = some fn) (hb:fn.body=some c) (hn:fn.ntmps=fe.n) (hr:fn.results.toList=[.tmp d])
  (h:aFO P sg M dp fe c T k d cs es=some [.row k es']):AQ P f T k cs es es' true:=by
 intro B V j v hv dg hT hk b8;have hl:=Vec.sl_live dg;have hj:=(List.getElem?_eq_some_iff.1 hv).1;unfold aFO at h;split at h
 case isFalse=>cases h
 have ay:evC P sg M (inN P sg M false dp) (QI T k d) c fe.ht ⟨[],[],[],[]⟩ [] ⟨fe.n,dB 0 (.own 0 0::cs.map .cv),[],[⟨true,T,k,0,es⟩]⟩ (QI T k d)=some (.ret [.row k es']):=by
  unfold aJ at h;grind
 have key:CallP P f (.own j v.ver::cs.map .cv) B V fun r B' V'=>∃ u,r=.own j u/\∃ X Y,B'=B++X/\V'=(V.set j ⟨v.live,v.T,v.k,u,es'⟩)++Y:=by
  refine pC hf hb fun F n hF am=>?_
  rw [hn,start_eq _ _ (by grind)]
  have hE:Em ⟨[],[j],[v.ver]⟩ ⟨fe.n,dB 0 (.own 0 0::cs.map .cv),[],[⟨true,T,k,0,es⟩]⟩ ⟨mkT fe.n (dB 0 (.own j v.ver::cs.map .cv)),B,V⟩:=by
   refine ⟨?_,kA _ _ ?_,⟨rfl,rfl,rfl,by simp,?_,?_,by simp,?_⟩⟩
   ·simp [lV,AV.cz,Emb.fv,Emb.fo,Function.comp_def]
   ·simp [AV.inn,AV.inns_eq]
   ·intro i x hi _
    have h1:i<1:=(List.getElem?_eq_some_iff.1 hi).1;obtain rfl:i=0:=by omega
    simp at hi;subst hi;show V[j]? = _;cases v;simp_all [Vec.cz,Emb.fo]
   ·intro i hi
    simp at hi;obtain rfl:i=0:=by omega
    exact hj
   simp
  have fin:∀ (m':Emb) (s':SS) (st':St),QI T k d s'=some (.ret [.row k es'])->Em m' s' st'->Adv ⟨[],[],[],[]⟩ ⟨[],[j],[v.ver]⟩ ⟨fe.n,dB 0 (.own 0 0::cs.map .cv),[],[⟨true,T,k,0,es⟩]⟩ ⟨mkT fe.n (dB 0 (.own j v.ver::cs.map .cv)),B,V⟩ m' s' st' ->
    ∃ r,nM P st' fn.results.toList=some r/\∃ u,r=.own j u/\∃ X Y,st'.B=B++X/\st'.V=(V.set j ⟨v.live,v.T,v.k,u,es'⟩)++Y:=by
   intro m' s' st' h1 iq ha;unfold QI at h1;split at h1
   case h_2=>cases h1
   rename_i u x hd hx;split at h1
   case isFalse=>cases h1
   rename_i hc;simp at hc;obtain ⟨c1,c2,c3,c4⟩:=hc;simp at h1;have h2:=iq.m.v 0 x hx (.inl c1);have h3:m'.fv 0=j:=ha.stp.up.v 0 (by simp)
   have hg:=iq.get d;rw [hd] at hg;refine ⟨.own j (m'.fo 0+u),?_,m'.fo 0+u,rfl,st'.B.drop B.length,st'.V.drop V.length,?_,?_⟩
   ·grind [nM,mH,xJ,AV.cz]
   ·exact zG ha.stp.bl fun i hi=>ha.stp.bf i hi (by simp)
   ·have h5:x.cz m' 0=⟨v.live,v.T,v.k,m'.fo 0+u,x.es⟩:=by
     grind [Vec.cz]
    have:=zG (L:=V.set j ⟨v.live,v.T,v.k,m'.fo 0+u,x.es⟩) (L':=st'.V) (by simpa using ha.stp.vl) fun i hi=>by
     rw [List.getElem?_set];simp at hi;split
     ·grind
     ·exact ha.stp.vf i hi (by grind)
    grind
  exact iB hM hF (fun il=>rY (cm:=false) (by simp) hM (Yls.none ow) dp hF il) (aBE T k d) c fe.ht _ [] _ _ _ _ _ _ hE ay
   (fun m' s' st' h1 h2 h3=>⟨.inl rfl,fin m' s' st' h1 h2 h3⟩) (fun id h vs m' s' st' h0=>by simp) (fun m' s' st' h1 h2 h3=>⟨.inr rfl,fin m' s' st' h1 h2 h3⟩)
 intro F n hF am n0 w0 e w vs hm dk hs;refine CallsCo.mono (key F n hF am n0 w0 e w vs hm dk hs) ?_;rintro en w' ⟨e',B',V',r,q,rfl,⟨u,rfl,X,Y,rfl,rfl⟩,h1,h2,h3,h4⟩;have Bw:kss (V.set j ⟨v.live,v.T,v.k,u,es'⟩)=kss V:=KA V j v _ rfl hv;have Kt:∀ y:Vec,(vers (V.set j y)).getD j 0=y.ver:=fun y=>by grind
 have Bn:∀ (y:Vec) i,i≠j->(vers (V.set j y)).getD i 0=(vers V).getD i 0:=fun y i hi=>by
  grind
 have C1:(vers V).getD j 0=v.ver:=by grind
 have ky:∀ (A:List Vec) i,i<A.length->(vers (A++Y)).getD i 0=(vers A).getD i 0:=fun A i hi=>by
  grind
 have bt:v.ver<=u:=by
  have:=h2.verle j (by grind)
  grind
 have tq:vers (V.set j ⟨v.live,v.T,v.k,v.ver,es'⟩)=vers V:=by
  refine List.ext_getElem? fun i=>?_
  simp only [List.getElem?_map]
  by_cases d8:j=i
  ·subst d8;rw [List.getElem?_set_self hj,hv];rfl
  ·rw [List.getElem?_set_ne d8]
 have Eu:∀ b∈B,AV.scos B.length (vers (V.set j ⟨v.live,v.T,v.k,u,es'⟩)) b.cs:=by
  intro b hb;obtain ⟨i,hi⟩:=List.getElem?_of_mem hb;have h0:=hm.boxsc i b hi;refine (Ext.scos (e:=e) (w:=w) (nB:=B.length) (vers:=vers V) (ks:=kss V) (e':=e') (w':=w') (nB':=B.length) (vers':=vers (V.set j ⟨v.live,v.T,v.k,u,es'⟩)) (ks':=kss (V.set j ⟨v.live,v.T,v.k,u,es'⟩)) ?_ h0);refine ⟨h2.ro,fun i hi=>h2.ρ i hi,fun i q hi hq=>h2.hdr i q hi hq,Nat.le_refl _,by simp,fun i hi=>?_,fun i hi=>by rw [Bw],h2.sz,h2.snew,h2.be,h2.he,h2.ye⟩
  by_cases d8:i=j
  ·subst d8;rw [Kt,C1];exact bt
  ·rw [Bn _ _ d8];exact Nat.le_refl _
 have Ev:=Mem.cut h1 Eu;have Ba:(V.set j ⟨v.live,v.T,v.k,u,es'⟩)[j]? = some ⟨v.live,v.T,v.k,u,es'⟩:=by simp [hj]
 obtain ⟨e2,m1,m2,m3⟩:=Ev.rever Ba (by intro hc;have:=Vec.sl_T dg;exact absurd hc (Nat.ne_of_lt this)) (o:=v.ver) (g:=v.ver+1) (by omega) (by
  intro b hb;simp only [List.set_set];rw [tq];obtain ⟨i,hi⟩:=List.getElem?_of_mem hb;exact hm.boxsc i b hi)
 simp only [List.set_set,tq] at m1 m3;refine ⟨e2,B,V.set j ⟨v.live,v.T,v.k,v.ver+1,es'⟩,.own j (v.ver+1),q,rfl,⟨by simp,rfl,by simp⟩,by simpa using m1,?_,?_,?_⟩
 ·refine Ext.trans (e':=e') (w':=w') (n':=B.length) (vs':=vers V) (ks':=kss V) ⟨h2.ro,fun i hi=>h2.ρ i hi,fun i q hi hq=>h2.hdr i q hi hq,Nat.le_refl _,Nat.le_refl _,fun _ _=>Nat.le_refl _,fun _ _=>rfl,h2.sz,h2.snew,h2.be,h2.he,h2.ye⟩ ?_
  rw [Bw] at m3;simpa using m3
 ·obtain ⟨a1,a2⟩:=h3
  exact ⟨by rw [m2,a1],a2⟩
 ·refine ⟨by simpa using hj,?_⟩
  simp [List.getD,hj]
end
end Go.Sx
namespace Go
open Go.Conc
abbrev eW (n:Nat):Obj:=.cells #[] n (0,0)
structure Vw (Hd:Nat->Prop) (c n:Nat) (w v:World):Prop where
 size:v.heap.size=w.heap.size
 drawn:v.drawn=w.drawn
 tape:v.tape=w.tape
 os:v.os=w.os
 output:v.output=w.output
 ch:v.heap[c]? = some (eW n)
 hid:∀ b,b<w.heap.size->Hd b->v.heap[b]? = some (eW 0)
 eq:∀ b,¬Hd b->b≠c->v.heap[b]? = w.heap[b]?
 nov:∀ b o,¬Hd b->b≠c->w.heap[b]? = some o->o.isView=false
 lt:∀ b,Hd b->b<w.heap.size
 nc:¬Hd c
variable {Hd:Nat->Prop} {w:World}
theorem Vw.see {c n:Nat} {v:World} (h:Vw Hd c n w v) {b:Nat} {o:Obj} (ho:v.heap[b]? = some o) (hn:∀ k,o≠eW k):¬Hd b/\b≠c/\w.heap[b]? = some o:=by
 have an:b<w.heap.size:=by rw [<- h.size];grind
 have h1:b≠c:=by rintro rfl;rw [h.ch] at ho;grind
 have h2:¬Hd b:=fun hh=>by rw [h.hid b an hh] at ho;grind
 exact ⟨h2,h1,by rw [<- h.eq b h2 h1];exact ho⟩
theorem Vw.turn {c n:Nat} {v:World} (h:Vw Hd c n w v) {b:Nat} (hb:¬Hd b) (hc:b≠c) {w' v':World} {o:Obj} (ho:o.isView=false) (h1:w'.heap=w.heap.setIfInBounds b o) (h2:v'.heap=v.heap.setIfInBounds b o)
  (hw:w'.drawn=w.drawn/\w'.tape=w.tape/\w'.os=w.os/\w'.output=w.output) (hv:v'.drawn=v.drawn/\v'.tape=v.tape/\v'.os=v.os/\v'.output=v.output):Vw Hd c n w' v':=by
 refine ⟨by rw [h1,h2];simp [h.size],by rw [hv.1,hw.1,h.drawn],by rw [hv.2.1,hw.2.1,h.tape],by rw [hv.2.2.1,hw.2.2.1,h.os],by rw [hv.2.2.2,hw.2.2.2,h.output],?_,fun a ha hh=>?_,fun a hh Ew=>?_,fun a o' hh Ew rm=>?_,fun a hh=>by rw [h1];simp;exact h.lt a hh,h.nc⟩
 ·rw [h2,Array.getElem?_setIfInBounds_ne hc];exact h.ch
 ·rw [h1] at ha
  simp at ha;have:b≠a:=fun e=>hb (e▸hh)
  rw [h2,Array.getElem?_setIfInBounds_ne this];exact h.hid a ha hh
 ·rw [h1,h2]
  by_cases e:b=a
  ·have:=h.size
   grind
  ·rw [Array.getElem?_setIfInBounds_ne e,Array.getElem?_setIfInBounds_ne e]
   exact h.eq a hh Ew
 ·rw [h1] at rm
  by_cases e:b=a
  ·grind
  ·rw [Array.getElem?_setIfInBounds_ne e] at rm
   exact h.nov a o' hh Ew rm
theorem sE {a:Addr} {v:Value} {cs:Array Value} {T:TypeId} {fz:Nat×Nat} (h:w.heap[a.block]? = some (.cells cs T fz)) :
  (w.setCell a v).heap=w.heap.setIfInBounds a.block (.cells (if a.spot.isSome then cs else cs.setIfInBounds a.off v) T fz):=by
 grind [World.setCell]
theorem FU {P:Program} {α:Type} (s:Sem α):∀ {Hd:Nat->Prop} {c n:Nat} {w v v':World} {a:α} {acc:Array Event},s.calm P->Vw Hd c n w v->s.run P v=.ok a v' ->
  ∃ w',s.run P w=.ok a w'/\Vw Hd c n w' v'/\w.heap.size<=w'.heap.size/\(∀ b,Hd b\/b=c->w'.heap[b]? = w.heap[b]?/\v'.heap[b]? = v.heap[b]?) /\
   ∀ e∈(s.runT P w acc).2,e∈acc\/EvIn (fun b=>b<w'.heap.size/\¬Hd b/\b≠c) e:=by
 induction s with
 | pure a =>
  simp_all
 | halt h=>simp
 | load m a k ih =>
  intro Hd c n w v v' b acc h hv hr;simp only [Sem.run,Sem.runT] at hr ⊢;split at hr
  ·rename_i x hx
   obtain ⟨cs,T,fz,bc,gk,jq⟩:∃ cs T fz,v.heap[a.block]? = some (.cells cs T fz)/\cs[a.off]? = some x/\a.spot.isSome=false:=by
    unfold World.cell? at hx;grind
   obtain ⟨g1,g2,g3⟩:=hv.see bc (by grind)
   have Ex:w.cell? a=some x:=by grind [World.cell?]
   rw [Ex];obtain ⟨w',q1,q2,q3,q4,q5⟩:=ih x (acc:=acc.push ⟨.cell a,false,m == .atomic⟩) (h x) hv hr;refine ⟨w',q1,q2,q3,q4,fun e he=>?_⟩
   rcases q5 e he with h3 | h3
   ·rcases Array.mem_push.1 h3 with h3 | rfl
    ·grind
    ·exact .inr ⟨Nat.lt_of_lt_of_le (Array.getElem?_eq_some_iff.1 g3).1 q3,g1,g2⟩
   grind
  ·split at hr
   ·rename_i x l hf
    unfold World.farLoad at hf;split at hf
    ·rename_i at_ u hu
     obtain ⟨g1,g2,g3⟩:=hv.see hu (by simp)
     exact absurd (hv.nov _ _ g1 g2 g3) (by simp [Obj.isView])
    grind
   grind
 | store m a x k ih =>
  intro Hd c n w v v' b acc h hv hr
  have main:∀ (u:Value),v.cell? a=some u->v.frozen? a=false->k.run P (v.setCell a x)=.ok b v' ->
    w.cell? a=some u/\w.frozen? a=false/\∃ w',k.run P (w.setCell a x)=.ok b w'/\Vw Hd c n w' v'/\w.heap.size<=w'.heap.size/\(∀ b,Hd b\/b=c->w'.heap[b]? = w.heap[b]?/\v'.heap[b]? = v.heap[b]?) /\
    ∀ e∈(k.runT P (w.setCell a x) (acc.push ⟨.cell a,true,m == .atomic⟩)).2,e∈acc\/EvIn (fun b=>b<w'.heap.size/\¬Hd b/\b≠c) e:=by
   intro u hu hf hr
   obtain ⟨cs,T,fz,bc,gk,jq⟩:∃ cs T fz,v.heap[a.block]? = some (.cells cs T fz)/\cs[a.off]? = some u/\a.spot.isSome=false:=by
    unfold World.cell? at hu;grind
   obtain ⟨g1,g2,g3⟩:=hv.see bc (by grind)
   have Ex:w.cell? a=some u:=by grind [World.cell?]
   have Ku:w.frozen? a=false:=by grind [World.frozen?]
   have jm:Vw Hd c n (w.setCell a x) (v.setCell a x):=hv.turn g1 g2 (o:=.cells (if a.spot.isSome then cs else cs.setIfInBounds a.off x) T fz) rfl (sE g3) (sE bc) ⟨rfl,rfl,rfl,rfl⟩ ⟨rfl,rfl,rfl,rfl⟩
   obtain ⟨w',q1,q2,q3,q4,q5⟩:=ih (acc:=acc.push ⟨.cell a,true,m == .atomic⟩) h jm hr;rw [World.size_setCell] at q3;refine ⟨Ex,Ku,w',q1,q2,q3,fun b hb=>?_,fun e he=>?_⟩
   ·grind [sE,Array.getElem?_setIfInBounds_ne]
   ·rcases q5 e he with h3 | h3
    ·rcases Array.mem_push.1 h3 with h3 | rfl
     ·exact .inl h3
     ·exact .inr ⟨Nat.lt_of_lt_of_le (Array.getElem?_eq_some_iff.1 g3).1 q3,g1,g2⟩
    ·exact .inr h3
  have far:∀ (y:World×List Addr),v.farStore P a x (m == .atomic)≠.ok y:=by
   intro y hf;unfold World.farStore at hf;split at hf
   ·rename_i at_ u hu
    obtain ⟨g1,g2,g3⟩:=hv.see hu (by simp)
    exact absurd (hv.nov _ _ g1 g2 g3) (by simp [Obj.isView])
   ·cases hf
  cases x <;> simp only [Sem.run,Sem.runT,reduceCtorEq] at hr ⊢ <;>
  ·split at hr
   ·rename_i u hu
    split at hr
    ·cases hr
    ·rename_i hf
     obtain ⟨p1,p2,w',p3⟩:=main u hu (by simpa using hf) hr
     refine ⟨w',?_⟩;simp only [p1,p2,Bool.false_eq_true,if_false];exact p3
   ·split at hr
    ·rename_i y hf
     exact absurd hf (far _)
    ·cases hr
 | new o k ih =>
  intro Hd c n w v v' a acc h hv hr;simp only [Sem.run,Sem.runT] at hr ⊢;rcases h with h | h
  ·have an:∀ b,Hd b->b<w.heap.size:=hv.lt
   have bw:c<w.heap.size:=by rw [<- hv.size];exact (Array.getElem?_eq_some_iff.1 hv.ch).1
   have jm:Vw Hd c n { w with heap:=w.heap.push o } { v with heap:=v.heap.push o }:=by
    have hs:=hv.size;refine ⟨by simp [hs],hv.drawn,hv.tape,hv.os,hv.output,?_,fun b _ hb=>?_,fun b hb hc=>?_,fun b o' hb hc rm=>?_,fun b hb=>by have:=an b hb;simp;omega,hv.nc⟩
    ·rw [Array.getElem?_push,if_neg (by omega)];exact hv.ch
    ·have:=an b hb
     rw [Array.getElem?_push,if_neg (by omega)];exact hv.hid b this hb
    ·simp only [Array.getElem?_push,hs]
     split
     ·rfl
     ·exact hv.eq b hb hc
    ·simp only [Array.getElem?_push] at rm
     split at rm
     ·rw [<- Option.some.inj rm];exact h.1
     ·exact hv.nov b o' hb hc rm
   rw [hv.size] at hr;obtain ⟨w',q1,q2,q3,q4,q5⟩:=ih _ (acc:=acc) (h.2 _) jm hr;simp only [Array.size_push] at q3;refine ⟨w',q1,q2,by omega,fun b hb=>?_,q5⟩
   have cd:b<w.heap.size:=hb.elim (an b) fun e=>e▸bw
   have hs:=hv.size;obtain ⟨z1,z2⟩:=q4 b hb;rw [z1,z2];simp only [Array.getElem?_push];rw [if_neg (by omega),if_neg (by omega)]
   exact ⟨rfl,rfl⟩
  ·exact absurd hr (Sem.dead_run _ (h _))
 | shape r k ih=>intro Hd c n w v v' a acc h hv hr;exact absurd hr (Sem.dead_run (.shape r k) h)
 | freeze a n k ih=>intro Hd c n w v v' b acc h hv hr;exact absurd hr (Sem.dead_run (.freeze a _ k) h)
 | frozen a k ih=>intro Hd c n w v v' b acc h hv hr;exact absurd hr (Sem.dead_run (.frozen a k) h)
 | getObj r k ih =>
  intro Hd c n w v v' a acc h hv hr;simp only [Sem.run,Sem.runT] at hr ⊢;split at hr
  ·cases hr
  ·rename_i o bY ho
   obtain ⟨g1,g2,g3⟩:=hv.see ho (fun k hk=>bY _ _ _ hk)
   obtain ⟨w',q1,q2,q3,q4,q5⟩:=ih o (acc:=acc.push ⟨.obj r,false,o.isChan⟩) (h o) hv hr;refine ⟨w',?_,q2,q3,q4,fun e he=>?_⟩
   ·rw [g3]
    cases o <;> first | exact q1 | exact absurd rfl (bY _ _ _)
   ·rw [g3] at he
    have ga:e∈((k o).runT P w (acc.push ⟨.obj r,false,o.isChan⟩)).2:=by
     cases o <;> first | exact he | exact absurd rfl (bY _ _ _)
    rcases q5 e ga with h3 | h3
    ·rcases Array.mem_push.1 h3 with h3 | rfl
     ·exact .inl h3
     ·exact .inr ⟨Nat.lt_of_lt_of_le (Array.getElem?_eq_some_iff.1 g3).1 q3,g1,g2⟩
    ·exact .inr h3
  ·cases hr
 | setObj r o k ih =>
  intro Hd c n w v v' a acc h hv hr;simp only [Sem.run,Sem.runT] at hr ⊢;split at hr
  ·cases hr
  ·rename_i o' bY ho
   obtain ⟨g1,g2,g3⟩:=hv.see ho (fun k hk=>bY _ _ _ hk)
   rcases h with h | h
   ·have jm:Vw Hd c n { w with heap:=w.heap.setIfInBounds r o } { v with heap:=v.heap.setIfInBounds r o }:=hv.turn g1 g2 h.1 rfl rfl ⟨rfl,rfl,rfl,rfl⟩ ⟨rfl,rfl,rfl,rfl⟩
    obtain ⟨w',q1,q2,q3,q4,q5⟩:=ih (acc:=acc.push ⟨.obj r,true,o.isChan⟩) h.2 jm hr;simp only [Array.size_setIfInBounds] at q3;refine ⟨w',?_,q2,q3,fun b hb=>?_,fun e he=>?_⟩
    ·rw [g3]
     cases o' <;> first | exact q1 | exact absurd rfl (bY _ _ _)
    ·have bY:r≠b:=by rintro rfl;exact hb.elim g1 g2
     obtain ⟨z1,z2⟩:=q4 b hb;rw [z1,z2];simp only [Array.getElem?_setIfInBounds_ne bY];exact ⟨trivial,trivial⟩
    ·rw [g3] at he
     have ga:e∈(k.runT P { w with heap:=w.heap.setIfInBounds r o } (acc.push ⟨.obj r,true,o.isChan⟩)).2:=by
      cases o' <;> first | exact he | exact absurd rfl (bY _ _ _)
     rcases q5 e ga with h3 | h3
     ·rcases Array.mem_push.1 h3 with h3 | rfl
      ·exact .inl h3
      ·exact .inr ⟨Nat.lt_of_lt_of_le (Array.getElem?_eq_some_iff.1 g3).1 q3,g1,g2⟩
     ·exact .inr h3
   ·exact absurd hr (Sem.dead_run _ h)
  ·cases hr
 | choose q k ih =>
  intro Hd c n w v v' a acc h hv hr;simp only [Sem.run,Sem.runT] at hr ⊢;split at hr
  ·rename_i hq
   rw [if_pos hq,if_pos hq];exact ih _ (h _) hv hr
  ·rename_i hq
   rw [if_neg hq,if_neg hq];have jm:Vw Hd c n { w with drawn:=w.drawn+1 } { v with drawn:=v.drawn+1 }:=⟨hv.size,congrArg (·+1) hv.drawn,hv.tape,hv.os,hv.output,hv.ch,hv.hid,hv.eq,hv.nov,hv.lt,hv.nc⟩
   have e:q.cut (v.tape v.drawn q)=q.cut (w.tape w.drawn q):=by rw [hv.tape,hv.drawn]
   rw [e] at hr;exact @ih _ Hd c n { w with drawn:=w.drawn+1 } { v with drawn:=v.drawn+1 } v' a acc (h _) jm hr
 | sys c k ih=>intro Hd c' n w v v' a acc h hv hr;exact absurd hr (Sem.dead_run (.sys c k) h)
 | program k ih=>intro Hd c n w v v' a acc h hv hr;exact ih _ h hv hr
 | mark m k ih =>
  intro Hd c n w v v' a acc h hv hr;simp only [Sem.run,Sem.runT] at hr ⊢;rcases h with h | h
  ·obtain ⟨w',q1,q2,q3,q4,q5⟩:=ih (acc:=acc.push ⟨.mark m,false,true⟩) h.2 hv hr
   refine ⟨w',q1,q2,q3,q4,fun e he=>?_⟩
   rcases q5 e he with h3 | h3
   ·rcases Array.mem_push.1 h3 with h3 | rfl
    ·exact .inl h3
    ·exact .inr h.1
   ·exact .inr h3
  ·exact absurd hr (Sem.dead_run _ h)
end Go
namespace Go
open Go.Conc
inductive Tree (P:Program) (main:Bool) (c:Nat) (tot:List Value) (S:Goroutine->World->Prop):Goroutine->World->Prop
 | stop {g:Goroutine} {v:World} (h:∀ v₁,Rely v v₁->S g v₁):Tree P main c tot S g v
 | sem {α:Type} (s:Sem α) (k:α->Option Goroutine) (T:Goroutine->World->Prop) {fr:Frame} {cs:List Frame} {v:World} (hc:s.calm P)
   (hs:∀ w₁ a w' g',k a=some g'->s.run P w₁=.ok a w'->∃ es,stepG P main (Conc.G fr cs) w₁=.go g' w' es/\∀ e∈es,e∈s.events P w₁ #[])
   (h:∀ v₁,Rely v v₁->∃ a v' g',s.run P v₁=.ok a v'/\k a=some g'/\T g' v') (ht:∀ g' v',T g' v'->Tree P main c tot S g' v'):Tree P main c tot S (Conc.G fr cs) v
 | send (x:Value) (n:Nat) {fr:Frame} {cs:List Frame} {v:World} (hm:main=false) (hn:v.heap[c]? = some (eW n)) (hx:tot[n]? = some x)
   (hs:∀ w₁,stepG P main (Conc.G fr cs) w₁=.comm (Conc.G fr cs) #[scase c x (.tuple #[])] true .send w₁ #[])
   (h:∀ v₁,Rely v v₁->Tree P main c tot S (Conc.G (fr.finish undef) cs) (v₁.putObj c (eW (n+1)))):Tree P main c tot S (Conc.G fr cs) v
 | recv (x z:Value) (n:Nat) {fr:Frame} {cs:List Frame} {v:World} (hm:main=true) (hn:v.heap[c]? = some (eW n)) (hx:tot[n]? = some x)
   (hs:∀ w₁,stepG P main (Conc.G fr cs) w₁=.comm (Conc.G fr cs) #[rcase c z] true (.recv true) w₁ #[])
   (h:∀ v₁,Rely v v₁->Tree P main c tot S (Conc.G (fr.finish (.tuple #[x,.bool true])) cs) (v₁.putObj c (eW (n+1)))):Tree P main c tot S (Conc.G fr cs) v
section
variable {P:Program} {main:Bool} {c:Nat} {tot:List Value}
theorem Rely.chan {v v₁:World} (h:Rely v v₁) {c:Nat} {o:Obj} (hc:v.heap[c]? = some o):v₁.heap[c]? = some o:=
 (h.block c (Array.getElem?_eq_some_iff.1 hc).1).trans hc
theorem Tree.rely {S:Goroutine->World->Prop} {g:Goroutine} {v v₁:World} (h:Tree P main c tot S g v) (hv:Rely v v₁):Tree P main c tot S g v₁:=by
 cases h with
 | stop h=>exact .stop fun v₂ h2=>h v₂ (Co.aIL hv h2)
 | sem s k T hc hs h ht=>exact .sem s k T hc hs (fun v₂ h2=>h v₂ (Co.aIL hv h2)) ht
 | send x n hm hn hx hs h=>exact .send x n hm (Rely.chan hv hn) hx hs fun v₂ h2=>h v₂ (Co.aIL hv h2)
 | recv x z n hm hn hx hs h=>exact .recv x z n hm (Rely.chan hv hn) hx hs fun v₂ h2=>h v₂ (Co.aIL hv h2)
end
def aG1 (main:Bool) (c:Nat) (tot:List Value) (cases:Array CommCase) (bl:Bool) (sh:CommShape) (v:World) (R:Value->World->Prop):Prop:=
 (∃ x n,main=false/\bl=true/\sh=.send/\cases=#[scase c x (.tuple #[])]/\v.heap[c]? = some (eW n)/\tot[n]? = some x/\∀ v₁,Rely v v₁->R undef (v₁.putObj c (eW (n+1)))) \/
 ∃ x z n,main=true/\bl=true/\sh=.recv true/\cases=#[rcase c z]/\v.heap[c]? = some (eW n)/\tot[n]? = some x/\∀ v₁,Rely v v₁->R (.tuple #[x,.bool true]) (v₁.putObj c (eW (n+1)))
@[reducible] def jH (P:Program) (main:Bool) (c:Nat) (tot:List Value):Co P where
  main:=main
  Go:=Tree P main c tot
  stop:=.stop
  rely:=fun h hw=>h.rely hw
  sem:=fun s k S fr cs w hc hs h=>.sem s k (Tree P main c tot S) hc hs h fun _ _ ht=>ht
  comm:=aG1 main c tot
  comm_mono:=by
   rintro cases bl sh w R R' (⟨x,n,h1,h2,h3,h4,h5,h6,h7⟩ | ⟨x,z,n,h1,h2,h3,h4,h5,h6,h7⟩) h
   ·exact .inl ⟨x,n,h1,h2,h3,h4,h5,h6,fun v hv=>h _ _ (h7 v hv)⟩
   ·exact .inr ⟨x,z,n,h1,h2,h3,h4,h5,h6,fun v hv=>h _ _ (h7 v hv)⟩
  comm_rely:=by
   rintro cases bl sh w w₁ R (⟨x,n,h1,h2,h3,h4,h5,h6,h7⟩ | ⟨x,z,n,h1,h2,h3,h4,h5,h6,h7⟩) h
   ·exact .inl ⟨x,n,h1,h2,h3,h4,Rely.chan h h5,h6,fun v hv=>h7 v (Co.aIL h hv)⟩
   ·exact .inr ⟨x,z,n,h1,h2,h3,h4,Rely.chan h h5,h6,fun v hv=>h7 v (Co.aIL h hv)⟩
  commG:=by
   rintro S fr cs w cases bl sh R (⟨x,n,h1,rfl,rfl,rfl,h5,h6,h7⟩ | ⟨x,z,n,h1,rfl,rfl,rfl,h5,h6,h7⟩) hs h
   ·exact .send x n h1 h5 h6 hs fun v hv=>h _ _ (h7 v hv)
   ·exact .recv x z n h1 h5 h6 hs fun v hv=>h _ _ (h7 v hv)
end Go
namespace Go
open Go.Conc
def Loc.blk:Loc->Option Nat
 | .cell a=>some a.block
 | .obj r=>some r
 | _=>none
theorem aDR {l:Loc} (h:l.isMemory=true):∃ b,l.blk=some b:=by cases l <;> simp_all [Loc.isMemory,Loc.blk]
variable {a:Touch}
theorem aDS {B b:Nat} {x:MemAct} (hl:x.low B) (ht:x.touch? = some a) (hb:a.loc.blk=some b):b<B:=by
 cases x with
 | access e =>
  simp [MemAct.touch?] at ht;subst ht;obtain ⟨loc,wr,sy⟩:=e;cases loc <;> simp_all [Loc.blk,MemAct.low,Loc.low] <;> (subst hb;exact hl)
 | mark m=>cases m <;> simp_all [MemAct.touch?,MemAct.low] <;> (subst ht;simp [Loc.blk] at hb;subst hb;exact hl)
 | _=>simp [MemAct.touch?] at ht
variable {X:Nat->Prop} {e:Event}
theorem FV (h:EvIn X e) (ht:(MemAct.ofEvent e).touch? = some a):∃ b,a.loc.blk=some b/\X b:=by
 obtain ⟨loc,wr,sy⟩:=e;cases loc with
 | cell a=>simp [MemAct.ofEvent,MemAct.touch?] at ht;subst ht;exact ⟨_,rfl,h⟩
 | obj r=>cases wr <;> cases sy <;> simp [MemAct.ofEvent,MemAct.touch?] at ht <;> subst ht <;> exact ⟨_,rfl,h⟩
 | mark m=>grind [EvIn,MemAct.ofEvent,MemAct.touch?]
 | _=>exact h.elim
theorem QJ {B:Nat} (h:EvIn (fun b=>b<B) e):(MemAct.ofEvent e).low B:=(TJ h).2.2.2
theorem xX (h:EvIn X e):e.loc≠.mark .disable/\e.loc≠.mark .enable:=by
 grind [EvIn]
theorem Deaf_quiet (t u:Trace) (g:Nat) (h:∀ op∈u,op.act≠.mark .disable/\op.act≠.mark .enable):Deaf (t++u) g=Deaf t g:=by
 have e:t++u=t++u.toList.toArray:=by simp
 rw [e,Deaf_append]
 have:∀ (l:List MemOp) (d:Nat),(∀ op∈l,op.act≠.mark .disable/\op.act≠.mark .enable)->l.foldl (deafStep g) d=d:=by
  intro l
  induction l with
  | nil=>simp
  | cons y l ih =>
   intro d hl;obtain ⟨h1,h2⟩:=hl y (by simp)
   have:deafStep g d y=d:=by
    unfold deafStep;simp
   grind
 grind
theorem lW {said:Bool} {t u:Trace} (h:¬Race said t) (hu:∀ op∈u,op.act.touch? = none):¬Race said (t++u):=by
 rintro ⟨i,j,d8,⟨a,b,ha,hb,hc⟩,n1,n2⟩;obtain ⟨y,hy,N3⟩:=touch_of hb;rcases getElem?_append_cases hy with ⟨hj,jy⟩ | ⟨hj,N4⟩
 ·exact h ⟨i,j,d8,⟨a,b,by grind [Trace.act?],by grind [Trace.act?],hc⟩,fun e=>n1 (hb_app u e),fun e=>n2 (hb_app u e)⟩
 grind
structure TrA (Mn:Nat->Prop) (k B:Nat) (t:Trace):Prop where
 clean:∀ said,¬Race said t
 kn:∀ i a b,touchAt t i=some a->a.loc.blk=some b->(Mn b->Knows t 0 i)/\(¬Mn b->Knows t k i)
 h0:Deaf t 0=0
 hk:Deaf t k=0
 seen:∀ op∈t,op.act.low B
theorem wB {B:Nat} {t:Trace} (h:∀ op∈t,op.act.low B) {i b:Nat} (ha:touchAt t i=some a) (hb:a.loc.blk=some b):b<B:=by
 obtain ⟨x,hx,pw⟩:=touch_of ha;exact aDS (h x (mem_of_getElem? hx)) pw hb
section
variable {Mn Mn':Nat->Prop} {k B B':Nat} {t:Trace}
variable {X:Nat->Prop} {fn:FuncId} {pos:String} {es:Array Event}
theorem TrA.own (h:TrA Mn k B t) (hB:B<=B') (hM:∀ b,b<B->(Mn' b↔Mn b)) {g:Nat} (hg:(g=0/\∀ b,X b->Mn' b)\/(g=k/\k≠0/\∀ b,X b->¬Mn' b))
  (b8:∀ e∈es,EvIn (fun b=>b<B'/\X b) e):TrA Mn' k B' (t++MemOp.ofEvents g fn pos es):=by
 have hX:∀ op∈MemOp.ofEvents g fn pos es,∀ a,op.act.touch? = some a->∃ b,a.loc.blk=some b/\b<B'/\X b:=by
  intro op aa a ha;obtain ⟨e,he,rfl⟩:=Conc.mem_ofEvents aa;exact FV (b8 e he) ha
 refine ⟨fun said=>noRace_append (h.clean said) (fun op aa=>pX aa) fun i a ha op aa x hx hc=>?_,fun i a b ha hb=>?_,?_,?_,fun op aa=>?_⟩
 ·obtain ⟨b,hb,_,Hv⟩:=hX op aa x hx
  rw [<- hc.1] at hb;have an:=wB h.seen ha hb;have:=h.kn i a b ha hb;grind
 ·obtain ⟨x,hx,pw⟩:=touch_of ha
  rcases getElem?_append_cases hx with ⟨hi,ap⟩ | ⟨_,z8⟩
  ·have qa:touchAt t i=some a:=by grind [touchAt_of]
   have an:=wB h.seen qa hb;obtain ⟨h1,h2⟩:=h.kn i a b qa hb;rw [<- hM b an] at h1 h2;exact ⟨fun hm=>(h1 hm).app _,fun hm=>(h2 hm).app _⟩
  ·have ho:=knows_own hx
   grind [pX]
 ·rw [Deaf_quiet _ _ _ fun op aa=>?_]
  ·exact h.h0
  ·obtain ⟨e,he,rfl⟩:=Conc.mem_ofEvents aa
   have:=xX (b8 e he);obtain ⟨loc,wr,sy⟩:=e;cases loc <;> cases wr <;> cases sy <;> simp_all [MemAct.ofEvent]
 ·rw [Deaf_quiet _ _ _ fun op aa=>?_]
  ·exact h.hk
  ·obtain ⟨e,he,rfl⟩:=Conc.mem_ofEvents aa
   have:=xX (b8 e he);obtain ⟨loc,wr,sy⟩:=e;cases loc <;> cases wr <;> cases sy <;> simp_all [MemAct.ofEvent]
 ·rcases Array.mem_append.1 aa with aa | aa
  ·exact MemAct.low_mono hB (h.seen op aa)
  ·obtain ⟨e,he,rfl⟩:=Conc.mem_ofEvents aa
   exact QJ ((b8 e he).mono fun b hb=>hb.1)
theorem TrA.mute (h:TrA Mn k B t) {u:Trace} (hu:∀ op∈u,op.act.touch? = none) (Ey:Deaf (t++u) 0=Deaf t 0) (uw:Deaf (t++u) k=Deaf t k) (hl:∀ op∈u,op.act.low B):TrA Mn k B (t++u):=by
 refine ⟨fun said=>lW (h.clean said) hu,fun i a b ha hb=>?_,Ey.trans h.h0,uw.trans h.hk,seen_app h.seen hl⟩
 obtain ⟨x,hx,pw⟩:=touch_of ha;rcases getElem?_append_cases hx with ⟨hi,ap⟩ | ⟨_,z8⟩
 ·obtain ⟨h1,h2⟩:=h.kn i a b (by grind [touchAt_of]) hb
  exact ⟨fun hm=>(h1 hm).app _,fun hm=>(h2 hm).app _⟩
 grind
structure TrB (Mn:Nat->Prop) (c pc B:Nat) (t:Trace):Prop where
 clean:∀ said,¬Race said t
 close:t.act? pc=some (.close c)/\t.heard pc
 kn:∀ i a b,touchAt t i=some a->a.loc.blk=some b->(Mn b->Knows t 0 i)/\(¬Mn b->Before t i pc)
 h0:Deaf t 0=0
 seen:∀ op∈t,op.act.low B
variable {c:Nat}
theorem TrA.shut (h:TrA Mn k B t) (hk:k≠0) (hc:c<B) (hm:¬Mn c) :
  TrB Mn c (t.size+1) B (t++MemOp.ofEvents k fn pos #[⟨.obj c,false,true⟩,⟨.obj c,true,true⟩]):=by
 have h1:=h.own (Nat.le_refl _) (fun b _=>Iff.rfl) (g:=k) (X:=fun b=>b=c) (.inr ⟨rfl,hk,fun b hb=>hb▸hm⟩) (fn:=fn) (pos:=pos) (es:=#[⟨.obj c,false,true⟩]) (by
  intro e he;simp at he;subst he;exact ⟨hc,rfl⟩)
 have e:t++MemOp.ofEvents k fn pos #[⟨.obj c,false,true⟩,⟨.obj c,true,true⟩]=(t++MemOp.ofEvents k fn pos #[⟨.obj c,false,true⟩])++#[{ g:=k,fn,pos,act:=.close c }]:=by
  grind [MemOp.ofEvents,MemAct.ofEvent]
 rw [e];generalize ht:t++MemOp.ofEvents k fn pos #[⟨.obj c,false,true⟩]=t1 at h1 ⊢;have hs:t1.size=t.size+1:=by rw [<- ht];simp [MemOp.ofEvents]
 rw [<- hs];have hy:(t1++#[({ g:=k,fn,pos,act:=.close c }:MemOp)])[t1.size]? = some { g:=k,fn,pos,act:=.close c }:=by simp
 refine ⟨fun said=>lW (h1.clean said) (by simp [MemAct.touch?]),⟨by rw [act?_of hy],⟨k,by simp [Trace.g?],by rw [deaf_old (Nat.le_refl _)];exact h1.hk⟩⟩,fun i a b ha hb=>?_,?_,seen_app h1.seen (by grind [MemAct.low])⟩
 ·obtain ⟨x,hx,pw⟩:=touch_of ha
  rcases getElem?_append_cases hx with ⟨hi,ap⟩ | ⟨_,z8⟩
  ·obtain ⟨h2,h3⟩:=h1.kn i a b (by grind [touchAt_of]) hb
   exact ⟨fun hm=>(h2 hm).app _,fun hm=>.inr ((h3 hm).hb_new (Nat.le_refl _) hy rfl)⟩
  simp_all [MemAct.touch?]
 ·rw [Deaf_quiet _ _ _ (by simp)];exact h1.h0
variable {pc:Nat}
theorem TrB.own0 (h:TrB Mn c pc B t) (hB:B<=B') (hM:∀ b,b<B->(Mn' b↔Mn b)) (hg:∀ b,X b->Mn' b)
  (b8:∀ e∈es,EvIn (fun b=>b<B'/\X b) e):TrB Mn' c pc B' (t++MemOp.ofEvents 0 fn pos es):=by
 have hX:∀ op∈MemOp.ofEvents 0 fn pos es,∀ a,op.act.touch? = some a->∃ b,a.loc.blk=some b/\b<B'/\X b:=by
  intro op aa a ha;obtain ⟨e,he,rfl⟩:=Conc.mem_ofEvents aa;exact FV (b8 e he) ha
 have tt:=lt_of_act? h.close.1;refine ⟨fun said=>noRace_append (h.clean said) (fun op aa=>pX aa) fun i a ha op aa x hx hc=>?_,⟨by rw [act?_old tt];exact h.close.1,(heard_old tt).2 h.close.2⟩,fun i a b ha hb=>?_,?_,fun op aa=>?_⟩
 ·obtain ⟨b,hb,_,Hv⟩:=hX op aa x hx
  rw [<- hc.1] at hb;have an:=wB h.seen ha hb;exact (h.kn i a b ha hb).1 ((hM b an).1 (hg b Hv))
 ·obtain ⟨x,hx,pw⟩:=touch_of ha
  rcases getElem?_append_cases hx with ⟨hi,ap⟩ | ⟨_,z8⟩
  ·have qa:touchAt t i=some a:=by grind [touchAt_of]
   have an:=wB h.seen qa hb;obtain ⟨h1,h2⟩:=h.kn i a b qa hb;rw [<- hM b an] at h1 h2;exact ⟨fun hm=>(h1 hm).app _,fun hm=>(h2 hm).app _⟩
  ·have ho:=knows_own hx
   grind [pX]
 ·rw [Deaf_quiet _ _ _ fun op aa=>?_]
  ·exact h.h0
  ·obtain ⟨e,he,rfl⟩:=Conc.mem_ofEvents aa
   have:=xX (b8 e he);obtain ⟨loc,wr,sy⟩:=e;cases loc <;> cases wr <;> cases sy <;> simp_all [MemAct.ofEvent]
 ·rcases Array.mem_append.1 aa with aa | aa
  ·exact MemAct.low_mono hB (h.seen op aa)
  ·obtain ⟨e,he,rfl⟩:=Conc.mem_ofEvents aa
   exact QJ ((b8 e he).mono fun b hb=>hb.1)
theorem TrB.mute (h:TrB Mn c pc B t) {u:Trace} (hu:∀ op∈u,op.act.touch? = none) (Ey:Deaf (t++u) 0=Deaf t 0) (hl:∀ op∈u,op.act.low B):TrB Mn c pc B (t++u):=by
 have tt:=lt_of_act? h.close.1;refine ⟨fun said=>lW (h.clean said) hu,⟨by rw [act?_old tt];exact h.close.1,(heard_old tt).2 h.close.2⟩,fun i a b ha hb=>?_,Ey.trans h.h0,seen_app h.seen hl⟩
 obtain ⟨x,hx,pw⟩:=touch_of ha;rcases getElem?_append_cases hx with ⟨hi,ap⟩ | ⟨_,z8⟩
 ·obtain ⟨h1,h2⟩:=h.kn i a b (by grind [touchAt_of]) hb
  exact ⟨fun hm=>(h1 hm).app _,fun hm=>(h2 hm).app _⟩
 grind
theorem HW {t:Trace} (h:∀ i a,touchAt t i=some a->a.loc.isMemory=true->Knows t 0 i):t.HandedOver:=by
 intro i g hg bY ⟨x,hx,hm,_⟩;obtain ⟨q,z,h1,h2,h3⟩:=h i x hx hm;refine ⟨q,by grind [Trace.g?],?_⟩
 rcases h3 with rfl | h3
 ·grind [Trace.g?]
 omega
theorem TrB.seenClosed (h:TrB Mn c pc B t) (hc:c<B) {fn:FuncId} {pos:String}:Past pW B (t++#[{ g:=0,fn,pos,act:=.recvClosed c }]):=by
 have tt:=lt_of_act? h.close.1;have hy:(t++#[({ g:=0,fn,pos,act:=.recvClosed c }:MemOp)])[t.size]? = some { g:=0,fn,pos,act:=.recvClosed c }:=by simp
 have vo:∀ i a,touchAt (t++#[({ g:=0,fn,pos,act:=.recvClosed c }:MemOp)]) i=some a->a.loc.isMemory=true->Knows (t++#[({ g:=0,fn,pos,act:=.recvClosed c }:MemOp)]) 0 i:=by
  intro i a ha hm;obtain ⟨b,hb⟩:=aDR hm;obtain ⟨x,hx,pw⟩:=touch_of ha;rcases getElem?_append_cases hx with ⟨hi,ap⟩ | ⟨_,z8⟩
  ·obtain ⟨h1,h2⟩:=h.kn i a b (by grind [touchAt_of]) hb
   by_cases hM:Mn b
   ·exact (h1 hM).app _
   ·have edge:HappensBefore (t++#[({ g:=0,fn,pos,act:=.recvClosed c }:MemOp)]) pc t.size:=
     .single (.inr ⟨.closed (c:=c) (by rw [act?_old tt];exact h.close.1) (by rw [act?_of hy]),(heard_old tt).2 h.close.2,⟨0,by simp [Trace.g?],by rw [deaf_old (Nat.le_refl _)];exact h.h0⟩⟩)
    exact ⟨t.size,_,hy,rfl,.inr (((h2 hM).app _).hb edge)⟩
  grind [MemAct.touch?]
 refine ⟨fun said=>lW (h.clean said) (by simp [MemAct.touch?]),fun i a ha hm=>.inl (vo i a ha hm),HW vo,?_,seen_app h.seen (by grind [MemAct.low])⟩
 rw [Deaf_quiet _ _ _ (by simp)];exact h.h0
end
end Go
namespace Go
open Go.Conc
open Go.ConcN (sumTo upd sumTo_upd upd_ne upd_same)
variable {w:World}
theorem ZG {P:Program} {w':World} {a:Addr} {u:Value} {m:Bool} {l:List Addr} (h:w.farStore P a u m=.ok (w',l)):w'.os=w.os/\w'.tape=w.tape/\w'.output=w.output:=by
 unfold World.farStore at h;split at h
 ·split at h
  ·rename_i r hr
   cases h;simp only [World.viewStore,bind,Except.bind] at hr;split at hr
   ·cases hr
   ·split at hr
    ·cases hr
    ·split at hr
     ·split at hr
      ·cases hr
      ·split at hr
       ·cases hr
       ·obtain ⟨rfl,rfl⟩:=hr
        simp
     ·cases hr
  grind
 grind
theorem BF {P:Program} {α:Type} (s:Sem α):∀ {w w':World} {a:α},s.calm P->s.run P w=.ok a w'->w'.os=w.os/\w'.tape=w.tape/\w'.output=w.output:=by
 induction s with
 | pure a=>simp
 | halt h=>simp
 | load m a k ih =>
  intro w w' b h hr;simp [Sem.run] at hr;split at hr
  ·exact ih _ (h _) hr
  ·split at hr
   ·exact ih _ (h _) hr
   grind
 | store m a v k ih =>
  intro w w' b h hr;cases v <;> simp only [Sem.run,reduceCtorEq] at hr <;>
  ·split at hr
   ·split at hr
    ·cases hr
    ·exact ih (w:=w.setCell a _) h hr
   ·split at hr
    ·rename_i w2 l hf
     obtain ⟨h1,h2,h3⟩:=ZG hf;obtain ⟨h4,h5,h6⟩:=ih h hr;exact ⟨h4.trans h1,h5.trans h2,h6.trans h3⟩
    ·cases hr
 | new o k ih =>
  intro w w' a h hr;rcases h with h | h
  ·exact @ih _ { w with heap:=w.heap.push o } w' a (h.2 _) hr
  ·simp [Sem.run] at hr
   exact absurd hr (Sem.dead_run _ (h _))
 | shape r k ih=>intro w w' a h hr;exact absurd hr (Sem.dead_run (.shape r k) h)
 | freeze a n k ih=>intro w w' b h hr;exact absurd hr (Sem.dead_run (.freeze a _ k) h)
 | frozen a k ih=>intro w w' b h hr;exact absurd hr (Sem.dead_run (.frozen a k) h)
 | getObj r k ih =>
  intro w w' a h hr;simp [Sem.run] at hr;split at hr
  ·cases hr
  ·exact ih _ (h _) hr
  grind
 | setObj r o k ih =>
  intro w w' a h hr;simp [Sem.run] at hr;split at hr
  ·cases hr
  ·rcases h with h | h
   ·grind
   ·exact absurd hr (Sem.dead_run _ h)
  grind
 | choose q k ih =>
  intro w w' a h hr;simp [Sem.run] at hr;split at hr
  ·exact ih _ (h _) hr
  ·exact @ih _ { w with drawn:=w.drawn+1 } w' a (h _) hr
 | sys c k ih=>intro w w' a h hr;exact absurd hr (Sem.dead_run (.sys c k) h)
 | program k ih=>intro w w' a h hr;exact ih _ h hr
 | mark m k ih =>
  intro w w' a h hr;rcases h with h | h
  ·exact ih h.2 hr
  ·exact absurd hr (Sem.dead_run _ h)
variable {Hd:Nat->Prop} {v:World}
theorem Vw.congr {Hd':Nat->Prop} {c n:Nat} (h:Vw Hd c n w v) (e:∀ b,Hd b↔Hd' b):Vw Hd' c n w v:=by
 have:Hd=Hd':=funext fun b=>propext (e b)
 grind
open Classical in
theorem Vw.make {c:Nat} (n:Nat) (hc:c<w.heap.size) (an:∀ b,Hd b->b<w.heap.size) (Gr:¬Hd c) (qu:∀ b o,¬Hd b->b≠c->w.heap[b]? = some o->o.isView=false):∃ v,Vw Hd c n w v:=by
 refine ⟨{ w with heap:=w.heap.mapIdx fun b o=>if b=c then eW n else if Hd b then eW 0 else o },by simp,rfl,rfl,rfl,rfl,?_,fun b hb hh=>?_,fun b hh dz=>?_,qu,an,Gr⟩
 ·grind
 ·grind
 grind
theorem Vw.at {Hd:Nat->Prop} {c n:Nat} {w v:World} (h:Vw Hd c n w v) (d:Nat):Vw Hd c n (w.at d) (v.at d):=
 ⟨h.size,rfl,h.tape,h.os,h.output,h.ch,h.hid,h.eq,h.nov,h.lt,h.nc⟩
theorem Vw.meet {c n m:Nat} (h:Vw Hd c n w v) (o:Obj):Vw Hd c m { w with heap:=w.heap.setIfInBounds c o } (v.putObj c (eW m)):=by
 have hc:c<v.heap.size:=(Array.getElem?_eq_some_iff.1 h.ch).1;refine ⟨by simp [h.size],h.drawn,h.tape,h.os,h.output,World.putObj_heap_same hc,fun b hb hh=>?_,fun b hh dz=>?_,fun b o' hh dz ho=>?_,fun b hh=>by simp;exact h.lt b hh,h.nc⟩
 ·have:b≠c:=fun e=>h.nc (e▸hh)
  rw [World.putObj_heap_other this];simp at hb;exact h.hid b hb hh
 ·rw [World.putObj_heap_other dz]
  simp [Array.getElem?_setIfInBounds_ne (Ne.symm dz)];exact h.eq b hh dz
 ·simp [Array.getElem?_setIfInBounds_ne (Ne.symm dz)] at ho
  exact h.nov b o' hh dz ho
def Same (a g:Goroutine):Prop:=a.frame=g.frame/\a.callers=g.callers/\a.dying=g.dying
variable {g:Goroutine}
theorem Same.step {P:Program} {main:Bool} {a:Goroutine} (h:Same a g) (w:World):stepG P main a w=stepG P main g w:=stepG_same h.1 h.2.1 h.2.2 w
theorem Same.refl (g:Goroutine):Same g g:=⟨rfl,rfl,rfl⟩
def HdM (Mn:Nat->Prop) (c:Nat) (w:World):Nat->Prop:=fun b=>b<w.heap.size/\¬Mn b/\b≠c
def AtShut (P:Program) (c:Nat) (tot:List Value) (K:Frame->List Frame->Value->World->Prop) (g:Goroutine) (v:World):Prop:=
 ∃ fr cs z,g=Conc.G fr cs/\(∀ w,stepG P true (Conc.G fr cs) w=.comm (Conc.G fr cs) #[rcase c z] true (.recv true) w #[])/\v.heap[c]? = some (eW tot.length)/\K fr cs z v
def PhaseEnd (P:Program) (c:Nat) (w0:World) (K:Frame->List Frame->Value->World->Prop) (m:Machine) (t:Trace):Prop:=
 ∃ (N:Nat) (gs':Array Goroutine) (w':World) (sl':Option (Nat×Nat)) (t':Trace) (fr:Frame) (cs:List Frame) (z:Value) (v:World) (Mn:Nat->Prop),runNT P N m t=(.next (crowd gs' w' sl'),t') /\
  gs'[0]? = some (Conc.G (fr.finish (.tuple #[z,.bool false])) cs)/\K fr cs z v/\(∀ (b:Nat) (o:Obj),v.heap[b]? = some o->(∀ k,o≠eW k)->w'.heap[b]? = some o)/\(∀ b,b<w0.heap.size->b≠c->w'.heap[b]? = w0.heap[b]?) /\
  (w'.os=w0.os/\w'.tape=w0.tape/\w'.output=w0.output/\w0.heap.size<=w'.heap.size/\v.heap.size<=w'.heap.size)/\Beside P gs' t' w'
theorem PhaseEnd.step {P:Program} {c:Nat} {w0:World} {K:Frame->List Frame->Value->World->Prop} {m m':Machine} {t:Trace} {ops:Array MemOp} (hs:stepT P m=(.next m',ops)) (h:PhaseEnd P c w0 K m' (t++ops)):PhaseEnd P c w0 K m t:=by
 obtain ⟨N,gs',w',sl',t',fr,cs,z,v,Mn,h1,h2⟩:=h;exact ⟨N+1,gs',w',sl',t',fr,cs,z,v,Mn,by grind [runNT],h2⟩
theorem Tree.runs {P:Program} {main:Bool} {c:Nat} {tot:List Value} {K:Frame->List Frame->Value->World->Prop} (h:Tree P main c tot (AtShut P c tot K) g v):g.status=.running:=by
 cases h with
 | stop h=>obtain ⟨fr,cs,z,rfl,_⟩:=h v (Co.aJX v);rfl
 | _=>rfl
structure CfgB (P:Program) (c:Nat) (tot:List Value) (w0:World) (gM:Goroutine) (vM:World) (pc:Nat) (Mn:Nat->Prop) (gs:Array Goroutine) (w:World) (t:Trace) (q:Nat->Nat):Prop where
 main:∃ a,gs[0]? = some a/\a.status=.running/\Same a gM
 old:Leavers P t gs q
 chan:w.heap[c]? = some (.chan 0 #[] true tot.length tot.length false)
 vm:∃ v,Vw (HdM Mn c w) c tot.length w v/\Rely vM v
 tr:TrB Mn c pc w.heap.size t
 mn:∀ b,Mn b->b<w.heap.size/\b≠c
 keep:∀ b,b<w0.heap.size->b≠c->¬Mn b/\w.heap[b]? = w0.heap[b]?
 w0:w.os=w0.os/\w.tape=w0.tape/\w.output=w0.output/\w0.heap.size<=w.heap.size
section
variable {P:Program} {c:Nat} {tot:List Value} {w0:World} {K:Frame->List Frame->Value->World->Prop}
theorem aFP {gM:Goroutine} {vM:World} (h:Tree P true c tot (AtShut P c tot K) gM vM):∀ (pc:Nat) (Mn:Nat->Prop) (gs:Array Goroutine) (w:World) (sl:Option (Nat×Nat)) (t:Trace) (q:Nat->Nat),
  CfgB P c tot w0 gM vM pc Mn gs w t q->PhaseEnd P c w0 K (crowd gs w sl) t:=by
 have slip:∀ (gM:Goroutine) (vM:World),(∀ (pc:Nat) (Mn:Nat->Prop) (gs:Array Goroutine) (w:World) (sl:Option (Nat×Nat)) (t:Trace) (q:Nat->Nat),CfgB P c tot w0 gM vM pc Mn gs w t q ->
   ∃ m' ops,runT P (crowd gs w sl) 0=(.next m',ops)/\PhaseEnd P c w0 K m' (t++ops)) ->
   ∀ (pc:Nat) (Mn:Nat->Prop) (gs:Array Goroutine) (w:World) (sl:Option (Nat×Nat)) (t:Trace) (q:Nat->Nat),CfgB P c tot w0 gM vM pc Mn gs w t q->PhaseEnd P c w0 K (crowd gs w sl) t:=by
  intro gM vM hs pc Mn gs w sl t q hc;generalize hn:sumTo gs.size q=n
  induction n using Nat.strongRecOn generalizing gs w sl t q with
  | _ n ih =>
   obtain ⟨a,h0,d6,bz⟩:=hc.main;obtain ⟨i,g1,d,sl',hi,xd,ax⟩:=crowd_pick (P:=P) (w:=w) (sl:=sl) (awakes h0 d6 hc.old) ⟨0,a,h0,d6⟩;obtain ⟨v,hv,oz⟩:=hc.vm;have jt:CfgB P c tot w0 gM vM pc Mn gs (w.at d) t q:=⟨hc.main,hc.old,hc.chan,⟨v.at d,hv.at d,Co.aIL oz (vY _ _)⟩,hc.tr,hc.mn,hc.keep,hc.w0⟩;rcases Nat.eq_zero_or_pos i with rfl | dy
   ·obtain ⟨m',ops,h1,h2⟩:=hs pc Mn gs (w.at d) sl' t q jt
    exact h2.step (ax.trans h1)
   ·have hq:=hc.old.old i g1 dy hi
    have qr:(i == 0)=false:=by grind
    have an:i<gs.size:=(Array.getElem?_eq_some_iff.1 hi).1;cases tn:q i with
    | zero=>rw [tn] at hq;rw [hq.1] at xd;grind
    | succ j =>
     rw [tn] at hq;rcases hq with ⟨hf,_⟩ | ⟨_,g',es,hm,oy,nk⟩
     ·grind
     have dh:=runT_crowd_go (P:=P) (sl:=sl') (i:=i) hi (by rw [qr];exact oy (w.at d))
     have cn:((gs.map (woken P g1 g' (w.at d))).setIfInBounds i g').size=gs.size:=by simp
     have lq:sumTo gs.size (upd q i j)+(j+1)=sumTo gs.size q+j:=by
      have:=sumTo_upd q j id an;simp_all
     refine PhaseEnd.step (ax.trans dh) (ih (sumTo gs.size (upd q i j)) (by omega) _ _ _ _ (upd q i j) ?_ (by rw [cn]))
     refine ⟨⟨a,?_,d6,bz⟩,⟨fun m x dl hx=>?_,fun m dl=>?_⟩,jt.chan,jt.vm,jt.tr.mute (fun op aa=>?_) ?_ fun op aa=>?_,jt.mn,jt.keep,jt.w0⟩
     ·grind [Array.getElem?_setIfInBounds_ne,woken_run]
     ·by_cases i7:i=m
      ·grind [Array.getElem?_setIfInBounds_self_of_lt,upd_same,Deaf_own]
      ·rw [Array.getElem?_setIfInBounds_ne i7,Array.getElem?_map] at hx
       obtain ⟨y,hy,rfl⟩:=Option.map_eq_some_iff.1 hx;have qt:=hc.old.old m y dl hy;rw [woken_quitsD qt,upd_ne q j (Ne.symm i7),Deaf_other t i7 _ (fun op aa=>pX aa)]
       omega
     ·rw [Deaf_other t (g':=i) (by omega) _ (fun op aa=>pX aa)]
      exact hc.old.above m (by omega)
     ·obtain ⟨e,he,rfl⟩:=Conc.mem_ofEvents aa
      exact touch_mute (hm e he)
     ·exact Deaf_other t (by omega) _ (fun op aa=>pX aa)
     ·obtain ⟨e,he,rfl⟩:=Conc.mem_ofEvents aa
      exact low_mute (hm e he) _
 induction h with
 | @stop g v h =>
  refine slip _ _ fun pc Mn gs w sl t q hc=>?_
  obtain ⟨a,h0,d6,bz⟩:=hc.main;obtain ⟨v1,hv,oz⟩:=hc.vm;obtain ⟨fr,cs,z,rfl,ax,hn,hK⟩:=h v1 oz;have mz:c<w.heap.size:=(Array.getElem?_eq_some_iff.1 hc.chan).1
  have hp:partners (gs.setIfInBounds 0 ph) c true=[]:=partners_nil fun j x hx=>by
   rcases getElem?_stand gs 0 j x hx with ⟨rfl,rfl⟩ | ⟨hj,hx⟩
   ·rfl
   ·exact offersAt_of_not_blocked (by rcases (hc.old.old j x (by omega) hx).status with h | h <;> rw [h] <;> simp) _ _
  have ag:=crowd_recv_closed (P:=P) (w:=w) (sl:=sl) (i:=0) h0 (show stepG P (0 == 0) a w=.comm (Conc.G fr cs) #[rcase c z] true (.recv true) w #[] from (bz.step w).trans (ax w)) hc.chan hp;rw [show MemOp.ofEvents 0 a.frame.fn a.frame.place #[]=#[] from rfl,Array.empty_append,finishComm_recv] at ag;refine ⟨_,_,ag,0,_,w,sl,_,fr,cs,z,v1,Mn,rfl,?_,hK,fun b o ho bY=>?_,fun b hb dz=>(hc.keep b hb dz).2,⟨hc.w0.1,hc.w0.2.1,hc.w0.2.2.1,hc.w0.2.2.2,Nat.le_of_eq hv.size⟩,q,⟨fun j x hj hx=>?_,fun j hj=>?_⟩,hc.tr.seenClosed mz⟩
  ·have an:0<gs.size:=(Array.getElem?_eq_some_iff.1 h0).1
   rw [Array.getElem?_setIfInBounds_self_of_lt an];rfl
  ·exact (hv.see ho bY).2.2
  ·rw [Array.getElem?_setIfInBounds_ne (by omega)] at hx
   rw [Deaf_other t (g':=0) (by omega) _ (by simp)]
   exact hc.old.old j x hj hx
  ·have an:0<gs.size:=(Array.getElem?_eq_some_iff.1 h0).1
   rw [Deaf_other t (g':=0) (by grind) _ (by simp)]
   exact hc.old.above j (by grind)
 | @sem α s k T fr cs v cj hs h ht ih =>
  refine slip _ _ fun pc Mn gs w sl t q hc=>?_
  obtain ⟨a,h0,d6,bz⟩:=hc.main;obtain ⟨v1,hv,oz⟩:=hc.vm;obtain ⟨x,v',g',ag,hk,hT⟩:=h v1 oz;obtain ⟨w',q1,q2,q3,q4,q5⟩:=FU s (acc:=#[]) cj hv ag;obtain ⟨es,aw,b8⟩:=hs w x w' g' hk q1;have dh:=runT_crowd_go (P:=P) (sl:=sl) (i:=0) h0 (show stepG P (0 == 0) a w=_ from (bz.step w).trans aw);have an:0<gs.size:=(Array.getElem?_eq_some_iff.1 h0).1;have Bx:=BF s cj q1;have mz:c<w.heap.size:=(Array.getElem?_eq_some_iff.1 hc.chan).1
  refine ⟨_,_,dh,ih g' v' hT pc (fun b=>Mn b\/(w.heap.size<=b/\b<w'.heap.size)) _ _ _ _ q ⟨⟨g',by grind,?_,Same.refl _⟩,CL an hc.old,(q4 c (.inr rfl)).1.trans hc.chan,⟨v',q2.congr fun b=>?_,Co.aJX _⟩,?_,fun b hb=>?_,fun b hb dz=>?_,?_⟩⟩
  ·exact (ht g' v' hT).runs
  ·unfold HdM
   constructor
   ·grind
   ·grind
  ·refine hc.tr.own0 q3 (fun b hb=>⟨fun h=>h.elim id fun h=>by omega,.inl⟩) (X:=fun b=>¬HdM Mn c w b/\b≠c/\b<w'.heap.size) (fun b hb=>?_) fun e he=>?_
   ·by_cases an:b<w.heap.size
    ·refine .inl (Classical.byContradiction fun hm=>hb.1 ⟨an,hm,hb.2.1⟩)
    omega
   ·exact ((q5 e (b8 e he)).resolve_left (by simp)).mono fun b hb=>⟨hb.1,hb.2.1,hb.2.2,hb.1⟩
  ·rcases hb with hb | hb
   ·have:=hc.mn b hb;omega
   omega
  ·obtain ⟨h1,h2⟩:=hc.keep b hb dz
   have Kv:b<w.heap.size:=Nat.lt_of_lt_of_le hb hc.w0.2.2.2;exact ⟨by grind,(q4 b (.inl ⟨Kv,h1,dz⟩)).1.trans h2⟩
  ·obtain ⟨z1,z2,z3,z4⟩:=hc.w0
   grind
 | send x n hm hn hx hs h=>cases hm
 | @recv x z n fr cs v hm hn hx hs h ih =>
  refine slip _ _ fun pc Mn gs w sl t q hc=>?_
  obtain ⟨v1,hv,oz⟩:=hc.vm;have:=Rely.chan oz hn;rw [hv.ch] at this;grind
end
end Go
namespace Go
open Go.Conc
open Go.ConcN (sumTo upd sumTo_upd upd_ne upd_same)
theorem Vw.other {Hd Hd':Nat->Prop} {c n:Nat} {w w' v:World} (h:Vw Hd c n w v) (hs:w.heap.size<=w'.heap.size) (hk:∀ b,b<w.heap.size->¬Hd b->b≠c->w'.heap[b]? = w.heap[b]?)
  (he:w'.os=w.os/\w'.tape=w.tape/\w'.output=w.output) (h1:∀ b,b<w.heap.size->(Hd' b↔Hd b)) (h2:∀ b,w.heap.size<=b->b<w'.heap.size->Hd' b) (h3:∀ b,Hd' b->b<w'.heap.size):∃ v',Vw Hd' c n w' v'/\Rely v v':=by
 have hc:c<w.heap.size:=by rw [<- h.size];exact (Array.getElem?_eq_some_iff.1 h.ch).1
 obtain ⟨v',hv⟩:=Vw.make (Hd:=Hd') n (w:=w') (c:=c) (by omega) h3 (fun hh=>h.nc ((h1 c hc).1 hh)) fun b o hb dz ho=>by
  have an:b<w'.heap.size:=(Array.getElem?_eq_some_iff.1 ho).1;have z9:b<w.heap.size:=Nat.lt_of_not_le fun bt=>hb (h2 b bt an)
  have cd:¬Hd b:=fun hh=>hb ((h1 b z9).2 hh)
  rw [hk b z9 cd dz] at ho;exact h.nov b o cd dz ho
 refine ⟨v',hv,?_⟩;refine ⟨hv.os.trans (he.1.trans h.os.symm),hv.tape.trans (he.2.1.trans h.tape.symm),hv.output.trans (he.2.2.trans h.output.symm),by rw [hv.size,h.size];exact hs,fun b hb=>?_⟩
 rw [h.size] at hb
 by_cases dz:b=c
 ·subst dz;rw [hv.ch,h.ch]
 ·by_cases hh:Hd b
  ·rw [hv.hid b (by omega) ((h1 b hb).2 hh),h.hid b hb hh]
  ·rw [hv.eq b (fun x=>hh ((h1 b hb).1 x)) dz,h.eq b hh dz]
   grind
theorem aBG {v:World} {c:Nat} {o:Obj} (h:v.heap[c]? = some o):Rely v (v.putObj c o):=by
 refine ⟨rfl,rfl,rfl,by simp,fun b hb=>?_⟩
 by_cases e:b=c
 ·grind [World.putObj_heap_same]
 ·exact World.putObj_heap_other e
def AtClose (P:Program) (c:Nat) (tot:List Value) (w0:World) (Old:Nat->Prop) (g:Goroutine) (v:World):Prop:=
 v.heap[c]? = some (eW tot.length)/\g.status=.running/\mayWake P g=true /\
 (∀ w,w.heap[c]? = some (.chan 0 #[] false tot.length tot.length false)->∃ g' m,stepG P false g w=.go g' { w with heap:=w.heap.setIfInBounds c (.chan 0 #[] true tot.length tot.length false) } #[⟨.obj c,false,true⟩,⟨.obj c,true,true⟩]/\QuitsD P m 0 g') /\
 ∀ b,b<w0.heap.size->b≠c->¬Old b->v.heap[b]? = w0.heap[b]?
def HdF (Mn Old:Nat->Prop):Nat->Prop:=fun b=>Mn b\/Old b
def AtRecv (P:Program) (c:Nat) (z:Value) (g:Goroutine):Prop:=∀ w,stepG P true g w=.comm g #[rcase c z] true (.recv true) w #[]
def AtSend (P:Program) (c:Nat) (x:Value) (g:Goroutine):Prop:=∀ w,stepG P false g w=.comm g #[scase c x (.tuple #[])] true .send w #[]
def SitM (P:Program) (c:Nat) (gM a:Goroutine):Prop:=(a.status=.running/\Same a gM)\/∃ z,a=parked gM #[rcase c z] (.recv true)/\AtRecv P c z gM
def SitF (P:Program) (c:Nat) (gF b:Goroutine):Prop:=(b.status=.running/\Same b gF)\/∃ x,b=parked gF #[scase c x (.tuple #[])] .send/\AtSend P c x gF
structure CfgA (P:Program) (c k:Nat) (tot:List Value) (w0:World) (Old:Nat->Prop) (gF:Goroutine) (vF:World) (gM:Goroutine) (vM:World) (n:Nat) (Mn:Nat->Prop) (gs:Array Goroutine) (w:World) (t:Trace) (q:Nat->Nat) (a b:Goroutine):Prop where
 k0:k≠0
 main:gs[0]? = some a
 sitM:SitM P c gM a
 feed:gs[k]? = some b
 sitF:SitF P c gF b
 one:a.status=.running\/b.status=.running
 old:∀ i g,0<i->i≠k->gs[i]? = some g->QuitsD P (q i) (Deaf t i) g
 above:∀ j,gs.size<=j->Deaf t j=0
 chan:w.heap[c]? = some (.chan 0 #[] false n n false)
 vf:∃ v,Vw (HdF Mn Old) c n w v/\Rely vF v
 vm:∃ v,Vw (HdM Mn c w) c n w v/\Rely vM v
 tr:TrA Mn k w.heap.size t
 mn:∀ b,Mn b->b<w.heap.size/\b≠c/\w0.heap.size<=b
 oldv:∀ b,Old b->b<w0.heap.size/\b≠c/\w.heap[b]? = w0.heap[b]?
 w0:w.os=w0.os/\w.tape=w0.tape/\w.output=w0.output/\w0.heap.size<=w.heap.size
section
variable {P:Program} {c k:Nat} {tot:List Value} {w0:World} {Old:Nat->Prop} {K:Frame->List Frame->Value->World->Prop}
theorem SitM.awake {gM a:Goroutine} (h:SitM P c gM a):Conc.awake a:=by
 rcases h with ⟨h,_⟩ | ⟨z,rfl,_⟩
 ·exact awake_of (.inl h)
 ·exact awake_of (.inr (.inl rfl))
theorem SitF.awake {gF b:Goroutine} (h:SitF P c gF b):Conc.awake b:=by
 rcases h with ⟨h,_⟩ | ⟨z,rfl,_⟩
 ·exact awake_of (.inl h)
 ·exact awake_of (.inr (.inl rfl))
variable {gF gM a b:Goroutine} {vF vM w:World} {n:Nat} {Mn:Nat->Prop} {gs:Array Goroutine} {t:Trace} {q:Nat->Nat}
theorem CfgA.awakes (h:CfgA P c k tot w0 Old gF vF gM vM n Mn gs w t q a b):∀ g∈gs,Conc.awake g:=by
 intro g hg;obtain ⟨i,hi,rfl⟩:=Array.mem_iff_getElem.1 hg;have dd:=Array.getElem?_eq_getElem hi;rcases Nat.eq_zero_or_pos i with rfl | dy
 ·rw [h.main] at dd
  rw [<- Option.some.inj dd];exact h.sitM.awake
 ·by_cases eo:i=k
  ·subst eo
   rw [h.feed] at dd;rw [<- Option.some.inj dd];exact h.sitF.awake
  ·exact awake_of ((h.old i _ dy eo dd).status.elim .inl fun x=>.inr (.inr x))
variable {g g':Goroutine}
theorem FW {w':World} (h:SitM P c gM a) (hc:w'.heap[c]? = some (.chan 0 #[] false n n false)):woken P g g' w' a=a:=by
 rcases h with ⟨h,_⟩ | ⟨z,rfl,_⟩
 ·exact woken_run h
 ·exact woken_recv_open g g' hc
theorem FX {w':World} (h:SitF P c gF b) (hc:w'.heap[c]? = some (.chan 0 #[] false n n false)):woken P g g' w' b=b:=by
 rcases h with ⟨h,_⟩ | ⟨z,rfl,_⟩
 ·exact woken_run h
 ·exact woken_send_open g g' hc
def PA (P:Program) (c k:Nat) (tot:List Value) (w0:World) (Old:Nat->Prop) (K:Frame->List Frame->Value->World->Prop) (gF:Goroutine) (vF:World) (gM:Goroutine) (vM:World):Prop:=
 ∀ (n:Nat) (Mn:Nat->Prop) (gs:Array Goroutine) (w:World) (sl:Option (Nat×Nat)) (t:Trace) (q:Nat->Nat) (a b:Goroutine),CfgA P c k tot w0 Old gF vF gM vM n Mn gs w t q a b->PhaseEnd P c w0 K (crowd gs w sl) t
variable {cs:List Frame} {sl:Option (Nat×Nat)}
theorem stepM {α:Type} {s:Sem α} {kk:α->Option Goroutine} {fr:Frame} (cj:s.calm P)
  (hs:∀ w₁ x w' g',kk x=some g'->s.run P w₁=.ok x w'->∃ es,stepG P true (Conc.G fr cs) w₁=.go g' w' es/\∀ e∈es,e∈s.events P w₁ #[])
  (h:∀ v₁,Rely vM v₁->∃ x v' g',s.run P v₁=.ok x v'/\kk x=some g'/\g'.status=.running/\PA P c k tot w0 Old K gF vF g' v') (hc:CfgA P c k tot w0 Old gF vF (Conc.G fr cs) vM n Mn gs w t q a b) (d6:a.status=.running) :
  ∃ m' ops,runT P (crowd gs w sl) 0=(.next m',ops)/\PhaseEnd P c w0 K m' (t++ops):=by
 obtain ⟨v1,hv,oz⟩:=hc.vm;obtain ⟨vf,hf,kj⟩:=hc.vf;obtain ⟨x,v',g',ag,hk,ax,hT⟩:=h v1 oz;obtain ⟨w',q1,q2,q3,q4,q5⟩:=FU s (acc:=#[]) cj hv ag;obtain ⟨es,aw,b8⟩:=hs w x w' g' hk q1
 have bz:Same a (Conc.G fr cs):=by
  rcases hc.sitM with h | ⟨z,rfl,_⟩
  ·grind
  ·cases d6
 have dh:=runT_crowd_go (P:=P) (sl:=sl) (i:=0) hc.main (show stepG P (0 == 0) a w=_ from (bz.step w).trans aw);have an:0<gs.size:=(Array.getElem?_eq_some_iff.1 hc.main).1;have Bx:=BF s cj q1;have mz:c<w.heap.size:=(Array.getElem?_eq_some_iff.1 hc.chan).1;have gz:=(q4 c (.inr rfl)).1.trans hc.chan;have cy:=hc.k0;have cu:∀ b,b<w.heap.size->¬Mn b->b≠c->w'.heap[b]? = w.heap[b]?:=fun b h1 h2 h3=>(q4 b (.inl ⟨h1,h2,h3⟩)).1
 obtain ⟨vf',yb,Ez⟩:=hf.other (Hd':=HdF (fun b=>Mn b\/(w.heap.size<=b/\b<w'.heap.size)) Old) q3 (fun b h1 h2 h3=>cu b h1 (fun hm=>h2 (.inl hm)) h3) Bx
  (fun b hb=>⟨fun h=>Or.imp (fun h=>h.elim id fun h=>by omega) id h,fun h=>Or.imp .inl id h⟩)
  (fun b h1 h2=>.inl (.inr ⟨h1,h2⟩)) (fun b hb=>by
   rcases hb with (hb | hb) | hb
   ·have:=(hc.mn b hb).1;omega
   ·omega
   ·have:=(hc.oldv b hb).1;have:=hc.w0.2.2.2;omega)
 refine ⟨_,_,dh,hT n (fun b=>Mn b\/(w.heap.size<=b/\b<w'.heap.size)) _ _ _ _ q g' b ⟨cy,by grind,.inl ⟨ax,Same.refl _⟩,?_,hc.sitF,.inl ax,fun i g hi eo hx=>?_,fun j hj=>?_,gz,⟨vf',yb,Co.aIL kj Ez⟩,⟨v',q2.congr fun b=>?_,Co.aJX _⟩,?_,fun b hb=>?_,fun b hb=>?_,?_⟩⟩
 ·rw [Array.getElem?_setIfInBounds_ne (Ne.symm cy),Array.getElem?_map,hc.feed]
  simp;rw [FX hc.sitF gz]
 ·have bY:0≠i:=by omega
  rw [Array.getElem?_setIfInBounds_ne bY,Array.getElem?_map] at hx;obtain ⟨y,hy,rfl⟩:=Option.map_eq_some_iff.1 hx;have hq:=hc.old i y hi eo hy;rw [woken_quitsD hq,Deaf_other t (by omega) _ (fun op aa=>pX aa)]
  exact hq
 ·rw [Deaf_other t (g':=0) (by grind) _ (fun op aa=>pX aa)]
  exact hc.above j (by grind)
 ·unfold HdM
  grind
 ·refine hc.tr.own q3 (fun b hb=>⟨fun h=>h.elim id fun h=>by omega,.inl⟩) (X:=fun b=>¬HdM Mn c w b/\b≠c/\b<w'.heap.size) (.inl ⟨rfl,fun b hb=>?_⟩) fun e he=>?_
  ·by_cases an:b<w.heap.size
   ·refine .inl (Classical.byContradiction fun hm=>hb.1 ⟨an,hm,hb.2.1⟩)
   omega
  ·exact ((q5 e (b8 e he)).resolve_left (by simp)).mono fun b hb=>⟨hb.1,hb.2.1,hb.2.2,hb.1⟩
 ·have:=hc.w0.2.2.2
  rcases hb with hb | hb
  ·have:=hc.mn b hb;omega
  omega
 ·obtain ⟨h1,h2,h3⟩:=hc.oldv b hb
  have:=hc.w0.2.2.2;exact ⟨h1,h2,(cu b (by omega) (fun hm=>by have:=hc.mn b hm;omega) h2).trans h3⟩
 ·obtain ⟨z1,z2,z3,z4⟩:=hc.w0
  grind
theorem aG2 {α:Type} {s:Sem α} {kk:α->Option Goroutine} {fr:Frame} (cj:s.calm P)
  (hs:∀ w₁ x w' g',kk x=some g'->s.run P w₁=.ok x w'->∃ es,stepG P false (Conc.G fr cs) w₁=.go g' w' es/\∀ e∈es,e∈s.events P w₁ #[])
  (h:∀ v₁,Rely vF v₁->∃ x v' g',s.run P v₁=.ok x v'/\kk x=some g'/\g'.status=.running/\PA P c k tot w0 Old K g' v' gM vM) (hc:CfgA P c k tot w0 Old (Conc.G fr cs) vF gM vM n Mn gs w t q a b) (du:b.status=.running) :
  ∃ m' ops,runT P (crowd gs w sl) k=(.next m',ops)/\PhaseEnd P c w0 K m' (t++ops):=by
 obtain ⟨vm,hm,l7⟩:=hc.vm;obtain ⟨v1,hv,oz⟩:=hc.vf;obtain ⟨x,v',g',ag,hk,ax,hT⟩:=h v1 oz;obtain ⟨w',q1,q2,q3,q4,q5⟩:=FU s (acc:=#[]) cj hv ag;obtain ⟨es,aw,b8⟩:=hs w x w' g' hk q1;have cy:=hc.k0;have wn:(k == 0)=false:=by grind
 have bz:Same b (Conc.G fr cs):=by
  rcases hc.sitF with h | ⟨z,rfl,_⟩
  ·grind
  ·cases du
 have dh:=runT_crowd_go (P:=P) (sl:=sl) (i:=k) hc.feed (show stepG P (k == 0) b w=_ from by rw [wn];exact (bz.step w).trans aw)
 have an:k<gs.size:=(Array.getElem?_eq_some_iff.1 hc.feed).1;have Bx:=BF s cj q1;have mz:c<w.heap.size:=(Array.getElem?_eq_some_iff.1 hc.chan).1;have gz:=(q4 c (.inr rfl)).1.trans hc.chan;have cu:∀ b,HdF Mn Old b->w'.heap[b]? = w.heap[b]?:=fun b h1=>(q4 b (.inl h1)).1
 obtain ⟨vm',dl,EQ⟩:=hm.other (Hd':=HdM Mn c w') q3 (fun b h1 h2 h3=>cu b (.inl (Classical.byContradiction fun hx=>h2 ⟨h1,hx,h3⟩))) Bx
  (fun b hb=>by constructor <;> (rintro ⟨_,h⟩;exact ⟨by omega,h⟩))
  (fun b h1 h2=>⟨h2,fun hx=>by have:=hc.mn b hx;omega,by omega⟩) (fun b hb=>hb.1)
 refine ⟨_,_,dh,hT n Mn _ _ _ _ q a g' ⟨cy,?_,hc.sitM,by grind,.inl ⟨ax,Same.refl _⟩,.inr ax,fun i g hi eo hx=>?_,fun j hj=>?_,gz,⟨v',q2,Co.aJX _⟩,⟨vm',dl,Co.aIL l7 EQ⟩,?_,fun b hb=>?_,fun b hb=>?_,?_⟩⟩
 ·rw [Array.getElem?_setIfInBounds_ne cy,Array.getElem?_map,hc.main]
  simp;rw [FW hc.sitM gz]
 ·rw [Array.getElem?_setIfInBounds_ne (Ne.symm eo),Array.getElem?_map] at hx
  obtain ⟨y,hy,rfl⟩:=Option.map_eq_some_iff.1 hx;have hq:=hc.old i y hi eo hy;rw [woken_quitsD hq,Deaf_other t (Ne.symm eo) _ (fun op aa=>pX aa)]
  exact hq
 ·rw [Deaf_other t (g':=k) (by grind) _ (fun op aa=>pX aa)]
  exact hc.above j (by grind)
 ·refine hc.tr.own q3 (fun b hb=>Iff.rfl) (X:=fun b=>¬HdF Mn Old b) (.inr ⟨rfl,cy,fun b hb hx=>hb (.inl hx)⟩) fun e he=>?_
  exact ((q5 e (b8 e he)).resolve_left (by simp)).mono fun b hb=>⟨hb.1,hb.2.1⟩
 ·have:=hc.mn b hb;omega
 ·obtain ⟨h1,h2,h3⟩:=hc.oldv b hb
  exact ⟨h1,h2,(cu b (.inr hb)).trans h3⟩
 ·obtain ⟨z1,z2,z3,z4⟩:=hc.w0
  grind
end
end Go
