/-
 The laws of the stints of a common hold at every input, without any condition.
-/
import Derived.IntWalk
import Derived.Laws.Cover3
import Derived.OrdersIn
import Derived.RangeFuncCalls
import Derived.Still
import Derived.WideKeyRuns
import Derived.Test.YtfgdfpnkhdlmfaaGreatP01
namespace Go.Sx
open Go Go.RowKit
variable [G:Ghost]
structure Free (F:Fence):Prop where
 fn:∀ f,F.fn f
 depth:F.depth=none
 alive:F.alive=false
theorem aB0:Free Fence.wide:=have _:=G;⟨fun _=>trivial,rfl,rfl⟩
theorem Free.inRound {F:Fence} (h:Free F) (l:Nat):Free (F.inRound l):=have _:=G;⟨h.fn,h.depth,h.alive⟩
theorem Free.plain {F:Fence} (h:Free F):Free F.plain:=have _:=G;⟨h.fn,h.depth,h.alive⟩
theorem Free.wide {F:Fence} (h:Free F) (hr:F.round=none):F=Fence.wide:=by
 have _:=G;obtain ⟨fn,depth,alive,round⟩:=F;obtain ⟨h1,h2,h3⟩:=h;subst h2 h3 hr;have:fn=fun _=>True:=funext fun f=>propext ⟨fun _=>trivial,fun _=>h1 f⟩
 rw [this];rfl
section
variable {F:Fence} {n:Nat} {P:Program} {ops:Array Oper}
def dQ (F:Fence) (n:Nat) (P:Program) (ops:Array Oper) (l:List Oper) (st:St) (Q:St->Prop):Prop:=
 ∀ n0 w0 e a w (Qr:Exit->Act->World->Prop),Rel n0 w0 e st a w ->
  (∀ e' st' a' w',Q st'->Rel n0 w0 e' st' a' w'->a'.defers=a.defers->dW e st w e' st'.B st'.V w'->Qr .normal a' w')->wpListIn F n P ops Qr l a w
def YO (F:Fence) (n:Nat) (P:Program) (ops:Array Oper) (o:Oper) (rest:List Oper) (st:St) (Q:St->Prop):Prop:=
 ∀ n0 w0 e a w (Qr:Exit->Act->World->Prop),Rel n0 w0 e st a w ->
  (∀ e' st' a' w',Q st'->Rel n0 w0 e' st' a' w'->a'.defers=a.defers->dW e st w e' st'.B st'.V w'->Qr .normal a' w')->o.wpIn F n P a w (wpListIn F n P ops Qr rest) Qr
variable {st:St}
theorem CH {Q:St->Prop} (h:Q st):dQ F n P ops [] st Q:=
 fun _ _ e a w _ hr hk=>wpListIn_nil (hk e st a w h hr rfl (Ext.refl _ _ _ _ _))
theorem Rel.slot {n0:Nat} {w0:World} {e:Env} {a:Act} {w:World} (h:Rel n0 w0 e st a w) {d:Nat} {c:Bool} (hd:st.t[d]? = some (.cv (.val (.bool c)))):a.tmps[d]? = some (.bool c):=by
 obtain ⟨v,h1,h2⟩:=h.tm.get hd;grind [AV.holds,CV.holds]
def CallP (P:Program) (f:FuncId) (args:List AV) (B:List Box) (V:List Vec) (K:AV->List Box->List Vec->Prop):Prop:=
 ∀ (F:Fence) (n:Nat),Free F->F.round=none->∀ n0 w0 e w (vs:Array Value),Mem n0 w0 e B V w->AV.all e w (kss V) args vs.toList->AV.scos B.length (vers V) args ->
  CallsIn F n P f vs w fun en w'=>∃ e' B' V' r v,en=.returned v/\K r B' V'/\Mem n0 w0 e' B' V' w'/\Ext e w B.length (vers V) (kss V) e' w' B'.length (vers V') (kss V') /\
   AV.holds e' w' (kss V') r v/\AV.sco B'.length (vers V') r
theorem CallsIn.anyRound {F:Fence} {n:Nat} {f:FuncId} {args:Array Value} {w:World} {R:Ending->World->Prop} (h:CallsIn F.plain n P f args w R):CallsIn F n P f args w R:=by
 have _:=G;cases hF:F.round with
 | none =>
  have:F.plain=F:=by cases F;simp_all [Fence.plain]
  grind
 | some l =>
  have:F.plain.inRound l=F:=by cases F;simp_all [Fence.plain,Fence.inRound]
  have:=CallsIn.inRound (F:=F.plain) l h;grind
theorem CallP.mono {f:FuncId} {args:List AV} {B:List Box} {V:List Vec} {K K':AV->List Box->List Vec->Prop} (h:CallP P f args B V K) (hk:∀ r B V,K r B V->K' r B V):CallP P f args B V K':=
 fun F n h1 h2 n0 w0 e w vs h3 h4 h5=>CallsIn.mono (h F n h1 h2 n0 w0 e w vs h3 h4 h5) fun _ _ ⟨e',B',V',r,v,a1,a2,a3⟩=>⟨e',B',V',r,v,a1,hk _ _ _ a2,a3⟩
def eQ:AV->Option (FuncId×List AV)
 | .cv (.fn f caps)=>some (f,caps.map .cv)
 | .fn f caps=>if sN caps=true then none else some (f,caps)
 | _=>none
theorem tF (hF:Free F) {o:Oper} {rest:List Oper} {Q:St->Prop} {x:Operand} {args:Array Operand} {ts:Array TypeId} {f:FuncId} {caps:List AV}
  (ae:o.op=.call { callee:=.value x,args,argTypes:=ts }) (hx:eQ (st.ev x)=some (f,caps))
  (dv:∀ (as:Array Value) (w:World),(callFunc f as).run P w=.ok (.enter f as) w)
  (h:CallP P f (args.toList.map st.ev++caps) st.B st.V fun r B' V'=>dQ F n P ops rest (st.put o.dst r B' V') Q):YO F n P ops o rest st Q:=by
 intro n0 w0 e a w Qr hr hk;have ce:=hr.ev x
 obtain ⟨cvs,hf,iF,aT⟩:∃ cvs:Array Value,a.eval x=.func (.func f) #[] cvs/\AV.all e w (kss st.V) caps cvs.toList/\AV.scos st.B.length (vers st.V) caps:=by
  unfold eQ at hx;split at hx
  ·rename_i g cs hg
   obtain ⟨rfl,rfl⟩:=hx;rw [hg] at ce;obtain ⟨⟨vs,h1,h2⟩,_⟩:=ce;exact ⟨vs,h1,AV.all.of_vals h2,AV.scos_cv _ _ _⟩
  ·rename_i g cs hg
   split at hx
   ·cases hx
   ·rename_i jq
    obtain ⟨rfl,rfl⟩:=hx;rw [hg] at ce;obtain ⟨⟨vs,h1,h2⟩,h3⟩:=ce;rw [eq_false_of_ne_true jq] at h1;exact ⟨vs,h1,h2,h3⟩
  grind
 have cn:=hr.evs args.toList;refine ⟨fun f _=>hF.fn f,?_⟩
 rw [Oper.semAt_plain F _ _ (by grind)]
 have ai:(execOp a.eval o).run P w=.ok (.enter f (args.map a.eval++cvs)) w:=by
  grind [execOp,resolve,Deferred.ofValue,invoke]
 rw [ai];refine ⟨fun hd=>by rw [hF.depth] at hd;grind,?_⟩
 refine CallsIn.anyRound (CallsIn.mono (h F.plain (n - 1) hF.plain rfl n0 w0 e w (args.map a.eval++cvs) hr.mem (by simpa using cn.1.append iF) (by
  grind [AV.scos_iff])) ?_)
 rintro en w' ⟨e',B',V',r,v,rfl,hK,hm,ly,t6,dz⟩;have bo:=hr.put hm ly t6 dz o.dst;exact hK n0 w0 e' _ w' Qr bo fun e'' st' a' w'' hq ah ac hx=>hk e'' st' a' w'' hq ah (by rw [ac];cases o.dst <;> rfl) (ly.trans hx)
def W (F:Fence) (n:Nat) (P:Program) (c:Code) (st:St) (Q:Exit->St->Prop):Prop:=
 ∀ n0 w0 e a w (Qr:Exit->Act->World->Prop),Rel n0 w0 e st a w ->
  (∀ x e' st' a' w',Q x st'->Rel n0 w0 e' st' a' w'->a'.defers=a.defers->dW e st w e' st'.B st'.V w'->Qr x a' w')->c.wpIn F n P Qr a w
variable {id:Nat} {Q:Exit->St->Prop}
theorem aDw (h:dQ F n P ops ops.toList st (Q .normal)):W F n P (.region id ops false) st Q:=
 fun n0 w0 e a w Qr hr hk=>wpIn_region_list (h n0 w0 e a w Qr hr fun e' st' a' w' hq ah ac hx=>hk .normal e' st' a' w' hq ah ac hx)
theorem aDx {x y:Code} (h:W F n P x st fun ex st'=>match ex with | .normal=>W F n P y st' Q | ex=>Q ex st'):W F n P (.seq x y) st Q:=by
 intro n0 w0 e a w Qr hr hk;refine wpIn_seq (h n0 w0 e a w _ hr ?_);intro ex e' st' a' w' hq ah ac hx;cases ex with
 | normal=>exact hq n0 w0 e' a' w' Qr ah fun x e'' st'' a'' w'' bp cy Ew bw=>hk x e'' st'' a'' w'' bp cy (Ew.trans ac) (hx.trans bw)
 | _=>exact hk _ e' st' a' w' hq ah ac hx
theorem aIx (h:Q .normal st):W F n P .skip st Q:=
 fun _ _ e a w _ hr hk=>wpIn_skip (hk _ e st a w h hr rfl (Ext.refl _ _ _ _ _))
theorem aGy {l:Nat} (h:Q .normal st):W F n P (.label l) st Q:=
 fun _ _ e a w _ hr hk=>wpIn_label (hk _ e st a w h hr rfl (Ext.refl _ _ _ _ _))
theorem aIa (h:Q .ret st):W F n P .ret st Q:=
 fun _ _ e a w _ hr hk=>wpIn_ret (hk _ e st a w h hr rfl (Ext.refl _ _ _ _ _))
theorem aIy (h:Q (.exit id) st):W F n P (.exit id) st Q:=
 fun _ _ e a w _ hr hk=>wpIn_exit (hk _ e st a w h hr rfl (Ext.refl _ _ _ _ _))
theorem YP {c:Operand} {x y:Code} {b:Bool} (hc:st.ev c=.cv (.val (.bool b))) (ht:b=true->W F n P x st Q) (hf:b=false->W F n P y st Q):W F n P (.cond c x y) st Q:=by
 intro n0 w0 e a w Qr hr hk;have h1:=(hr.ev c).1;rw [hc] at h1;exact wpIn_cond_split h1.1 (fun hb=>ht hb n0 w0 e a w Qr hr hk) (fun hb=>hf hb n0 w0 e a w Qr hr hk)
theorem RZ {c:Code} (h:W F n P c st fun ex st'=>match ex with | .exit i=>if i=id then Q .normal st' else Q (.exit i) st' | ex=>Q ex st'):W F n P (.block id c) st Q:=by
 intro n0 w0 e a w Qr hr hk;refine wpIn_block (h n0 w0 e a w _ hr ?_);grind [Exit.inBlock]
def AV.le (x y:AV):Prop:=∀ e w ks v,AV.holds e w ks x v->AV.holds e w ks y v
theorem AV.le_refl (x:AV):AV.le x x:=have _:=G;fun _ _ _ _ h=>h
theorem AV.le_any (x:AV):AV.le x .any:=have _:=G;fun _ _ _ _ _=>by simp [AV.holds]
inductive AV.les:List AV->List AV->Prop
 | nil:AV.les [] []
 | cons {x y xs ys}:AV.le x y->AV.les xs ys->AV.les (x::xs) (y::ys)
theorem AV.les_refl:∀ (xs:List AV),AV.les xs xs
 | []=>.nil
 | x::xs=>.cons (AV.le_refl x) (AV.les_refl xs)
theorem AV.les.all {e:Env} {w:World} {ks:List Nat}:∀ {xs ys:List AV},AV.les xs ys->∀ {vs:List Value},AV.all e w ks xs vs->AV.all e w ks ys vs
 | _,_,.nil,[],h=>have _:=G;h
 | _,_,.cons h hs,v::vs,ha=>by
  exact ⟨h _ _ _ _ ha.1,hs.all ha.2⟩
 | _,_,.cons _ _,[],ha=>by grind [AV.all]
structure Weak (s s1:St):Prop where
 t:AV.les s.t s1.t
 B:∀ (i:Nat) (b1:Box),s1.B[i]? = some b1->∃ b,s.B[i]? = some b/\(b1.live=true->b.live=true/\b1.T=b.T/\AV.les b.cs b1.cs)
 V:∀ (i:Nat) (v1:Vec),s1.V[i]? = some v1->∃ v,s.V[i]? = some v/\v1.ver=v.ver/\v1.k=v.k/\(v1.live=true\/v1.T=ghT->v1=v)
 sct:AV.scos s1.B.length (vers s1.V) s1.t
 scB:∀ (i:Nat) (b1:Box),s1.B[i]? = some b1->AV.scos s1.B.length (vers s1.V) b1.cs
variable {s s1:St}
theorem Weak.ver (h:Weak s s1):∀ i,i<s1.V.length->(vers s1.V).getD i 0=(vers s.V).getD i 0/\(kss s1.V).getD i 0=(kss s.V).getD i 0:=by
 have _:=G;intro i hi;obtain ⟨v,hv,h1,h2,_⟩:=h.V i s1.V[i] (by simp)
 grind
theorem Rel.weak {n0:Nat} {w0:World} {e:Env} {a:Act} {w:World} (h:Rel n0 w0 e s a w) (hw:Weak s s1):Rel n0 w0 e s1 a w:=by
 have hx:Ext e w s1.B.length (vers s1.V) (kss s.V) e w s1.B.length (vers s1.V) (kss s1.V):=
  ⟨RO.refl _ _,fun _ _=>rfl,fun _ _ _ _=>rfl,Nat.le_refl _,Nat.le_refl _,fun _ _=>Nat.le_refl _,fun i hi=>(hw.ver i (by grind)).2,Nat.le_refl _,fun _ h=>.inl h,rfl,fun _=>rfl,rfl⟩
 refine ⟨AV.all.mono hx _ _ hw.sct (hw.t.all h.tm),hw.sct,⟨?_,hw.scB,?_,?_,?_,?_,?_,?_,h.mem.ro,h.mem.below,h.mem.base,h.mem.bl,h.mem.hid.of rfl ⟨rfl,rfl⟩ (fun _ h=>.inl h) (fun i v1 bt hT=>by obtain ⟨v,hv,_,_,mj⟩:=hw.V i v1 bt;grind) (fun _ _ _=>rfl) (fun i b1 bv hl=>?_) (fun i v1 g bt hl hg=>?_)⟩⟩
 rotate_left 7
 ·obtain ⟨b,hb,ky⟩:=hw.B i b1 bv
  grind
 ·obtain ⟨v,hv,_,_,mj⟩:=hw.V i v1 bt
  grind
 ·intro i b1 bv hl
  obtain ⟨b,hb,ky⟩:=hw.B i b1 bv;obtain ⟨bg,hT,bq⟩:=ky hl;obtain ⟨vs,a1,a2⟩:=h.mem.box i b hb bg;exact ⟨vs,by grind,AV.all.mono hx _ _ (hw.scB i b1 bv) (bq.all a2)⟩
 ·intro i b1 bv hl
  obtain ⟨b,hb,ky⟩:=hw.B i b1 bv;exact h.mem.boxlo i b hb (ky hl).1
 ·intro i j b1 c1 bv mn hl ij ft
  obtain ⟨b,hb,ky⟩:=hw.B i b1 bv;obtain ⟨c,hc,n7⟩:=hw.B j c1 mn;exact h.mem.boxinj i j b c hb hc (ky hl).1 (n7 ij).1 ft
 ·intro i v1 bt hl
  obtain ⟨v,hv,_,_,mj⟩:=hw.V i v1 bt;obtain rfl:=mj (.inl hl);exact h.mem.vec i v1 hv hl
 ·intro i v1 g bt hl hg
  obtain ⟨v,hv,_,_,mj⟩:=hw.V i v1 bt;obtain rfl:=mj (.inl hl);exact h.mem.vecS i v1 g hv hl hg
 ·intro i v1 j b1 g bt hl bv bg hg
  obtain ⟨v,hv,_,_,mj⟩:=hw.V i v1 bt;obtain rfl:=mj (.inl hl);obtain ⟨b,hb,ky⟩:=hw.B j b1 bv;exact h.mem.vecbox i v1 j b g hv hl hb (ky bg).1 hg
 ·intro i v1 j u1 g bt hl Aa ij hg ew
  obtain ⟨v,hv,_,_,mj⟩:=hw.V i v1 bt;obtain rfl:=mj (.inl hl);obtain ⟨u,hu,_,_,Ki⟩:=hw.V j u1 Aa;obtain rfl:=Ki (.inl ij);exact h.mem.vecinj i v1 j u1 g hv hl hu ij hg ew
theorem Ext.weak {e e':Env} {w w':World} {nB:Nat} {vs ks:List Nat} (h:Ext e w nB vs ks e' w' s.B.length (vers s.V) (kss s.V)) (hw:Weak s s1) (hB:nB<=s1.B.length) (hV:vs.length<=s1.V.length) :
  Ext e w nB vs ks e' w' s1.B.length (vers s1.V) (kss s1.V):=
 ⟨h.ro,h.ρ,h.hdr,hB,by grind,fun i hi=>by rw [(hw.ver i (by omega)).1];exact h.verle i hi,fun i hi=>by rw [(hw.ver i (by omega)).2];exact h.kseq i hi,h.sz,h.snew,h.be,h.he,h.ye⟩
theorem exists_least {p:Nat->Prop} (h:∃ m,p m):∃ m,p m/\∀ k,p k->m<=k:=by
 have _:=G;obtain ⟨m,hm⟩:=h
 induction m using Nat.strongRecOn with
 | _ m ih =>
  grind
def EL (P:Program) (st:St):ResultVar->Option AV
 | .tmp t=>some (st.t.getD t .any)
 | .cell t T=>jT P st T (st.t.getD t .any)
def qI (P:Program) (st:St):List ResultVar->Option (List AV)
 | []=>some []
 | r::rs=>match EL P st r,qI P st rs with
  | some x,some xs=>some (x::xs)
  | _,_=>none
def rM (P:Program) (st:St) (rs:List ResultVar):Option AV:=
 match qI P st rs with
 | some [x]=>some x
 | some xs=>some (.tup xs)
 | none=>none
theorem aDy {n0:Nat} {w0:World} {e:Env} {a:Act} {w:World} (h:Rel n0 w0 e st a w) (t:Nat):AV.holds e w (kss st.V) (st.t.getD t .any) (a.tmps.getD t undef)/\AV.sco st.B.length (vers st.V) (st.t.getD t .any):=
 h.ev (.tmp t)
def YQ (tmps:Array Value) (r:ResultVar):Sem Value:=
 match r with
 | .tmp t=>pure (tmps.getD t undef)
 | .cell p t=>do loadVar t (<- asAddr (tmps.getD p undef))
theorem YR (fn:Func) (tmps:Array Value):results fn tmps=(do
  let vs <- fn.results.mapM (YQ tmps)
  pure (if h:vs.size=1 then vs[0] else .tuple vs)):=have _:=G;rfl
theorem CI {n0:Nat} {w0:World} {e:Env} {st:St} {a:Act} {w:World} (h:Rel n0 w0 e st a w):∀ (rs:List ResultVar) (xs:List AV),qI P st rs=some xs ->
  ∃ vs:List Value,(rs.mapM (YQ a.tmps)).run P w=.ok vs w/\AV.all e w (kss st.V) xs vs/\AV.scos st.B.length (vers st.V) xs
 | [],xs,hx=>by simp_all [qI,AV.all,AV.scos]
 | r::rs,xs,hx=>by
  simp [qI] at hx;split at hx
  ·rename_i y ys hy mo
   injection hx with hx;subst hx
   obtain ⟨vs,h1,h2,h3⟩:=CI h rs ys mo
   have du:∃ v,(YQ a.tmps r).run P w=.ok v w/\AV.holds e w (kss st.V) y v/\AV.sco st.B.length (vers st.V) y:=by
    cases r with
    | tmp t =>
     simp [EL] at hy;subst hy;exact ⟨_,rfl,(aDy h t).1,(aDy h t).2⟩
    | cell p t =>
     obtain ⟨v,a1,a2,a3⟩:=uK hy h (aDy h p).1;refine ⟨v,?_,a2,a3⟩
     have:∃ ad,a.tmps.getD p undef=.pointer (some ad):=by
      cases hp:a.tmps.getD p undef with
      | pointer o =>
       cases o with
       | some ad=>simp
       | none=>simp_all [Instr.loadAt,Instr.sureAddr]
      | _=>rw [hp] at a1;simp [Instr.loadAt,Instr.sureAddr] at a1
     show (do loadVar t (<- asAddr (a.tmps.getD p undef)):Sem Value).run P w=_
     grind [Instr.loadAt,Instr.sureAddr,asAddr]
   obtain ⟨v,b1,b2,b3⟩:=du;simp_all [AV.all,AV.scos]
  grind
theorem wZ {fn:Func} {n0:Nat} {w0:World} {e:Env} {a:Act} {w:World} (h:Rel n0 w0 e st a w) {r:AV} (hr:rM P st fn.results.toList=some r) :
  ∃ v,(results fn a.tmps).run P w=.ok v w/\AV.holds e w (kss st.V) r v/\AV.sco st.B.length (vers st.V) r:=by
 unfold rM at hr;cases hx:qI P st fn.results.toList with
 | none=>grind
 | some xs =>
  obtain ⟨vs,h1,h2,h3⟩:=CI h _ xs hx
  have ai:(results fn a.tmps).run P w=.ok (if h:vs.length=1 then vs[0] else .tuple vs.toArray) w:=by
   simp_all [YR,Array.mapM_eq_mapM_toList]
  refine ⟨_,ai,?_⟩;have hl:=h2.length;rw [hx] at hr
  match xs,vs,hl,h2,h3,hr with
  | [x],[v],_,h2,h3,hr =>
   grind [AV.all,AV.scos]
  | [],[],_,h2,h3,hr =>
   grind [AV.holds,AV.sco]
  | x::y::xs,v::u::vs,_,h2,h3,hr =>
   grind [AV.holds,AV.sco]
end
section
variable {F:Fence} {n:Nat} {P:Program} {ops:Array Oper}
end
def kW:Op->Bool
 | .move _=>true
 | .assign _=>true
 | .load _ _=>true
 | .binOp _ _ _ _ _=>true
 | .unOp _ _ _=>true
 | .fieldAddr _ _ _=>true
 | .indexAddr _ _ _=>true
 | .index _ _ _=>true
 | .extract _ _=>true
 | .convert _ _ _=>true
 | .nilCheck _=>true
 | .field _ _ _=>true
 | .slice _ _ _ _ none=>true
 | .call { callee:=.builtin .len,.. }=>true
 | _=>false
section
variable {F:Fence} {n:Nat} {P:Program}
theorem aB1 {o:Oper} {st:St} {av:AV} {B':List Box} {V':List Vec} (hp:kW o.op=true) (h:dB P st o.op=some (av,B',V')) {n0:Nat} {w0:World} {e:Env} {a:Act} {w:World} (hr:Rel n0 w0 e st a w) :
  ∃ v,(execOp a.eval o).run P w=.ok (.value v) w/\AV.holds e w (kss st.V) av v/\AV.sco st.B.length (vers st.V) av:=by
 have pure1:∀ {s:Sem Value} {r:Value},(execOp a.eval o)=(do pure (.value (<- s)))->s.run P w=.ok r w->AV.holds e w (kss st.V) av r->AV.sco st.B.length (vers st.V) av ->
   ∃ v,(execOp a.eval o).run P w=.ok (.value v) w/\AV.holds e w (kss st.V) av v/\AV.sco st.B.length (vers st.V) av:=by
  simp_all
 unfold dB at h;split at h
 ·rename_i x ae
  obtain ⟨rfl,rfl,rfl⟩:=h;have:=hr.ev x;simp_all [execOp]
 ·rename_i x ae
  obtain ⟨rfl,rfl,rfl⟩:=h;have:=hr.ev x;simp_all [execOp]
 ·grind [kW]
 ·grind [kW]
 ·grind [kW]
 ·grind [kW]
 ·grind [kW]
 ·rename_i T x ae
  obtain ⟨h1,rfl,rfl⟩:=aZ h;obtain ⟨r,a1,a2,a3⟩:=uK h1 hr (hr.ev x).1;grind [execOp]
 ·grind [kW]
 ·rename_i op T x y yT ae
  obtain ⟨h1,rfl,rfl⟩:=aZ h;obtain ⟨r,a1,a2,a3⟩:=GK h1 (hr.ev x).1 (hr.ev y).1 x y;grind [execOp]
 ·rename_i op T x ae
  obtain ⟨h1,rfl,rfl⟩:=aZ h;obtain ⟨r,a1,a2,a3⟩:=JR (P:=P) h1 (hr.ev x).1;grind [execOp]
 ·rename_i T x f ae
  obtain ⟨h1,rfl,rfl⟩:=aZ h;obtain ⟨r,a1,a2,a3⟩:=rJ h1 (hr.ev x).1;exact pure1 (by grind [execOp]) a1 a2 (a3 _ _ (hr.ev x).2)
 ·rename_i T x i ae
  obtain ⟨h1,rfl,rfl⟩:=aZ h;obtain ⟨r,a1,a2,a3⟩:=rK h1 hr (hr.ev x).1 (hr.ev i).1 (hr.ev x).2;grind [execOp]
 ·rename_i T x i ae
  have:=uN (o:=o) (st:=st) (av:=av) (B':=B') (V':=V') (by rw [ae];exact h) n0 w0 e a w hr
  obtain ⟨h1,rfl,rfl⟩:=aZ h;unfold UX at h1;split at h1
  ·rename_i s z n et cs k j ar hx hi
   obtain ⟨hT,hk⟩:=wX ar;split at h1
   ·rename_i te fh
    split at h1
    ·cases h1
    ·rename_i dt
     split at h1
     ·rename_i hj
      have t4:=(hr.ev x).1;have ww:=(hr.ev i).1;rw [hx] at t4;rw [hi] at ww;obtain ⟨vs,cr,bh⟩:=t4;obtain ⟨v,b1,b2⟩:=bh.get h1;have di:=bI (P:=P) (T:=et) (by omega) w
      rw [<- hk] at di;have b1':vs[j.toNat]? = some v:=by grind
      refine pure1 (s:=Instr.index T (a.eval x) (a.eval i)) (r:=v) (by grind [execOp]) ?_ b2 ?_
      ·rw [cr,ww.1]
       simp [Instr.index,asIntOf,run_underlying hT,hj,di,part,pY fh,dt,b1']
      ·grind
     grind
   grind
  grind
 ·rename_i x i ae
  obtain ⟨h1,rfl,rfl⟩:=aZ h;obtain ⟨r,a1,a2,a3⟩:=vS (P:=P) h1 (hr.ev x).1;exact pure1 (by grind [execOp]) a1 a2 (a3 _ _ (hr.ev x).2)
 ·rename_i T T' x ae
  obtain ⟨h1,rfl,rfl⟩:=aZ h;obtain ⟨r,a1,a2,a3⟩:=CE (P:=P) h1 (hr.ev x).1;grind [execOp]
 ·rename_i T x f ae
  obtain ⟨h1,rfl,rfl⟩:=aZ h;obtain ⟨r,a1,a2,a3⟩:=GM (P:=P) h1 (hr.ev x).1;exact pure1 (by grind [execOp]) a1 a2 (a3 _ _ (hr.ev x).2)
 ·rename_i x ae
  obtain ⟨h1,rfl,rfl⟩:=aZ h;obtain ⟨p,hp,ft⟩:=JX h1 (hr.ev x).1;exact ⟨a.eval x,by simp_all [execOp],by rw [ft];exact (hr.ev x).1,by rw [ft];exact (hr.ev x).2⟩
 ·grind [kW]
 ·rename_i T x lo hi ae
  obtain ⟨h1,rfl,rfl⟩:=aZ h
  obtain ⟨r,a1,a2,a3⟩:=AD (vlo:=lo.map a.eval) (vhi:=hi.map a.eval) h1 (hr.ev x).1
   (fun y hy=>by cases lo with | none=>grind [fO] | some l=>simp [fO] at hy;subst hy;exact ⟨_,rfl,(hr.ev l).1⟩) (fun hl=>by cases lo <;> simp_all [fO])
   (fun y hy=>by cases hi with | none=>grind [fO] | some l=>simp [fO] at hy;subst hy;exact ⟨_,rfl,(hr.ev l).1⟩) (fun hl=>by cases hi <;> simp_all [fO])
  grind [execOp]
 ·grind [kW]
 ·grind [kW]
 ·rename_i args argTypes ae
  split at h
  ·rename_i x T af t5
   obtain ⟨h1,rfl,rfl⟩:=aZ h;obtain ⟨r,a1,a2,a3⟩:=GL h1 hr (hr.ev x).1 o.type;have gu:args=#[x]:=by grind
   have nz:argTypes=#[T]:=by grind
   grind [execOp,resolve,invoke,builtin]
  grind
 ·grind [kW]
 ·grind [kW]
 ·grind [kW]
 grind
theorem put_defers (a:Act) (d:Option Nat) (v:Value):(a.put d v).defers=a.defers:=by have _:=G;cases d <;> rfl
end
mutual
def AV.shift (k:Nat):AV->AV
 | .any=>.any
 | .cv c=>.cv c
 | .ptr i o=>.ptr i o
 | .own i u=>.own (k+i) u
 | .opt i u el o=>.opt (k+i) u el o
 | .agg cs=>.agg (AV.shifts k cs)
 | .tup cs=>.tup (AV.shifts k cs)
 | .fn f cs=>.fn f (AV.shifts k cs)
 | .gd L x=>.gd L (AV.shift k x)
def AV.shifts (k:Nat):List AV->List AV
 | []=>[]
 | x::xs=>AV.shift k x::AV.shifts k xs
end
theorem GN (k:Nat) (xs:List AV):sN (AV.shifts k xs)=sN xs:=by
 have _:=G
 match xs with
 | []=>rfl
 | .gd L x::r =>
  match L,x with
  | [],_=>rfl
  | true::_,_=>rfl
  | false::_::_,_=>rfl
  | [false],.any=>rfl
  | [false],.cv _=>rfl
  | [false],.ptr _ _=>rfl
  | [false],.own _ _=>rfl
  | [false],.opt _ _ _ _=>rfl
  | [false],.agg _=>rfl
  | [false],.tup _=>rfl
  | [false],.fn _ _=>rfl
  | [false],.gd _ _=>rfl
 | .any::_=>rfl
 | .cv _::_=>rfl
 | .ptr _ _::_=>rfl
 | .own _ _::_=>rfl
 | .opt _ _ _ _::_=>rfl
 | .agg _::_=>rfl
 | .tup _::_=>rfl
 | .fn _ _::_=>rfl
theorem aGz (cs:List CV):sN (cs.map .cv)=false:=by have _:=G;cases cs <;> rfl
def CV.flat:CV->Bool
 | .val _=>true
 | _=>false
mutual
def AV.flat:AV->Bool
 | .any=>true
 | .cv c=>c.flat
 | .ptr _ _=>true
 | .own _ _=>true
 | .opt _ _ _ _=>true
 | .agg cs=>AV.flats cs
 | .tup cs=>AV.flats cs
 | .fn _ cs=>AV.flats cs
 | .gd _ x=>AV.flat x
def AV.flats:List AV->Bool
 | []=>true
 | x::xs=>AV.flat x&&AV.flats xs
end
def Vec.flat (v:Vec):Bool:=v.es.all fun l=>l.all CV.flat
variable {S:Nat->Prop}
theorem CV.flat_holds {w w':World} {S':Nat->Prop} {c:CV} {v:Value} (hf:c.flat=true) (h:CV.holds w S c v):CV.holds w' S' c v:=by
 have _:=G;cases c <;> simp [CV.flat] at hf;grind [CV.holds]
theorem CV.flat_vals {w w':World} {S S':Nat->Prop}:∀ {cs:List CV} {vs:List Value},cs.all CV.flat=true->CV.vals w S cs vs->CV.vals w' S' cs vs
 | [],[],_,_=>by simp [CV.vals]
 | c::cs,v::vs,hf,h=>by
  simp only [List.all_cons,Bool.and_eq_true] at hf;exact ⟨CV.flat_holds hf.1 h.1,CV.flat_vals hf.2 h.2⟩
 | [],_::_,_,h=>by grind [CV.vals]
 | _::_,[],_,h=>by grind [CV.vals]
section
variable {e e1:Env} {w:World} {k nB:Nat} {ks ks1 vs1:List Nat}
mutual
theorem AV.shift_holds (hS:∀ b,e1.S b->e.S b) (hh:∀ i u,i<vs1.length->e.hdr (k+i) u=e1.hdr i u) (hk:∀ i,i<vs1.length->ks.getD (k+i) 0=ks1.getD i 0) :
  ∀ (x:AV) (v:Value),AV.sco 0 vs1 x->AV.holds e1 w ks1 x v->AV.holds e w ks (AV.shift k x) v
 | .any,_,_,_=>by simp [AV.shift,AV.holds]
 | .cv c,v,_,h=>by exact CV.holds.mono ⟨hS,fun _ _=>rfl⟩ c v h
 | .ptr i o,v,hs,h=>by grind [AV.sco]
 | .own i u,v,hs,h=>by grind [AV.shift,AV.holds,AV.sco]
 | .opt i u el o,v,hs,h=>by grind [AV.shift,AV.holds,AV.sco]
 | .agg cs,v,hs,h=>by
  obtain ⟨us,h1,h2⟩:=h;exact ⟨us,h1,AV.shifts_holds hS hh hk cs _ hs h2⟩
 | .tup cs,v,hs,h=>by
  obtain ⟨us,h1,h2⟩:=h;exact ⟨us,h1,AV.shifts_holds hS hh hk cs _ hs h2⟩
 | .fn f cs,v,hs,h=>by
  obtain ⟨us,h1,h2⟩:=h;exact ⟨us,by grind [GN],AV.shifts_holds hS hh hk cs _ hs h2⟩
 | .gd L x,v,hs,h=>by
  exact ⟨fun hl=>AV.shift_holds hS hh hk x v hs (h.1 hl),h.2⟩
theorem AV.shifts_holds (hS:∀ b,e1.S b->e.S b) (hh:∀ i u,i<vs1.length->e.hdr (k+i) u=e1.hdr i u) (hk:∀ i,i<vs1.length->ks.getD (k+i) 0=ks1.getD i 0) :
  ∀ (xs:List AV) (us:List Value),AV.scos 0 vs1 xs->AV.all e1 w ks1 xs us->AV.all e w ks (AV.shifts k xs) us
 | [],[],_,_=>by have _:=G;simp [AV.shifts,AV.all]
 | x::xs,u::us,hs,h=>by
  exact ⟨AV.shift_holds hS hh hk x u hs.1 h.1,AV.shifts_holds hS hh hk xs us hs.2 h.2⟩
 | [],_::_,_,h=>by grind [AV.all]
 | _::_,[],_,h=>by grind [AV.all]
end
mutual
theorem AV.shift_flat (hh:∀ i u,i<vs1.length->e.hdr (k+i) u=e1.hdr i u) (hk:∀ i,i<vs1.length->ks.getD (k+i) 0=ks1.getD i 0) :
  ∀ (x:AV) (v:Value),AV.flat x=true->AV.sco 0 vs1 x->AV.holds e1 w ks1 x v->AV.holds e w ks (AV.shift k x) v
 | .any,_,_,_,_=>by simp [AV.shift,AV.holds]
 | .cv c,v,hf,_,h=>by exact CV.flat_holds hf h
 | .ptr i o,v,_,hs,h=>by grind [AV.sco]
 | .own i u,v,_,hs,h=>by grind [AV.shift,AV.holds,AV.sco]
 | .opt i u el o,v,_,hs,h=>by grind [AV.shift,AV.holds,AV.sco]
 | .agg cs,v,hf,hs,h=>by
  obtain ⟨us,h1,h2⟩:=h;exact ⟨us,h1,AV.shifts_flat hh hk cs _ hf hs h2⟩
 | .tup cs,v,hf,hs,h=>by
  obtain ⟨us,h1,h2⟩:=h;exact ⟨us,h1,AV.shifts_flat hh hk cs _ hf hs h2⟩
 | .fn f cs,v,hf,hs,h=>by
  obtain ⟨us,h1,h2⟩:=h;exact ⟨us,by grind [GN],AV.shifts_flat hh hk cs _ hf hs h2⟩
 | .gd L x,v,hf,hs,h=>by
  exact ⟨fun hl=>AV.shift_flat hh hk x v hf hs (h.1 hl),h.2⟩
theorem AV.shifts_flat (hh:∀ i u,i<vs1.length->e.hdr (k+i) u=e1.hdr i u) (hk:∀ i,i<vs1.length->ks.getD (k+i) 0=ks1.getD i 0) :
  ∀ (xs:List AV) (us:List Value),AV.flats xs=true->AV.scos 0 vs1 xs->AV.all e1 w ks1 xs us->AV.all e w ks (AV.shifts k xs) us
 | [],[],_,_,_=>by have _:=G;simp [AV.shifts,AV.all]
 | x::xs,u::us,hf,hs,h=>by
  simp [AV.flats] at hf hs h ⊢;exact ⟨AV.shift_flat hh hk x u hf.1 hs.1 h.1,AV.shifts_flat hh hk xs us hf.2 hs.2 h.2⟩
 | [],_::_,_,_,h=>by grind [AV.all]
 | _::_,[],_,_,h=>by grind [AV.all]
end
mutual
theorem AV.shift_scoped (hV:k+vs1.length<=ks.length) (bq:∀ i,i<vs1.length->vs1.getD i 0<=ks.getD (k+i) 0):∀ (x:AV),AV.sco 0 vs1 x->AV.sco nB ks (AV.shift k x)
 | .any,_=>by have _:=G;simp [AV.shift,AV.sco]
 | .cv c,_=>by simp [AV.shift,AV.sco]
 | .ptr i o,hs=>by grind [AV.sco]
 | .own i u,hs=>by grind [AV.shift,AV.sco]
 | .opt i u el o,hs=>by grind [AV.shift,AV.sco]
 | .agg cs,hs=>by exact AV.shifts_scoped hV bq cs hs
 | .tup cs,hs=>by exact AV.shifts_scoped hV bq cs hs
 | .fn f cs,hs=>by exact AV.shifts_scoped hV bq cs hs
 | .gd L x,hs=>by exact AV.shift_scoped hV bq x hs
theorem AV.shifts_scoped (hV:k+vs1.length<=ks.length) (bq:∀ i,i<vs1.length->vs1.getD i 0<=ks.getD (k+i) 0):∀ (xs:List AV),AV.scos 0 vs1 xs->AV.scos nB ks (AV.shifts k xs)
 | [],_=>by have _:=G;simp [AV.shifts,AV.scos]
 | x::xs,hs=>by
  exact ⟨AV.shift_scoped hV bq x hs.1,AV.shifts_scoped hV bq xs hs.2⟩
end
end
section
variable {P:Program}
theorem Mem.beside {n0:Nat} {w0:World} {e:Env} {B:List Box} {V:List Vec} {w w':World} (h:Mem n0 w0 e B V w) {e1:Env} {V0:List Vec} (h1:Mem w.heap.size w e1 [] V0 w') (pn:e1.y=false)
  (S':Nat->Prop) (Ex:∀ b,e.S b->S' b) (Ao:∀ b,S' b->e.S b\/(w.heap.size<=b/\b<w'.heap.size/\e1.S b))
  (hv:∀ (i:Nat) (x:Vec),V0[i]? = some x->x.live=true->∀ xs,CV.vals w' e1.S x.es.flatten xs->CV.vals w' S' x.es.flatten xs) :
  ∃ e',(e'.ρ=e.ρ/\e'.H=e.H)/\e'.S=S'/\(∀ i u,i<V.length->e'.hdr i u=e.hdr i u)/\(∀ i u,e'.hdr (V.length+i) u=e1.hdr i u) /\
   Mem n0 w0 e' B (V++V0) w'/\Ext e w B.length (vers V) (kss V) e' w' B.length (vers (V++V0)) (kss (V++V0)):=by
 have hb:Below w.heap.size w w':=by have:=h1.below;grind [Env.nb_false]
 let e':Env:={ ρ:=e.ρ,hdr:=fun i u=>if i<V.length then e.hdr i u else e1.hdr (i - V.length) u,S:=S',base:=e.base,H:=e.H,y:=e.y }
 have qj:∀ i u,i<V.length->e'.hdr i u=e.hdr i u:=fun i u hi=>by grind
 have lz:∀ i u,e'.hdr (V.length+i) u=e1.hdr i u:=fun i u=>by
  grind
 have hx:Ext e w B.length (vers V) (kss V) e' w' B.length (vers (V++V0)) (kss (V++V0)):=by
  refine ⟨⟨Ex,fun b cd=>hb.block b (h.ro b cd)⟩,fun _ _=>rfl,fun i u hi hu=>qj i u (by grind),Nat.le_refl _,by simp,fun i hi=>?_,fun i hi=>?_,hb.size,fun b cd=>(Ao b cd).elim .inl fun hq=>.inr (Nat.le_trans (Nat.le_trans h.bl.1 h.base) hq.1),rfl,fun _=>rfl,rfl⟩
  ·grind
  grind
 have ag:∀ (i:Nat) (x:Vec),(V++V0)[i]? = some x->(i<V.length/\V[i]? = some x/\e'.hdr i x.ver=e.hdr i x.ver)\/(∃ j,i=V.length+j/\V0[j]? = some x/\e'.hdr i x.ver=e1.hdr j x.ver):=by
  grind
 have fl:∀ (j:Nat) (y:Vec),V[j]? = some y->y.live=true->∀ g,bM (e.hdr j y.ver)=some g->g<w.heap.size:=by
  intro j y hy ay g hg;obtain ⟨ys,a1,_⟩:=h.vec j y hy ay;exact (a1.lt g hg).2
 have ot:∀ (j:Nat) (y:Vec),V0[j]? = some y->y.live=true->∀ g,bM (e1.hdr j y.ver)=some g->w.heap.size<=g:=by
  intro j y hy ay g hg;obtain ⟨ys,a1,_⟩:=h1.vec j y hy ay;exact (a1.lt g hg).1
 refine ⟨e',⟨rfl,rfl⟩,rfl,qj,lz,⟨?_,?_,?_,h.boxinj,?_,?_,?_,?_,?_,h.below.trans (hb.mono h.nbase),Nat.le_trans h.base hb.size,h.bl,h.hid.of rfl ⟨rfl,rfl⟩ (fun b cd=>(Ao b cd).imp id fun hq=>h.hid.new hq.1) (SameG.app fun y hy hT=>by obtain ⟨i,hi,rfl⟩:=List.mem_iff_getElem.1 hy;have:=(h1.hid.gh i V0[i] (by simp) hT).2.1;grind) (fun b cd _=>hb.block b cd) (fun i b hb hl=>.inl ⟨i,b,hb,hl,rfl⟩) (fun i x g hi hl hg=>?_)⟩,hx⟩
 rotate_left 8
 ·grind
 ·intro i b cd hl
  obtain ⟨vs,a1,a2⟩:=h.box i b cd hl;exact ⟨vs,(hb.block _ (Array.getElem?_eq_some_iff.1 a1).1).trans a1,AV.all.mono hx _ _ (h.boxsc i b cd) a2⟩
 ·intro i b cd;exact hx.scos (h.boxsc i b cd)
 ·intro i b cd hl
  have a:=h.boxlo i b cd hl;have hlt:=h.lt_box cd hl;grind
 ·intro i x hi hl
  rcases ag i x hi with ⟨hlt,hi,he⟩ | ⟨j,rfl,hi,he⟩
  ·obtain ⟨xs,a1,a2,a3⟩:=h.vec i x hi hl
   exact ⟨xs,by rw [he];exact a1.keep fun g hg=>hb.block g (a1.lt g hg).2,CV.vals.mono hx.ro _ _ a2,a3⟩
  ·obtain ⟨xs,a1,a2,a3⟩:=h1.vec j x hi hl
   refine ⟨xs,?_,hv j x hi hl xs a2,a3⟩;rw [he];exact a1.base h.base
 ·intro i x g hi hl hg
  rcases ag i x hi with ⟨hlt,hi,he⟩ | ⟨j,rfl,hi,he⟩
  ·rw [he] at hg
   intro hc;rcases Ao _ hc with hc | hc
   ·exact h.vecS i x g hi hl hg hc
   grind
  ·rw [he] at hg
   intro hc;rcases Ao _ hc with hc | hc
   ·have:=h.ro g hc;grind
   ·exact h1.vecS j x g hi hl hg hc.2.2
 ·intro i x j b g hi hl cd bg hg
  rcases ag i x hi with ⟨hlt,hi,he⟩ | ⟨j',rfl,hi,he⟩
  ·rw [he] at hg;exact h.vecbox i x j b g hi hl cd bg hg
  ·have:=h.lt_box cd bg
   grind
 ·intro i x j y g hi hl hj ij hg ew
  rcases ag i x hi with ⟨hlt,Ap,he⟩ | ⟨i',Kj,Ap,he⟩ <;> rcases ag j y hj with ⟨Kk,Ey,ib⟩ | ⟨j',Dg,Ey,ib⟩
  ·rw [he] at hg;rw [ib] at ew;exact h.vecinj i x j y g Ap hl Ey ij hg ew
  ·grind
  ·grind
  ·rw [he] at hg;rw [ib] at ew
   have:=h1.vecinj i' x j' y g Ap hl Ey ij hg ew;omega
 ·intro b cd
  rcases Ao b cd with cd | cd
  ·exact Nat.lt_of_lt_of_le (h.ro b cd) hb.size
  omega
theorem Mem.nothing (e:Env) (w:World) (ba:∀ b,e.S b->b<w.heap.size):Mem w.heap.size w { e with base:=w.heap.size,H:=fun _=>none,y:=false } [] [] w:=
 ⟨by simp,by simp,by simp,by simp,by simp,by simp,by simp,by simp,ba,Below.refl _ _,Nat.le_refl _,⟨Nat.le_refl _,by simp⟩,⟨by simp,by simp,by simp,by simp,by simp⟩⟩
mutual
theorem AV.rebase {e:Env} {w:World} {ks:List Nat} (b0:Nat):∀ (x:AV) (v:Value),AV.holds e w ks x v->AV.holds { e with base:=b0,H:=fun _=>none,y:=false } w ks x v
 | .any,_,_=>by have _:=G;simp [AV.holds]
 | .cv c,v,h=>by grind [AV.holds]
 | .ptr i o,v,h=>by grind [AV.holds]
 | .own i u,v,h=>by grind [AV.holds]
 | .opt i u el o,v,h=>by grind [AV.holds]
 | .agg cs,v,h=>by
  obtain ⟨us,h1,h2⟩:=h;exact ⟨us,h1,AV.rebases b0 cs _ h2⟩
 | .tup cs,v,h=>by
  obtain ⟨us,h1,h2⟩:=h;exact ⟨us,h1,AV.rebases b0 cs _ h2⟩
 | .fn f cs,v,h=>by
  obtain ⟨us,h1,h2⟩:=h;exact ⟨us,h1,AV.rebases b0 cs _ h2⟩
 | .gd L x,v,h=>by
  exact ⟨fun hl=>AV.rebase b0 x v (h.1 hl),h.2⟩
theorem AV.rebases {e:Env} {w:World} {ks:List Nat} (b0:Nat):∀ (xs:List AV) (us:List Value),AV.all e w ks xs us->AV.all { e with base:=b0,H:=fun _=>none,y:=false } w ks xs us
 | [],[],_=>by have _:=G;simp [AV.all]
 | x::xs,u::us,h=>by exact ⟨AV.rebase b0 x u h.1,AV.rebases b0 xs us h.2⟩
 | [],_::_,h=>by grind [AV.all]
 | _::_,[],h=>by grind [AV.all]
end
variable {args:List AV} {K:AV->List Box->List Vec->Prop}
theorem CallP.frame {f:FuncId} (h:CallP P f args [] [] K) (hK:∀ r B V,K r B V->B=[]) (af:AV.scos 0 [] args) (B:List Box) (V:List Vec) :
  CallP P f args B V fun r B' V'=>∃ r0 V0,K r0 [] V0/\r=AV.shift V.length r0/\B'=B/\V'=V++V0:=by
 intro F n hF ba n0 w0 e w vs hm hv hs;have Aq:Ext e w 0 [] (kss V) e w 0 [] []:=⟨RO.refl _ _,fun _ _=>rfl,fun _ _ _ _=>rfl,Nat.le_refl _,Nat.le_refl _,fun _ _=>Nat.le_refl _,fun i hi=>by grind,Nat.le_refl _,fun _ h=>.inl h,rfl,fun _=>rfl,rfl⟩
 refine CallsIn.mono (h F n hF ba w.heap.size w { e with base:=w.heap.size,H:=fun _=>none,y:=false } w vs (Mem.nothing e w hm.ro) (AV.rebases _ _ _ (AV.all.mono Aq _ _ af hv)) af) ?_
 rintro en w' ⟨e1,B1,V0,r0,v,rfl,hk,h1,de,hr,dz⟩;obtain rfl:=hK _ _ _ hk;obtain ⟨e',hρ,hS,qj,lz,ct,hx⟩:=hm.beside h1 de.ye e1.S (fun b hb=>de.ro.sub b hb) (fun b hb=>(de.snew b hb).elim .inl fun hl=>.inr ⟨hl,h1.ro b hb,hb⟩) (fun _ _ _ _ _ h=>h)
 refine ⟨e',B,V++V0,AV.shift V.length r0,v,rfl,⟨r0,V0,hk,rfl,rfl,rfl⟩,ct,hx,?_,?_⟩
 ·refine AV.shift_holds (fun b hb=>by grind) (fun i u _=>lz i u) (fun i hi=>?_) r0 v dz hr
  grind
 ·refine AV.shift_scoped (by simp) (fun i hi=>?_) r0 dz
  grind
def iS (V:List Vec):AV->Option CV
 | .cv c=>some c
 | .own i u=>match V[i]? with
  | some v=>if (v.live&&v.ver == u)=true then (if v.T<bQ then some (.row v.k v.es) else if v.k=v.T / bQ then some (.mp (v.k - 1) v.es) else none) else none
  | none=>none
 | _=>none
def iH (V:List Vec):List AV->Option (List CV)
 | []=>some []
 | x::xs=>match iS V x,iH V xs with
  | some c,some cs=>some (c::cs)
  | _,_=>none
mutual
def AV.lend (B:List Box) (V:List Vec):AV->AV
 | .own i u=>match iS V (.own i u) with
  | some c=>.cv c
  | none=>.any
 | .ptr i 0 =>
  match B[i]? with
  | some b=>if b.live then (match iH V b.cs with | some cs=>.cv (.ref cs) | none=>.any) else .any
  | none=>.any
 | .agg cs=>.agg (AV.lends B V cs)
 | .tup cs=>.tup (AV.lends B V cs)
 | .fn f cs=>if sN cs=true then .any else .fn f (AV.lends B V cs)
 | .cv c=>.cv c
 | _=>.any
def AV.lends (B:List Box) (V:List Vec):List AV->List AV
 | []=>[]
 | x::xs=>AV.lend B V x::AV.lends B V xs
end
theorem YS {B:List Box} {V:List Vec} {xs:List AV} (h:¬sN xs=true):sN (AV.lends B V xs)=false:=by
 have _:=G
 match xs with
 | []=>rfl
 | x::r =>
  have:∀ L y,AV.lend B V x≠.gd L y:=by
   cases x with
   | ptr i o =>
    cases o with
    | zero=>grind [AV.lend]
    | succ o=>simp [AV.lend]
   | own i u=>grind [AV.lend]
   | fn f cs=>grind [AV.lend]
   | _=>simp [AV.lend]
  simp [AV.lends];unfold sN;grind
section
variable {n0:Nat} {w0:World} {e:Env} {B:List Box} {V:List Vec} {w:World}
variable {S:Nat->Prop}
theorem lendV_holds (h:Mem n0 w0 e B V w) (hS:∀ b,e.S b->S b) {x:AV} (n8:∀ (i u:Nat),x=.own i u->∀ (x:Vec) (g:Nat),V[i]? = some x->x.live=true->bM (e.hdr i x.ver)=some g->S g) {c:CV} (hx:iS V x=some c) {v:Value} (hv:AV.holds e w (kss V) x v):CV.holds w S c v:=by
 unfold iS at hx;split at hx
 ·cases hx
  exact CV.holds.mono ⟨fun b hb=>hS b hb,fun _ _=>rfl⟩ c v hv
 ·rename_i i u
  split at hx
  ·rename_i x hi
   split at hx
   ·rename_i hc
    simp at hc;obtain ⟨hl,rfl⟩:=hc;obtain ⟨rfl,_⟩:=hv;obtain ⟨xs,a1',a2,a3⟩:=h.vec i x hi hl;have au:=CV.vals.mono (S':=S) (w':=w) ⟨fun b hb=>hS b hb,fun _ _=>rfl⟩ _ _ a2
    split at hx
    ·rename_i tr
     cases hx;have a1:=a1'.s tr;obtain ⟨ao,c,hs,bq,gt⟩:=a1.slice;refine ⟨ao,c,hs,bq,gt,?_⟩;rcases a1 with ⟨_,_,h0,_⟩ | ⟨a1,g,hg,ew⟩
     ·grind
     ·right
      rcases a1.2 with ⟨h0,_⟩ | ⟨g',cap,cur,h0,_⟩
      ·grind [bM]
      ·have ez:g'=g:=by grind [Value.ownBlock]
       subst ez;rw [h0] at hs;injection hs with iz kr Ip
       exact ⟨g',0,iz.symm,n8 i _ rfl x g' hi hl hg,CV.rows.of_vals a3 au fun j u hj=>by simpa [addr_add] using a1.cells ew j u hj⟩
    ·rename_i tr
     split at hx
     ·rename_i hk
      cases hx;obtain ⟨hT,b,arr,c,b1,b2,b3,b4,b5,b6⟩:=a1'.m (Nat.not_lt.1 tr)
      have mq:x.k=x.k - 1+1:=by
       have:1<=x.k:=by rw [hk];exact (Nat.one_le_div_iff (by decide)).2 (Nat.le_of_lt hT)
       omega
      refine ⟨b,arr,c,_,b1,n8 i _ rfl x b hi hl (by rw [b1];rfl),b3,b5,b6,?_⟩
      have:=CC (kn:=x.k - 1) au fun l hm=>by grind
      grind
     grind
   grind
  grind
 grind
theorem lendVs_holds (h:Mem n0 w0 e B V w) {S:Nat->Prop} (hS:∀ b,e.S b->S b) (n8:∀ (i:Nat) (x:Vec) (g:Nat),V[i]? = some x->x.live=true->bM (e.hdr i x.ver)=some g->S g):∀ {xs:List AV} {cs:List CV} {vs:List Value},iH V xs=some cs->AV.all e w (kss V) xs vs->CV.vals w S cs vs
 | [],cs,vs,hx,hv=>by
  grind [iH,AV.all,CV.vals]
 | x::xs,cs,[],hx,hv=>by grind [AV.all]
 | x::xs,cs,v::vs,hx,hv=>by
  simp [iH] at hx;split at hx
  ·rename_i c cs' h1 h2
   cases hx;exact ⟨lendV_holds h hS (fun i _ _=>n8 i) h1 hv.1,lendVs_holds h hS n8 h2 hv.2⟩
  grind
mutual
theorem AV.lend_holds' (h:Mem n0 w0 e B V w) {S:Nat->Prop} (hS:∀ b,e.S b->S b) (sn:∀ (i:Nat) (b:Box),B[i]? = some b->b.live=true->S (e.ρ i)) (n8:∀ (i:Nat) (x:Vec) (g:Nat),V[i]? = some x->x.live=true->bM (e.hdr i x.ver)=some g->S g):∀ (x:AV) (v:Value),AV.holds e w (kss V) x v->AV.holds { e with S:=S } w [] (AV.lend B V x) v
 | .any,_,_=>by simp [AV.lend,AV.holds]
 | .cv c,v,hv=>by
  exact CV.holds.mono ⟨fun b hb=>hS b hb,fun _ _=>rfl⟩ c v hv
 | .ptr i 0,v,hv=>by
  simp [AV.lend];split
  ·rename_i b hb
   split
   ·rename_i hl
    split
    ·rename_i cs aT
     obtain ⟨vs,a1,a2⟩:=h.box i b hb hl;have au:=lendVs_holds h hS n8 aT a2;refine ⟨e.ρ i,0,hv,sn i b hb hl,CV.cells.of_vals au fun j u hj=>?_⟩
     grind [cell_of_row]
    ·simp [AV.holds]
   ·simp [AV.holds]
  ·simp [AV.holds]
 | .ptr i (o+1),v,hv=>by simp [AV.lend,AV.holds]
 | .own i u,v,hv=>by
  simp [AV.lend];split
  ·rename_i c hc
   exact lendV_holds h hS (fun i _ _=>n8 i) hc hv
  ·simp [AV.holds]
 | .opt _ _ _ _,_,_=>by simp [AV.lend,AV.holds]
 | .gd _ _,_,_=>by simp [AV.lend,AV.holds]
 | .agg cs,v,hv=>by
  obtain ⟨us,h1,h2⟩:=hv;exact ⟨us,h1,AV.lends_holds' h hS sn n8 cs _ h2⟩
 | .tup cs,v,hv=>by
  obtain ⟨us,h1,h2⟩:=hv;exact ⟨us,h1,AV.lends_holds' h hS sn n8 cs _ h2⟩
 | .fn f cs,v,hv=>by
  simp [AV.lend];split
  ·simp [AV.holds]
  ·obtain ⟨us,h1,h2⟩:=hv
   exact ⟨us,by simp_all [YS],AV.lends_holds' h hS sn n8 cs _ h2⟩
theorem AV.lends_holds' (h:Mem n0 w0 e B V w) {S:Nat->Prop} (hS:∀ b,e.S b->S b) (sn:∀ (i:Nat) (b:Box),B[i]? = some b->b.live=true->S (e.ρ i)) (n8:∀ (i:Nat) (x:Vec) (g:Nat),V[i]? = some x->x.live=true->bM (e.hdr i x.ver)=some g->S g):∀ (xs:List AV) (us:List Value),AV.all e w (kss V) xs us->AV.all { e with S:=S } w [] (AV.lends B V xs) us
 | [],[],_=>by simp [AV.lends,AV.all]
 | x::xs,u::us,hv=>by
  exact ⟨AV.lend_holds' h hS sn n8 x u hv.1,AV.lends_holds' h hS sn n8 xs us hv.2⟩
 | [],_::_,hv=>by grind [AV.all]
 | _::_,[],hv=>by grind [AV.all]
end
theorem AV.lends_holds (h:Mem n0 w0 e B V w) (hS:∀ b,b<w.heap.size->S b) (xs:List AV) (us:List Value) (hv:AV.all e w (kss V) xs us):AV.all { e with S:=S } w [] (AV.lends B V xs) us:=
 AV.lends_holds' h (fun b hb=>hS b (h.ro b hb)) (fun i b hb hl=>hS _ (h.lt_box hb hl)) (fun i x g hx hl hg=>hS _ (by obtain ⟨xs,a1,_⟩:=h.vec i x hx hl;exact (a1.lt g hg).2)) xs us hv
end
mutual
theorem AV.lend_scoped (B:List Box) (V:List Vec):∀ (x:AV),AV.sco 0 [] (AV.lend B V x)
 | .any=>by have _:=G;simp [AV.lend,AV.sco]
 | .cv c=>by simp [AV.lend,AV.sco]
 | .ptr i 0=>by grind [AV.lend,AV.sco]
 | .ptr i (o+1)=>by simp [AV.lend,AV.sco]
 | .own i u=>by grind [AV.lend,AV.sco]
 | .opt _ _ _ _=>by simp [AV.lend,AV.sco]
 | .gd _ _=>by simp [AV.lend,AV.sco]
 | .agg cs=>by exact AV.lends_scoped B V cs
 | .tup cs=>by exact AV.lends_scoped B V cs
 | .fn f cs=>by
  simp [AV.lend];split
  ·simp [AV.sco]
  ·exact AV.lends_scoped B V cs
theorem AV.lends_scoped (B:List Box) (V:List Vec):∀ (xs:List AV),AV.scos 0 [] (AV.lends B V xs)
 | []=>by have _:=G;simp [AV.lends,AV.scos]
 | x::xs=>by exact ⟨AV.lend_scoped B V x,AV.lends_scoped B V xs⟩
end
theorem CallP.lend {f:FuncId} {args':List AV} {B:List Box} {V:List Vec} (ha:AV.lends B V args=args') (h:CallP P f args' [] [] K)
  (hK:∀ r B V,K r B V->B=[]/\AV.flat r=true/\V.all Vec.flat=true) :
  CallP P f args B V fun r B' V'=>∃ r0 V0,K r0 [] V0/\r=AV.shift V.length r0/\B'=B/\V'=V++V0:=by
 intro F n hF ba n0 w0 e w vs hm hv hs;subst ha;refine CallsIn.mono (h F n hF ba w.heap.size w { e with S:=fun b=>b<w.heap.size,base:=w.heap.size,H:=fun _=>none,y:=false } w vs (Mem.nothing { e with S:=fun b=>b<w.heap.size } w fun b hb=>hb) (AV.rebases _ _ _ (AV.lends_holds hm (fun b hb=>hb) _ _ hv)) (AV.lends_scoped B V args)) ?_
 rintro en w' ⟨e1,B1,V0,r0,v,rfl,hk,h1,de,hr,dz⟩;obtain ⟨rfl,Kl,Dh⟩:=hK _ _ _ hk
 have ji:∀ (i:Nat) (x:Vec),V0[i]? = some x->x.es.flatten.all CV.flat=true:=by
  intro i x hi;have h2:=List.all_eq_true.1 Dh x (List.mem_of_getElem? hi);grind [Vec.flat]
 obtain ⟨e',hρ,hS,qj,lz,ct,hx⟩:=hm.beside h1 de.ye e.S (fun b hb=>hb) (fun b hb=>.inl hb) (fun i x hi _ xs dO=>CV.flat_vals (ji i x hi) dO)
 refine ⟨e',B,V++V0,AV.shift V.length r0,v,rfl,⟨r0,V0,hk,rfl,rfl,rfl⟩,ct,hx,?_,?_⟩
 ·refine AV.shift_flat (vs1:=vers V0) (fun i u _=>lz i u) (fun i hi=>?_) r0 v Kl dz hr
  grind
 ·refine AV.shift_scoped (by simp) (fun i hi=>?_) r0 dz
  grind
end
attribute [simp] dB St.ev St.put CD Value.oneCell' tC PB IU EI kW jT iE splice AV.cells AV.one RX fN gJ jH iG mD kH tD JS UX rL lM gC aS pT JU bU AE tE qG fO EL qI rM aAZ pM AV.lend AV.lends AV.shift AV.shifts AV.flat AV.flats CV.flat Vec.flat eQ TK.agg AV.sco AV.scos
section
variable {e e1:Env} {w:World} {k nB:Nat} {ks ks1 vs1:List Nat}
end
section
variable {P:Program}
end
section
variable {F:Fence} {n:Nat} {P:Program}
end
mutual
def AV.closed:AV->Bool
 | .any=>true
 | .cv _=>true
 | .agg cs=>AV.closeds cs
 | .tup cs=>AV.closeds cs
 | .fn _ cs=>AV.closeds cs
 | _=>false
def AV.closeds:List AV->Bool
 | []=>true
 | x::xs=>AV.closed x&&AV.closeds xs
end
mutual
theorem AV.shift_closed (k:Nat):∀ (x:AV),AV.closed x=true->AV.shift k x=x
 | .any,_=>by have _:=G;rfl
 | .cv c,_=>by rfl
 | .agg cs,h=>by simp only [AV.closed] at h;simp [AV.shift,AV.shifts_closed k cs h]
 | .tup cs,h=>by simp only [AV.closed] at h;simp [AV.shift,AV.shifts_closed k cs h]
 | .fn f cs,h=>by simp only [AV.closed] at h;simp [AV.shift,AV.shifts_closed k cs h]
 | .ptr _ _,h=>by rfl
 | .own _ _,h=>by grind [AV.closed]
 | .opt _ _ _ _,h=>by grind [AV.closed]
 | .gd _ _,h=>by grind [AV.closed]
theorem AV.shifts_closed (k:Nat):∀ (xs:List AV),AV.closeds xs=true->AV.shifts k xs=xs
 | [],_=>by have _:=G;rfl
 | x::xs,h=>by simp_all [AV.closeds,AV.shift_closed,AV.shifts_closed]
end
mutual
theorem AV.lend_closed (B:List Box) (V:List Vec):∀ (x:AV),AV.closed (AV.lend B V x)=true
 | .any=>by have _:=G;rfl
 | .cv c=>by rfl
 | .ptr i 0=>by grind [AV.lend,AV.closed]
 | .ptr i (o+1)=>by rfl
 | .own i u=>by grind [AV.lend,AV.closed]
 | .opt _ _ _ _=>by rfl
 | .gd _ _=>by rfl
 | .agg cs=>by exact AV.lends_closed B V cs
 | .tup cs=>by exact AV.lends_closed B V cs
 | .fn f cs=>by
  simp;split
  ·rfl
  ·exact AV.lends_closed B V cs
theorem AV.lends_closed (B:List Box) (V:List Vec):∀ (xs:List AV),AV.closeds (AV.lends B V xs)=true
 | []=>by have _:=G;rfl
 | x::xs=>by simp only [AV.lends,AV.closeds,AV.lend_closed B V x,AV.lends_closed B V xs,Bool.and_self]
end
mutual
theorem AV.sco_closed (nB:Nat) (vs:List Nat):∀ (x:AV),AV.closed x=true->AV.sco nB vs x
 | .any,_=>by have _:=G;simp
 | .cv c,_=>by simp
 | .agg cs,h=>by exact AV.scos_closed nB vs cs h
 | .tup cs,h=>by exact AV.scos_closed nB vs cs h
 | .fn f cs,h=>by exact AV.scos_closed nB vs cs h
 | .ptr _ _,h=>by grind [AV.closed]
 | .own _ _,h=>by grind [AV.closed]
 | .opt _ _ _ _,h=>by grind [AV.closed]
 | .gd _ _,h=>by grind [AV.closed]
theorem AV.scos_closed (nB:Nat) (vs:List Nat):∀ (xs:List AV),AV.closeds xs=true->AV.scos nB vs xs
 | [],_=>by have _:=G;simp
 | x::xs,h=>by simp [AV.closeds] at h;exact ⟨AV.sco_closed nB vs x h.1,AV.scos_closed nB vs xs h.2⟩
end
mutual
theorem AV.closed_holds {e e':Env} {w:World} {ks ks':List Nat} (hS:∀ b,e.S b->e'.S b):∀ (x:AV) (v:Value),AV.closed x=true->AV.holds e w ks x v->AV.holds e' w ks' x v
 | .any,_,_,_=>by have _:=G;simp [AV.holds]
 | .cv c,v,_,h=>by exact CV.holds.mono ⟨hS,fun _ _=>rfl⟩ c v h
 | .agg cs,v,hc,h=>by
  obtain ⟨us,h1,h2⟩:=h;exact ⟨us,h1,AV.closeds_holds hS cs _ hc h2⟩
 | .tup cs,v,hc,h=>by
  obtain ⟨us,h1,h2⟩:=h;exact ⟨us,h1,AV.closeds_holds hS cs _ hc h2⟩
 | .fn f cs,v,hc,h=>by
  obtain ⟨us,h1,h2⟩:=h;exact ⟨us,h1,AV.closeds_holds hS cs _ hc h2⟩
 | .ptr _ _,_,h,_=>by grind [AV.closed]
 | .own _ _,_,h,_=>by grind [AV.closed]
 | .opt _ _ _ _,_,h,_=>by grind [AV.closed]
 | .gd _ _,_,h,_=>by grind [AV.closed]
theorem AV.closeds_holds {e e':Env} {w:World} {ks ks':List Nat} (hS:∀ b,e.S b->e'.S b):∀ (xs:List AV) (us:List Value),AV.closeds xs=true->AV.all e w ks xs us->AV.all e' w ks' xs us
 | [],[],_,_=>by have _:=G;simp [AV.all]
 | x::xs,u::us,hc,h=>by
  simp [AV.closeds] at hc;exact ⟨AV.closed_holds hS x u hc.1 h.1,AV.closeds_holds hS xs us hc.2 h.2⟩
 | [],_::_,_,h=>by grind [AV.all]
 | _::_,[],_,h=>by grind [AV.all]
end
mutual
def AV.bnm:AV->List Nat
 | .ptr i _=>[i]
 | .agg xs=>AV.bnms xs
 | .tup xs=>AV.bnms xs
 | .fn _ xs=>AV.bnms xs
 | .gd _ x=>AV.bnm x
 | _=>[]
def AV.bnms:List AV->List Nat
 | []=>[]
 | x::xs=>AV.bnm x++AV.bnms xs
end
mutual
def AV.vnm:AV->List Nat
 | .own i _=>[i]
 | .opt i _ _ _=>[i]
 | .agg xs=>AV.vnms xs
 | .tup xs=>AV.vnms xs
 | .fn _ xs=>AV.vnms xs
 | .gd _ x=>AV.vnm x
 | _=>[]
def AV.vnms:List AV->List Nat
 | []=>[]
 | x::xs=>AV.vnm x++AV.vnms xs
end
def bvs (B:List Box) (l:List Nat):List Nat:=l.flatMap fun i=>match B[i]? with
 | some b=>AV.vnms b.cs
 | none=>[]
theorem aGA (B:List Box) (l l':List Nat):bvs B (l++l')=bvs B l++bvs B l':=by have _:=G;simp [bvs]
theorem JY {V V':List Vec}:∀ (xs:List AV),(∀ i∈AV.vnms xs,V'[i]? = V[i]?)->iH V' xs=iH V xs
 | [],_=>have _:=G;rfl
 | x::xs,h=>by
  simp only [AV.vnms,List.mem_append] at h
  have h1:iS V' x=iS V x:=by
   cases x with
   | own i u=>simp only [iS,h i (.inl (by simp [AV.vnm]))]
   | _=>rfl
  simp only [iH,h1,JY xs fun i hi=>h i (.inr hi)]
mutual
theorem AV.lend_agr {B B':List Box} {V V':List Vec}:∀ (x:AV),(∀ i∈AV.bnm x,B'[i]? = B[i]?)->(∀ i∈AV.vnm x,V'[i]? = V[i]?)->(∀ i∈bvs B (AV.bnm x),V'[i]? = V[i]?)->AV.lend B' V' x=AV.lend B V x
 | .any,_,_,_=>by have _:=G;rfl
 | .cv _,_,_,_=>by rfl
 | .ptr i 0,h,_,h3=>by
  grind [AV.lend,AV.bnm,JY,bvs]
 | .ptr i (o+1),_,_,_=>by rfl
 | .own i u,_,h,_=>by grind [AV.lend,iS,AV.vnm]
 | .opt _ _ _ _,_,_,_=>by rfl
 | .gd _ _,_,_,_=>by rfl
 | .agg cs,h1,h2,h3=>by simp only [AV.lend,AV.lends_agr cs (by simpa only [AV.bnm] using h1) (by simpa only [AV.vnm] using h2) (by simpa only [AV.bnm] using h3)]
 | .tup cs,h1,h2,h3=>by simp only [AV.lend,AV.lends_agr cs (by simpa only [AV.bnm] using h1) (by simpa only [AV.vnm] using h2) (by simpa only [AV.bnm] using h3)]
 | .fn f cs,h1,h2,h3=>by simp only [AV.lend,AV.lends_agr cs (by simpa only [AV.bnm] using h1) (by simpa only [AV.vnm] using h2) (by simpa only [AV.bnm] using h3)]
theorem AV.lends_agr {B B':List Box} {V V':List Vec}:∀ (xs:List AV),(∀ i∈AV.bnms xs,B'[i]? = B[i]?)->(∀ i∈AV.vnms xs,V'[i]? = V[i]?)->(∀ i∈bvs B (AV.bnms xs),V'[i]? = V[i]?)->AV.lends B' V' xs=AV.lends B V xs
 | [],_,_,_=>have _:=G;rfl
 | x::xs,h1,h2,h3=>by
  simp only [AV.bnms,AV.vnms,aGA,List.mem_append] at h1 h2 h3;simp only [AV.lends,AV.lend_agr x (fun i hi=>h1 i (.inl hi)) (fun i hi=>h2 i (.inl hi)) (fun i hi=>h3 i (.inl hi)),AV.lends_agr xs (fun i hi=>h1 i (.inr hi)) (fun i hi=>h2 i (.inr hi)) (fun i hi=>h3 i (.inr hi))]
end
def SpecR (P:Program) (f:FuncId) (args:List AV) (r:AV):Prop:=CallP P f args [] [] fun r' B V=>r'=r/\B=[]/\V=[]
section
variable {P:Program}
def CallPc (P:Program) (f:FuncId) (args:List AV) (K:AV->List Box->List Vec->Prop):Prop:=
 ∀ (F:Fence) (n:Nat),Free F->F.round=none->∀ n0 w0 e w (vs:Array Value),e.y=false/\e.H=(fun _=>none)->Mem n0 w0 e [] [] w->AV.all e w (kss []) args vs.toList->AV.scos 0 [] args ->
  CallsIn F n P f vs w fun en w'=>∃ e' B' V' r v,en=.returned v/\K r B' V'/\Mem n0 w0 e' B' V' w'/\Ext e w 0 [] [] e' w' B'.length (vers V') (kss V') /\
   AV.holds e' w' (kss V') r v/\AV.sco B'.length (vers V') r
variable {args:List AV}
theorem CallP.freeze {f:FuncId} {K:AV->List Box->List Vec->Prop} (h:CallPc P f args K) (af:AV.scos 0 [] args) :
  CallP P f args [] [] fun r B V=>B=[]/\V=[]/\∃ r0 B0 V0,K r0 B0 V0/\r=AV.lend B0 V0 r0:=by
 intro F n hF ba n0 w0 e w vs hm hv hs;refine CallsIn.mono (h F n hF ba w.heap.size w { e with base:=w.heap.size,H:=fun _=>none,y:=false } w vs ⟨rfl,rfl⟩ (Mem.nothing e w hm.ro) (AV.rebases _ _ _ hv) af) ?_
 rintro en w' ⟨e1,B1,V0,r0,v,rfl,hk,h1,de,hr,dz⟩
 let S':Nat->Prop:=fun b=>e.S b\/(w.heap.size<=b/\b<w'.heap.size)
 have hS:∀ b,e1.S b->S' b:=fun b hb=>(de.snew b hb).elim .inl fun hl=>.inr ⟨hl,h1.ro b hb⟩
 have bo:=AV.lend_holds' h1 (S:=S') hS (fun i b hb hl=>.inr ⟨(h1.boxlo i b hb hl).1,h1.lt_box hb hl⟩) (fun i x g hx hl hg=>.inr (by obtain ⟨xs,a1,_⟩:=h1.vec i x hx hl;exact a1.lt g hg)) r0 v hr
 have h2:Mem w.heap.size w { e1 with S:=S' } [] [] w':=by
  refine ⟨by simp,by simp,by simp,by simp,by simp,by simp,by simp,by simp,?_,h1.below,h1.base,h1.bl,h1.hid.of rfl ⟨rfl,rfl⟩ (fun b _=>.inr (by rw [de.he rfl])) (fun i x h=>by grind) (fun _ _ _=>rfl) (by simp) (by simp)⟩
  rintro b (hb | hb)
  ·exact h1.ro b (de.ro.sub b hb)
  omega
 obtain ⟨e',hρ,Ar,qj,lz,ct,hx⟩:=hm.beside h2 de.ye S' (fun b hb=>.inl hb) (fun b hb=>hb.elim .inl fun hl=>.inr ⟨hl.1,hl.2,.inr hl⟩) (fun _ _ _ _ _ h=>h)
 refine ⟨e',[],[],AV.lend B1 V0 r0,v,rfl,⟨rfl,rfl,r0,B1,V0,hk,rfl⟩,ct,hx,?_,AV.lend_scoped B1 V0 r0⟩;exact AV.closed_holds (e:={ e1 with S:=S' }) (fun b hb=>by grind) _ v (AV.lend_closed B1 V0 r0) bo
theorem SpecR.frame {f:FuncId} {args:List AV} {r:AV} (h:SpecR P f args r) (af:AV.closeds args=true) (hr:AV.closed r=true) (B:List Box) (V:List Vec) :
  CallP P f args B V fun r' B' V'=>r'=r/\B'=B/\V'=V:=
 CallP.mono (CallP.frame h (fun _ _ _ h=>h.2.1) (AV.scos_closed _ _ _ af) B V) fun r' B' V' ⟨r0,V0,⟨h1,_,h2⟩,h3,h4,h5⟩=>by
  subst h1;subst h2;subst h3;exact ⟨AV.shift_closed _ _ hr,h4,by grind⟩
theorem SpecR.lent {f:FuncId} {args':List AV} {r:AV} (h:SpecR P f args' r) {B:List Box} {V:List Vec} (ha:AV.lends B V args=args') (hr:AV.closed r=true) (pq:AV.flat r=true) :
  CallP P f args B V fun r' B' V'=>r'=r/\B'=B/\V'=V:=
 CallP.mono (CallP.lend ha h fun r' B V ⟨h1,h2,h3⟩=>⟨h2,by grind,by grind⟩) fun r' B' V' ⟨r0,V0,⟨h1,_,h2⟩,h3,h4,h5⟩=>by
  subst h1;subst h3;exact ⟨AV.shift_closed _ _ hr,h4,by grind⟩
end
def oJ:Op->Nat
 | .move _=>0
 | .assign _=>0
 | .pick _ _ _=>0
 | .build _ _=>0
 | .binOp _ _ _ _ _=>0
 | .unOp _ _ _=>0
 | .fieldAddr _ _ _=>0
 | .index _ _ _=>0
 | .extract _ _=>0
 | .convert _ _ _=>0
 | .nilCheck _=>0
 | .field _ _ _=>0
 | .call { callee:=.builtin .max,.. }=>0
 | .call { callee:=.builtin .min,.. }=>0
 | .load _ _=>1
 | .indexAddr _ _ _=>1
 | .slice _ _ _ _ none=>1
 | .slice _ _ _ (some (.tmp _)) (some (.tmp _))=>1
 | .buildSlice _ _ _=>1
 | .call { callee:=.builtin .len,.. }=>1
 | .call { callee:=.value _,.. }=>1
 | .store _ _ _=>2
 | .alloc _=>3
 | _=>4
def wl (lo:List Oper) (i:Nat):List Bool:=lo.foldl (fun acc o=>acc++[o.after.any fun e=>Region.binds .any e&&(e.on == i || acc.getD e.on false)]) []
theorem SA (lo:List Oper) (o:Oper) (i:Nat):wl (lo++[o]) i=wl lo i++[o.after.any fun e=>Region.binds .any e&&(e.on == i || (wl lo i).getD e.on false)]:=by
 have _:=G;simp [wl]
theorem aB2 (i:Nat) (lo:List Oper):(wl lo i).length=lo.length:=by
 rw [<- List.reverse_reverse lo]
 induction lo.reverse with
 | nil=>rfl
 | cons o l ih=>grind [List.reverse_cons,SA]
theorem aA0 (i:Nat) (lo:List Oper):∀ (j:Nat),(wl lo i).getD j false=true->∃ oj,lo[j]? = some oj/\∃ e∈oj.after,Region.binds .any e=true/\(e.on=i\/(e.on<j/\(wl lo i).getD e.on false=true)):=by
 rw [<- List.reverse_reverse lo]
 induction lo.reverse with
 | nil=>grind [wl]
 | cons o l ih =>
  have hl:=aB2 i l.reverse
  have At:∀ k,k<l.reverse.length->(wl (l.reverse++[o]) i).getD k false=(wl l.reverse i).getD k false:=by
   grind [SA]
  grind [SA]
theorem yW {l:Array Bool} {k:Nat} (h:l.getD k false=true):l.getD k true=true:=by
 have _:=G;grind
def Down (lo:List Oper) (listed:Array Bool):Prop:=
 ∀ j oj,lo[j]? = some oj->listed.getD j true=true->∀ e∈oj.after,Region.binds .any e=true->listed.getD e.on true=true
theorem Down.wl {lo:List Oper} {listed:Array Bool} (h:Down lo listed) {i:Nat} (hi:listed.getD i true=false):∀ (j:Nat),listed.getD j true=true->(wl lo i).getD j false=false:=by
 intro j
 induction j using Nat.strongRecOn with
 | _ j ih =>
  intro hj;cases hw:(Go.Sx.wl lo i).getD j false with
  | false=>rfl
  | true =>
   obtain ⟨oj,h1,e,h2,h3,h4⟩:=aA0 i lo j hw;have h5:=h j oj h1 hj e h2 h3;grind
variable {listed:Array Bool}
theorem Down.ready {lo:List Oper} (h:Down lo listed) {i j:Nat} (hi:listed.getD i true=false) {oj:Oper} (hj:lo[j]? = some oj) (bh:∀ e∈oj.after,Region.binds .any e=true->listed.getD e.on true=true) :
  (Go.Sx.wl lo i).getD j false=false:=by
 cases hw:(Go.Sx.wl lo i).getD j false with
 | false=>rfl
 | true =>
  obtain ⟨oj',h1,e,h2,h3,h4⟩:=aA0 i lo j hw;rw [hj] at h1;cases h1;have h5:=bh e h2 h3;rcases h4 with h4 | ⟨h4,h6⟩
  ·grind
  ·rw [h.wl hi _ h5] at h6;cases h6
theorem Down.set {lo:List Oper} (h:Down lo listed) {j:Nat} {oj:Oper} (hj:lo[j]? = some oj) (bh:∀ e∈oj.after,Region.binds .any e=true->listed.getD e.on true=true):Down lo (listed.setIfInBounds j true):=by
 have _:=G;intro k ok hk hl e he hb
 have key:∀ x,listed.getD x true=true->(listed.setIfInBounds j true).getD x true=true:=by
  intro x hx
  by_cases Ot:j=x
  ·simp_all
  simp_all
 by_cases ou:j=k
 ·grind
 ·rw [getD_set_ne true ou] at hl
  exact key _ (h k ok hk hl e he hb)
section
variable (F:Fence) (n:Nat) (P:Program) (lo:List Oper) (b0:Nat)
def aIz (o:Oper) (s:St) (A:AV) (B':List Box):Prop:=
 ∀ n0 w0 e a w (Q:Exit->Act->World->Prop) (K:Act->World->Prop),Rel n0 w0 e s a w ->
  (∀ e' v w',Mem n0 w0 e' B' s.V w'->dW e s w e' B' s.V w'->AV.holds e' w' (kss s.V) A v->AV.sco B'.length (vers s.V) A->K (a.put o.dst v) w') ->
  if Region.wanted o (yielded lo.toArray a.tmps)=true then o.wpIn F n P a w K Q else (∀ f,o.about P w a.eval=some f->F.fn f)/\K (a.put o.dst undef) w
def nB (be:Option (List Box)) (B:List Box):List Box:=be.getD B
variable {F n P lo b0}
def stp (o:Oper) (s:St) (A:AV) (be:Option (List Box)):St:=s.put o.dst A (nB be s.B) s.V
theorem put_get {s:St} {dst:Option Nat} {A:AV} {B:List Box} {V:List Vec} {d:Nat} (h:∀ x,dst=some x->x≠d):(s.put dst A B V).t[d]? = s.t[d]?:=by
 have _:=G;cases dst with
 | none=>rfl
 | some x=>simp_all
end
section
variable {F:Fence} {n:Nat} {P:Program} {lo:List Oper} {b0:Nat}
def aGB (F:Fence) (n:Nat) (P:Program) (o:Oper) (s:St) (A:AV) (B':List Box):Prop:=
 ∀ n0 w0 e a w (Q:Exit->Act->World->Prop) (K:Act->World->Prop),Rel n0 w0 e s a w ->
  (∀ e' v w',Mem n0 w0 e' B' s.V w'->dW e s w e' B' s.V w'->AV.holds e' w' (kss s.V) A v->AV.sco B'.length (vers s.V) A->K (a.put o.dst v) w')->o.wpIn F n P a w K Q
variable {o:Oper} {s:St} {A:AV}
theorem SB (hF:Free F) {B':List Box} (h:dB P s o.op=some (A,B',s.V)):aGB F n P o s A B':=by
 intro n0 w0 e a w Q K hr hk;obtain ⟨nx,v,w',e',h1,h2,h3,h4,h5,h6⟩:=uN h n0 w0 e a w hr;refine ⟨fun f _=>hF.fn f,?_⟩
 rw [Oper.semAt_plain F _ _ (by grind [dB]),h1]
 have l7:=hk e' v w' h3 h4 h5 h6;rcases h2 with rfl | ⟨rfl,rfl⟩
 ·exact l7
 ·exact l7
theorem EM (hF:Free F) {x:Operand} {args:Array Operand} {ts:Array TypeId} {f:FuncId} {caps:List AV}
  (ae:o.op=.call { callee:=.value x,args,argTypes:=ts }) (hx:eQ (s.ev x)=some (f,caps))
  (dv:∀ (as:Array Value) (w:World),(callFunc f as).run P w=.ok (.enter f as) w)
  (h:CallP P f (args.toList.map s.ev++caps) s.B s.V fun r B' V'=>r=A/\B'=s.B/\V'=s.V):aGB F n P o s A s.B:=by
 intro n0 w0 e a w Q K hr hk;have ce:=hr.ev x
 obtain ⟨cvs,hf,iF,aT⟩:∃ cvs:Array Value,a.eval x=.func (.func f) #[] cvs/\AV.all e w (kss s.V) caps cvs.toList/\AV.scos s.B.length (vers s.V) caps:=by
  unfold eQ at hx;split at hx
  ·rename_i g cs hg
   obtain ⟨rfl,rfl⟩:=hx;rw [hg] at ce;obtain ⟨⟨vs,h1,h2⟩,_⟩:=ce;exact ⟨vs,h1,AV.all.of_vals h2,AV.scos_cv _ _ _⟩
  ·rename_i g cs hg
   split at hx
   ·cases hx
   ·rename_i jq
    obtain ⟨rfl,rfl⟩:=hx;rw [hg] at ce;obtain ⟨⟨vs,h1,h2⟩,h3⟩:=ce;rw [eq_false_of_ne_true jq] at h1;exact ⟨vs,h1,h2,h3⟩
  grind
 have cn:=hr.evs args.toList;refine ⟨fun f _=>hF.fn f,?_⟩
 rw [Oper.semAt_plain F _ _ (by grind)]
 have ai:(execOp a.eval o).run P w=.ok (.enter f (args.map a.eval++cvs)) w:=by
  grind [execOp,resolve,Deferred.ofValue,invoke]
 rw [ai];refine ⟨fun hd=>by rw [hF.depth] at hd;grind,?_⟩
 refine CallsIn.anyRound (CallsIn.mono (h F.plain (n - 1) hF.plain rfl n0 w0 e w (args.map a.eval++cvs) hr.mem (by simpa using cn.1.append iF) (by
  grind [AV.scos_iff])) ?_)
 grind
theorem jI {s':St} (h:∀ d∈o.looksAt lo.toArray,s'.t[d]? = s.t[d]?):∀ x∈o.op.operands,s'.ev x=s.ev x:=by
 have _:=G;intro x hx;cases x with
 | tmp d =>
  have:d∈o.looksAt lo.toArray:=List.mem_append_left _ (List.mem_filterMap.2 ⟨.tmp d,by grind,rfl⟩)
  simp_all
 | const v=>rfl
 | global g=>rfl
 | func f=>rfl
def SC:Op->Bool
 | .buildSlice _ _ _=>true
 | _=>false
def AY (P:Program) (st:St):Op->Option AV
 | .buildSlice T len parts =>
  if AV.closeds (parts.toList.map fun p=>st.ev p.2) then
   match bU P ⟨[],[],[]⟩ T len (parts.toList.map fun p=>(p.1,st.ev p.2)) with
   | some (A,B,V)=>some (AV.lend B V A)
   | none=>none
  else none
 | _=>none
theorem Mem.froze {n0:Nat} {w0:World} {e:Env} {B:List Box} {V:List Vec} {w w':World} (hm:Mem n0 w0 e B V w) {e1:Env} {B1:List Box} {V0:List Vec} (h1:Mem w.heap.size w e1 B1 V0 w')
  (de:Ext { e with base:=w.heap.size,H:=fun _=>none,y:=false } w 0 [] [] e1 w' B1.length (vers V0) (kss V0)) {r0:AV} {v:Value} (hr:AV.holds e1 w' (kss V0) r0 v) :
  ∃ e',Mem n0 w0 e' B V w'/\Ext e w B.length (vers V) (kss V) e' w' B.length (vers V) (kss V)/\AV.holds e' w' (kss V) (AV.lend B1 V0 r0) v:=by
 let S':Nat->Prop:=fun b=>e.S b\/(w.heap.size<=b/\b<w'.heap.size)
 have hS:∀ b,e1.S b->S' b:=fun b hb=>(de.snew b hb).elim .inl fun hl=>.inr ⟨hl,h1.ro b hb⟩
 have bo:=AV.lend_holds' h1 (S:=S') hS (fun i b hb hl=>.inr ⟨(h1.boxlo i b hb hl).1,h1.lt_box hb hl⟩) (fun i x g hx hl hg=>.inr (by obtain ⟨xs,a1,_⟩:=h1.vec i x hx hl;exact a1.lt g hg)) r0 v hr
 have h2:Mem w.heap.size w { e1 with S:=S' } [] [] w':=by
  refine ⟨by simp,by simp,by simp,by simp,by simp,by simp,by simp,by simp,?_,h1.below,h1.base,h1.bl,h1.hid.of rfl ⟨rfl,rfl⟩ (fun b _=>.inr (by rw [de.he rfl])) (fun i x h=>by grind) (fun _ _ _=>rfl) (by simp) (by simp)⟩
  rintro b (hb | hb)
  ·exact h1.ro b (de.ro.sub b hb)
  omega
 obtain ⟨e',hρ,Ar,qj,lz,ct,hx⟩:=hm.beside h2 de.ye S' (fun b hb=>.inl hb) (fun b hb=>hb.elim .inl fun hl=>.inr ⟨hl.1,hl.2,.inr hl⟩) (fun _ _ _ _ _ h=>h)
 refine ⟨e',by grind,by grind,?_⟩
 exact AV.closed_holds (e:={ e1 with S:=S' }) (fun b hb=>by grind) _ v (AV.lend_closed B1 V0 r0) bo
theorem aB3 (hF:Free F) (h:AY P s o.op=some A):aGB F n P o s A s.B:=by
 intro n0 w0 e a w Q K hr hk;unfold AY at h;split at h
 ·rename_i T len parts ae
  split at h
  ·rename_i bz
   split at h
   ·rename_i A0 B0 V0 he
    injection h with h
    subst h
    let a0:Act:={ tmps:=#[],defers:=[] }
    have l8:Rel w.heap.size w { e with base:=w.heap.size,H:=fun _=>none,y:=false } ⟨[],[],[]⟩ a0 w:=⟨by simp [AV.all,a0],by simp,Mem.nothing e w hr.mem.ro⟩
    have cn:=hr.evs (parts.toList.map (·.2))
    have jr:AV.all { e with base:=w.heap.size,H:=fun _=>none,y:=false } w (kss ([]:List Vec)) (parts.toList.map fun p=>s.ev p.2) (parts.toList.map fun p=>a.eval p.2):=
     AV.closeds_holds (e:=e) (e':={ e with base:=w.heap.size,H:=fun _=>none,y:=false }) (fun _ h=>h) _ _ bz (by simpa [Function.comp_def] using cn.1)
    obtain ⟨v,w',e1,g1,g2,g3,g4,g5⟩:=qH he l8 (vparts:=(parts.toList.map fun p=>(p.1,a.eval p.2)).toArray) (by simp) (by grind [Function.comp_def])
    obtain ⟨e',f1,f2,f3⟩:=hr.mem.froze g2 g3 g4;refine ⟨fun f _=>hF.fn f,?_⟩
    have ai:(execOp a.eval o).run P w=.ok (.value v) w':=by
     simp [execOp]
     have:(parts.map fun x=>(x.1,a.eval x.2))=(parts.toList.map fun p=>(p.1,a.eval p.2)).toArray:=by
      grind
     simp_all
    rw [Oper.semAt_plain F _ _ (by grind),ai]
    exact hk e' v w' f1 f2 f3 (AV.sco_closed _ _ _ (AV.lend_closed _ _ _))
   grind
  grind
 grind
end
section
variable {F:Fence} {n:Nat} {P:Program} {lo:List Oper} {b0:Nat}
end
section
variable {F:Fence} {n:Nat} {P:Program}
end
attribute [simp] AY SC oJ stp nB AV.closed AV.closeds
section
variable {P:Program}
theorem GO {f:FuncId} {fn:Func} {c:Code} {args:List AV} {B:List Box} {V:List Vec} {K:AV->List Box->List Vec->Prop} (hf:P.funcs[f]? = some fn) (hb:fn.body=some c)
  (h:∀ (F:Fence) (n:Nat),Free F->W F n P c ⟨args++List.replicate (fn.ntmps - args.length) .any,B,V⟩ fun ex st'=>(ex=.normal\/ex=.ret)/\∃ r,rM P st' fn.results.toList=some r/\K r st'.B st'.V) :
  CallP P f args B V K:=by
 intro F n hF ba n0 w0 e w vs hm hv hs;refine callsIn_of_wp hf hb (hF.fn f) ?_ ba
 have ah:Rel n0 w0 e ⟨args++List.replicate (fn.ntmps - args.length) .any,B,V⟩ { tmps:=vs++Array.replicate (fn.ntmps - vs.size) undef,defers:=[] } w:=by
  have hl:vs.size=args.length:=by have:=hv.length;omega
  refine ⟨?_,?_,hm⟩
  ·simp [hl]
   refine hv.append ?_;generalize fn.ntmps - args.length=k
   induction k with
   | zero=>simp [AV.all]
   | succ k ih=>grind [AV.all,AV.holds]
  grind [AV.scos_iff,AV.sco]
 refine h F n hF n0 w0 e _ w _ ah ?_;rintro ex e' st' a' w' ⟨iN,r,hr,hK⟩ cy ac hx;obtain ⟨v,a1,a2,a3⟩:=wZ (fn:=fn) cy hr;rcases iN with rfl | rfl
 ·exact ⟨ac,v,a1,e',st'.B,st'.V,r,v,rfl,hK,cy.mem,hx,a2,a3⟩
 ·exact ⟨ac,v,a1,e',st'.B,st'.V,r,v,rfl,hK,cy.mem,hx,a2,a3⟩
end
def lk:List (Nat×AV)->Nat->AV
 | [],_=>.any
 | (k,x)::l,d=>if k=d then x else lk l d
def mkT (n:Nat) (l:List (Nat×AV)):List AV:=(List.range n).map (lk l)
@[simp] theorem aLM (d:Nat):lk [] d=.any:=have _:=G;rfl
@[simp] theorem SD (k:Nat) (x:AV) (l:List (Nat×AV)) (d:Nat):lk ((k,x)::l) d=if k=d then x else lk l d:=have _:=G;rfl
@[simp] theorem YT (n:Nat) (l:List (Nat×AV)):(mkT n l).length=n:=by have _:=G;simp [mkT]
@[simp] theorem SE (n:Nat) (l:List (Nat×AV)) (d:Nat):(mkT n l)[d]? = if d<n then some (lk l d) else none:=by
  have _:=G;simp only [mkT,List.getElem?_map];split
  ·rename_i h;simp [h]
  ·rename_i h;simp [h]
@[simp] theorem aIb (n:Nat) (l:List (Nat×AV)) (d:Nat) (h:d<(mkT n l).length):(mkT n l)[d]=lk l d:=by have _:=G;simp [mkT]
@[simp] theorem aLF (n:Nat) (l:List (Nat×AV)) (d:Nat) (x:AV):(mkT n l).set d x=mkT n ((d,x)::l):=by
  refine List.ext_getElem? fun i=>?_
  rw [List.getElem?_set,SE,SE,YT]
  by_cases h:d=i
  ·subst h;simp
  ·simp [h]
theorem qJ (f:AV->AV) (hf:f .any=.any):∀ (l:List (Nat×AV)) (d:Nat),lk (l.map fun p=>(p.1,f p.2)) d=f (lk l d)
 | [],d=>by have _:=G;simp [hf]
 | (k,x)::l,d=>by simp [qJ f hf l d];grind
def gW:Nat->List AV->List (Nat×AV)
 | _,[]=>[]
 | k,x::xs=>(k,x)::gW (k+1) xs
theorem aA1:∀ (xs:List AV) (k d:Nat),lk (gW k xs) d=if d<k then .any else (xs[d - k]?).getD .any
 | [],k,d=>by have _:=G;simp [gW]
 | x::xs,k,d=>by
  simp [gW,aA1 xs (k+1) d];grind
theorem start_eq (args:List AV) (n:Nat) (h:args.length<=n):args++List.replicate (n - args.length) .any=mkT n (gW 0 args):=by
 refine List.ext_getElem? fun i=>?_
 grind [SE,aA1]
theorem yX (f:Nat->AV):∀ (ks:List Nat) (d:Nat),lk (ks.map fun k=>(k,f k)) d=if ks.contains d then f d else .any
 | [],d=>by have _:=G;simp
 | k::ks,d=>by
  simp [yX f ks d];grind
section
variable {F:Fence} {n:Nat} {P:Program}
end
attribute [simp] gW
section
variable {F:Fence} {n:Nat} {P:Program}
end
section
variable {F:Fence} {n:Nat} {P:Program}
end
def iI (P:Program) (f:FuncId):Bool:=
 match P.funcs[f]? with
 | some fn=>!(fn.name == "runtime.NumGoroutine")&&fn.body.isSome
 | none=>false
theorem enters {P:Program} {f:FuncId} (h:iI P f=true) (as:Array Value) (w:World):(callFunc f as).run P w=.ok (.enter f as) w:=by
 have _:=G;unfold iI at h;split at h
 ·simp at h
  obtain ⟨c,hc⟩:=Option.isSome_iff_exists.1 h.2;simp_all [callFunc]
 grind
def fzB (i:Nat) (cs:List CV):AV->AV
 | .ptr j o=>if j=i then .cv (.ref (cs.drop o)) else .ptr j o
 | x=>x
def fzV (i:Nat) (ver:Nat) (c:CV):AV->AV
 | .own j u=>if j=i/\u=ver then .cv c else .own j u
 | x=>x
section
variable {F:Fence} {n:Nat} {P:Program}
theorem Rel.freezeV {n0:Nat} {w0:World} {e:Env} {st:St} {a:Act} {w:World} (hr:Rel n0 w0 e st a w) {i:Nat} {x:Vec} {c:CV} (hx:st.V[i]? = some x) (hl:x.live=true) (hc:iS st.V (.own i x.ver)=some c) :
  ∃ e',Rel n0 w0 e' ⟨st.t.map (fzV i x.ver c),st.B,st.V.set i { x with live:=false }⟩ a w/\dW e st w e' st.B (st.V.set i { x with live:=false }) w:=by
 let S':Nat->Prop:=fun b=>e.S b\/bM (e.hdr i x.ver)=some b
 let e':Env:={ e with S:=S' }
 let V':=st.V.set i { x with live:=false }
 have jc:vers V'=vers st.V:=by
  refine List.ext_getElem? fun j=>?_
  grind
 obtain ⟨xs,a1,a2,a3⟩:=hr.mem.vec i x hx hl
 have ag:∀ (j:Nat) (y:Vec),V'[j]? = some y->y.live=true->j≠i/\st.V[j]? = some y:=by
  grind
 have f9:dW e st w e' st.B V' w:=by
  refine ⟨⟨fun b hb=>.inl hb,fun _ _=>rfl⟩,fun _ _=>rfl,fun _ _ _ _=>rfl,Nat.le_refl _,by grind,fun j _=>by grind,fun j _=>by grind,Nat.le_refl _,?_,rfl,fun _=>rfl,rfl⟩
  rintro b (hb | hb)
  ·grind
  ·exact .inr (Nat.le_trans hr.mem.bl.1 (a1.lt b hb).1)
 have ba:RO w e.S w S':=⟨fun b hb=>.inl hb,fun _ _=>rfl⟩
 have hm:Mem n0 w0 e' st.B V' w:=by
  refine ⟨?_,?_,?_,hr.mem.boxinj,?_,?_,?_,?_,?_,hr.mem.below,hr.mem.base,hr.mem.bl,hr.mem.hid.of rfl ⟨rfl,rfl⟩ (fun b hb=>hb.imp id fun hg=>hr.mem.hid.vec i x b hx hl hg) (SameG.set (show x.T≠ghT from hr.mem.liveT hx hl)) (fun _ _ _=>rfl) (fun i b hb hl=>.inl ⟨i,b,hb,hl,rfl⟩) (fun j y g hj ay hg=>.inl ⟨j,y,(ag j y hj ay).2,ay,hg⟩)⟩
  ·intro j b hb bg
   obtain ⟨vs,h1,h2⟩:=hr.mem.box j b hb bg;exact ⟨vs,h1,AV.all.mono f9 _ _ (hr.mem.boxsc j b hb) h2⟩
  ·intro j b hb
   rw [jc];exact hr.mem.boxsc j b hb
  ·intro j b hb bg
   obtain ⟨h1,h2⟩:=hr.mem.boxlo j b hb bg;refine ⟨h1,?_⟩;rintro (hs | hs)
   ·grind
   ·exact hr.mem.vecbox i x j b _ hx hl hb bg hs rfl
  ·intro j y hj ay
   obtain ⟨_,js⟩:=ag j y hj ay;obtain ⟨ys,h1,h2,h3⟩:=hr.mem.vec j y js ay;exact ⟨ys,h1,CV.vals.mono ba _ _ h2,h3⟩
  ·intro j y g hj ay hg
   obtain ⟨ax,js⟩:=ag j y hj ay;rintro (hs | hs)
   ·exact hr.mem.vecS j y g js ay hg hs
   ·exact ax (hr.mem.vecinj j y i x g js ay hx hl hg hs)
  ·intro j y k b g hj ay hb bg hg
   obtain ⟨_,js⟩:=ag j y hj ay;exact hr.mem.vecbox j y k b g js ay hb bg hg
  ·intro j y k z g hj ay hk gz hg ew
   obtain ⟨_,js⟩:=ag j y hj ay;obtain ⟨_,jp⟩:=ag k z hk gz;exact hr.mem.vecinj j y k z g js ay jp gz hg ew
  ·rintro b (hb | hb)
   ·exact hr.mem.ro b hb
   ·exact (a1.lt b hb).2
 have du:∀ (y:AV) (v:Value),AV.sco st.B.length (vers st.V) y->AV.holds e w (kss st.V) y v->AV.holds e' w (kss V') (fzV i x.ver c y) v:=by
  intro y v hs hv;have ir:=AV.holds.mono f9 y v hs hv;unfold fzV;split
  ·rename_i j u
   split
   ·rename_i hj
    obtain ⟨rfl,rfl⟩:=hj
    have:=lendV_holds hr.mem (S:=S') (fun b hb=>.inl hb) (x:=.own j x.ver) (fun i' u' he y g hy ay hg=>by
     grind) hc hv
    grind [AV.holds]
   omega
  omega
 refine ⟨e',⟨?_,?_,hm⟩,f9⟩
 ·have:∀ (xs:List AV) (us:List Value),AV.scos st.B.length (vers st.V) xs->AV.all e w (kss st.V) xs us->AV.all e' w (kss V') (xs.map (fzV i x.ver c)) us:=by
   intro xs
   induction xs with
   | nil=>grind [AV.all]
   | cons y ys ih =>
    intro us hs h;cases us with
    | nil=>grind [AV.all]
    | cons v us =>
     grind [AV.all,AV.scos]
  exact this _ _ hr.sc hr.tm
 ·rw [jc,AV.scos_iff]
  intro y hy;simp at hy;obtain ⟨z,hz,rfl⟩:=hy;have:=AV.scos_iff.1 hr.sc z hz;unfold fzV;grind [AV.sco]
end
section
variable {F:Fence} {n:Nat} {P:Program}
theorem Rel.freezeB {n0:Nat} {w0:World} {e:Env} {st:St} {a:Act} {w:World} (hr:Rel n0 w0 e st a w) {i:Nat} {x:Box} {cs:List CV} (hx:st.B[i]? = some x) (hl:x.live=true) (aT:gC x.cs=some cs) :
  ∃ e',Rel n0 w0 e' ⟨st.t.map (fzB i cs),st.B.set i { x with live:=false },st.V⟩ a w/\dW e st w e' (st.B.set i { x with live:=false }) st.V w:=by
 let S':Nat->Prop:=fun b=>e.S b\/b=e.ρ i
 let e':Env:={ e with S:=S' }
 let B':=st.B.set i { x with live:=false }
 have hi:i<st.B.length:=(List.getElem?_eq_some_iff.1 hx).1;have aj:B'.length=st.B.length:=by grind
 obtain ⟨vs,a1,a2⟩:=hr.mem.box i x hx hl;have fl:=hr.mem.boxlo i x hx hl
 have ag:∀ (j:Nat) (y:Box),B'[j]? = some y->y.live=true->j≠i/\st.B[j]? = some y:=by
  grind
 have f9:dW e st w e' B' st.V w:=by
  refine ⟨⟨fun b hb=>.inl hb,fun _ _=>rfl⟩,fun _ _=>rfl,fun _ _ _ _=>rfl,by omega,Nat.le_refl _,fun j _=>Nat.le_refl _,fun j _=>rfl,Nat.le_refl _,?_,rfl,fun _=>rfl,rfl⟩
  rintro b (hb | hb)
  ·grind
  ·exact .inr (by rw [hb];exact Nat.le_trans hr.mem.bl.1 fl.1)
 have ba:RO w e.S w S':=⟨fun b hb=>.inl hb,fun _ _=>rfl⟩
 have hm:Mem n0 w0 e' B' st.V w:=by
  refine ⟨?_,?_,?_,?_,?_,?_,?_,hr.mem.vecinj,?_,hr.mem.below,hr.mem.base,hr.mem.bl,hr.mem.hid.of rfl ⟨rfl,rfl⟩ (fun b hb=>hb.imp id fun hg=>by rw [hg];exact hr.mem.hid.box i x hx hl) (SameG.refl _) (fun _ _ _=>rfl) (fun j y hj ay=>.inl ⟨j,y,(ag j y hj ay).2,ay,rfl⟩) (fun i x g hi hl hg=>.inl ⟨i,x,hi,hl,hg⟩)⟩
  ·intro j b hb bg
   obtain ⟨_,cd⟩:=ag j b hb bg;obtain ⟨us,h1,h2⟩:=hr.mem.box j b cd bg;exact ⟨us,h1,AV.all.mono f9 _ _ (hr.mem.boxsc j b cd) h2⟩
  ·intro j b hb
   rw [aj];rw [List.getElem?_set] at hb;split at hb
   ·simp at hb
    subst hb;exact hr.mem.boxsc i x hx
   ·exact hr.mem.boxsc j b hb
  ·intro j b hb bg
   obtain ⟨ax,cd⟩:=ag j b hb bg;obtain ⟨h1,h2⟩:=hr.mem.boxlo j b cd bg;refine ⟨h1,?_⟩;rintro (hs | hs)
   ·grind
   ·exact ax (hr.mem.boxinj j i b x cd hx bg hl hs)
  ·intro j k b c hb hc bg bz he
   obtain ⟨_,cd⟩:=ag j b hb bg;obtain ⟨_,gq⟩:=ag k c hc bz;exact hr.mem.boxinj j k b c cd gq bg bz he
  ·intro j y hj ay
   obtain ⟨ys,h1,h2,h3⟩:=hr.mem.vec j y hj ay;exact ⟨ys,h1,CV.vals.mono ba _ _ h2,h3⟩
  ·intro j y g hj ay hg
   rintro (hs | hs)
   ·exact hr.mem.vecS j y g hj ay hg hs
   ·exact hr.mem.vecbox j y i x g hj ay hx hl hg hs.symm
  ·intro j y k b g hj ay hb bg hg
   obtain ⟨_,cd⟩:=ag k b hb bg;exact hr.mem.vecbox j y k b g hj ay cd bg hg
  ·rintro b (hb | hb)
   ·exact hr.mem.ro b hb
   grind
 have db:CV.cells w S' cs (e.ρ i) 0:=by
  rw [mE aT] at a2;have au:=CV.vals.mono ba _ _ (lT a2);refine CV.cells.of_vals au fun j u hj=>?_
  grind [cell_of_row]
 have du:∀ (y:AV) (v:Value),AV.sco st.B.length (vers st.V) y->AV.holds e w (kss st.V) y v->AV.holds e' w (kss st.V) (fzB i cs y) v:=by
  intro y v hs hv;have ir:=AV.holds.mono f9 y v hs hv;unfold fzB;split
  ·rename_i j o
   split
   ·rename_i hc
    subst hc;exact ⟨e.ρ j,o,hv,.inr rfl,by simpa using db.drop o⟩
   omega
  omega
 refine ⟨e',⟨?_,?_,hm⟩,f9⟩
 ·have:∀ (xs:List AV) (us:List Value),AV.scos st.B.length (vers st.V) xs->AV.all e w (kss st.V) xs us->AV.all e' w (kss st.V) (xs.map (fzB i cs)) us:=by
   intro xs
   induction xs with
   | nil=>grind [AV.all]
   | cons y ys ih =>
    intro us hs h;cases us with
    | nil=>grind [AV.all]
    | cons v us =>
     grind [AV.all,AV.scos]
  exact this _ _ hr.sc hr.tm
 ·rw [aj,AV.scos_iff]
  intro y hy;simp at hy;obtain ⟨z,hz,rfl⟩:=hy;have:=AV.scos_iff.1 hr.sc z hz;unfold fzB;grind [AV.sco]
end
attribute [simp] fzB fzV
section
variable {n0:Nat} {w0:World} {e:Env} {B:List Box} {V:List Vec} {w w':World}
theorem Mem.vecSet (h:Mem n0 w0 e B V w) {i:Nat} {x:Vec} (hi:V[i]? = some x) (hl:x.live=true) (es':List (List CV)) (xs':List Value)
  (ap:OwnsV w' n0 x.T x.k (e.hdr i x.ver) es'.length xs') (au:CV.vals w e.S es'.flatten xs') (hk:∀ l∈es',l.length=x.k)
  (hg:w.grownBy w' (bM (e.hdr i x.ver))) :
  Mem n0 w0 e B (V.set i { x with es:=es' }) w'/\Ext e w B.length (vers V) (kss V) e w' B.length (vers (V.set i { x with es:=es' })) (kss (V.set i { x with es:=es' })):=by
 have mf:∀ b,e.S b->w'.heap[b]? = w.heap[b]?:=fun b hb=>hg.block b (h.ro b hb) fun hc=>h.vecS i x b hi hl hc.symm hb
 have ag:∀ (j:Nat) (y:Vec),(V.set i { x with es:=es' })[j]? = some y->(j≠i/\V[j]? = some y)\/(j=i/\y={ x with es:=es' }):=by
  grind
 have jc:vers (V.set i { x with es:=es' })=vers V:=by
  refine List.ext_getElem? fun j=>?_
  grind
 have w9:kss (V.set i { x with es:=es' })=kss V:=by
  refine List.ext_getElem? fun j=>?_
  grind
 have hx:Ext e w B.length (vers V) (kss V) e w' B.length (vers (V.set i { x with es:=es' })) (kss (V.set i { x with es:=es' })):=by
  rw [jc,w9];exact ⟨⟨fun _ hb=>hb,mf⟩,fun _ _=>rfl,fun _ _ _ _=>rfl,Nat.le_refl _,Nat.le_refl _,fun _ _=>Nat.le_refl _,fun _ _=>rfl,hg.size,fun _ h=>.inl h,rfl,fun _=>rfl,rfl⟩
 have old:∀ (j:Nat) (y:Vec),(V.set i { x with es:=es' })[j]? = some y->y.live=true->∃ z:Vec,V[j]? = some z/\z.live=true/\z.ver=y.ver:=by
  grind
 refine ⟨⟨?_,?_,h.boxlo,h.boxinj,?_,?_,?_,?_,fun b hb=>Nat.lt_of_lt_of_le (h.ro b hb) hg.size,?_,Nat.le_trans h.base hg.size,h.bl,h.hid.of rfl ⟨rfl,rfl⟩ (fun _ h=>.inl h) (SameG.set (show x.T≠ghT from h.liveT hi hl)) (fun b cd jp=>hg.block b cd fun hc=>jp (h.hid.vec i x b hi hl hc.symm)) (fun i b hb hl=>.inl ⟨i,b,hb,hl,rfl⟩) (fun j y g hj ay co=>?_)⟩,hx⟩
 rotate_left 7
 ·grind
 ·intro j b hb bg
  obtain ⟨vs,h1,h2⟩:=h.box j b hb bg;refine ⟨vs,?_,AV.all.mono hx _ _ (h.boxsc j b hb) h2⟩;rw [hg.block _ (h.lt_box hb bg) fun hc=>h.vecbox i x j b _ hi hl hb bg hc.symm rfl]
  exact h1
 ·intro j b hb;exact hx.scos (h.boxsc j b hb)
 ·intro j y hy ay
  rcases ag j y hy with ⟨ax,h1⟩ | ⟨rfl,rfl⟩
  ·obtain ⟨ys,q1,q2,q3⟩:=h.vec j y h1 ay
   refine ⟨ys,q1.keep fun g ez=>hg.block g (q1.lt g ez).2 fun hc=>ax (h.vecinj j y i x g h1 ay hi hl ez hc.symm),CV.vals.mono hx.ro _ _ q2,q3⟩
  ·exact ⟨xs',ap,CV.vals.mono hx.ro _ _ au,hk⟩
 ·intro j y g hy ay ez
  obtain ⟨z,z1,z2,z3⟩:=old j y hy ay;exact h.vecS j z g z1 z2 (by grind)
 ·intro j y k b g hy ay hb bg ez
  obtain ⟨z,z1,z2,z3⟩:=old j y hy ay;exact h.vecbox j z k b g z1 z2 hb bg (by grind)
 ·intro j y k u g hy ay hu Km ez Ov
  obtain ⟨z,z1,z2,z3⟩:=old j y hy ay;obtain ⟨q,q1,q2,q3⟩:=old k u hu Km;exact h.vecinj j z k q g z1 z2 q1 q2 (by grind) (by grind)
 ·refine h.below.grown hg h.nbase fun k hk=>?_
  obtain ⟨ys,a1,_⟩:=h.vec i x hi hl;exact Nat.le_trans (e.nb_le n0) (a1.lt k hk).1
end
def spl (l:List CV) (off:Nat) (new:List CV):List CV:=l.take off++new++l.drop (off+new.length)
theorem JZ:∀ {es:List (List CV)} {k i:Nat} (h:i<es.length),(∀ l∈es,l.length=k)->es.flatten=(es.take i).flatten++es[i]++(es.drop (i+1)).flatten/\(es.take i).flatten.length=i*k
 | [],k,i,h,_=>by have _:=G;grind
 | e::es,k,0,h,hk=>by simp
 | e::es,k,i+1,h,hk=>by
  obtain ⟨h1,h2⟩:=JZ (es:=es) (k:=k) (i:=i) (by grind) fun l hl=>hk l (by grind)
  grind
theorem YU {w:World} {es:List (List CV)} {xs:List Value} {k el off:Nat} {new:List CV} {us:List Value} (hv:CV.vals w S es.flatten xs) (hk:∀ l∈es,l.length=k) (oy:el<es.length)
  (xa:off+new.length<=k) (hn:CV.vals w S new us) :
  CV.vals w S (es.set el (spl (es.getD el []) off new)).flatten (xs.take (el*k+off)++us++xs.drop (el*k+off+us.length))/\(∀ l∈es.set el (spl (es.getD el []) off new),l.length=k):=by
 have Au:=hn.length;have ag:es.getD el []=es[el]:=by grind
 have Eg:es[el].length=k:=hk _ (List.getElem_mem oy);obtain ⟨h1,h2⟩:=JZ oy hk;have aj:(spl (es.getD el []) off new).length=k:=by grind [spl]
 refine ⟨?_,fun l hl=>?_⟩
 ·rw [List.set_eq_take_append_cons_drop]
  simp only [oy,if_true,List.flatten_append];rw [h1] at hv;obtain ⟨a1,a2⟩:=eG hv;obtain ⟨b1,b2⟩:=eG a1;simp [h2,Eg] at a1 a2 b1 b2
  have md:es[el]=es[el].take off++((es[el].drop off).take new.length++es[el].drop (off+new.length)):=by
   grind [List.drop_drop,List.take_append_drop]
  rw [md] at b2;obtain ⟨c1,c2⟩:=eG b2;obtain ⟨d1,d2⟩:=eG c2;have e1:(es[el].take off).length=off:=by simp;omega
  have e2:((es[el].drop off).take new.length).length=new.length:=by grind
  rw [e1] at c1 c2 d1 d2;rw [e2] at d1 d2
  have hx:xs.take (el*k+off)++us++xs.drop (el*k+off+us.length) =
    xs.take (el*k)++((xs.drop (el*k)).take off++us++((xs.drop (el*k)).take k).drop (off+new.length)++xs.drop (el*k+k)):=by
   have iy:=hv.length;simp [h2] at iy;rw [Au];have t1:xs.take (el*k+off)=xs.take (el*k)++(xs.drop (el*k)).take off:=by rw [List.take_add]
   have t2:xs.drop (el*k+off+new.length)=((xs.drop (el*k)).take k).drop (off+new.length)++xs.drop (el*k+k):=by
    have g1:xs.drop (el*k+off+new.length)=(xs.drop (el*k)).drop (off+new.length):=by grind [List.drop_drop]
    grind [List.drop_drop,List.take_append_drop]
   rw [t1,t2];simp [List.append_assoc]
  rw [hx];refine CV.vals.append ?_ (CV.vals.append ?_ ?_)
  ·grind
  ·rw [ag]
   have t3:(xs.drop (el*k)).take k=(xs.take (el*k+k)).drop (el*k):=by grind [List.drop_take]
   refine CV.vals.append (CV.vals.append ?_ hn) ?_
   ·grind
   grind [List.drop_drop]
  ·exact a2
 grind
theorem VC (l us:List Value) (o N:Nat) (h:o+us.length<=N) (hN:N<=l.length) :
  (l.take o++us++l.drop (o+us.length)).take N=(l.take N).take o++us++(l.take N).drop (o+us.length):=by
 have _:=G;have h1:(l.take o).length=o:=by grind
 grind [List.take_append,List.length_append,List.drop_take]
section
variable {P:Program}
theorem OwnsS.store {w:World} {n0:Nat} {T:TypeId} {k:Nat} {v:Value} {n:Nat} {xs us:List Value} {o:Nat} (h:OwnsS w n0 T k v n xs) (hT:T<bQ) (hk:o+us.length<=n*k) (hn:0<n) (h1:∀ u∈us,u.oneCell'=true) :
  ∃ g cap,bM v=some g/\v=.slice (some ⟨g,0,none⟩) n cap/\∃ w',(storeCells ⟨g,o,none⟩ us 0).run P w=.ok () w'/\OwnsV w' n0 T k v n (xs.take o++us++xs.drop (o+us.length))/\w.grownBy w' (some g):=by
 rcases h with ⟨_,_,h0,_⟩ | ⟨⟨hl,h0⟩,g',hg,ew⟩
 ·omega
 ·rcases h0 with ⟨_,h0⟩ | ⟨g,cap,cur,rfl,hb,hc,bq,gt,di,Ez⟩
  ·omega
  ·obtain ⟨c,rfl⟩:∃ c,cap=c+1:=⟨cap - 1,by omega⟩
   have ck:o+0+us.length<=cur.size:=by grind
   have ak:=run_storeCells_at P g o T us 0 cur w hc ck h1;refine ⟨g,c+1,rfl,rfl,_,ak,.inl ⟨hT,.inr ⟨⟨?_,.inr ⟨g,c+1,(cur.toList.take o++us++cur.toList.drop (o+us.length)).toArray,rfl,hb,?_,bq,gt,?_,?_⟩⟩,g,rfl,rfl⟩⟩,?_⟩
   ·grind
   ·simp [World.setRow,Array.getElem?_modify,hc]
   ·grind
   ·rw [<- Ez]
    have Kn:n*k<=cur.toList.length:=by grind
    exact VC cur.toList us o (n*k) hk Kn
   ·refine ⟨rfl,rfl,rfl,by simp,fun q hq ax=>?_⟩
    grind [World.setRow]
theorem AG {o:Oper} {st:St} {T:TypeId} {ao xo:Operand} {i u el off:Nat} {v:Vec} {ti:TI} {new:List AV} {cs:List CV} (ae:o.op=.store T ao xo) (ha:st.ev ao=.opt i u el off)
  (hv:st.V[i]? = some v) (cu:v.sl=true) (hu:v.ver=u) (oy:el<v.es.length) (ar:cG P T=some ti) (am:(st.ev xo).cells=some new) (aT:gC new=some cs) (di:cs.length=ti.size) (xa:off+cs.length<=v.k) :
  Step P o st .any st.B (st.V.set i { v with es:=v.es.set el (spl (v.es.getD el []) off cs) }):=by
 intro n0 w0 e a w hr;subst hu;have hl:=Vec.sl_live cu;obtain ⟨xs,q1',q2,q3⟩:=hr.mem.vec i v hv hl;have q1:=q1'.s (Vec.sl_T cu);have qk:=(hr.ev ao).1;rw [ha] at qk;obtain ⟨g0,Av,qk⟩:=qk;have cq:(kss st.V).getD i 0=v.k:=aDu hv
 have du:new.all AV.one=true:=by
  rw [mE aT];simp
 have ce:=AV.cells_holds am (hr.ev xo).1 du;have Ek:=AV.all_one du ce;rw [mE aT] at ce;have au:CV.vals w e.S cs (a.eval xo).cells.toList:=lT ce;have aj:=au.length
 have ck:el*v.k+off+(a.eval xo).cells.toList.length<=v.es.length*v.k:=by
  have:(el+1)*v.k<=v.es.length*v.k:=Nat.mul_le_mul_right _ oy;grind
 obtain ⟨g,cp,hg,mj,w',ai,ap,uw⟩:=q1.store (P:=P) (Vec.sl_T cu) ck (by omega) Ek
 rw [Av] at hg;cases hg;obtain ⟨r1,r2⟩:=YU q2 q3 oy (by omega) au
 obtain ⟨m1,m2⟩:=hr.mem.vecSet hv hl _ _ (by simpa using ap) r1 r2 (by grind)
 refine ⟨.skip,undef,w',e,?_,.inr ⟨rfl,rfl⟩,m1,m2,by simp [AV.holds],by simp⟩
 have Ko:(a.eval xo).cells.size=ti.size:=by grind
 have:(Instr.storeAt T (a.eval ao) (a.eval xo)).run P w=.ok () w':=by
  simp_all [Instr.storeAt,Instr.sureAddr,storeVar,run_sizeOf]
 simp only [execOp,ae];simp [this]
theorem OC {o:Oper} {st:St} {T:TypeId} {x h:Operand} {i u:Nat} {v:Vec} {kk:IntKind} {n:Int} {s e' k b:Nat} {z:List Value} (ae:o.op=.slice T x none (some h) none) (hx:st.ev x=.own i u)
  (hv:st.V[i]? = some v) (cu:v.sl=true) (hu:v.ver=u) (hh:st.ev h=.cv (.val (.int kk n))) (Aw:0<=n) (hn:n<=v.es.length) (ar:cG P T=some ⟨s,z,.slc e' k b⟩) (hk:k=v.k) (j8:k≠0) :
  Step P o st (.own i (v.ver+1)) st.B (st.V.set i { v with ver:=v.ver+1,es:=v.es.take n.toNat }):=by
 intro n0 w0 e a w hr;obtain ⟨hT,fq,_⟩:=gH ar;have hl:=Vec.sl_live cu;obtain ⟨xs,q1',q2,q3⟩:=hr.mem.vec i v hv hl;have q1:=q1'.s (Vec.sl_T cu);have qk:=(hr.ev x).1;rw [hx] at qk;simp [AV.holds] at qk;have Iq:=(hr.ev h).1;rw [hh] at Iq;simp [AV.holds,CV.holds] at Iq;obtain ⟨ao,c,hs,bq,gt⟩:=q1.slice;have hB:=uL (P:=P) w v.es.length c none (some (.int kk n)) 0 n (.inl ⟨rfl,rfl⟩) (.inr ⟨kk,rfl⟩) (Int.le_refl _) Aw hn bq;have aj:(v.es.take n.toNat).length=n.toNat:=by grind
 have Ir:n.toNat<=v.es.length:=by omega
 obtain ⟨v',ir,ai⟩:∃ v',(v'=.slice (if c=0 then ao else ao.map fun q=>q.add 0) n.toNat c)/\(Instr.sliceAt T (.slice ao v.es.length c) none (some (.int kk n)) none).run P w=.ok v' w:=by
  simp_all [Instr.sliceAt,Instr.slice,run_underlying,bI]
 have kx:(ao.map fun q=>q.add 0)=ao:=by
  simp [Addr.add]
 have EQ:v'=.slice ao n.toNat c:=by grind
 have ap:OwnsV w n0 v.T v.k v' (v.es.take n.toNat).length (xs.take (n.toNat*v.k))/\bM v'=bM (e.hdr i v.ver):=by
  rw [aj,EQ];rcases q1 with ⟨a',h1,h2,h3⟩ | ⟨⟨h0,h1⟩,g,hg,ew⟩
  ·grind
  ·rcases h1 with ⟨h1,h2⟩ | ⟨g1,cap,cur,h1,h2,h3,h4,h5,h6,h7⟩
   ·grind
   ·rw [h1] at hs
    injection hs with iz kr Ip
    subst iz;subst Ip;rw [h1] at hg;refine ⟨.inl ⟨Vec.sl_T cu,.inr ⟨⟨?_,.inr ⟨g1,cap,cur,rfl,h2,h3,by omega,h5,h6,?_⟩⟩,g,?_,?_⟩⟩,?_⟩
    ·simp_all
    ·rw [<- h7,List.take_take]
     simp_all
    ·have Ax:0<cap:=by
      cases cap with
      | zero=>simp [bM] at hg
      | succ c=>omega
     obtain ⟨c',rfl⟩:∃ c',cap=c'+1:=⟨cap - 1,by omega⟩
     exact hg
    ·rw [h1] at ew;exact ew
    ·rw [h1];cases cap <;> rfl
 have au:CV.vals w e.S (v.es.take n.toNat).flatten (xs.take (n.toNat*v.k)):=by
  have lx:v.es.flatten=(v.es.take n.toNat).flatten++(v.es.drop n.toNat).flatten:=by rw [<- List.flatten_append,List.take_append_drop]
  rw [lx] at q2;have:=(eG q2).1
  have pq:(v.es.take n.toNat).flatten.length=n.toNat*v.k:=by
   have:∀ (l:List (List CV)),(∀ x∈l,x.length=v.k)->l.flatten.length=l.length*v.k:=by
    intro l
    induction l with
    | nil=>simp
    | cons y l ih=>grind
   grind
  grind
 obtain ⟨e1,m1,m2,m3,_⟩:=hr.mem.vecStep (w':=w) hv hl v' (v.es.take n.toNat) (xs.take (n.toNat*v.k)) ap.1 au (fun l hl=>q3 l (List.mem_of_mem_take hl))
  ⟨rfl,rfl,rfl,Nat.le_refl _,fun _ _ _=>rfl⟩ (.inl ap.2)
 refine ⟨.value v',v',w,e1,?_,.inl rfl,m1,m2,?_,?_⟩
 ·simp_all [execOp]
 ·simp_all [AV.holds]
 ·have hi:=(List.getElem?_eq_some_iff.1 hv).1
  simp_all
end
section
variable {P:Program} {F:Fence} {n:Nat}
theorem YV (hF:Free F) {ops:List Oper} {o o2:Oper} {rest:List Oper} {st:St} {Q:St->Prop} {T:TypeId} {x l:Operand} {d i u:Nat} {v:Vec} {kk:IntKind} {lo:Int} {s e' k b:Nat} {z:List Value} {te:TI} {ats args}
  (hg:o.guard=none) (uu:o2.guard=none) (ae:o.op=.slice T x (some l) none none) (hd:o.dst=some d) (oz:o2.op=.call { callee:=.builtin .clear,args:=args,argTypes:=ats }) (af:args=#[.tmp d]) (jt:ats=#[T]) (t7:o2.dst=none)
  (ja:d<st.t.length) (hx:st.ev x=.own i u) (hv:st.V[i]? = some v) (cu:v.sl=true) (hu:v.ver=u) (hh:st.ev l=.cv (.val (.int kk lo))) (h0:0<=lo) (h1:lo<=v.es.length)
  (ar:cG P T=some ⟨s,z,.slc e' k b⟩) (hk:k=v.k) (j8:k≠0) (fh:cG P e'=some te) (hz:te.zero≠[]) (gz:te.zero.length=k) (ia:te.zero.all Value.oneCell'=true)
  (h:dQ F n P ops.toArray rest ((st.put (some d) .any st.B st.V).put none .any st.B (st.V.set i { v with es:=v.es.take lo.toNat++List.replicate (v.es.length - lo.toNat) (te.zero.map .val) })) Q) :
  dQ F n P ops.toArray (o::o2::rest) st Q:=by
 intro n0 w0 e a w Qr hr cq;subst hu;obtain ⟨hT,fq,_⟩:=gH ar;have Ay:P.cellsOf e'≠0:=by omega
 have hl:=Vec.sl_live cu;obtain ⟨xs,q1',q2,q3⟩:=hr.mem.vec i v hv hl;have q1:=q1'.s (Vec.sl_T cu);have qk:=(hr.ev x).1;rw [hx] at qk;simp only [AV.holds] at qk;have lw:=(hr.ev l).1;rw [hh] at lw;simp only [AV.holds,CV.holds] at lw;obtain ⟨ao,c,hs,bq,gt⟩:=q1.slice;have hB:=uL (P:=P) w v.es.length c (some (.int kk lo)) none lo v.es.length (.inr ⟨kk,rfl⟩) (.inl ⟨rfl,rfl⟩) h0 h1 (Int.le_refl _) bq;have E0:lo.toNat<=v.es.length:=by omega
 obtain ⟨v1,bt,uy⟩:∃ v1,v1=Value.slice (if c=lo.toNat then ao else ao.map fun q=>q.add (lo.toNat*v.k)) (v.es.length - lo.toNat) (c - lo.toNat)/\(Instr.sliceAt T (.slice ao v.es.length c) (some (.int kk lo)) none none).run P w=.ok v1 w:=by
  simp_all [Instr.sliceAt,Instr.slice,Sem.run_bind,run_underlying,Result.andThen_ok,bI]
 simp [wpListIn,Region.wanted,hg,uu];refine ⟨fun f _=>hF.fn f,?_⟩
 have ai:(execOp a.eval o).run P w=.ok (.value v1) w:=by
  simp_all [execOp,Option.map_none,Option.map_some]
 rw [Oper.semAt_plain F _ _ (by grind),ai]
 have l9:=hr.put hr.mem (Ext.refl _ _ _ _ _) (x:=.any) (v:=v1) (by simp [AV.holds]) (by simp) o.dst
 have xb:a.tmps.size=st.t.length:=by have:=hr.tm.length;omega
 have aw:(a.put o.dst v1).eval (.tmp d)=v1:=by
  simp_all [Act.eval,Act.put,Array.getD]
 refine ⟨fun f _=>hF.fn f,?_⟩
 rw [Oper.semAt_plain F _ _ (by grind)]
 obtain ⟨zv,Is,Di⟩:=JQ fh hz w;have tk:zv.cells.size=te.zero.length:=by grind
 have Kp:∀ m,(Builtin.zeroCells zv.cells m).toList=lM te.zero m:=by
  intro m;rw [<- Di];exact uM zv.cells (by omega) m
 have bk:∀ m,CV.vals w e.S (List.replicate m (te.zero.map CV.val)).flatten (lM te.zero m):=by
  have ql:CV.vals w e.S (te.zero.map CV.val) te.zero:=by
   have:∀ (l:List Value),l.all Value.oneCell'=true->CV.vals w e.S (l.map CV.val) l:=by
    intro l
    induction l with
    | nil=>grind [CV.vals]
    | cons y l ih =>
     simp_all [List.all_cons,Bool.and_eq_true,List.map_cons,CV.vals,CV.holds]
   grind
  intro m
  induction m with
  | zero=>simp [CV.vals]
  | succ m ih=>exact CV.vals.append ql ih
 let es':=v.es.take lo.toNat++List.replicate (v.es.length - lo.toNat) (te.zero.map CV.val)
 have t8:es'.length=v.es.length:=by grind
 have E1:∀ l∈es',l.length=v.k:=by
  grind
 have pq:(v.es.take lo.toNat).flatten.length=lo.toNat*v.k:=by
  have:∀ (l:List (List CV)),(∀ x∈l,x.length=v.k)->l.flatten.length=l.length*v.k:=by
   intro l
   induction l with
   | nil=>simp
   | cons y l ih=>grind
  rw [this _ fun x hx=>q3 x (List.mem_of_mem_take hx),List.length_take,Nat.min_eq_left E0]
 have xc:CV.vals w e.S (v.es.take lo.toNat).flatten (xs.take (lo.toNat*v.k)):=by
  have lx:v.es.flatten=(v.es.take lo.toNat).flatten++(v.es.drop lo.toNat).flatten:=by rw [<- List.flatten_append,List.take_append_drop]
  rw [lx] at q2;have:=(eG q2).1;grind
 have au:CV.vals w e.S es'.flatten (xs.take (lo.toNat*v.k)++lM te.zero (v.es.length - lo.toNat)):=by
  simp [es'];exact CV.vals.append xc (bk _)
 have iy:=q1.len;have Az:∀ y∈lM te.zero (v.es.length - lo.toNat),y.oneCell'=true:=fun y hy=>List.all_eq_true.1 (CG te.zero ia _) y hy
 have Kr:(lM te.zero (v.es.length - lo.toNat)).length=(v.es.length - lo.toNat)*v.k:=by grind [oI]
 obtain ⟨w',uz,hm⟩:∃ w',(Builtin.clear_ #[T] o2.type #[v1]).run P w=.ok (.tuple #[]) w'/\(Mem n0 w0 e st.B (st.V.set i { v with es:=es' }) w'/\Ext e w st.B.length (vers st.V) (kss st.V) e w' st.B.length (vers (st.V.set i { v with es:=es' })) (kss (st.V.set i { v with es:=es' }))):=by
  by_cases qc:v.es.length - lo.toNat=0
  ·refine ⟨w,?_,?_⟩
   ·rw [bt,qc]
    simp [Builtin.clear_];cases (if c=lo.toNat then ao else ao.map fun q=>q.add (lo.toNat*v.k)) <;> simp [run_underlying hT]
   ·have he:es'=v.es:=by
     grind
    rw [he]
    have cr:st.V.set i { v with es:=v.es }=st.V:=by
     refine List.ext_getElem? fun j=>?_
     grind
    rw [cr];exact ⟨hr.mem,Ext.refl _ _ _ _ _⟩
  ·have mw:0<v.es.length:=by omega
   have ck:lo.toNat*v.k+(lM te.zero (v.es.length - lo.toNat)).length<=v.es.length*v.k:=by
    grind [Nat.add_mul]
   obtain ⟨g,cp,ew,mj,w',ak,ap,uw⟩:=q1.store (P:=P) (Vec.sl_T cu) ck mw Az;refine ⟨w',?_,?_⟩
   ·rw [hs] at mj
    injection mj with E2 Ks Kt
    subst E2;have Ku:c≠lo.toNat:=by omega
    simp_all [Option.map_some,addr_add,Nat.zero_add,Builtin.clear_,run_underlying]
   ·refine hr.mem.vecSet hv hl es' _ ?_ au E1 (by grind)
    grind [Nat.add_mul]
 have A1:(execOp (a.put o.dst v1).eval o2).run P w=.ok (.value (.tuple #[])) w':=by
  simp_all [execOp,resolve,invoke,builtin]
 rw [A1];have kz:=l9.put (B':=st.B) (V':=st.V.set i { v with es:=es' }) (x:=.any) (v:=.tuple #[]) (e':=e) (w':=w') hm.1 hm.2 (by simp [AV.holds]) (by simp) o2.dst
 have qm:wpListIn F n P ops.toArray Qr rest ((a.put o.dst v1).put o2.dst (.tuple #[])) w':=by
  rw [t7] at kz ⊢;rw [hd] at kz ⊢;exact h n0 w0 e _ w' Qr kz fun e'' st' a' w'' hq ah ac dw=>cq e'' st' a' w'' hq ah ac (hm.2.trans dw)
 exact qm
end
section
variable {F:Fence} {n:Nat} {P:Program} {b:Frame} {a:Act} {k:List Item} {cs:List Frame} {w:World}
theorem lU {c:Code}:step P (lone (b.atR a (.code (.scope c)::k)) cs w)=.next (lone (b.atR a (.code c::.inScope c::k)) cs w):=have _:=G;
 step_lone_go (by rfl)
theorem OD {c:Code}:step P (lone (b.atR a (.inScope c::k)) cs w)=.next (lone (b.atR a k) cs w):=have _:=G;
 step_lone_go (by rfl)
theorem KA {c:Code} {Q:Exit->Act->World->Prop} (h:c.wpIn F n P (fun ex a w=>match ex with | .goto _=>False | ex=>Q ex a w) a w):(Code.scope c).wpIn F n P Q a w:=by
 intro b k cs ba hb hr;have h0:(lone (b.atR a (.code (.scope c)::k)) cs w).fenced P F:=fenced_calm hb hr rfl;obtain ⟨e,a₁,w₁,hq,pc⟩:=h b (.inScope c::k) cs ba hb hr;cases e with
 | normal=>exact ⟨.normal,a₁,w₁,hq,.head h0 lU (StepsIn.trans pc (.one (fenced_calm hb hr rfl) OD))⟩
 | exit id =>
  have hx:exitTo id (.inScope c::k)=exitTo id k:=by rfl
  exact ⟨.exit id,a₁,w₁,hq,fun k' hk=>.head h0 lU (pc.1 k' (by grind)),
   fun bo hk=>let ⟨k₁,h1,h2⟩:=pc.2 bo (by grind);⟨k₁,h1,.head h0 lU h2⟩⟩
 | goto l=>grind
 | ret=>exact ⟨_,a₁,w₁,hq,.of_steps (.one h0 lU) pc⟩
 | panic ch=>exact ⟨_,a₁,w₁,hq,.of_steps (.one h0 lU) pc⟩
 | outgrown=>exact ⟨_,a₁,w₁,hq,.of_steps (.one h0 lU) pc⟩
def aGC (Q:Exit->St->Prop):Exit->St->Prop
 | .goto _,_=>False
 | ex,st=>Q ex st
theorem aGD {c:Code} {st:St} {Q:Exit->St->Prop} (h:W F n P c st (aGC Q)):W F n P (.scope c) st Q:=by
 intro n0 w0 e a w Qr hr hk;refine KA (h n0 w0 e a w _ hr ?_);intro ex e' st' a' w' hq ah ac hx;cases ex with
 | goto l=>exact hq.elim
 | _=>exact hk _ e' st' a' w' hq ah ac hx
end
section
variable {P:Program}
theorem AH {A:Type} (l:List A):∀ (n i:Nat),i<n->(((List.replicate n l).flatten.drop (i*l.length)).take l.length)=l
 | 0,i,h=>by have _:=G;omega
 | n+1,0,_=>by grind
 | n+1,i+1,h=>by
  have:=AH l n i (by omega)
  simp_all [List.replicate_succ,Nat.add_mul,Nat.add_comm]
theorem qK (em:Bool):∀ (d:Nat) (T:TypeId) (l:List LK),eqK P d T=some l->∀ (n:Nat) (w:World) (x:Value),d<=n->shp P T x->x.cells.toList.map kOf=l.map some->(Instr.checkKey em n T x).run P w=.ok () w
 | 0,T,l,h=>by grind [eqK]
 | d+1,T,l,h=>by
  intro n w x hn sx hx;obtain ⟨n,rfl⟩:∃ k,n=k+1:=⟨n - 1,by omega⟩
  have dh:d<=n:=by omega
  unfold eqK at h;unfold shp at sx;cases hu:P.underlying T with
  | none=>grind
  | some kd =>
   rw [hu] at sx;cases kd <;> simp only [hu,reduceCtorEq,Option.some.injEq] at h
   case bool =>
    simp_all [Instr.checkKey,run_underlying]
   case int q =>
    simp_all [Instr.checkKey,run_underlying]
   case array n' e =>
    obtain ⟨xs,rfl⟩:=sx;split at h
    ·rename_i l1 gn
     split at h
     ·rename_i hc
      injection h with h
      subst h;have di:=rH (P:=P) (T:=e) (by omega)
      rw [Instr.checkKey];simp only [Sem.run_bind,run_underlying hu];simp;simp only [Value.cells] at hx
      have each:∀ j∈List.range' 0 n',((xs.toList.drop (j*P.cellsOf e)).take l1.length).map kOf=l1.map some:=by
       intro j hj;have Kv:j<n':=by grind
       rw [<- hc.1,List.map_take,List.map_drop,hx,<- List.map_drop,<- List.map_take,AH l1 n' j Kv]
      generalize List.range' 0 n'=is at each
      induction is with
      | nil=>simp
      | cons j is ih =>
       obtain ⟨a,p1,p2,p3⟩:=nP gn hc.1 hc.2 (each j (by simp)) w
       have p4:=qK em d e l1 gn n w a dh p2 (by grind)
       simp_all
     grind
    grind
   case struct fs =>
    obtain ⟨xs,rfl⟩:=sx;split at h
    ·cases h
    ·rw [Instr.checkKey]
     simp [run_underlying hu];simp [Value.cells] at hx
     have go:∀ (L:List Field) (off:Nat) (l:List LK),OA P (eqK P d) off L=some l->((xs.toList.drop off).take l.length).map kOf=l.map some ->
       (forIn L PUnit.unit (fun f _=>do if f.name ≠ "_" then (do Instr.checkKey em n f.type (<- part f.type xs f.offset);pure (ForInStep.yield PUnit.unit)) else pure (ForInStep.yield PUnit.unit)):Sem PUnit).run P w=.ok PUnit.unit w:=by
      intro L
      induction L with
      | nil=>simp
      | cons f L ih =>
       intro off l h hx;simp only [OA] at h;split at h
       ·rename_i hf
        obtain ⟨tv,rfl⟩:=hf;split at h
        ·rename_i l1 gn
         split at h
         ·rename_i hc
          simp at h;obtain ⟨l2,po,rfl⟩:=h;rw [List.length_append,jU,List.map_append,List.map_append] at hx
          have tu:(((xs.toList.drop f.offset).take l1.length).map kOf).length=l1.length:=by
           grind [List.length_append]
          obtain ⟨de,ku⟩:=List.append_inj hx (by grind)
          obtain ⟨a,p1,p2,p3⟩:=nP gn hc.1 hc.2 de w;have p4:=qK em d f.type l1 gn n w a dh p2 (by grind)
          simp only [List.forIn_cons,Sem.run_bind,tv,ne_eq,not_false_eq_true,if_true,Result.andThen_ok,p1,p4];exact ih (f.offset+l1.length) l2 po ku
         grind
        grind
       grind
     have tu:xs.toList.length=l.length:=by have:=congrArg List.length hx;grind
     have:=go fs.toList 0 l h (by grind)
     simp_all
def vT (key:List Value):List MapEntry->Nat->Option (Nat×Value)
 | [],_=>none
 | m::ms,i=>if eqB key m.key.cells.toList=true then some (i,m.val) else vT key ms (i+1)
theorem OE {T:TypeId} {l:List LK} (hk:eqK P 100 T=some l) {key:Value} (sk:shp P T key) (dx:key.cells.toList.map kOf=l.map some) (es:List MapEntry)
  (cn:∀ m∈es,shp P T m.key/\m.key.cells.toList.map kOf=l.map some) (w:World):(Instr.findKey T key es).run P w=.ok (vT key.cells.toList es 0) w:=by
 have asking:∀ (es:List MapEntry) (i:Nat),(∀ m∈es,shp P T m.key/\m.key.cells.toList.map kOf=l.map some)->(Instr.findAsking T key es i).run P w=.ok (vT key.cells.toList es i) w:=by
  intro es
  induction es with
  | nil=>simp [Instr.findAsking,vT]
  | cons m ms ih =>
   intro i h;obtain ⟨s1,s2⟩:=h m (by simp)
   have hE:(Op.equal T key m.key).run P w=.ok (eqB key.cells.toList m.key.cells.toList) w:=yV 100 9900 T l hk w key m.key sk s1 dx s2;rw [Instr.findAsking];simp [hE,vT];grind
 unfold eqK at hk;cases hu:P.underlying T with
 | none=>grind
 | some kd =>
  unfold shp at sk;rw [hu] at sk;cases kd <;> simp only [hu,reduceCtorEq,Option.some.injEq] at hk
  case array n e=>exact (run_findKey_eq w (k:=T) (by rw [hu]) key es).trans (asking es 0 cn)
  case struct fs=>exact (run_findKey_eq w (k:=T) (by rw [hu]) key es).trans (asking es 0 cn)
  case bool =>
   subst hk;rw [sk] at dx;cases key <;> simp [kOf] at dx;rename_i b
   have now:∀ (es:List MapEntry) (i:Nat),(∀ m∈es,shp P T m.key/\m.key.cells.toList.map kOf=[some LK.bool])->Instr.findNow .bool (.bool b) es i=some (vT [.bool b] es i):=by
    intro es
    induction es with
    | nil=>intro i _;rfl
    | cons m ms ih =>
     intro i h;obtain ⟨s1,s2⟩:=h m (by simp)
     unfold shp at s1;rw [hu] at s1;obtain ⟨mk,mv,mb⟩:=m;rw [s1] at s2;cases mk <;> simp [kOf] at s2;grind [Instr.findNow,Instr.sameNow,vT,eqB,vEq]
   simp_all [Instr.findKey,run_underlying]
  case int q =>
   subst hk;rw [sk] at dx;cases key <;> simp [kOf] at dx;rename_i q' a
   have now:∀ (es:List MapEntry) (i:Nat),(∀ m∈es,shp P T m.key/\m.key.cells.toList.map kOf=[some (LK.int q')])->Instr.findNow (.int q') (.int q' a) es i=some (vT [.int q' a] es i):=by
    intro es
    induction es with
    | nil=>intro i _;rfl
    | cons m ms ih =>
     intro i h;obtain ⟨s1,s2⟩:=h m (by simp)
     unfold shp at s1;rw [hu] at s1;obtain ⟨mk,mv,mb⟩:=m;rw [s1] at s2;cases mk <;> simp [kOf] at s2;grind [Instr.findNow,Instr.sameNow,vT,eqB,vEq]
   simp_all [Instr.findKey,run_underlying]
theorem CJ {f:Fn} {a b:Array Value} {q:LK} (h:fnK f a b=some q):q=.fn/\(∃ g,f=.func g)/\a=#[]/\b=#[]:=by
 have _:=G;unfold fnK at h;grind
theorem xC {P:Program}:∀ (d:Nat) (T:TypeId) (l:List LK),eqK P d T=some l->LK.fn ∉ l
 | 0,_,_,h=>by have _:=G;grind [eqK]
 | d+1,T,l,h=>by
  unfold eqK at h;split at h
  ·grind
  ·grind
  ·split at h
   ·rename_i l1 gn
    split at h
    ·cases h
     have:=xC d _ _ gn;simp_all
    grind
   grind
  ·split at h
   ·cases h
   ·have go:∀ (fs:List Field) (off:Nat) (l:List LK),OA P (eqK P d) off fs=some l->LK.fn ∉ l:=by
     intro fs
     induction fs with
     | nil=>grind [OA]
     | cons f fs ih =>
      intro off l h;simp only [OA] at h;split at h
      ·split at h
       ·rename_i l1 gn
        split at h
        ·simp at h
         obtain ⟨l2,h2,rfl⟩:=h;rw [List.mem_append];rintro (hc | hc)
         ·exact xC d _ _ gn hc
         grind
        grind
       grind
      grind
    grind
  grind
theorem tG:∀ {xs ys:List Value} {l:List LK},xs.map kOf=l.map some->ys.map kOf=l.map some->eqB xs ys=true->xs=ys
 | [],[],l,_,_,_=>have _:=G;rfl
 | [],y::ys,l,hx,hy,_=>by grind
 | x::xs,[],l,hx,hy,_=>by grind
 | x::xs,y::ys,[],hx,hy,_=>by grind
 | x::xs,y::ys,q::l,hx,hy,h=>by
  simp at hx hy;simp [eqB] at h;rw [tG hx.2 hy.2 h.2];have h1:=hx.1;have h2:=hy.1;cases x <;> simp [kOf] at h1
  ·subst h1
   cases y <;> simp [kOf] at h2;simp_all [vEq]
  ·subst h1
   cases y <;> simp [kOf] at h2;simp_all [vEq]
  ·obtain ⟨rfl,⟨g,rfl⟩,rfl,rfl⟩:=CJ h1
   cases y <;> simp [kOf] at h2
   ·obtain ⟨_,⟨g',rfl⟩,rfl,rfl⟩:=CJ h2
    simp_all [vEq,fnN]
   grind [vEq]
  ·subst h1
   cases y <;> simp [kOf] at h2
   ·grind [vEq]
   ·rfl
theorem AZ {x:Value} {l:List LK} {T:TypeId} (E3:LK.fn ∉ l) (s:shp P T x) (h:x.cells.toList.map kOf=l.map some):Instr.sameBits 10000 x x=true:=by
 have _:=G
 have one:∀ (n:Nat) (y:Value) (q:LK),q≠.fn->kOf y=some q->Instr.sameBits n y y=true:=by
  intro n y q hq h;cases y <;> simp [kOf] at h
  case func=>exact absurd (CJ h).1 hq
  case nilFunc=>grind
  all_goals cases n <;> simp [Instr.sameBits]
 cases x with
 | agg xs =>
  rw [show (10000:Nat)=9999+1 from rfl,Instr.sameBits];simp only [BEq.rfl]
  have:∀ (ys:List Value) (l:List LK),LK.fn ∉ l->ys.map kOf=l.map some->((ys.zip ys).all fun (x,y)=>Instr.sameBits 9999 x y)=true:=by
   intro ys
   induction ys with
   | nil=>simp
   | cons y ys ih =>
    intro l hn h;cases l with
    | nil=>grind
    | cons q l =>
     simp;grind
  exact this _ _ E3 h
 | _ =>
  cases l with
  | nil=>simp [Value.cells] at h
  | cons q l =>
   simp only [List.mem_cons,not_or] at E3;simp [Value.cells,kOf] at h <;> exact one _ _ q (fun hc=>E3.1 hc.symm) (by simp [kOf,h])
end
def cvV:CV->Value
 | .val v=>v
 | _=>undef
def kC:CV->Option LK
 | .val v=>kOf v
 | _=>none
structure MI where
 kT:TypeId
 eT:TypeId
 kl:List LK
 vl:LK
 z:Value
def aIA (P:Program) (k:TypeId):Bool:=match P.underlying k with
 | some (.struct _)=>true
 | some (.array _ _)=>true
 | _=>false
def eO (P:Program) (T:TypeId):Option MI:=match P.underlying T with
 | some (.map k e)=>match eqK P 100 k,P.info? e with
  | some kl,some i=>match i.zero with
   | some z=>match kOf z with
    | some vl=>if (aIA P k == (kl.length != 1)&&kl.length != 0&&decide (T<bQ))=true then some ⟨k,e,kl,vl,z⟩ else none
    | none=>none
   | none=>none
  | _,_=>none
 | _=>none
def MI.tag (m:MI) (T:TypeId):Nat:=bQ*(m.kl.length+1)+T
def okE (m:MI) (e:List CV):Bool:=e.map kC == (m.kl++[m.vl]).map some
def dU (m:MI) (ks:List CV):Bool:=ks.map kC == m.kl.map some
def bN (kn:Nat) (key:List CV):List (List CV)->Nat
 | []=>0
 | e::es=>if eqB (key.map cvV) ((e.take kn).map cvV)=true then 0 else bN kn key es+1
def aH (kn:Nat) (key:List CV) (z:Value) (es:List (List CV)):CV:=(es.getD (bN kn key es) []).getD kn (.val z)
def fQ (kn:Nat) (e:List CV):Value×Value:=(mkV ((e.map cvV).take kn),mkV ((e.map cvV).drop kn))
def MOk (kn:Nat) (es:List (List CV)) (arr:Array MapEntry) (c:Nat):Prop:=
 MapKept.Stamped arr c/\(arr.toList.map fun e=>(e.key,e.val)).Perm (es.map (fQ kn))
section
variable {P:Program} {T:TypeId} {mi:MI}
theorem cX (h:eO P T=some mi):P.underlying T=some (.map mi.kT mi.eT)/\eqK P 100 mi.kT=some mi.kl/\(∃ i,P.info? mi.eT=some i/\i.zero=some mi.z)/\kOf mi.z=some mi.vl/\(aIA P mi.kT=true↔mi.kl.length≠1)/\mi.kl.length≠0/\T<bQ:=by
 have _:=G;unfold eO at h;grind
theorem MI.tag_div (h:T<bQ):mi.tag T / bQ - 1=mi.kl.length:=by
 have _:=G;unfold MI.tag
 have:(bQ*(mi.kl.length+1)+T) / bQ=mi.kl.length+1:=by
  rw [Nat.mul_add_div (by decide),Nat.div_eq_of_lt h,Nat.add_zero]
 omega
theorem MI.tag_lt (h:mi.kl.length≠0):bQ<mi.tag T:=by
 have _:=G;unfold MI.tag;have:bQ*2<=bQ*(mi.kl.length+1):=Nat.mul_le_mul_left _ (by omega)
 have:bQ=1048576:=rfl;omega
theorem MI.tag_le:bQ<=mi.tag T:=by
 have _:=G;unfold MI.tag;grind
variable {v:Value} {q:LK}
theorem EN (h:kOf v=some q):v.cells.toList=[v]:=by have _:=G;cases v <;> simp [kOf] at h <;> rfl
variable {xs:List Value}
theorem pZ {l:List LK} (h:xs.map kOf=l.map some):(mkV xs).cells.toList=xs:=by
 match xs,l,h with
 | [],_,_=>rfl
 | [x],l,h =>
  cases l with
  | nil=>grind
  | cons q l=>simp at h;exact EN h.1
 | x::y::r,_,_=>rfl
theorem yY (h:eO P T=some mi) (hx:xs.map kOf=mi.kl.map some):shp P mi.kT (mkV xs):=by
 obtain ⟨_,hk,_,_,h1,h2,_⟩:=cX h;have aj:xs.length=mi.kl.length:=by have:=congrArg List.length hx;grind
 unfold shp;unfold aIA at h1;unfold eqK at hk;cases hu:P.underlying mi.kT with
 | none=>grind
 | some kd =>
  have agg:mi.kl.length≠1->∃ a,mkV xs=.agg a:=by
   intro ax
   match xs with
   | []=>grind
   | [x]=>grind
   | x::y::r=>exact ⟨_,rfl⟩
  cases kd <;> simp only [hu,reduceCtorEq,Option.some.injEq] at hk
  case bool=>rw [<- hk] at hx;exact (by
   match xs,hx with
   | [x],hx=>simp at hx;exact EN hx
   | x::y::r,hx=>grind)
  case int q=>rw [<- hk] at hx;exact (by
   match xs,hx with
   | [x],hx=>simp at hx;exact EN hx
   | x::y::r,hx=>grind)
  case array n e=>grind
  grind
theorem pF {c:CV} (h:kC c=some q):c=.val (cvV c)/\kOf (cvV c)=some q:=by
 have _:=G;cases c <;> simp [kC] at h;exact ⟨rfl,h⟩
theorem nQ {cs:List CV} {l:List LK} (h:cs.map kC=l.map some):(cs.map cvV).map kOf=l.map some/\cs=(cs.map cvV).map .val:=by
 induction cs generalizing l with
 | nil=>grind
 | cons c cs ih =>
  cases l with
  | nil=>grind
  | cons q l =>
   simp at h ⊢;obtain ⟨h1,h2⟩:=pF h.1;grind
theorem IV {w:World} {S:Nat->Prop}:∀ {cs:List CV} {xs:List Value},(∀ c∈cs,(kC c).isSome=true)->CV.vals w S cs xs->xs=cs.map cvV
 | [],[],_,_=>rfl
 | c::cs,x::xs,h,hv=>by
  simp only [CV.vals] at hv;have h1:=h c (by simp)
  cases hk:kC c with
  | none=>rw [hk] at h1;cases h1
  | some q =>
   obtain ⟨e,_⟩:=pF hk;rw [e] at hv;simp only [CV.holds] at hv;rw [List.map_cons,IV (fun c hc=>h c (by simp [hc])) hv.2,<- hv.1.1]
 | [],_::_,_,hv=>by grind [CV.vals]
 | _::_,[],_,hv=>by grind [CV.vals]
theorem uO (h:kOf v=some q):v.oneCell'=true:=by have _:=G;cases v <;> simp [kOf] at h <;> rfl
theorem KB {w:World} {S:Nat->Prop}:∀ {cs:List CV},(∀ c∈cs,(kC c).isSome=true)->CV.vals w S cs (cs.map cvV)
 | [],_=>by simp [CV.vals]
 | c::cs,h=>by
  cases hk:kC c with
  | none=>grind
  | some q =>
   obtain ⟨e,hq⟩:=pF hk;refine ⟨?_,KB fun c hc=>h c (by grind)⟩
   rw [e];simp only [CV.holds,cvV];exact ⟨trivial,uO hq⟩
theorem mF {e:List CV} (h:okE mi e=true):e.length=mi.kl.length+1/\((e.take mi.kl.length).map kC=mi.kl.map some)/\kC (e.getD mi.kl.length (.val mi.z))=some mi.vl/\(e.drop mi.kl.length=[e.getD mi.kl.length (.val mi.z)])/\∀ c∈e,(kC c).isSome=true:=by
 have _:=G;unfold okE at h;simp at h;have aj:e.length=mi.kl.length+1:=by have:=congrArg List.length h;grind
 have h1:(e.take mi.kl.length).map kC=mi.kl.map some:=by simp_all
 have h2:(e.drop mi.kl.length).map kC=[some mi.vl]:=by simp_all
 have h3:∃ c,e.drop mi.kl.length=[c]:=by
  match hd:e.drop mi.kl.length with
  | []=>grind
  | [c]=>simp
  | a::b::r=>grind
 obtain ⟨c,hc⟩:=h3
 have h4:e.getD mi.kl.length (.val mi.z)=c:=by
  grind [List.head?_drop]
 refine ⟨aj,h1,?_,by grind,fun c hc=>?_⟩
 ·grind
 ·have:kC c∈e.map kC:=List.mem_map.2 ⟨c,hc,rfl⟩
  grind
theorem GP {A:Type} {k:Nat}:∀ (es:List (List A)) (i:Nat),(∀ l∈es,l.length=k)->i<es.length->(es.flatten.drop (i*k)).take k=es.getD i []
 | [],i,_,h=>by have _:=G;simp
 | e::es,0,hk,_=>by grind
 | e::es,i+1,hk,h=>by
  have:=GP es i (fun l hl=>hk l (by grind)) (by grind)
  rw [List.flatten_cons,Nat.add_mul,Nat.one_mul,Nat.add_comm (i*k),<- List.drop_drop];grind
theorem VD {kn:Nat} {es:List (List CV)} (aj:∀ l∈es,l.length=kn+1):PA kn (kn+1) es.length (es.flatten.map cvV)=es.map (fQ kn):=by
 apply List.ext_getElem?;intro i;simp [PA]
 by_cases hi:i<es.length
 ·have Kw:=GP es i aj hi
  grind [List.map_drop,List.map_take,fQ]
 grind
theorem OwnsM.get (hm:eO P T=some mi) {w:World} {n0:Nat} {S:Nat->Prop} {es:List (List CV)} (h:OwnsM w n0 (mi.tag T) (mi.kl.length+1) v es.length xs) (hv:CV.vals w S es.flatten xs) (aa:es.all (okE mi)=true) :
  ∃ b arr c,v=.map (some b)/\n0<=b/\w.heap[b]? = some (.map arr c)/\MOk mi.kl.length es arr c:=by
 obtain ⟨_,b,arr,c,h1,h2,h3,h4,h5,h6⟩:=h;rw [MI.tag_div (cX hm).2.2.2.2.2.2] at h6;rw [List.all_eq_true] at aa
 have dO:xs=es.flatten.map cvV:=IV (fun c hc=>by
  obtain ⟨l,hl,hc⟩:=List.mem_flatten.1 hc;exact (mF (aa l hl)).2.2.2.2 c hc) hv
 rw [dO,VD fun l hl=>(mF (aa l hl)).1] at h6
 exact ⟨b,arr,c,h1,h2,h3,h5,h6⟩
theorem OwnsM.of (hm:eO P T=some mi) {w:World} {n0 b c:Nat} {arr:Array MapEntry} {es:List (List CV)} (hb:n0<=b) (aa:es.all (okE mi)=true) (h:w.heap[b]? = some (.map arr c)) (hM:MOk mi.kl.length es arr c) :
  OwnsM w n0 (mi.tag T) (mi.kl.length+1) (.map (some b)) es.length (es.flatten.map cvV):=by
 rw [List.all_eq_true] at aa;have aj:∀ l∈es,l.length=mi.kl.length+1:=fun l hl=>(mF (aa l hl)).1
 refine ⟨MI.tag_lt (cX hm).2.2.2.2.2.1,b,arr,c,rfl,hb,h,?_,hM.1,?_⟩
 ·clear aa hM
  induction es with
  | nil=>simp
  | cons e es ih=>grind
 ·rw [MI.tag_div (cX hm).2.2.2.2.2.2,VD aj];exact hM.2
theorem tH {e:List CV} (h:okE mi e=true):(fQ mi.kl.length e).1.cells.toList=(e.take mi.kl.length).map cvV/\((e.take mi.kl.length).map cvV).map kOf=mi.kl.map some/\(fQ mi.kl.length e).1=mkV ((e.take mi.kl.length).map cvV)/\(fQ mi.kl.length e).2=cvV (e.getD mi.kl.length (.val mi.z)):=by
 obtain ⟨_,h1,_,h3,_⟩:=mF h;obtain ⟨h2,_⟩:=nQ h1;simp only [fQ,<- List.map_take,<- List.map_drop,h3,List.map_cons,List.map_nil,mkV,and_true];exact ⟨pZ h2,h2⟩
theorem uP {key:List CV} (hk:dU mi key=true):∀ {es:List (List CV)},es.all (okE mi)=true->bN mi.kl.length key es<es.length->((es.getD (bN mi.kl.length key es) []).take mi.kl.length).map cvV=key.map cvV
 | [],_,h=>by grind
 | e::es,aa,h=>by
  simp only [List.all_cons,Bool.and_eq_true] at aa;simp only [bN] at h ⊢;split
  ·rename_i he
   exact (tG (nQ (beq_iff_eq.1 hk)).1 (tH aa.1).2.1 he).symm
  ·exact uP hk aa.2 (by grind)
theorem xD:∀ {xs:List Value} {l:List LK},xs.map kOf=l.map some->eqB xs xs=true
 | [],_,_=>have _:=G;rfl
 | x::xs,[],h=>by grind
 | x::xs,q::l,h=>by
  simp at h;simp [eqB,xD h.2];have h1:=h.1;cases x <;> simp [kOf] at h1 <;> simp [vEq]
theorem aA2 {key:List CV} (hk:dU mi key=true):∀ {es:List (List CV)} {e:List CV},e∈es->(e.take mi.kl.length).map cvV=key.map cvV->bN mi.kl.length key es<es.length
 | d::es,e,he,h=>by
  simp only [bN,List.length_cons];split
  ·omega
  ·rename_i ax
   rcases List.mem_cons.1 he with rfl | he
   ·rw [h] at ax
    exact absurd (xD (nQ (beq_iff_eq.1 hk)).1) ax
   ·have:=aA2 hk he h
    omega
end
section
variable {P:Program} {T:TypeId} {mi:MI}
theorem eN {w:World} {b:Nat} {arr:Array MapEntry} {n:Nat} (h:w.heap[b]? = some (.map arr n)):(getObj b).run P w=.ok (.map arr n) w:=by
 have _:=G;simp [getObj,Sem.run,h]
theorem fR {w:World} {b:Nat} {arr:Array MapEntry} {n:Nat} {o:Obj} (hb:w.heap[b]? = some (.map arr n)):(setObj b o).run P w=.ok () (w.putObj b o):=by
 have _:=G;simp [setObj,Sem.run,World.putObj,hb]
theorem EO (h:eO P T=some mi) (w:World):(zeroValue mi.eT).run P w=.ok mi.z w:=by
 obtain ⟨_,_,⟨i,h1,h2⟩,_⟩:=cX h;simp_all [zeroValue,typeInfo,Sem.run_bind]
def fvC (f:FuncId):CV:=.val (.func (.func f) #[] #[])
def fJ (mi:MI) (x:AV):Option (List CV):=match x with
 | .cv c=>if mi.kl.length=1 then some [c] else none
 | .agg xs=>if mi.kl.length≠1 then gC xs else none
 | _=>none
theorem pU {e:Env} {w:World} {ks:List Nat} {x:AV} {cs:List CV} {v:Value} (h:fJ mi x=some cs) (hk:dU mi cs=true) (hv:AV.holds e w ks x v):v=mkV (cs.map cvV):=by
 have hk:=beq_iff_eq.1 hk;have aj:cs.length=mi.kl.length:=by have:=congrArg List.length hk;grind
 have A2:∀ c∈cs,(kC c).isSome=true:=by
  intro c hc;have:kC c∈cs.map kC:=List.mem_map.2 ⟨c,hc,rfl⟩;grind
 unfold fJ at h;split at h
 ·rename_i c
  split at h
  ·simp [AV.holds] at hv
   cases hq:kC c with
   | none=>grind
   | some q =>
    obtain ⟨h1,_⟩:=pF hq;grind [CV.holds,mkV]
  grind
 ·split at h
  ·obtain ⟨vs,rfl,bh⟩:=hv
   rw [mE h] at bh;have h1:=IV A2 (lT bh);have:vs=(cs.map cvV).toArray:=by grind
   rw [this]
   match cs,aj with
   | [],_=>rfl
   | [c],hl=>grind
   | a::b::r,_=>rfl
  grind
 grind
theorem xE {A:Type} {l:List A} (h:l.Nodup) {i j:Nat} (gp:i<j) {x:A} (hi:l[i]? = some x):l[j]?≠some x:=by
 have _:=G;intro hj;obtain ⟨h1,rfl⟩:=List.getElem?_eq_some_iff.1 hi;obtain ⟨h2,h3⟩:=List.getElem?_eq_some_iff.1 hj;exact List.pairwise_iff_getElem.1 h i j h1 h2 gp h3.symm
theorem KC {key:List Value} {l:List LK} (dx:key.map kOf=l.map some):∀ (ms:List MapEntry) (i:Nat),(∀ m∈ms,m.key.cells.toList.map kOf=l.map some) ->
  (vT key ms i=none/\∀ m∈ms,m.key.cells.toList≠key)\/∃ j m,vT key ms i=some (i+j,m.val)/\ms[j]? = some m/\m.key.cells.toList=key
 | [],_,_=>.inl ⟨rfl,by simp⟩
 | m::ms,i,h=>by
  simp [vT];split
  ·rename_i he
   exact .inr ⟨0,m,rfl,rfl,(tG dx (h m (by simp)) he).symm⟩
  ·rename_i he
   have ax:m.key.cells.toList≠key:=fun q=>he (by rw [q];exact xD dx)
   rcases KC dx ms (i+1) fun x hx=>h x (by grind) with ⟨h1,h2⟩ | ⟨j,e,h1,h2,h3⟩
   ·grind
   ·exact .inr ⟨j+1,e,by grind,by grind,h3⟩
theorem MOk.find (hm:eO P T=some mi) {es:List (List CV)} {arr:Array MapEntry} {c:Nat} {cs:List CV} (hM:MOk mi.kl.length es arr c) (aa:es.all (okE mi)=true) (hk:dU mi cs=true) :
  ∃ r,(∀ w,(Instr.findKey mi.kT (mkV (cs.map cvV)) arr.toList).run P w=.ok r w) /\
   ((r=none/\(∀ x∈arr.toList,x.key≠mkV (cs.map cvV))/\¬bN mi.kl.length cs es<es.length) \/
    ∃ j m,r=some (j,m.val)/\arr[j]? = some m/\m.key=mkV (cs.map cvV)/\m.val=cvV (aH mi.kl.length cs mi.z es)/\bN mi.kl.length cs es<es.length):=by
 obtain ⟨hu,he,_⟩:=cX hm;have cq:=(nQ (beq_iff_eq.1 hk)).1;have hs:=yY hm cq;have hc:=pZ cq;rw [List.all_eq_true] at aa
 have dc:∀ m∈arr.toList,∃ e∈es,fQ mi.kl.length e=(m.key,m.val):=by
  intro m ct;have:(m.key,m.val)∈es.map (fQ mi.kl.length):=hM.2.mem_iff.1 (List.mem_map.2 ⟨m,ct,rfl⟩);grind
 have bh:∀ m∈arr.toList,(shp P mi.kT m.key/\m.key.cells.toList.map kOf=mi.kl.map some)/\m.key=mkV m.key.cells.toList:=by
  intro m ct;obtain ⟨e,he,hp⟩:=dc m ct;obtain ⟨p1,p2,p3,_⟩:=tH (aa e he);rw [hp] at p1 p3;simp only at p1 p3;refine ⟨⟨?_,by grind⟩,by grind⟩
  rw [p3];exact yY hm p2
 refine ⟨_,fun w=>OE he hs (by grind) arr.toList (fun m ct=>(bh m ct).1) w,?_⟩
 rw [hc];rcases KC cq arr.toList 0 (fun m ct=>(bh m ct).1.2) with ⟨h1,h2⟩ | ⟨j,m,h1,h2,h3⟩
 ·refine .inl ⟨h1,fun x hx Dj=>h2 x hx (by grind),fun hp=>?_⟩
  have hg:es[bN mi.kl.length cs es]? = some (es.getD (bN mi.kl.length cs es) []):=by grind
  have an:=List.mem_of_getElem? hg;have hq:=uP hk (List.all_eq_true.2 aa) hp;have:fQ mi.kl.length (es.getD (bN mi.kl.length cs es) [])∈arr.toList.map fun e=>(e.key,e.val):=hM.2.mem_iff.2 (List.mem_map.2 ⟨_,an,rfl⟩)
  obtain ⟨p1,_⟩:=tH (aa _ an);grind
 ·have ic:=List.mem_of_getElem? h2
  obtain ⟨e,ib,hp⟩:=dc m ic;obtain ⟨p1,p2,p3,p4⟩:=tH (aa e ib);rw [hp] at p1 p3 p4;simp only at p1 p3 p4;have hlt:=aA2 hk ib (p1.symm.trans h3);refine .inr ⟨j,m,by grind,by grind,by grind,?_,hlt⟩
  have hg:es[bN mi.kl.length cs es]? = some (es.getD (bN mi.kl.length cs es) []):=by grind
  have an:=List.mem_of_getElem? hg;have hq:=uP hk (List.all_eq_true.2 aa) hlt;obtain ⟨q1,q2,q3,q4⟩:=tH (aa _ an)
  have df:(es.map fun e=>(fQ mi.kl.length e).1).Nodup:=by
   have h4:=hM.1.2.2;have h6:=(hM.2.map (·.1)).nodup_iff
   grind
  have Kx:e=es.getD (bN mi.kl.length cs es) []:=by
   obtain ⟨i,hi,Ow⟩:=List.mem_iff_getElem.1 ib
   have Kj:i=bN mi.kl.length cs es:=by
    have a1:(es.map fun e=>(fQ mi.kl.length e).1)[i]? = some (mkV (cs.map cvV)):=by
     grind
    have a2:(es.map fun e=>(fQ mi.kl.length e).1)[bN mi.kl.length cs es]? = some (mkV (cs.map cvV)):=by
     grind
    rcases Nat.lt_trichotomy i (bN mi.kl.length cs es) with hh | hh | hh
    ·exact absurd a2 (xE df hh a1)
    ·exact hh
    ·exact absurd a1 (xE df hh a2)
   grind
  rw [p4,Kx];rfl
theorem dL (hm:eO P T=some mi) {cs:List CV} (hk:dU mi cs=true) (em:Bool) (w:World):(Instr.checkKey em 10000 mi.kT (mkV (cs.map cvV))).run P w=.ok () w:=by
 obtain ⟨hu,he,_⟩:=cX hm;have cq:=(nQ (beq_iff_eq.1 hk)).1;exact qK em 100 mi.kT mi.kl he 10000 w _ (by omega) (yY hm cq) (by grind [pZ])
theorem qL {kn:Nat} {cs:List CV} {z:Value} {es:List (List CV)} (h:¬bN kn cs es<es.length):aH kn cs z es=.val z:=by
 have _:=G;unfold aH;grind
section
variable {w:World} {b c:Nat} {arr:Array MapEntry} {es:List (List CV)} {cs:List CV} {d:CV}
theorem mG (hm:eO P T=some mi) (hh:w.heap[b]? = some (.map arr c)) (hM:MOk mi.kl.length es arr c) (aa:es.all (okE mi)=true) (hk:dU mi cs=true) :
  (Instr.lookup T (.map (some b)) (mkV (cs.map cvV)) false).run P w=.ok (cvV (aH mi.kl.length cs mi.z es)) w /\
  (Instr.lookup T (.map (some b)) (mkV (cs.map cvV)) true).run P w=.ok (.tuple #[cvV (aH mi.kl.length cs mi.z es),.bool (decide (bN mi.kl.length cs es<es.length))]) w:=by
 obtain ⟨hu,_⟩:=cX hm;obtain ⟨r,hf,h⟩:=hM.find hm aa hk;rcases h with ⟨rfl,_,hp⟩ | ⟨j,m,rfl,_,_,h1,hp⟩
 ·simp [Instr.lookup,run_underlying hu,eN hh,dL hm hk,hf,hp,EO hm,qL hp,cvV]
 ·simp [Instr.lookup,run_underlying hu,eN hh,dL hm hk,hf,hp,h1]
def ltC:CV->CV->Bool
 | .val (.int _ a),.val (.int _ b)=>decide (a<b)
 | .val (.bool a),.val (.bool b)=>!a&&b
 | _,_=>false
def ltK:List CV->List CV->Bool
 | a::as,b::bs=>ltC a b || (!(ltC b a)&&ltK as bs)
 | _,_=>false
def HU (n:Nat) (cs:List CV):List (List CV)->Nat
 | []=>0
 | e::es=>if ltK cs (e.take n)=true then 0 else HU n cs es+1
def bV (n:Nat) (cs:List CV) (d:CV) (es:List (List CV)):List (List CV):=
 if bN n cs es<es.length then es.set (bN n cs es) (cs++[d]) else es.take (HU n cs es)++(cs++[d])::es.drop (HU n cs es)
def zQ (n:Nat) (cs:List CV) (es:List (List CV)):List (List CV):=es.eraseIdx (bN n cs es)
theorem uQ {A:Type}:∀ {l:List A} {i:Nat} {x:A},l[i]? = some x->(x::l.eraseIdx i).Perm l
 | [],_,_,h=>by have _:=G;grind
 | y::l,0,x,h=>by simp_all
 | y::l,i+1,x,h=>((List.Perm.swap y x _).trans ((uQ (by grind)).cons y))
theorem set_perm {A:Type} {l:List A} {i:Nat} {x:A} (y:A) (h:l[i]? = some x):(l.set i y).Perm (y::l.eraseIdx i):=by
 obtain ⟨hi,rfl⟩:=List.getElem?_eq_some_iff.1 h;have:=uQ (l:=l.set i y) (i:=i) (x:=y) (by grind)
 rw [List.eraseIdx_set_eq] at this;exact this.symm
theorem MOk.erased (_:eO P T=some mi) (hM:MOk mi.kl.length es arr c) (aa:es.all (okE mi)=true) (hk:dU mi cs=true) {j:Nat} {m:MapEntry} (hj:arr[j]? = some m) (h1:m.key=mkV (cs.map cvV)) (h2:m.val=cvV (aH mi.kl.length cs mi.z es)) (hp:bN mi.kl.length cs es<es.length) :
  ((arr.toList.eraseIdx j).map fun e=>(e.key,e.val)).Perm ((es.eraseIdx (bN mi.kl.length cs es)).map (fQ mi.kl.length)):=by
 have hg:es[bN mi.kl.length cs es]? = some (es.getD (bN mi.kl.length cs es) []):=by grind
 have hq:=uP hk aa hp;rw [List.all_eq_true] at aa;obtain ⟨q1,q2,q3,q4⟩:=tH (aa _ (List.mem_of_getElem? hg));have e1:=(uQ (l:=arr.toList) (i:=j) (x:=m) (by grind)).map fun e=>(e.key,e.val)
 have e2:=(uQ hg).map (fQ mi.kl.length);simp only [List.map_cons] at e1 e2
 have hx:fQ mi.kl.length (es.getD (bN mi.kl.length cs es) [])=(m.key,m.val):=by
  refine Prod.ext ?_ ?_
  ·grind
  ·rw [q4,h2];rfl
 rw [hx] at e2;exact (e1.trans (hM.2.trans e2.symm)).cons_inv
theorem YW {n:Nat} (h:cs.length=n):fQ n (cs++[d])=(mkV (cs.map cvV),cvV d):=by
 have _:=G;grind [List.length_map,fQ,mkV]
theorem uR (hk:dU mi cs=true):cs.length=mi.kl.length:=by have _:=G;have:=congrArg List.length (beq_iff_eq.1 hk);grind
theorem MOk.upd (hm:eO P T=some mi) (hM:MOk mi.kl.length es arr c) (aa:es.all (okE mi)=true) (hk:dU mi cs=true) :
  (¬bN mi.kl.length cs es<es.length->(∀ x∈arr.toList,x.key≠mkV (cs.map cvV))->MOk mi.kl.length (bV mi.kl.length cs d es) (arr.push { key:=mkV (cs.map cvV),val:=cvV d,born:=c }) (c+1)) /\
  (∀ j m,arr[j]? = some m->m.key=mkV (cs.map cvV)->m.val=cvV (aH mi.kl.length cs mi.z es)->bN mi.kl.length cs es<es.length->MOk mi.kl.length (bV mi.kl.length cs d es) (arr.modify j fun e=>{ e with key:=mkV (cs.map cvV),val:=cvV d }) c):=by
 have It:=YW (d:=d) (uR hk);refine ⟨fun hp hx=>⟨MapKept.stamped_push hM.1 hx,?_⟩,fun j m hj h1 h2 hp=>⟨MapKept.stamped_modify hM.1 _ _ (fun _ _=>rfl) (fun e _ he=>by grind),?_⟩⟩
 ·unfold bV
  rw [if_neg hp];generalize HU mi.kl.length cs es=q
  have h1:((es.take q++(cs++[d])::es.drop q).map (fQ mi.kl.length)).Perm (es.map (fQ mi.kl.length)++[(mkV (cs.map cvV),cvV d)]):=by
   refine (List.Perm.map _ List.perm_middle).trans ?_;rw [List.take_append_drop,List.map_cons,It];exact (List.perm_append_singleton _ _).symm
  refine List.Perm.trans ?_ h1.symm;simp;exact hM.2.append (List.Perm.refl _)
 ·unfold bV
  rw [if_pos hp];have hg:es[bN mi.kl.length cs es]? = some (es.getD (bN mi.kl.length cs es) []):=by grind
  have e2:=(set_perm (cs++[d]) hg).map (fQ mi.kl.length)
  have my:(arr.modify j fun e=>{ e with key:=mkV (cs.map cvV),val:=cvV d }).toList=arr.toList.set j { m with key:=mkV (cs.map cvV),val:=cvV d }:=by
   apply List.ext_getElem?;grind
  have e1:=(set_perm { m with key:=mkV (cs.map cvV),val:=cvV d } (l:=arr.toList) (i:=j) (x:=m) (by grind)).map fun e=>(e.key,e.val)
  simp only [List.map_cons,It] at e1 e2;rw [my];exact e1.trans (((hM.erased hm aa hk hj h1 h2 hp).cons _).trans e2.symm)
theorem rN (hm:eO P T=some mi) (hh:w.heap[b]? = some (.map arr c)) (hM:MOk mi.kl.length es arr c) (aa:es.all (okE mi)=true) (hk:dU mi cs=true) :
  ∃ w' arr' c',(Instr.mapUpdate T (.map (some b)) (mkV (cs.map cvV)) (cvV d)).run P w=.ok () w'/\w.grownBy w' (some b)/\w'.heap[b]? = some (.map arr' c')/\MOk mi.kl.length (bV mi.kl.length cs d es) arr' c':=by
 obtain ⟨hu,_⟩:=cX hm;have io:b<w.heap.size:=(Array.getElem?_eq_some_iff.1 hh).1;have cq:=(nQ (beq_iff_eq.1 hk)).1;have sq:=AZ (xC _ _ _ (cX hm).2.1) (yY hm cq) (by grind [pZ])
 obtain ⟨r,hf,h⟩:=hM.find hm aa hk;obtain ⟨u1,u2⟩:=hM.upd (d:=d) hm aa hk;rcases h with ⟨rfl,hx,hp⟩ | ⟨j,m,rfl,hj,h0,h1,hp⟩
 ·refine ⟨_,_,_,?_,grownBy_putObj' w b _,World.putObj_heap_same io,u1 hp hx⟩
  simp [Instr.mapUpdate,run_underlying hu,eN hh,dL hm hk,hf,fR hh]
 ·refine ⟨_,_,_,?_,grownBy_putObj' w b _,World.putObj_heap_same io,u2 j m hj h0 h1 hp⟩
  simp [Instr.mapUpdate,run_underlying hu,eN hh,dL hm hk,hf,hj,h0,Instr.keyThatStays,sq,fR hh]
theorem KD (hm:eO P T=some mi) {kT':TypeId} {ty:TypeId} (hh:w.heap[b]? = some (.map arr c)) (hM:MOk mi.kl.length es arr c) (aa:es.all (okE mi)=true) (hk:dU mi cs=true) :
  ∃ w' arr' c',(Builtin.delete_ #[T,kT'] ty #[.map (some b),mkV (cs.map cvV)]).run P w=.ok (.tuple #[]) w'/\w.grownBy w' (some b)/\w'.heap[b]? = some (.map arr' c')/\MOk mi.kl.length (zQ mi.kl.length cs es) arr' c':=by
 obtain ⟨hu,_⟩:=cX hm;have io:b<w.heap.size:=(Array.getElem?_eq_some_iff.1 hh).1;obtain ⟨r,hf,h⟩:=hM.find hm aa hk;rcases h with ⟨rfl,hx,hp⟩ | ⟨j,m,rfl,hj,h0,h1,hp⟩
 ·refine ⟨_,arr,c,?_,grownBy_putObj' w b _,World.putObj_heap_same io,?_⟩
  ·simp [Builtin.delete_,run_underlying hu,eN hh,dL hm hk,hf,fR hh]
  ·unfold zQ;grind [List.eraseIdx_of_length_le]
 ·refine ⟨_,arr.eraseIdxIfInBounds j,c,?_,grownBy_putObj' w b _,World.putObj_heap_same io,MapKept.stamped_erase hM.1 _,?_⟩
  ·simp [Builtin.delete_,run_underlying hu,eN hh,dL hm hk,hf,fR hh]
  ·rw [show (arr.eraseIdxIfInBounds j).toList=arr.toList.eraseIdx j by simp]
   exact hM.erased hm aa hk hj h0 h1 hp
theorem find_born {j:Nat} {m:MapEntry} (hn:(arr.toList.map (·.born)).Nodup) (hj:arr[j]? = some m):arr.findIdx? (fun e=>(e.born:Int) == (m.born:Int))=some j:=by
 obtain ⟨bu,rfl⟩:=Array.getElem?_eq_some_iff.1 hj;rw [Array.findIdx?_eq_some_iff_getElem];refine ⟨bu,by simp,fun i hi=>?_⟩
 have h:=xE hn hi (x:=arr[i].born) (by grind)
 grind
theorem VE {w w' w'':World} {row:Option Nat} (h:w.grownBy w' row) (h':w'.grownBy w'' row):w.grownBy w'' row:=have _:=G;
 ⟨h'.os.trans h.os,h'.tape.trans h.tape,h'.output.trans h.output,Nat.le_trans h.size h'.size,fun k hk ax=>(h'.block k (Nat.lt_of_lt_of_le hk h.size) ax).trans (h.block k hk ax)⟩
theorem KE (hm:eO P T=some mi) (hh:w.heap[b]? = some (.map arr c)) (hM:MOk mi.kl.length es arr c) (aa:es.all (okE mi)=true) (hk:dU mi cs=true) :
  ∃ (w1 w':World) (s:Nat) (arr':Array MapEntry) (c':Nat),(Instr.mapEntry T (.map (some b)) (mkV (cs.map cvV))).run P w=.ok (.tuple #[cvV (aH mi.kl.length cs mi.z es),goInt s]) w1 /\
   (Instr.entryStore T (.map (some b)) (goInt s) (cvV d)).run P w1=.ok () w'/\w.grownBy w' (some b)/\w'.heap[b]? = some (.map arr' c')/\MOk mi.kl.length (bV mi.kl.length cs d es) arr' c':=by
 obtain ⟨hu,_⟩:=cX hm;have io:b<w.heap.size:=(Array.getElem?_eq_some_iff.1 hh).1;have cq:=(nQ (beq_iff_eq.1 hk)).1;have sq:=AZ (xC _ _ _ (cX hm).2.1) (yY hm cq) (by grind [pZ])
 obtain ⟨r,hf,h⟩:=hM.find hm aa hk;obtain ⟨u1,u2⟩:=hM.upd (d:=d) hm aa hk
 have two:∀ (o1 o2:Obj),w.grownBy ((w.putObj b o1).putObj b o2) (some b)/\((w.putObj b o1).putObj b o2).heap[b]? = some o2:=by
  intro o1 o2;have h1:b<(w.putObj b o1).heap.size:=by simp_all
  exact ⟨VE (grownBy_putObj' w b o1) (grownBy_putObj' _ b o2),World.putObj_heap_same h1⟩
 have put1:∀ (o1:Obj),(w.putObj b o1).heap[b]? = some o1:=fun o1=>World.putObj_heap_same io
 rcases h with ⟨rfl,hx,hp⟩ | ⟨j,m,rfl,hj,h0,h1,hp⟩
 ·have pu:=u1 hp hx
  have ak:(arr.push { key:=mkV (cs.map cvV),val:=mi.z,born:=c }).findIdx? (fun e=>(e.born:Int) == (c:Int))=some arr.size:=by
   have hS:=MapKept.stamped_push (val:=mi.z) hM.1 hx;exact find_born (j:=arr.size) (m:={ key:=mkV (cs.map cvV),val:=mi.z,born:=c }) hS.2.1 (by simp)
  have my:(arr.push { key:=mkV (cs.map cvV),val:=mi.z,born:=c }).modify arr.size (fun e=>{ e with val:=cvV d })=arr.push { key:=mkV (cs.map cvV),val:=cvV d,born:=c }:=by
   grind
  refine ⟨w.putObj b (.map (arr.push { key:=mkV (cs.map cvV),val:=mi.z,born:=c }) (c+1)),_,c,_,_,?_,?_,(two (.map (arr.push { key:=mkV (cs.map cvV),val:=mi.z,born:=c }) (c+1)) _).1,(two _ _).2,pu⟩
  ·simp [Instr.mapEntry,run_underlying hu,eN hh,dL hm hk,hf,EO hm,fR hh,qL hp,cvV]
  ·simp [Instr.entryStore,eN (put1 _),goInt,asInt,asIntOf,ak,fR (put1 _),my]
 ·have pu:=u2 j m hj h0 h1 hp
  have fk:arr.modify j (fun e=>{ e with key:=mkV (cs.map cvV) })=arr:=by
   apply Array.ext_getElem?;intro i;rw [Array.getElem?_modify];split
   ·rename_i hi;subst hi;rw [hj,Option.map_some,<- h0]
   ·rfl
  have my:arr.modify j (fun e=>{ e with val:=cvV d })=arr.modify j (fun e=>{ e with key:=mkV (cs.map cvV),val:=cvV d }):=by
   apply Array.ext_getElem?;intro i;rw [Array.getElem?_modify,Array.getElem?_modify];split
   ·grind
   ·rfl
  have ak:=find_born hM.1.2.1 hj;refine ⟨w.putObj b (.map arr c),_,m.born,_,_,?_,?_,(two (.map arr c) _).1,(two _ _).2,pu⟩
  ·simp [Instr.mapEntry,run_underlying hu,eN hh,dL hm hk,hf,hj,h0,Instr.keyThatStays,sq,fk,fR hh,h1]
  ·simp [Instr.entryStore,eN (put1 _),goInt,asInt,asIntOf,ak,fR (put1 _),my]
end
end
section
variable {P:Program} {T:TypeId} {mi:MI}
theorem gX (hm:eO P T=some mi) {cs:List CV} {es:List (List CV)} (aa:es.all (okE mi)=true):kC (aH mi.kl.length cs mi.z es)=some mi.vl:=by
 unfold aH
 by_cases hp:bN mi.kl.length cs es<es.length
 ·have hg:es[bN mi.kl.length cs es]? = some (es.getD (bN mi.kl.length cs es) []):=by grind
  exact (mF (List.all_eq_true.1 aa _ (List.mem_of_getElem? hg))).2.2.1
 ·obtain ⟨_,_,_,hz,_⟩:=cX hm
  grind [kC]
theorem aGE {es:List (List CV)} (aa:es.all (okE mi)=true):∀ l∈es,l.length=mi.kl.length+1:=fun l hl=>(mF (List.all_eq_true.1 aa l hl)).1
theorem aDz {w:World} {S:Nat->Prop} {es:List (List CV)} (aa:es.all (okE mi)=true):CV.vals w S es.flatten (es.flatten.map cvV):=KB fun c hc=>by
 obtain ⟨l,hl,hc⟩:=List.mem_flatten.1 hc;exact (mF (List.all_eq_true.1 aa l hl)).2.2.2.2 c hc
theorem SF {o:Oper} {st:St} (hm:eO P T=some mi) (ae:o.op=.makeMap T none):Step P o st (.own st.V.length 0) st.B (st.V++[⟨true,mi.tag T,mi.kl.length+1,0,[]⟩]):=by
 intro n0 w0 e a w hr
 have ap:OwnsM (w.alloc (.map #[] 0)) n0 (mi.tag T) (mi.kl.length+1) (.map (some w.heap.size)) 0 []:=
  OwnsM.of (es:=[]) hm hr.mem.base rfl (World.alloc_heap_new w _) ⟨MapKept.stamped_empty 0,by simp⟩
 obtain ⟨e',b1,b2,b3,_⟩:=hr.mem.newVec (w':=w.alloc (.map #[] 0)) (mi.tag T) (mi.kl.length+1) (.map (some w.heap.size)) [] [] (.inr ap) (by simp [CV.vals]) (by simp) (World.grownBy_alloc _ _ _) (fun g hg=>by grind [bM])
 refine ⟨.value (.map (some w.heap.size)),.map (some w.heap.size),_,e',?_,.inl rfl,b1,b2,by simp [AV.holds,b3],by simp⟩
 simp [execOp,ae,run_makeMap]
structure IsM (mi:MI) (T:TypeId) (v:Vec):Prop where
 live:v.live=true
 T:v.T=mi.tag T
 k:v.k=mi.kl.length+1
 ok:v.es.all (okE mi)=true
theorem IsM.get (hm:eO P T=some mi) {v:Vec} (h:IsM mi T v) {n0:Nat} {w0:World} {e:Env} {B:List Box} {V:List Vec} {w:World} (an:Mem n0 w0 e B V w) {i:Nat} (hi:V[i]? = some v) :
  ∃ b arr c,e.hdr i v.ver=.map (some b)/\n0<=b/\w.heap[b]? = some (.map arr c)/\MOk mi.kl.length v.es arr c:=by
 obtain ⟨xs,q1,q2,_⟩:=an.vec i v hi h.live;rw [h.T,h.k] at q1;exact (q1.m MI.tag_le).get hm q2 h.ok
theorem IsM.set (hm:eO P T=some mi) {v:Vec} (h:IsM mi T v) {n0:Nat} {w0:World} {e:Env} {B:List Box} {V:List Vec} {w w':World} (an:Mem n0 w0 e B V w) {i:Nat} (hi:V[i]? = some v) {b c:Nat} {arr:Array MapEntry} (hh:e.hdr i v.ver=.map (some b)) (hb:n0<=b)
  {es':List (List CV)} (aa:es'.all (okE mi)=true) (hg:w.grownBy w' (some b)) (hw:w'.heap[b]? = some (.map arr c)) (hM:MOk mi.kl.length es' arr c) :
  Mem n0 w0 e B (V.set i { v with es:=es' }) w'/\Ext e w B.length (vers V) (kss V) e w' B.length (vers (V.set i { v with es:=es' })) (kss (V.set i { v with es:=es' })):=by
 refine an.vecSet hi h.live es' (es'.flatten.map cvV) ?_ (aDz aa) (by rw [h.k];exact aGE aa) (by rw [hh];exact hg)
 rw [h.T,h.k,hh];exact .inr (OwnsM.of hm hb aa hw hM)
theorem CK {o:Oper} {st:St} {x k:Operand} {i u:Nat} {v:Vec} {cs:List CV} (hm:eO P T=some mi) (ae:o.op=.lookup T x k false) (hx:st.ev x=.own i u) (hv:st.V[i]? = some v) (hI:IsM mi T v) (hu:v.ver=u) (hk:fJ mi (st.ev k)=some cs) (aa:dU mi cs=true) :
  Step P o st (.cv (aH mi.kl.length cs mi.z v.es)) st.B st.V:=by
 subst hu;refine Step.pure fun n0 w0 e a w hr=>?_
 obtain ⟨b,arr,c,h1,h2,h3,h4⟩:=hI.get hm hr.mem hv;have ce:=(hr.ev x).1;rw [hx] at ce;have j9:=pU hk aa (hr.ev k).1;have ai:=(mG hm h3 h4 hI.ok aa).1;obtain ⟨e1,e2⟩:=pF (gX hm (cs:=cs) hI.ok);refine ⟨cvV (aH mi.kl.length cs mi.z v.es),?_,?_,by simp⟩
 ·simp [execOp,ae,ce.1,h1,j9,ai]
 ·rw [e1];simp only [AV.holds,CV.holds,cvV];exact ⟨trivial,uO e2⟩
end
end Go.Sx
