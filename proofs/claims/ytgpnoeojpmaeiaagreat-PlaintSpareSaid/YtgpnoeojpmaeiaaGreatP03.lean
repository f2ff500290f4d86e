/-
 The laws of a pinder's court (plaints) hold at every input, without any condition.
-/
import Derived.Laws.CopyRow
import Derived.Laws.MakeOwn
import Derived.WideKeyRuns
import Derived.Test.YtgpnoeojpmaeiaaGreatP02
set_option linter.unusedSectionVars false
set_option linter.unusedVariables false
set_option linter.unusedSimpArgs false
namespace Go.Sx
open Go Go.RowKit
variable [G:Ghost]
section
variable {n0:Nat} {w0:World} {e:Env} {B:List Box} {V:List Vec} {w w':World}
theorem Mem.vecSet (h:Mem n0 w0 e B V w) {i:Nat} {x:Vec} (hi:V[i]? = some x) (hl:x.live=true) (es':List (List CV)) (xs':List Value)
  (au:OwnsV w' n0 x.T x.k (e.hdr i x.ver) es'.length xs') (bu:CV.vals w e.S es'.flatten xs') (hk:∀ l∈es',l.length=x.k)
  (hg:w.grownBy w' (aY (e.hdr i x.ver))) :
  Mem n0 w0 e B (V.set i { x with es:=es' }) w'/\Ext e w B.length (vers V) (kss V) e w' B.length (vers (V.set i { x with es:=es' })) (kss (V.set i { x with es:=es' })):=by
 have kw:∀ b,e.S b->w'.heap[b]? = w.heap[b]?:=fun b hb=>hg.block b (h.ro b hb) fun hc=>h.vecS i x b hi hl hc.symm hb
 have ae:∀ (j:Nat) (y:Vec),(V.set i { x with es:=es' })[j]? = some y->(j≠i/\V[j]? = some y)\/(j=i/\y={ x with es:=es' }):=by
  grind
 have ir:vers (V.set i { x with es:=es' })=vers V:=by
  refine List.ext_getElem? fun j=>?_
  grind
 have uo:kss (V.set i { x with es:=es' })=kss V:=by
  refine List.ext_getElem? fun j=>?_
  grind
 have hx:Ext e w B.length (vers V) (kss V) e w' B.length (vers (V.set i { x with es:=es' })) (kss (V.set i { x with es:=es' })):=by
  rw [ir,uo];exact ⟨⟨fun _ hb=>hb,kw⟩,fun _ _=>rfl,fun _ _ _ _=>rfl,Nat.le_refl _,Nat.le_refl _,fun _ _=>Nat.le_refl _,fun _ _=>rfl,hg.size,fun _ h=>.inl h,rfl,fun _=>rfl,rfl⟩
 have old:∀ (j:Nat) (y:Vec),(V.set i { x with es:=es' })[j]? = some y->y.live=true->∃ z:Vec,V[j]? = some z/\z.live=true/\z.ver=y.ver:=by
  grind
 refine ⟨⟨?_,?_,h.boxlo,h.boxinj,?_,?_,?_,?_,fun b hb=>Nat.lt_of_lt_of_le (h.ro b hb) hg.size,?_,Nat.le_trans h.base hg.size,h.bl,h.hid.of rfl ⟨rfl,rfl⟩ (fun _ h=>.inl h) (SameG.set (show x.T≠ghT from h.liveT hi hl)) (fun b cd kc=>hg.block b cd fun hc=>kc (h.hid.vec i x b hi hl hc.symm)) (fun i b hb hl=>.inl ⟨i,b,hb,hl,rfl⟩) (fun j y g hj aq cq=>?_)⟩,hx⟩
 rotate_left 7
 ·grind
 ·intro j b hb bo
  obtain ⟨vs,h1,h2⟩:=h.box j b hb bo;refine ⟨vs,?_,AV.all.mono hx _ _ (h.boxsc j b hb) h2⟩;rw [hg.block _ (h.lt_box hb bo) fun hc=>h.vecbox i x j b _ hi hl hb bo hc.symm rfl]
  exact h1
 ·intro j b hb;exact hx.scos (h.boxsc j b hb)
 ·intro j y hy aq
  rcases ae j y hy with ⟨bY,h1⟩ | ⟨rfl,rfl⟩
  ·obtain ⟨ys,q1,q2,q3⟩:=h.vec j y h1 aq
   refine ⟨ys,q1.keep fun g em=>hg.block g (q1.lt g em).2 fun hc=>bY (h.vecinj j y i x g h1 aq hi hl em hc.symm),CV.vals.mono hx.ro _ _ q2,q3⟩
  ·exact ⟨xs',au,CV.vals.mono hx.ro _ _ bu,hk⟩
 ·intro j y g hy aq em
  obtain ⟨z,z1,z2,z3⟩:=old j y hy aq;exact h.vecS j z g z1 z2 (by grind)
 ·intro j y k b g hy aq hb bo em
  obtain ⟨z,z1,z2,z3⟩:=old j y hy aq;exact h.vecbox j z k b g z1 z2 hb bo (by grind)
 ·intro j y k u g hy aq hu Iz em Ng
  obtain ⟨z,z1,z2,z3⟩:=old j y hy aq;obtain ⟨q,q1,q2,q3⟩:=old k u hu Iz;exact h.vecinj j z k q g z1 z2 q1 q2 (by grind) (by grind)
 ·refine h.below.grown hg h.nbase fun k hk=>?_
  obtain ⟨ys,a1,_⟩:=h.vec i x hi hl;exact Nat.le_trans (e.nb_le n0) (a1.lt k hk).1
end
def spl (l:List CV) (off:Nat) (new:List CV):List CV:=l.take off++new++l.drop (off+new.length)
theorem EZ:∀ {es:List (List CV)} {k i:Nat} (h:i<es.length),(∀ l∈es,l.length=k)->es.flatten=(es.take i).flatten++es[i]++(es.drop (i+1)).flatten/\(es.take i).flatten.length=i*k
 | [],k,i,h,_=>by grind
 | e::es,k,0,h,hk=>by simp
 | e::es,k,i+1,h,hk=>by
  obtain ⟨h1,h2⟩:=EZ (es:=es) (k:=k) (i:=i) (by grind) fun l hl=>hk l (by grind)
  grind
theorem RZ {w:World} {S:Nat->Prop} {es:List (List CV)} {xs:List Value} {k el off:Nat} {new:List CV} {us:List Value} (hv:CV.vals w S es.flatten xs) (hk:∀ l∈es,l.length=k) (ma:el<es.length)
  (mb:off+new.length<=k) (hn:CV.vals w S new us) :
  CV.vals w S (es.set el (spl (es.getD el []) off new)).flatten (xs.take (el*k+off)++us++xs.drop (el*k+off+us.length))/\(∀ l∈es.set el (spl (es.getD el []) off new),l.length=k):=by
 have yj:=hn.length;have ae:es.getD el []=es[el]:=by grind
 have Ca:es[el].length=k:=hk _ (List.getElem_mem ma);obtain ⟨h1,h2⟩:=EZ ma hk;have ak:(spl (es.getD el []) off new).length=k:=by grind [spl]
 refine ⟨?_,fun l hl=>?_⟩
 ·rw [List.set_eq_take_append_cons_drop]
  simp only [ma,if_true,List.flatten_append];rw [h1] at hv;obtain ⟨a1,a2⟩:=eI hv;obtain ⟨b1,b2⟩:=eI a1;simp [h2,Ca] at a1 a2 b1 b2
  have kr:es[el]=es[el].take off++((es[el].drop off).take new.length++es[el].drop (off+new.length)):=by
   grind [List.drop_drop,List.take_append_drop]
  rw [kr] at b2;obtain ⟨c1,c2⟩:=eI b2;obtain ⟨d1,d2⟩:=eI c2;have e1:(es[el].take off).length=off:=by simp;omega
  have e2:((es[el].drop off).take new.length).length=new.length:=by grind
  rw [e1] at c1 c2 d1 d2;rw [e2] at d1 d2
  have hx:xs.take (el*k+off)++us++xs.drop (el*k+off+us.length) =
    xs.take (el*k)++((xs.drop (el*k)).take off++us++((xs.drop (el*k)).take k).drop (off+new.length)++xs.drop (el*k+k)):=by
   have lx:=hv.length;simp [h2] at lx;rw [yj];have t1:xs.take (el*k+off)=xs.take (el*k)++(xs.drop (el*k)).take off:=by rw [List.take_add]
   have t2:xs.drop (el*k+off+new.length)=((xs.drop (el*k)).take k).drop (off+new.length)++xs.drop (el*k+k):=by
    have g1:xs.drop (el*k+off+new.length)=(xs.drop (el*k)).drop (off+new.length):=by grind [List.drop_drop]
    grind [List.drop_drop,List.take_append_drop]
   rw [t1,t2];simp [List.append_assoc]
  rw [hx];refine CV.vals.append ?_ (CV.vals.append ?_ ?_)
  ·grind
  ·rw [ae]
   have t3:(xs.drop (el*k)).take k=(xs.take (el*k+k)).drop (el*k):=by grind [List.drop_take]
   refine CV.vals.append (CV.vals.append ?_ hn) ?_
   ·grind
   grind [List.drop_drop]
  ·exact a2
 grind
theorem OV (l us:List Value) (o N:Nat) (h:o+us.length<=N) (hN:N<=l.length) :
  (l.take o++us++l.drop (o+us.length)).take N=(l.take N).take o++us++(l.take N).drop (o+us.length):=by
 have h1:(l.take o).length=o:=by grind
 grind [List.take_append,List.length_append,List.drop_take]
section
variable {P:Program} [C:Co P]
theorem OwnsS.store {w:World} {n0:Nat} {T:TypeId} {k:Nat} {v:Value} {n:Nat} {xs us:List Value} {o:Nat} (h:OwnsS w n0 T k v n xs) (hT:T<bE) (hk:o+us.length<=n*k) (hn:0<n) (h1:∀ u∈us,u.oneCell'=true) :
  ∃ g cap,aY v=some g/\v=.slice (some ⟨g,0,none⟩) n cap/\∃ w',(storeCells ⟨g,o,none⟩ us 0).run P w=.ok () w'/\OwnsV w' n0 T k v n (xs.take o++us++xs.drop (o+us.length))/\w.grownBy w' (some g):=by
 rcases h with ⟨_,_,h0,_⟩ | ⟨⟨hl,h0⟩,g',hg,eg⟩
 ·omega
 ·rcases h0 with ⟨_,h0⟩ | ⟨g,cap,cur,rfl,hb,hc,bt,fq,cn,ID⟩
  ·omega
  ·obtain ⟨c,rfl⟩:∃ c,cap=c+1:=⟨cap - 1,by omega⟩
   have bh:o+0+us.length<=cur.size:=by grind
   have ax:=run_storeCells_at P g o T us 0 cur w hc bh h1;refine ⟨g,c+1,rfl,rfl,_,ax,.inl ⟨hT,.inr ⟨⟨?_,.inr ⟨g,c+1,(cur.toList.take o++us++cur.toList.drop (o+us.length)).toArray,rfl,hb,?_,bt,fq,?_,?_⟩⟩,g,rfl,rfl⟩⟩,?_⟩
   ·grind
   ·simp [World.setRow,Array.getElem?_modify,hc]
   ·grind
   ·rw [<- ID]
    have IO:n*k<=cur.toList.length:=by grind
    exact OV cur.toList us o (n*k) hk IO
   ·refine ⟨rfl,rfl,rfl,by simp,fun q hq bY=>?_⟩
    grind [World.setRow]
theorem pU {o:Oper} {st:St} {T:TypeId} {ao xo:Operand} {i u el off:Nat} {v:Vec} {ti:TI} {new:List AV} {cs:List CV} (aa:o.op=.store T ao xo) (ha:st.ev ao=.opt i u el off)
  (hv:st.V[i]? = some v) (dg:v.sl=true) (hu:v.ver=u) (ma:el<v.es.length) (ai:aZ P T=some ti) (aj:(st.ev xo).cells=some new) (bc:dX new=some cs) (cn:cs.length=ti.size) (mb:off+cs.length<=v.k) :
  Step P o st .any st.B (st.V.set i { v with es:=v.es.set el (spl (v.es.getD el []) off cs) }):=by
 intro n0 w0 e a w hr;subst hu;have hl:=Vec.sl_live dg;obtain ⟨xs,q1',q2,q3⟩:=hr.mem.vec i v hv hl;have q1:=q1'.s (Vec.sl_T dg);have nr:=(hr.ev ao).1;rw [ha] at nr;obtain ⟨g0,Ct,nr⟩:=nr;have gm:(kss st.V).getD i 0=v.k:=aAw hv
 have dq:new.all AV.one=true:=by
  rw [qR bc];simp
 have cr:=AV.cells_holds aj (hr.ev xo).1 dq;have Cf:=AV.all_one dq cr;rw [qR bc] at cr;have bu:CV.vals w e.S cs (a.eval xo).cells.toList:=jO cr;have ak:=bu.length
 have bh:el*v.k+off+(a.eval xo).cells.toList.length<=v.es.length*v.k:=by
  have:(el+1)*v.k<=v.es.length*v.k:=Nat.mul_le_mul_right _ ma;grind
 obtain ⟨g,cp,hg,k9,w',ag,au,sq⟩:=q1.store (P:=P) (Vec.sl_T dg) bh (by omega) Cf
 rw [Ct] at hg;cases hg;obtain ⟨r1,r2⟩:=RZ q2 q3 ma (by omega) bu
 obtain ⟨m1,m2⟩:=hr.mem.vecSet hv hl _ _ (by simpa using au) r1 r2 (by grind)
 refine ⟨.skip,undef,w',e,?_,.inr ⟨rfl,rfl⟩,m1,m2,by simp [AV.holds],by simp⟩
 have I0:(a.eval xo).cells.size=ti.size:=by grind
 have:(Instr.storeAt T (a.eval ao) (a.eval xo)).run P w=.ok () w':=by
  simp_all [Instr.storeAt,Instr.sureAddr,storeVar,run_sizeOf]
 simp only [execOp,aa];simp [this]
theorem HU {o:Oper} {st:St} {T:TypeId} {x h:Operand} {i u:Nat} {v:Vec} {kk:IntKind} {n:Int} {s e' k b:Nat} {z:List Value} (aa:o.op=.slice T x none (some h) none) (hx:st.ev x=.own i u)
  (hv:st.V[i]? = some v) (dg:v.sl=true) (hu:v.ver=u) (hh:st.ev h=.cv (.val (.int kk n))) (Bb:0<=n) (hn:n<=v.es.length) (ai:aZ P T=some ⟨s,z,.slc e' k b⟩) (hk:k=v.k) (cy:k≠0) :
  Step P o st (.own i (v.ver+1)) st.B (st.V.set i { v with ver:=v.ver+1,es:=v.es.take n.toNat }):=by
 intro n0 w0 e a w hr;obtain ⟨hT,Bc,_⟩:=cZ ai;have hl:=Vec.sl_live dg;obtain ⟨xs,q1',q2,q3⟩:=hr.mem.vec i v hv hl;have q1:=q1'.s (Vec.sl_T dg);have nr:=(hr.ev x).1;rw [hx] at nr;simp [AV.holds] at nr;have G3:=(hr.ev h).1;rw [hh] at G3;simp [AV.holds,CV.holds] at G3;obtain ⟨ao,c,hs,bt,fq⟩:=q1.slice;have hB:=xI (P:=P) w v.es.length c none (some (.int kk n)) 0 n (.inl ⟨rfl,rfl⟩) (.inr ⟨kk,rfl⟩) (Int.le_refl _) Bb hn bt;have ak:(v.es.take n.toNat).length=n.toNat:=by grind
 have I3:n.toNat<=v.es.length:=by omega
 obtain ⟨v',lc,ag⟩:∃ v',(v'=.slice (if c=0 then ao else ao.map fun q=>q.add 0) n.toNat c)/\(Instr.sliceAt T (.slice ao v.es.length c) none (some (.int kk n)) none).run P w=.ok v' w:=by
  simp_all [Instr.sliceAt,Instr.slice,run_underlying,aS]
 have uh:(ao.map fun q=>q.add 0)=ao:=by
  simp [Addr.add]
 have Cu:v'=.slice ao n.toNat c:=by grind
 have au:OwnsV w n0 v.T v.k v' (v.es.take n.toNat).length (xs.take (n.toNat*v.k))/\aY v'=aY (e.hdr i v.ver):=by
  rw [ak,Cu];rcases q1 with ⟨a',h1,h2,h3⟩ | ⟨⟨h0,h1⟩,g,hg,eg⟩
  ·grind
  ·rcases h1 with ⟨h1,h2⟩ | ⟨g1,cap,cur,h1,h2,h3,h4,h5,h6,h7⟩
   ·grind
   ·rw [h1] at hs
    injection hs with jn ud GT
    subst jn;subst GT;rw [h1] at hg;refine ⟨.inl ⟨Vec.sl_T dg,.inr ⟨⟨?_,.inr ⟨g1,cap,cur,rfl,h2,h3,by omega,h5,h6,?_⟩⟩,g,?_,?_⟩⟩,?_⟩
    ·simp_all
    ·rw [<- h7,List.take_take]
     simp_all
    ·have yk:0<cap:=by
      cases cap with
      | zero=>simp [aY] at hg
      | succ c=>omega
     obtain ⟨c',rfl⟩:∃ c',cap=c'+1:=⟨cap - 1,by omega⟩
     exact hg
    ·rw [h1] at eg;exact eg
    ·rw [h1];cases cap <;> rfl
 have bu:CV.vals w e.S (v.es.take n.toNat).flatten (xs.take (n.toNat*v.k)):=by
  have jq:v.es.flatten=(v.es.take n.toNat).flatten++(v.es.drop n.toNat).flatten:=by rw [<- List.flatten_append,List.take_append_drop]
  rw [jq] at q2;have:=(eI q2).1
  have eh:(v.es.take n.toNat).flatten.length=n.toNat*v.k:=by
   have:∀ (l:List (List CV)),(∀ x∈l,x.length=v.k)->l.flatten.length=l.length*v.k:=by
    intro l
    induction l with
    | nil=>simp
    | cons y l ih=>grind
   grind
  grind
 obtain ⟨e1,m1,m2,m3,_⟩:=hr.mem.vecStep (w':=w) hv hl v' (v.es.take n.toNat) (xs.take (n.toNat*v.k)) au.1 bu (fun l hl=>q3 l (List.mem_of_mem_take hl))
  ⟨rfl,rfl,rfl,Nat.le_refl _,fun _ _ _=>rfl⟩ (.inl au.2)
 refine ⟨.value v',v',w,e1,?_,.inl rfl,m1,m2,?_,?_⟩
 ·simp_all [execOp]
 ·simp_all [AV.holds]
 ·have hi:=(List.getElem?_eq_some_iff.1 hv).1
  simp_all
end
section
variable {P:Program} [C:Co P] {F:Fence} {n:Nat}
theorem SA (hF:Free F) {ops:List Oper} {o o2:Oper} {rest:List Oper} {st:St} {Q:St->Prop} {T:TypeId} {x l:Operand} {d i u:Nat} {v:Vec} {kk:IntKind} {lo:Int} {s e' k b:Nat} {z:List Value} {te:TI} {ats args}
  (hg:o.guard=none) (A6:o2.guard=none) (aa:o.op=.slice T x (some l) none none) (hd:o.dst=some d) (uq:o2.op=.call { callee:=.builtin .clear,args:=args,argTypes:=ats }) (ac:args=#[.tmp d]) (jh:ats=#[T]) (ur:o2.dst=none)
  (qg:d<st.t.length) (hx:st.ev x=.own i u) (hv:st.V[i]? = some v) (dg:v.sl=true) (hu:v.ver=u) (hh:st.ev l=.cv (.val (.int kk lo))) (h0:0<=lo) (h1:lo<=v.es.length)
  (ai:aZ P T=some ⟨s,z,.slc e' k b⟩) (hk:k=v.k) (cy:k≠0) (d7:aZ P e'=some te) (hz:te.zero≠[]) (eu:te.zero.length=k) (f9:te.zero.all Value.oneCell'=true)
  (h:cE F n P ops.toArray rest ((st.put (some d) .any st.B st.V).put none .any st.B (st.V.set i { v with es:=v.es.take lo.toNat++List.replicate (v.es.length - lo.toNat) (te.zero.map .val) })) Q) :
  cE F n P ops.toArray (o::o2::rest) st Q:=by
 intro n0 w0 e a w Qr hr gm;subst hu;obtain ⟨hT,Bc,_⟩:=cZ ai;have ym:P.cellsOf e'≠0:=by omega
 have hl:=Vec.sl_live dg;obtain ⟨xs,q1',q2,q3⟩:=hr.mem.vec i v hv hl;have q1:=q1'.s (Vec.sl_T dg);have nr:=(hr.ev x).1;rw [hx] at nr;simp only [AV.holds] at nr;have ly:=(hr.ev l).1;rw [hh] at ly;simp only [AV.holds,CV.holds] at ly;obtain ⟨ao,c,hs,bt,fq⟩:=q1.slice;have Cv:lo.toNat<=v.es.length:=by omega
 obtain ⟨v1,cx⟩:∃ v1,v1=Value.slice (if c=lo.toNat then ao else ao.map fun q=>q.add (lo.toNat*v.k)) (v.es.length - lo.toNat) (c - lo.toNat):=⟨_,rfl⟩
 have yn:∀ w,(Instr.sliceAt T (.slice ao v.es.length c) (some (.int kk lo)) none none).run P w=.ok v1 w:=by
  intro w;have hB:=xI (P:=P) w v.es.length c (some (.int kk lo)) none lo v.es.length (.inr ⟨kk,rfl⟩) (.inl ⟨rfl,rfl⟩) h0 h1 (Int.le_refl _) bt;simp_all [Instr.sliceAt,Instr.slice,Sem.run_bind,run_underlying,Result.andThen_ok,aS]
 have ag:∀ w,(execOp a.eval o).run P w=.ok (.value v1) w:=by
  intro w;have:=yn w;simp_all [execOp,Option.map_none,Option.map_some]
 have xf:a.tmps.size=st.t.length:=by have:=hr.tm.length;omega
 have ay:(a.put o.dst v1).eval (.tmp d)=v1:=by
  simp_all [Act.eval,Act.put,Array.getD]
 simp only [bP,Region.wanted,hg,A6,if_true];refine jF (by grind) (by simp only [execOp,aa];exact k_v (qU _ _ _ _ _)) fun w₁ hw₁=>⟨_,v1,w₁,ag w₁,.inl rfl,?_⟩
 obtain ⟨G4,G5⟩:=hr.rely hw₁;refine jF (by grind) (by simp only [execOp,uq,resolve,invoke,builtin];exact k_v (aDa _ _ _)) fun w₂ hw₂=>?_
 obtain ⟨G6,G7⟩:=G4.rely hw₂
 have key:∀ w3,Rel n0 w0 e st a w3->cL e st w e st.B st.V w3->∃ w',(execOp (a.put o.dst v1).eval o2).run P w3=.ok (.value (.tuple #[])) w' /\
   bP F n P ops.toArray Qr rest ((a.put o.dst v1).put o2.dst (.tuple #[])) w':=by
  clear G4 G5 G6 G7 hw₁ hw₂ q2 q3 q1 q1';intro w hr I4;obtain ⟨xs,q1',q2,q3⟩:=hr.mem.vec i v hv hl;have q1:=q1'.s (Vec.sl_T dg);have cf:=hr.put hr.mem (Ext.refl _ _ _ _ _) (x:=.any) (v:=v1) (by simp [AV.holds]) (by simp) o.dst
  obtain ⟨zv,Be,xg⟩:=EK d7 hz w;have ub:zv.cells.size=te.zero.length:=by grind
  have I5:∀ m,(Builtin.zeroCells zv.cells m).toList=iR te.zero m:=by
   intro m;rw [<- xg];exact rS zv.cells (by omega) m
  have bj:∀ m,CV.vals w e.S (List.replicate m (te.zero.map CV.val)).flatten (iR te.zero m):=by
   have py:CV.vals w e.S (te.zero.map CV.val) te.zero:=by
    have:∀ (l:List Value),l.all Value.oneCell'=true->CV.vals w e.S (l.map CV.val) l:=by
     intro l
     induction l with
     | nil=>grind [CV.vals]
     | cons y l ih =>
      simp_all [List.all_cons,Bool.and_eq_true,List.map_cons,CV.vals,CV.holds]
    grind
   intro m
   induction m with
   | zero=>simp [CV.vals]
   | succ m ih=>exact CV.vals.append py ih
  let es':=v.es.take lo.toNat++List.replicate (v.es.length - lo.toNat) (te.zero.map CV.val)
  have I6:es'.length=v.es.length:=by grind
  have Cw:∀ l∈es',l.length=v.k:=by
   grind
  have eh:(v.es.take lo.toNat).flatten.length=lo.toNat*v.k:=by
   have:∀ (l:List (List CV)),(∀ x∈l,x.length=v.k)->l.flatten.length=l.length*v.k:=by
    intro l
    induction l with
    | nil=>simp
    | cons y l ih=>grind
   rw [this _ fun x hx=>q3 x (List.mem_of_mem_take hx),List.length_take,Nat.min_eq_left Cv]
  have ut:CV.vals w e.S (v.es.take lo.toNat).flatten (xs.take (lo.toNat*v.k)):=by
   have jq:v.es.flatten=(v.es.take lo.toNat).flatten++(v.es.drop lo.toNat).flatten:=by rw [<- List.flatten_append,List.take_append_drop]
   rw [jq] at q2;have:=(eI q2).1;grind
  have bu:CV.vals w e.S es'.flatten (xs.take (lo.toNat*v.k)++iR te.zero (v.es.length - lo.toNat)):=by
   simp [es'];exact CV.vals.append ut (bj _)
  have lx:=q1.len;have yp:∀ y∈iR te.zero (v.es.length - lo.toNat),y.oneCell'=true:=fun y hy=>List.all_eq_true.1 (EN te.zero f9 _) y hy
  have I7:(iR te.zero (v.es.length - lo.toNat)).length=(v.es.length - lo.toNat)*v.k:=by grind [lR]
  obtain ⟨w',G8,hm⟩:∃ w',(Builtin.clear_ #[T] o2.type #[v1]).run P w=.ok (.tuple #[]) w'/\(Mem n0 w0 e st.B (st.V.set i { v with es:=es' }) w'/\Ext e w st.B.length (vers st.V) (kss st.V) e w' st.B.length (vers (st.V.set i { v with es:=es' })) (kss (st.V.set i { v with es:=es' }))):=by
   by_cases na:v.es.length - lo.toNat=0
   ·refine ⟨w,?_,?_⟩
    ·rw [cx,na]
     simp [Builtin.clear_];cases (if c=lo.toNat then ao else ao.map fun q=>q.add (lo.toNat*v.k)) <;> simp [run_underlying hT]
    ·have he:es'=v.es:=by
      grind
     rw [he]
     have dk:st.V.set i { v with es:=v.es }=st.V:=by
      refine List.ext_getElem? fun j=>?_
      grind
     rw [dk];exact ⟨hr.mem,Ext.refl _ _ _ _ _⟩
   ·have dy:0<v.es.length:=by omega
    have bh:lo.toNat*v.k+(iR te.zero (v.es.length - lo.toNat)).length<=v.es.length*v.k:=by
     grind [Nat.add_mul]
    obtain ⟨g,cp,eg,k9,w',ax,au,sq⟩:=q1.store (P:=P) (Vec.sl_T dg) bh dy yp;refine ⟨w',?_,?_⟩
    ·rw [hs] at k9
     injection k9 with Cx I8 I9
     subst Cx;have Ja:c≠lo.toNat:=by omega
     simp_all [Option.map_some,addr_add,Nat.zero_add,Builtin.clear_,run_underlying]
    ·refine hr.mem.vecSet hv hl es' _ ?_ bu Cw (by grind)
     grind [Nat.add_mul]
  have yq:(execOp (a.put o.dst v1).eval o2).run P w=.ok (.value (.tuple #[])) w':=by
   simp_all [execOp,resolve,invoke,builtin]
  have fa:=cf.put (B':=st.B) (V':=st.V.set i { v with es:=es' }) (x:=.any) (v:=.tuple #[]) (e':=e) (w':=w') hm.1 hm.2 (by simp [AV.holds]) (by simp) o2.dst
  have dn:bP F n P ops.toArray Qr rest ((a.put o.dst v1).put o2.dst (.tuple #[])) w':=by
   rw [ur] at fa ⊢;rw [hd] at fa ⊢;exact h n0 w0 e _ w' Qr fa fun e'' st' a' w'' hq af bq ld=>gm e'' st' a' w'' hq af bq (I4.trans (hm.2.trans ld))
  exact ⟨w',yq,dn⟩
 obtain ⟨w',k1,k2⟩:=key w₂ G6 (G5.trans G7);exact ⟨_,_,w',k1,.inl rfl,k2⟩
end
section
variable {F:Fence} {n:Nat} {P:Program} [C:Co P]
def aDi (Q:Exit->St->Prop):Exit->St->Prop
 | .goto _,_=>False
 | ex,st=>Q ex st
theorem aDj {c:Code} {st:St} {Q:Exit->St->Prop} (h:W F n P c st (aDi Q)):W F n P (.scope c) st Q:=by
 intro n0 w0 e a w Qr hr hk;refine EI (h n0 w0 e a w _ hr ?_);intro ex e' st' a' w' hq af bq hx;cases ex with
 | goto l=>exact hq.elim
 | _=>exact hk _ e' st' a' w' hq af bq hx
end
section
variable {P:Program} [C:Co P]
end
def cvV:CV->Value
 | .val v=>v
 | _=>undef
def kC:CV->Option LK
 | .val v=>kOf v
 | _=>none
structure MI where
 kT:TypeId
 eT:TypeId
 kl:List LK
 vl:LK
 z:Value
def aIN (P:Program) (k:TypeId):Bool:=match P.underlying k with
 | some (.struct _)=>true
 | some (.array _ _)=>true
 | _=>false
def aGP (P:Program) (T:TypeId):Option MI:=match P.underlying T with
 | some (.map k e)=>match eqK P 100 k,P.info? e with
  | some kl,some i=>match i.zero with
   | some z=>match kOf z with
    | some vl=>if (aIN P k == (kl.length != 1)&&kl.length != 0&&decide (T<bE))=true then some ⟨k,e,kl,vl,z⟩ else none
    | none=>none
   | none=>none
  | _,_=>none
 | _=>none
def MI.tag (m:MI) (T:TypeId):Nat:=bE*(m.kl.length+1)+T
def okE (m:MI) (e:List CV):Bool:=e.map kC == (m.kl++[m.vl]).map some
def aGQ (m:MI) (ks:List CV):Bool:=ks.map kC == m.kl.map some
def aGR (kn:Nat) (key:List CV):List (List CV)->Nat
 | []=>0
 | e::es=>if eqB (key.map cvV) ((e.take kn).map cvV)=true then 0 else aGR kn key es+1
def aET (kn:Nat) (key:List CV) (z:Value) (es:List (List CV)):CV:=(es.getD (aGR kn key es) []).getD kn (.val z)
section
variable {P:Program} [C:Co P] {T:TypeId} {mi:MI}
end
inductive Lf where
 | int (k:IntKind)
 | bool
 | row (k:Nat)
 | ref
 | raw
 | mp (kn:Nat)
 deriving DecidableEq
def cF:CV->List CV
 | .ref cs=>cs
 | _=>[]
def cI:CV->Int
 | .val (.int _ n)=>n
 | _=>0
def cB:CV->Bool
 | .val (.bool b)=>b
 | _=>false
def cR:CV->List (List CV)
 | .row _ es=>es
 | .mp _ es=>es
 | _=>[]
def dC:CV:=.val (.bool false)
def Lf.ok:Lf->CV->Bool
 | .int k,.val (.int k' _)=>decide (k=k')
 | .bool,.val (.bool _)=>true
 | .row k,.row k' _=>k == k'
 | .row _,.val (.slice none 0 0)=>true
 | .ref,.ref _=>true
 | .raw,_=>true
 | .mp k,.mp k' _=>k == k'
 | _,_=>false
def Lf.av:Lf->CV->AV
 | .int k,c=>.cv (.val (.int k (cI c)))
 | .bool,c=>.cv (.val (.bool (cB c)))
 | .row k,c=>.cv (.row k (cR c))
 | .ref,c=>.cv (.ref (cF c))
 | .raw,c=>.cv c
 | .mp k,c=>.cv (.mp k (cR c))
theorem Lf.le {l:Lf} {c:CV} (h:l.ok c=true):AV.le (.cv c) (l.av c):=by
 unfold Lf.ok at h;split at h
 ·simp at h;subst h;exact AV.le_refl _
 ·exact AV.le_refl _
 ·simp at h;subst h;exact AV.le_refl _
 ·intro e w ks v hv
  grind [AV.holds,CV.holds,Lf.av,cR]
 ·exact AV.le_refl _
 ·exact AV.le_refl _
 ·simp at h;subst h;exact AV.le_refl _
 grind
theorem Lf.av_cv (l:Lf) (c:CV):∃ d,l.av c=.cv d:=by cases l <;> exact ⟨_,rfl⟩
structure Emb where
 bm:List Nat
 vm:List Nat
 vb:List Nat
def Emb.fb (m:Emb) (i:Nat):Nat:=m.bm.getD i 0
def Emb.fv (m:Emb) (i:Nat):Nat:=m.vm.getD i 0
def Emb.fo (m:Emb) (i:Nat):Nat:=m.vb.getD i 0
mutual
def AV.cz (m:Emb):AV->AV
 | .any=>.any
 | .cv c=>.cv c
 | .ptr i o=>.ptr (m.fb i) o
 | .own i g=>.own (m.fv i) (m.fo i+g)
 | .opt i g el o=>.opt (m.fv i) (m.fo i+g) el o
 | .agg xs=>.agg (AV.czs m xs)
 | .tup xs=>.tup (AV.czs m xs)
 | .fn f xs=>.fn f (AV.czs m xs)
 | .gd [] x=>AV.cz m x
 | .gd (b::L) x=>.gd (b::L) (AV.cz m x)
def AV.czs (m:Emb):List AV->List AV
 | []=>[]
 | x::xs=>AV.cz m x::AV.czs m xs
end
theorem AV.czs_eq (m:Emb):∀ (xs:List AV),AV.czs m xs=xs.map (AV.cz m)
 | []=>by rfl
 | x::xs=>by simp [AV.czs,AV.czs_eq m xs]
mutual
def AV.inn (nb nv:Nat):AV->Bool
 | .any=>true
 | .cv _=>true
 | .ptr i _=>decide (i<nb)
 | .own i _=>decide (i<nv)
 | .opt i _ _ _=>decide (i<nv)
 | .agg xs=>AV.inns nb nv xs
 | .tup xs=>AV.inns nb nv xs
 | .fn _ xs=>AV.inns nb nv xs
 | .gd _ x=>AV.inn nb nv x
def AV.inns (nb nv:Nat):List AV->Bool
 | []=>true
 | x::xs=>AV.inn nb nv x&&AV.inns nb nv xs
end
theorem AV.inn_mono {nb nv nb' nv':Nat} (h1:nb<=nb') (h2:nv<=nv') (x:AV):AV.inn nb nv x=true->AV.inn nb' nv' x=true:=by
 refine AV.rec (motive_1:=fun x=>AV.inn nb nv x=true->AV.inn nb' nv' x=true) (motive_2:=fun xs=>AV.inns nb nv xs=true->AV.inns nb' nv' xs=true) ?_ ?_ ?_ ?_ ?_ ?_ ?_ ?_ ?_ ?_ ?_ x
 all_goals (intros;simp_all [AV.inn,AV.inns])
 all_goals omega
theorem AV.inns_eq (nb nv:Nat):∀ (xs:List AV),AV.inns nb nv xs=xs.all (AV.inn nb nv)
 | []=>by rfl
 | x::xs=>by simp [AV.inns,AV.inns_eq nb nv xs]
structure Emb.Up (m m':Emb):Prop where
 bl:m.bm.length<=m'.bm.length
 b:∀ i,i<m.bm.length->m'.fb i=m.fb i
 vl:m.vm.length<=m'.vm.length
 v:∀ i,i<m.vm.length->m'.fv i=m.fv i
theorem Emb.Up.refl (m:Emb):m.Up m:=⟨Nat.le_refl _,fun _ _=>rfl,Nat.le_refl _,fun _ _=>rfl⟩
theorem Emb.Up.trans {m m' m'':Emb} (h:m.Up m') (h':m'.Up m''):m.Up m'':=
 ⟨Nat.le_trans h.bl h'.bl,fun i hi=>(h'.b i (Nat.lt_of_lt_of_le hi h.bl)).trans (h.b i hi),Nat.le_trans h.vl h'.vl,fun i hi=>(h'.v i (Nat.lt_of_lt_of_le hi h.vl)).trans (h.v i hi)⟩
mutual
theorem AV.cz_up {m m':Emb} (h:m.Up m') (hv:∀ i,i<m.vm.length->m'.fo i=m.fo i):∀ (x:AV),AV.inn m.bm.length m.vm.length x=true->x.cz m'=x.cz m
 | .any,_=>by rfl
 | .cv _,_=>by rfl
 | .ptr i _,hx=>by simp [AV.inn] at hx;simp [AV.cz,h.b i hx]
 | .own i _,hx=>by simp [AV.inn] at hx;simp [AV.cz,h.v i hx,hv i hx]
 | .opt i _ _ _,hx=>by simp [AV.inn] at hx;simp [AV.cz,h.v i hx,hv i hx]
 | .agg xs,hx=>by simp only [AV.inn] at hx;simp only [AV.cz,AV.czs_up h hv xs hx]
 | .tup xs,hx=>by simp only [AV.inn] at hx;simp only [AV.cz,AV.czs_up h hv xs hx]
 | .fn _ xs,hx=>by simp only [AV.inn] at hx;simp only [AV.cz,AV.czs_up h hv xs hx]
 | .gd [] x,hx=>by simp only [AV.inn] at hx;simp only [AV.cz,AV.cz_up h hv x hx]
 | .gd (_::_) x,hx=>by simp only [AV.inn] at hx;simp only [AV.cz,AV.cz_up h hv x hx]
theorem AV.czs_up {m m':Emb} (h:m.Up m') (hv:∀ i,i<m.vm.length->m'.fo i=m.fo i):∀ (xs:List AV),AV.inns m.bm.length m.vm.length xs=true->AV.czs m' xs=AV.czs m xs
 | [],_=>by rfl
 | x::xs,hx=>by
  simp [AV.inns] at hx;simp only [AV.czs,AV.cz_up h hv x hx.1,AV.czs_up h hv xs hx.2]
end
structure SS where
 n:Nat
 t:List (Nat×AV)
 B:List Box
 V:List Vec
def SS.get (s:SS) (d:Nat):AV:=if d<s.n then lk s.t d else .any
def SS.ev (s:SS):Operand->AV
 | .tmp t=>s.get t
 | .const v=>yP v
 | .global _=>.any
 | .func f=>.cv (.fn f [])
def SS.put (s:SS) (d:Option Nat) (x:AV) (B:List Box) (V:List Vec):SS:=
 ⟨s.n,match d with | some d=>(d,x)::s.t | none=>s.t,B,V⟩
def Box.cz (m:Emb) (b:Box):Box:=⟨b.live,b.T,AV.czs m b.cs⟩
def Vec.cz (m:Emb) (i:Nat) (v:Vec):Vec:=⟨v.live,v.T,v.k,m.fo i+v.ver,v.es⟩
structure EmM (m:Emb) (B:List Box) (V:List Vec) (B1:List Box) (V1:List Vec):Prop where
 bl:m.bm.length=B.length
 vl:m.vm.length=V.length
 ol:m.vb.length=V.length
 b:∀ i b,B[i]? = some b->B1[m.fb i]? = some (b.cz m)/\AV.inns B.length V.length b.cs=true
 v:∀ i v,V[i]? = some v->v.live=true\/v.T=ghT->V1[m.fv i]? = some (v.cz m i)
 vlt:∀ i,i<V.length->m.fv i<V1.length
 bi:∀ i j,i<B.length->j<B.length->m.fb i=m.fb j->i=j
 vi:∀ i j,i<V.length->j<V.length->m.fv i=m.fv j->i=j
structure Em (m:Emb) (s:SS) (st:St):Prop where
 t:st.t=mkT s.n (s.t.map fun p=>(p.1,p.2.cz m))
 ti:∀ p∈s.t,AV.inn s.B.length s.V.length p.2=true
 m:EmM m s.B s.V st.B st.V
structure Stp (m:Emb) (B:List Box) (V:List Vec) (m':Emb) (B':List Box) (V':List Vec):Prop where
 up:m.Up m'
 bl:B.length<=B'.length
 vl:V.length<=V'.length
 bn:∀ j∈m'.bm,j∈m.bm\/B.length<=j
 vn:∀ j∈m'.vm,j∈m.vm\/V.length<=j
 bf:∀ j,j<B.length->j ∉ m.bm->B'[j]? = B[j]?
 vf:∀ j,j<V.length->j ∉ m.vm->V'[j]? = V[j]?
theorem Stp.refl (m:Emb) (B:List Box) (V:List Vec):Stp m B V m B V:=
 ⟨Emb.Up.refl _,Nat.le_refl _,Nat.le_refl _,fun _ h=>.inl h,fun _ h=>.inl h,fun _ _ _=>rfl,fun _ _ _=>rfl⟩
theorem Stp.trans {m m' m'':Emb} {B B' B'':List Box} {V V' V'':List Vec} (h:Stp m B V m' B' V') (h':Stp m' B' V' m'' B'' V''):Stp m B V m'' B'' V'':=by
 refine ⟨h.up.trans h'.up,Nat.le_trans h.bl h'.bl,Nat.le_trans h.vl h'.vl,fun j hj=>?_,fun j hj=>?_,fun j hj hn=>?_,fun j hj hn=>?_⟩
 ·rcases h'.bn j hj with h1 | h1
  ·exact h.bn j h1
  ·exact .inr (Nat.le_trans h.bl h1)
 ·rcases h'.vn j hj with h1 | h1
  ·exact h.vn j h1
  ·exact .inr (Nat.le_trans h.vl h1)
 ·rw [h'.bf j (Nat.lt_of_lt_of_le hj h.bl) fun hm=>?_,h.bf j hj hn]
  rcases h.bn j hm with h1 | h1
  ·grind
  ·omega
 ·rw [h'.vf j (Nat.lt_of_lt_of_le hj h.vl) fun hm=>?_,h.vf j hj hn]
  rcases h.vn j hm with h1 | h1
  ·grind
  ·omega
theorem Em.get {m:Emb} {s:SS} {st:St} (h:Em m s st) (d:Nat):st.t.getD d .any=(s.get d).cz m:=by
 rw [h.t];simp [SS.get];split
 ·exact nO (AV.cz m) (by rfl) s.t d
 rfl
theorem Em.ev {m:Emb} {s:SS} {st:St} (h:Em m s st) (x:Operand):st.ev x=(s.ev x).cz m:=by
 cases x with
 | tmp t=>exact h.get t
 | const v=>grind [St.ev,SS.ev,yP,AV.cz]
 | global g=>rfl
 | func f=>rfl
theorem aAE:∀ (l:List (Nat×AV)) (d:Nat),lk l d=.any\/(d,lk l d)∈l
 | [],d=>.inl rfl
 | (k,x)::l,d=>by
  simp;split
  ·grind
  ·rcases aAE l d with h | h
   ·grind
   grind
theorem Em.inn {m:Emb} {s:SS} {st:St} (h:Em m s st) (d:Nat):AV.inn s.B.length s.V.length (s.get d)=true:=by
 unfold SS.get;split
 ·rcases aAE s.t d with h' | h'
  ·rw [h'];rfl
  ·exact h.ti _ h'
 ·rfl
theorem Em.innEv {m:Emb} {s:SS} {st:St} (h:Em m s st) (x:Operand):AV.inn s.B.length s.V.length (s.ev x)=true:=by
 cases x with
 | tmp t=>exact h.inn t
 | const v=>simp [SS.ev];split <;> rfl
 | global g=>rfl
 | func f=>rfl
theorem Em.put {m m':Emb} {s:SS} {st:St} (h:Em m s st) {B:List Box} {V:List Vec} {B1:List Box} {V1:List Vec} (hm:EmM m' B V B1 V1) (hu:m.Up m') (uu:∀ i,i<m.vm.length->m'.fo i=m.fo i)
  (Bf:s.B.length<=B.length) (Jb:s.V.length<=V.length) {x:AV} (hx:AV.inn B.length V.length x=true) (d:Option Nat):Em m' (s.put d x B V) (st.put d (x.cz m') B1 V1):=by
 have cu:∀ y,AV.inn s.B.length s.V.length y=true->AV.inn B.length V.length y=true:=by
  intro y hy;exact AV.inn_mono Bf Jb y hy
 have im:∀ p∈s.t,p.2.cz m'=p.2.cz m:=fun p hp=>AV.cz_up hu uu p.2 (by rw [h.m.bl,h.m.vl];exact h.ti p hp)
 have ht:s.t.map (fun p=>(p.1,p.2.cz m'))=s.t.map (fun p=>(p.1,p.2.cz m)):=List.map_congr_left fun p hp=>by grind
 cases d with
 | none =>
  refine ⟨?_,fun p hp=>cu _ (h.ti p hp),hm⟩
  simp [SS.put,h.t,ht]
 | some d =>
  refine ⟨?_,fun p hp=>?_,hm⟩
  ·simp [SS.put,h.t,ht]
  ·simp [SS.put] at hp
   rcases hp with rfl | hp
   ·exact hx
   ·exact cu _ (h.ti p hp)
section
variable {P:Program} [C:Co P] {m:Emb}
theorem AV.cz_cv (c:CV):(AV.cv c).cz m=.cv c:=by rfl
variable {x:AV}
theorem AV.cells_cz {cs:List AV} (h:x.cells=some cs):(x.cz m).cells=some (cs.map (AV.cz m)):=by
 cases x <;> simp only [AV.cells,Option.some.injEq,reduceCtorEq] at h <;> subst h <;> simp [AV.cz,AV.cells,AV.czs_eq]
theorem AV.one_cz (h:AV.one x=true):AV.one (x.cz m)=true:=by
 cases x <;> simp [AV.one] at h <;> simp [AV.cz,AV.one]
variable {xs:List AV}
theorem DM (h:xs.all AV.one=true):(xs.map (AV.cz m)).all AV.one=true:=by
 rw [List.all_eq_true] at h ⊢;intro y hy;obtain ⟨x,hx,rfl⟩:=List.mem_map.1 hy;exact AV.one_cz (h x hx)
theorem XO (l new:List AV) (off:Nat):(splice l off new).map (AV.cz m)=splice (l.map (AV.cz m)) off (new.map (AV.cz m)):=by
 simp
theorem vS {place:Nat->Option (Nat×Nat)}:∀ {parts:List (Nat×AV)} {cells out:List AV},fX place cells parts=some out ->
  fX place (cells.map (AV.cz m)) (parts.map fun p=>(p.1,p.2.cz m))=some (out.map (AV.cz m))
 | [],cells,out,h=>by simp_all
 | (i,x)::rest,cells,out,h=>by
  simp only [fX] at h;split at h
  ·rename_i o s new hp aj
   split at h
   ·rename_i hc
    have:=vS h;simp only [List.map_cons,fX,hp,AV.cells_cz aj];simp only [Bool.and_eq_true,beq_iff_eq,decide_eq_true_eq] at hc;rw [if_pos (by simp only [List.length_map,Bool.and_eq_true,beq_iff_eq,decide_eq_true_eq];exact ⟨hc.1,DM hc.2⟩)]
    simp_all
   grind
  grind
theorem xL {nb nv:Nat} {place:Nat->Option (Nat×Nat)}:∀ {parts:List (Nat×AV)} {cells out:List AV},fX place cells parts=some out ->
  cells.all (AV.inn nb nv)=true->(parts.all fun p=>AV.inn nb nv p.2)=true->out.all (AV.inn nb nv)=true
 | [],cells,out,h,hc,_=>by simp_all
 | (i,x)::rest,cells,out,h,hc,hp=>by
  simp at h;simp only [List.all_cons,Bool.and_eq_true] at hp;split at h
  ·rename_i o s new si aj
   split at h
   ·refine xL h ?_ hp.2
    grind [AV.cells,Option.some.injEq,reduceCtorEq,AV.inn,AV.inns_eq,splice]
   grind
  grind
theorem vT (z:List Value):(fL z).map (AV.cz m)=fL z:=by simp [AV.cz]
theorem xM (nb nv:Nat) (z:List Value):(fL z).all (AV.inn nb nv)=true:=by simp [AV.inn]
variable {parts:List (Nat×AV)}
theorem SB {T:TypeId} {av:AV} (h:lO P T parts=some av):lO P T (parts.map fun p=>(p.1,p.2.cz m))=some (av.cz m):=by
 unfold lO at h ⊢;split at h
 ·split at h
  ·split at h
   ·split at h
    ·simp only [Option.map_eq_some_iff] at h ⊢
     obtain ⟨out,h1,rfl⟩:=h;have:=vS (m:=m) h1;grind [vT,AV.cz,AV.czs_eq]
    grind
   ·split at h
    ·cases h
    ·simp only [Option.map_eq_some_iff] at h ⊢
     obtain ⟨out,h1,rfl⟩:=h;have:=vS (m:=m) h1;grind [vT,AV.cz,AV.czs_eq]
   grind
  grind
 grind
theorem OW {nb nv:Nat} {T:TypeId} {av:AV} (h:lO P T parts=some av) (hp:(parts.all fun p=>AV.inn nb nv p.2)=true):AV.inn nb nv av=true:=by
 unfold lO at h;split at h
 ·split at h
  ·split at h
   ·split at h
    ·simp at h
     obtain ⟨out,h1,rfl⟩:=h;simpa [AV.inn,AV.inns_eq] using xL h1 (xM _ _ _) hp
    grind
   ·split at h
    ·cases h
    ·simp at h
     obtain ⟨out,h1,rfl⟩:=h;simpa [AV.inn,AV.inns_eq] using xL h1 (xM _ _ _) hp
   grind
  grind
 grind
theorem eG {cs:List CV} (h:dX xs=some cs):xs.map (AV.cz m)=cs.map .cv:=by
 rw [qR h];simp [AV.cz]
variable {a:AV}
theorem aDk {op:UnOp} (h:LN op x=some a):LN op (x.cz m)=some (a.cz m)/\∃ c,a=.cv c:=by
 unfold LN at h;grind [AV.cz,LN]
theorem aAF {l:List LK} {ys:List AV} {b:Bool} (h:mP l xs ys=some b):mP l (AV.czs m xs) (AV.czs m ys)=some b:=by
 induction l generalizing xs ys b with
 | nil=>grind [mP,AV.czs]
 | cons k l ih =>
  cases xs with
  | nil=>simp_all
  | cons x xs =>
   cases ys with
   | nil=>simp_all
   | cons y ys =>
    simp only [AV.czs];cases x <;> first | (simp [mP] at h;done) | skip
    cases y <;> first | (simp [mP] at h;done) | skip
    simp only [AV.cz];unfold mP at h ⊢;grind
theorem aAG {op:BinOp} {T:TypeId} {y:AV} (h:nI P op T x y=some a):nI P op T (x.cz m) (y.cz m)=some (a.cz m)/\∃ c,a=.cv c:=by
 unfold nI at h;split at h
 ·rename_i k a' k' b
  have hr:∃ c,a=.cv c:=by
   split at h
   ·obtain ⟨_,rfl,_⟩:=wV (P:=P) (k':=k') h T (.const undef) (.const undef) default;simp
   ·rename_i hs
    split at h
    ·obtain ⟨_,rfl,_⟩:=uA (P:=P) h hs T (.const undef) (.const undef) default;simp
    grind
  grind [AV.cz,nI]
 ·grind [AV.cz,nI]
 ·grind [AV.cz,nI,aAF]
 grind
theorem uF {T:TypeId} {f:Nat} (h:cT P T x f=some a):cT P T (x.cz m) f=some (a.cz m)/\(∀ nb nv,AV.inn nb nv x=true->AV.inn nb nv a=true):=by
 grind [AV.inn,AV.cz,cT]
theorem LY {i:Nat} (h:iA x i=some a):iA (x.cz m) i=some (a.cz m)/\(∀ nb nv,AV.inn nb nv x=true->AV.inn nb nv a=true):=by
 unfold iA at h;grind [AV.cz,iA,AV.czs_eq,AV.inn,AV.inns_eq]
theorem XP {T T':TypeId} (h:rR P T T' x=some a):rR P T T' (x.cz m)=some (a.cz m)/\(∀ nb nv,AV.inn nb nv a=true):=by
 unfold rR at h ⊢;split at h
 ·split at h
  ·injection h with h;subst h
   exact ⟨by rfl,fun _ _=>rfl⟩
  grind
 grind
def sS:List AV->Bool
 | .gd _ _::_=>true
 | _=>false
omit G in
theorem FA (m:Emb) (h:sS xs=false):pQ (AV.czs m xs)=false:=by
 match xs with
 | []=>rfl
 | .gd _ _::_=>grind [sS]
 | .any::_=>rfl
 | .cv _::_=>rfl
 | .ptr _ _::_=>rfl
 | .own _ _::_=>rfl
 | .opt _ _ _ _::_=>rfl
 | .agg _::_=>rfl
 | .tup _::_=>rfl
 | .fn _ _::_=>rfl
theorem aAH (h:wX x=some a):wX (x.cz m)=some (a.cz m)/\(∀ nb nv,AV.inn nb nv x=true->AV.inn nb nv a=true):=by
 unfold wX at h;grind [AV.cz,wX]
theorem aAI {T:TypeId} {f:Nat} (h:yU P T x f=some a):yU P T (x.cz m) f=some (a.cz m)/\(∀ nb nv,AV.inn nb nv x=true->AV.inn nb nv a=true):=by
 unfold yU at h;split at h
 ·split at h
  ·split at h
   ·split at h
    ·split at h
     ·injection h with h;subst h
      refine ⟨?_,fun nb nv hx=>?_⟩
      ·simp_all [yU,AV.cz,AV.czs_eq]
      grind [AV.inn,AV.inns_eq]
     grind
    grind [yU,AV.cz,AV.czs_eq,AV.inn,AV.inns_eq]
   grind
  grind
 grind
theorem VE {mx:Bool} (h:AK mx xs=some a):AK mx (xs.map (AV.cz m))=some (a.cz m)/\∃ c,a=.cv c:=by
 unfold AK at h;grind [AV.cz,AK]
end
inductive Ou where
 | nx (vs:List CV)
 | br (id:Nat) (vs:List CV)
 | ret (vs:List CV)
def aC (b:Bool) (x y:Option Ou):Option Ou:=match b with
 | true=>x
 | false=>y
def chk (b:Bool) (x:Option Ou):Option Ou:=match b with
 | true=>x
 | false=>none
theorem aW {b:Bool} {x:Option Ou} {r:Ou} (h:chk b x=some r):b=true/\x=some r:=by cases b <;> simp_all [chk]
def lfT (P:Program):Nat->TypeId->List Lf
 | 0,_=>[]
 | d+1,T=>match P.underlying T with
  | some (.struct fs)=>fs.toList.flatMap fun f=>lfT P d f.type
  | some (.array n e)=>(List.replicate n (lfT P d e)).flatten
  | some (.slice e)=>[.row (P.cellsOf e)]
  | some .bool=>[.bool]
  | some (.int k)=>[.int k]
  | some (.map _ _)=>match aGP P T with
   | some mi=>[.mp mi.kl.length]
   | none=>[.raw]
  | _=>[.raw]
def oks:List Lf->List CV->Nat->Bool
 | [],_,_=>true
 | l::ls,cs,o=>(match cs[o]? with | some c=>l.ok c | none=>false)&&oks ls cs (o+1)
def avs:List Lf->List CV->Nat->List AV
 | [],_,_=>[]
 | l::ls,cs,o=>l.av (cs.getD o dC)::avs ls cs (o+1)
def aAJ (agg:Bool) (size:Nat) (lfs:List Lf) (cs:List CV) (off:Nat) (K:AV->Option Ou):Option Ou:=
 if lfs.length=size then
  chk (oks lfs cs off) (match agg,lfs with
   | true,_::_=>K (.agg (avs lfs cs off))
   | false,[l]=>K (l.av (cs.getD off dC))
   | _,_=>none)
 else none
def aAK (P:Program) (B:List Box) (V:List Vec) (T:TypeId) (x:AV) (K:AV->Option Ou):Option Ou:=
 match aZ P T with
 | none=>none
 | some ti =>
  match x with
  | .ptr i off=>match fW P ⟨[],B,V⟩ T (.ptr i off) with
   | some a=>K a
   | none=>none
  | .gd [] (.ptr i off)=>match B[i]? with
   | some b=>match b.live,dX b.cs with
    | true,some cs=>aAJ ti.kind.agg ti.size (lfT P 20 T) cs off K
    | _,_=>none
   | none=>none
  | .cv (.ref cs)=>aAJ ti.kind.agg ti.size (lfT P 20 T) cs 0 K
  | .opt i g el o=>match V[i]? with
   | some v=>if (v.sl&&v.ver == g)=true then chk (decide (el<v.es.length)) (aAJ ti.kind.agg ti.size (lfT P 20 T) (v.es.getD el []) o K) else none
   | none=>none
  | _=>none
theorem oX:∀ {ls:List Lf} {cs:List CV} {o:Nat},oks ls cs o=true->∀ j l,ls[j]? = some l->∃ c,cs[o+j]? = some c/\l.ok c=true
 | [],_,_,_,j,l,h=>by grind
 | l'::ls,cs,o,h,j,l,hl=>by
  simp [oks] at h;cases j with
  | zero =>
   grind
  | succ j =>
   obtain ⟨c,h1,h2⟩:=oX h.2 j l (by grind)
   grind
theorem DN:∀ {ls:List Lf} {cs:List CV} {o:Nat},oks ls cs o=true->AV.les (((cs.drop o).take ls.length).map .cv) (avs ls cs o)
 | [],cs,o,_=>by exact .nil
 | l::ls,cs,o,h=>by
  obtain ⟨c,h1,h2⟩:=oX h 0 l (by simp)
  simp [oks] at h;have ih:=DN h.2;simp at h1
  have hd:cs.drop o=c::cs.drop (o+1):=by
   grind [List.drop_eq_getElem_cons]
  simp only [hd];refine .cons ?_ ih;simp [h1];exact Lf.le h2
theorem AV.le_agg {xs ys:List AV} (h:AV.les xs ys):AV.le (.agg xs) (.agg ys):=by
 intro e w ks v hv;obtain ⟨vs,h1,h2⟩:=hv;exact ⟨vs,h1,h.all h2⟩
def AV.clo:AV->Bool
 | .cv _=>true
 | .agg xs=>xs.all fun x=>match x with | .cv _=>true | _=>false
 | _=>false
variable {x:AV}
theorem AV.clo_spec (h:x.clo=true):(∀ m,x.cz m=x)/\(∀ nb nv,AV.inn nb nv x=true)/\(∀ nb vs,AV.sco nb vs x):=by
 unfold AV.clo at h;split at h
 ·exact ⟨fun m=>by rfl,fun _ _=>rfl,fun _ _=>by simp⟩
 ·rename_i xs
  refine ⟨fun m=>?_,fun nb nv=>?_,fun nb vs=>?_⟩
  ·simp [AV.cz,AV.czs_eq]
   refine (List.map_congr_left fun x xh=>?_).trans (List.map_id xs)
   grind [AV.cz]
  ·grind [AV.inn,AV.inns_eq]
  grind [AV.sco,AV.scos_iff]
 grind
theorem VF:∀ (ls:List Lf) (cs:List CV) (o:Nat),(AV.agg (avs ls cs o)).clo=true
 | [],_,_=>rfl
 | l::ls,cs,o=>by
  have:=VF ls cs (o+1);obtain ⟨d,hd⟩:=l.av_cv (cs.getD o dC);simp_all [AV.clo,avs]
theorem AO {agg:Bool} {size:Nat} {lfs:List Lf} {cs:List CV} {off:Nat} {K:AV->Option Ou} {r:Ou} (h:aAJ agg size lfs cs off K=some r) :
  ∃ x,K x=some r/\x.clo=true/\(agg=true->off+size<=cs.length/\AV.le (.agg (((cs.drop off).take size).map .cv)) x)/\(agg=false->∃ c,cs[off]? = some c/\AV.le (.cv c) x):=by
 unfold aAJ at h;split at h
 ·rename_i hl
  obtain ⟨h1,h2⟩:=aW h;split at h2
  ·rename_i l ls
   refine ⟨_,h2,VF _ _ _,fun _=>⟨?_,?_⟩,fun hc=>by cases hc⟩
   ·obtain ⟨c,h3,_⟩:=oX h1 ls.length ((l::ls)[ls.length]'(by simp)) (by simp)
    grind
   ·rw [<- hl]
    exact AV.le_agg (DN h1)
  ·rename_i l
   obtain ⟨c,h3,h4⟩:=oX h1 0 l (by simp)
   simp at h3;obtain ⟨d,hd⟩:=l.av_cv (cs.getD off dC);refine ⟨_,h2,(by rw [hd];rfl),(fun hc=>by cases hc),fun _=>⟨c,h3,?_⟩⟩
   simp [h3];exact Lf.le h4
  grind
 grind
section
variable {P:Program} [C:Co P] {m:Emb} {s:SS} {st:St}
theorem SC (hE:Em m s st) {T:TypeId} {x:AV} {K:AV->Option Ou} {r:Ou} (hx:AV.inn s.B.length s.V.length x=true) (h:aAK P s.B s.V T x K=some r) :
  ∃ a y,fW P st T (x.cz m)=some a/\AV.le a (y.cz m)/\((y.clo=true)\/a=y.cz m)/\AV.inn s.B.length s.V.length y=true/\K y=some r:=by
 unfold aAK at h;cases ai:aZ P T with
 | none=>grind
 | some ti =>
  simp only [ai] at h
  have fin:∀ {a:AV},(∃ x,K x=some r/\x.clo=true/\AV.le a x)->∃ y,AV.le a (y.cz m)/\((y.clo=true)\/a=y.cz m)/\AV.inn s.B.length s.V.length y=true/\K y=some r:=by
   rintro a ⟨y,h1,h2,h3⟩;obtain ⟨c1,c2,_⟩:=AV.clo_spec h2;grind
  split at h
  ·rename_i i off
   split at h
   ·rename_i a ha
    unfold fW at ha;simp only [ai] at ha;split at ha
    ·rename_i b hb
     obtain ⟨co,lz⟩:=hE.m.b i b hb;rw [AV.inns_eq,List.all_eq_true] at lz;split at ha
     ·have key:fW P st T ((AV.ptr i off).cz m)=some (a.cz m)/\AV.inn s.B.length s.V.length a=true:=by
       simp only [AV.cz,fW,co,Box.cz,AV.czs_eq];grind [AV.cz,AV.czs_eq,List.map_take,List.map_drop,AV.inn,AV.inns_eq,List.all_eq_true]
      exact ⟨_,a,key.1,AV.le_refl _,.inr rfl,key.2,h⟩
     grind
    grind
   grind
  ·rename_i i off
   split at h
   ·rename_i b hb
    split at h
    ·rename_i cs hl bc
     obtain ⟨y,h1,h2,h3,h4⟩:=AO h;obtain ⟨co,_⟩:=hE.m.b i b hb;have dz:(b.cz m).cs=cs.map .cv:=by simp [Box.cz,AV.czs_eq];exact eG bc
     have bo:(b.cz m).live=true:=hl;cases dv:ti.kind.agg with
     | true =>
      obtain ⟨h5,h6⟩:=h3 dv;obtain ⟨y',q1,q2,q3,q4⟩:=fin ⟨y,h1,h2,h6⟩;refine ⟨_,y',?_,q1,q2,q3,q4⟩;simp_all [AV.cz]
     | false =>
      obtain ⟨c,h5,h6⟩:=h4 dv;obtain ⟨y',q1,q2,q3,q4⟩:=fin ⟨y,h1,h2,h6⟩;refine ⟨_,y',?_,q1,q2,q3,q4⟩;simp_all [AV.cz]
    grind
   grind
  ·obtain ⟨y,h1,h2,h3,h4⟩:=AO h
   cases dv:ti.kind.agg with
   | true =>
    obtain ⟨h5,h6⟩:=h3 dv;obtain ⟨y',q1,q2,q3,q4⟩:=fin ⟨y,h1,h2,h6⟩;refine ⟨_,y',?_,q1,q2,q3,q4⟩;simp_all [AV.cz]
   | false =>
    obtain ⟨c,h5,h6⟩:=h4 dv;obtain ⟨y',q1,q2,q3,q4⟩:=fin ⟨y,h1,h2,h6⟩;refine ⟨_,y',?_,q1,q2,q3,q4⟩;simp_all [AV.cz]
  ·rename_i i g el o
   split at h
   ·rename_i v hv
    split at h
    ·rename_i hc
     simp at hc;obtain ⟨hl,rfl⟩:=hc;obtain ⟨ma,h⟩:=aW h;simp at ma;obtain ⟨y,h1,h2,h3,h4⟩:=AO h;have cx:=hE.m.v i v hv (.inl (Vec.sl_live hl));have Jc:=Vec.sl_mk hl v.k (m.fo i+v.ver) v.es;cases dv:ti.kind.agg with
     | true =>
      obtain ⟨h5,h6⟩:=h3 dv;obtain ⟨y',q1,q2,q3,q4⟩:=fin ⟨y,h1,h2,h6⟩;refine ⟨_,y',?_,q1,q2,q3,q4⟩;simp_all [AV.cz,Vec.cz]
     | false =>
      obtain ⟨c,h5,h6⟩:=h4 dv;obtain ⟨y',q1,q2,q3,q4⟩:=fin ⟨y,h1,h2,h6⟩;refine ⟨_,y',?_,q1,q2,q3,q4⟩;simp_all [AV.cz,Vec.cz]
    grind
   grind
  grind
end
structure Lk where
 t:List Nat
 b:List Nat
 v:List Nat
 o:List Nat
section
variable {P:Program} [C:Co P]
def aGS (op:BinOp) (k:IntKind) (a b:Int) (K:AV->Option Ou):Option Ou:=
 match op with
 | .quo=>chk (b != 0) (K (.cv (.val (.int k (k.wrap (a.tdiv b))))))
 | .rem=>chk (b != 0) (K (.cv (.val (.int k (a.tmod b)))))
 | .shl=>chk (decide (0<=b)) (K (.cv (.val (.int k (k.wrap (a*2 ^ (min b.toNat k.bits)))))))
 | .shr=>chk (decide (0<=b)) (K (.cv (.val (.int k (a.fdiv (2 ^ (min b.toNat k.bits)))))))
 | op=>match OI op k a b with
  | some x=>K x
  | none=>none
def aFs (P:Program) (op:BinOp) (T:TypeId) (x y:AV) (K:AV->Option Ou):Option Ou:=
 match x,y with
 | .cv (.val (.int k a)),.cv (.val (.int k' b))=>if k=k'\/op=.shl\/op=.shr then aGS op k a b K else none
 | x,y=>match nI P op T x y with
  | some r=>K r
  | none=>none
variable {x:AV}
theorem XQ {op:BinOp} {T:TypeId} {y:AV} {K:AV->Option Ou} {r:Ou} (h:aFs P op T x y K=some r) (m:Emb) :
  ∃ c,nI P op T (x.cz m) (y.cz m)=some (.cv c)/\K (.cv c)=some r:=by
 unfold aFs at h;split at h
 ·simp only [AV.cz,nI]
  split at h
  ·unfold aGS at h
   split at h
   ·obtain ⟨h1,h2⟩:=aW h
    simp_all
   ·obtain ⟨h1,h2⟩:=aW h
    simp_all
   ·obtain ⟨h1,h2⟩:=aW h
    simp_all
   ·obtain ⟨h1,h2⟩:=aW h
    simp_all
   ·rename_i hq hr jn ud
    have hs:¬(op=.shl\/op=.shr):=fun h'=>h'.elim jn ud
    split at h
    ·rename_i x hx
     obtain ⟨_,rfl,_⟩:=uA (P:=P) hx hs T (.const undef) (.const undef) default;grind
    grind
  grind
 ·split at h
  ·rename_i r' hr
   obtain ⟨h1,c,rfl⟩:=aAG (m:=m) hr;grind [AV.cz]
  grind
def aDl (K:Nat->Option Ou) (n:Int):Nat->Nat->Option Ou
 | q,0=>K q
 | q,f+1=>aC (n == Int.ofNat q) (K q) (aDl K n (q+1) f)
theorem JC {K:Nat->Option Ou} {n:Int} {r:Ou}:∀ (f q:Nat),(q:Int)<=n->n<=(q+f:Nat)->aDl K n q f=some r->K n.toNat=some r
 | 0,q,h1,h2,h=>by
  have:n.toNat=q:=by omega
  rw [this];exact h
 | f+1,q,h1,h2,h=>by
  simp only [aDl] at h;cases hc:(n == Int.ofNat q) with
  | true =>
   rw [hc] at h;have:n.toNat=q:=by grind
   rw [this];exact h
  | false =>
   rw [hc] at h;have bY:n≠(q:Int):=fun e=>by grind
   exact JC f (q+1) (by omega) (by omega) h
def xN (P:Program) (V:List Vec) (T:TypeId) (lit:Bool) (x i:AV) (K:AV->Option Ou):Option Ou:=
 match i with
 | .cv (.val (.int _ n)) =>
  match aZ P T with
  | some ⟨_,_,.arr len _ k⟩ =>
   if k=0 then none else
   match x with
   | .ptr j off=>if lit=true then (if 0<=n/\n<len then K (.ptr j (off+n.toNat*k)) else none) else chk (decide (0<=n)&&decide (n<len)) (K (.gd [] (.ptr j (off+n.toNat*k))))
   | .gd [] (.ptr j off)=>chk (decide (0<=n)&&decide (n<len)) (K (.gd [] (.ptr j (off+n.toNat*k))))
   | .cv (.ref cs)=>chk (decide (0<=n)&&decide (n<len)) (K (.cv (.ref (cs.drop (n.toNat*k)))))
   | .opt j u el off=>chk (decide (0<=n)&&decide (n<len)) (K (.opt j u el (off+n.toNat*k)))
   | _=>none
  | some ⟨_,_,.slc _ k _⟩ =>
   if k=0 then none else
   match x with
   | .cv (.row k' es)=>if k'=k then chk (decide (0<=n)&&decide (n<es.length)) (K (.cv (.ref (es.getD n.toNat [])))) else none
   | .own j u =>
    match V[j]? with
    | some v=>if (v.sl&&v.ver == u&&v.k == k)=true then chk (decide (0<=n)&&decide (n<v.es.length)) (K (.opt j u n.toNat 0)) else none
    | none=>none
   | .fn len [.gd [false] .any,.any,.ptr j off]=>chk (decide (0<=n)&&decide (n<Int.ofNat len)) (aDl (fun q=>K (.ptr j (off+q*k))) n 0 (Nat.pred len))
   | _=>none
  | _=>none
 | _=>none
variable {m:Emb} {s:SS} {st:St}
theorem CW (hE:Em m s st) {T:TypeId} {lit:Bool} {i:AV} {K:AV->Option Ou} {r:Ou} (hx:AV.inn s.B.length s.V.length x=true) (h:xN P s.V T lit x i K=some r) :
  ∃ y,dW P st T (x.cz m) (i.cz m)=some (y.cz m)/\AV.inn s.B.length s.V.length y=true/\K y=some r:=by
 unfold xN at h;split at h
 ·rename_i kk n
  simp;split at h
  ·rename_i a1 a2 len a3 k ai
   simp [ai];split at h
   ·cases h
   ·rename_i hk
    simp [if_neg hk];split at h
    ·rename_i j off
     split at h
     ·grind [AV.cz,AV.inn]
     ·obtain ⟨h1,h2⟩:=aW h
      grind [AV.cz,AV.inn]
    all_goals first
     | cases h;done
     | (obtain ⟨h1,h2⟩:=aW h
        simp only [Bool.and_eq_true,decide_eq_true_eq] at h1;refine ⟨_,?_,?_,h2⟩
        ·simp only [AV.cz];rw [if_pos h1]
        ·first | rfl | (simp only [AV.inn] at hx ⊢;exact hx))
  ·rename_i a1 a2 a3 k a4 ai
   split at h
   ·cases h
   ·split at h
    ·split at h
     ·obtain ⟨h1,h2⟩:=aW h
      exact ⟨_,by simp_all [AV.cz],rfl,h2⟩
     grind
    ·rename_i j u
     split at h
     ·rename_i v hv
      split at h
      ·rename_i hc
       simp at hc;obtain ⟨⟨hl,rfl⟩,Cy⟩:=hc;obtain ⟨h1,h2⟩:=aW h;have cx:=hE.m.v j v hv (.inl (Vec.sl_live hl));grind [AV.inn,AV.cz,Vec.cz,Vec.sl]
      grind
     grind
    ·rename_i len j off
     obtain ⟨h1,h2⟩:=aW h;simp at h1;have h3:=JC (Nat.pred len) 0 (by omega) (by have:Nat.pred len=len - 1:=rfl;omega) h2
     grind [AV.cz,AV.czs,AV.inn,AV.inns]
    grind
  grind
 grind
def SD (P:Program) (T:TypeId) (x:AV) (f:Nat):Option AV:=
 match x with
 | .gd [] y=>(cT P T y f).map fun z=>.gd [] z
 | x=>cT P T x f
theorem OX {T:TypeId} {y:AV} {f:Nat} (h:SD P T x f=some y):cT P T (x.cz m) f=some (y.cz m)/\(∀ nb nv,AV.inn nb nv x=true->AV.inn nb nv y=true):=by
 unfold SD at h;split at h
 ·simp at h
  obtain ⟨q,h1,rfl⟩:=h;obtain ⟨h2,h3⟩:=uF (m:=m) h1;grind [AV.cz,AV.inn]
 ·exact uF h
def SE (P:Program) (T:TypeId) (lit:Bool) (x i:AV) (K:AV->Option Ou):Option Ou:=
 match aZ P T,x,i with
 | some ⟨_,_,.arr n et 1⟩,.agg cs,.cv (.val (.int _ j)) =>
  match aZ P et with
  | some te=>if te.kind.agg=true then none else
   if lit=true then (if 0<=j/\j<n then (match cs[j.toNat]? with | some x=>K x | none=>none) else none) else
   match dX cs,lfT P 20 et with
   | some ds,[l]=>chk (decide (0<=j)&&decide (j<n)&&oks [l] ds j.toNat) (K (l.av (ds.getD j.toNat dC)))
   | _,_=>none
  | none=>none
 | _,_,_=>none
theorem OY {T:TypeId} {lit:Bool} {i:AV} {K:AV->Option Ou} {r:Ou} {nb nv:Nat} (hx:AV.inn nb nv x=true) (h:SE P T lit x i K=some r) :
  ∃ a y,UV P T (x.cz m) (i.cz m)=some a/\AV.le a (y.cz m)/\((y.clo=true)\/a=y.cz m)/\AV.inn nb nv y=true/\K y=some r:=by
 unfold SE at h;split at h
 ·rename_i a1 a2 n et cs kk j ai
  split at h
  ·split at h
   ·cases h
   ·split at h
    ·split at h
     ·split at h
      ·rename_i y hy
       simp [AV.inn,AV.inns_eq] at hx;refine ⟨_,y,?_,AV.le_refl _,.inr rfl,hx y (List.mem_of_getElem? hy),h⟩;simp_all [AV.cz,AV.czs_eq]
      grind
     grind
    ·split at h
     ·rename_i ds l qp hl
      obtain ⟨h1,h2⟩:=aW h;simp at h1;obtain ⟨c,h3,h4⟩:=oX h1.2 0 l (by simp)
      simp at h3;obtain ⟨d,hd⟩:=l.av_cv (ds.getD j.toNat dC);refine ⟨.cv c,_,?_,?_,.inl (by rw [hd];rfl),by rw [hd];rfl,h2⟩
      ·simp_all [AV.cz,AV.czs_eq,eG]
      ·rw [hd,AV.cz_cv,<- hd]
       simp [h3];exact Lf.le h4
     grind
  grind
 grind
def aFt:Option AV->Option Int
 | none=>some 0
 | some (.cv (.val (.int _ n)))=>some n
 | _=>none
def aFu (n:Nat):Option AV->Option Int
 | none=>some n
 | some (.cv (.val (.int _ n)))=>some n
 | _=>none
variable {lo:Option AV}
theorem aAL {l:Int} (h:aFt lo=some l):(lo=none/\l=0)\/∃ k,lo=some (.cv (.val (.int k l))):=by
 unfold aFt at h;grind
theorem aAM {n:Nat} {l:Int} (h:aFu n lo=some l):(lo=none/\l=n)\/∃ k,lo=some (.cv (.val (.int k l))):=by
 unfold aFu at h;grind
def LZ (P:Program) (T:TypeId) (x:AV) (lo hi:Option AV) (K:AV->Option Ou):Option Ou:=
 match aZ P T with
 | some ⟨_,_,.slc _ k _⟩ =>
  if k=0 then none else
  match x with
  | .cv (.row k' es) =>
   if k'=k then
    match aFt lo,aFu es.length hi with
    | some l,some h=>chk (decide (0<=l)&&decide (l<=h)&&decide (h<=es.length)) (K (.cv (.row k ((es.take h.toNat).drop l.toNat))))
    | _,_=>none
   else none
  | _=>none
 | some ⟨_,_,.arr n _ k⟩ =>
  match x,lo,hi with
  | .cv (.ref cs),none,none=>if k≠0/\n<=maxLen then chk (decide (n*k<=cs.length)) (K (.cv (.row k (aI k n (cs.take (n*k)))))) else none
  | _,_,_=>none
 | _=>none
theorem CF {T:TypeId} {hi:Option AV} {K:AV->Option Ou} {r:Ou} (h:LZ P T x lo hi K=some r) :
  ∃ c,oV P T (x.cz m) (lo.map (AV.cz m)) (hi.map (AV.cz m))=some (.cv c)/\K (.cv c)=some r:=by
 unfold LZ at h;split at h
 ·rename_i a1 a2 a3 k a4 ai
  split at h
  ·cases h
  ·rename_i hk
   split at h
   ·split at h
    ·rename_i gm
     split at h
     ·rename_i l hh hl qm
      obtain ⟨h1,h2⟩:=aW h;simp at h1;refine ⟨_,?_,h2⟩;rcases aAL hl with ⟨rfl,rfl⟩ | ⟨kl,rfl⟩ <;> rcases aAM qm with ⟨rfl,rfl⟩ | ⟨kh,rfl⟩
      all_goals
       simp only [Option.map_none,Option.map_some,AV.cz,oV,ai,if_neg hk,if_pos gm];rw [if_pos ⟨h1.1.1,h1.1.2,h1.2⟩]
     grind
    grind
   grind
 ·split at h
  ·split at h
   ·obtain ⟨h1,h2⟩:=aW h
    simp_all [AV.cz]
   grind
  grind
 grind
def MA (P:Program) (T:TypeId) (x:AV) (lo:Option AV) (hi mx:AV) (K:AV->Option Ou):Option Ou:=
 match hi,mx with
 | .cv (.val (.int k n)),.cv (.val (.int _ m))=>match x with
  | .cv (.row k' es)=>chk (decide (n=m)) (LZ P T (.cv (.row k' es)) lo (some (.cv (.val (.int k n)))) K)
  | _=>none
 | _,_=>none
theorem MB {T:TypeId} {hi mx:AV} {K:AV->Option Ou} {r:Ou} (h:MA P T x lo hi mx K=some r) :
  ∃ c,uB P T (x.cz m) (lo.map (AV.cz m)) (hi.cz m) (mx.cz m)=some (.cv c)/\K (.cv c)=some r:=by
 unfold MA at h;split at h
 ·split at h
  ·obtain ⟨h1,h2⟩:=aW h
   obtain ⟨c,h3,h4⟩:=CF (m:=m) h2;simp_all [AV.cz,uB]
  grind
 grind
end
section
variable {P:Program} [C:Co P] {m:Emb} {B B1:List Box} {V V1:List Vec}
variable {i:Nat}
theorem EmM.lt_b (h:EmM m B V B1 V1) (hi:i<B.length):m.fb i<B1.length:=by
 obtain ⟨h1,_⟩:=h.b i B[i] (by simp)
 grind
theorem EmM.lt_v (h:EmM m B V B1 V1) (hi:i<V.length):m.fv i<V1.length:=by
 exact h.vlt i hi
theorem Emb.fb_mem {m:Emb} (h:i<m.bm.length):m.fb i∈m.bm:=by
 grind [Emb.fb]
theorem Emb.fv_mem {m:Emb} (h:i<m.vm.length):m.fv i∈m.vm:=by
 grind [Emb.fv]
theorem EmM.setB (h:EmM m B V B1 V1) {b:Box} (hi:i<B.length) (hb:AV.inns B.length V.length b.cs=true):EmM m (B.set i b) V (B1.set (m.fb i) (b.cz m)) V1:=by
 refine ⟨by simp [h.bl],h.vl,h.ol,fun j c hj=>?_,fun j v hv=>h.v j v hv,h.vlt,?_,?_⟩
 ·rw [List.getElem?_set] at hj
  split at hj
  ·rename_i d8
   subst d8;simp at hj;subst hj;exact ⟨by rw [List.getElem?_set_self (h.lt_b hi)],by grind⟩
  ·rename_i d8
   obtain ⟨h1,h2⟩:=h.b j c hj;have bk:=(List.getElem?_eq_some_iff.1 hj).1;refine ⟨?_,by grind⟩
   rw [List.getElem?_set_ne fun he=>d8 (h.bi i j hi bk he)]
   exact h1
 ·intro j k hj hk;exact h.bi j k (by grind) (by grind)
 ·exact h.vi
theorem EmM.setV (h:EmM m B V B1 V1) {v:Vec} (hi:i<V.length):EmM m B (V.set i v) B1 (V1.set (m.fv i) (v.cz m i)):=by
 refine ⟨h.bl,by simp [h.vl],by simp [h.ol],fun j c hj=>by simpa using h.b j c hj,fun j c hj bw=>?_,fun j hj=>by simpa using h.vlt j (by grind),h.bi,?_⟩
 ·rw [List.getElem?_set] at hj
  split at hj
  ·rename_i d8
   subst d8;simp at hj;subst hj;rw [List.getElem?_set_self (h.lt_v hi)]
  ·rename_i d8
   have bk:=(List.getElem?_eq_some_iff.1 hj).1;rw [List.getElem?_set_ne fun he=>d8 (h.vi i j hi bk he)]
   exact h.v j c hj bw
 ·intro j k hj hk;exact h.vi j k (by grind) (by grind)
def Emb.pushB (m:Emb) (k:Nat):Emb:=⟨m.bm++[k],m.vm,m.vb⟩
def Emb.pushV (m:Emb) (k:Nat):Emb:=⟨m.bm,m.vm++[k],m.vb++[0]⟩
theorem Emb.pushB_up (m:Emb) (k:Nat):m.Up (m.pushB k):=by
 refine ⟨by simp [Emb.pushB],fun i hi=>?_,Nat.le_refl _,fun _ _=>rfl⟩
 simp [Emb.pushB,Emb.fb,List.getElem?_append_left hi]
theorem Emb.pushV_up (m:Emb) (k:Nat):m.Up (m.pushV k):=by
 refine ⟨Nat.le_refl _,fun _ _=>rfl,by simp [Emb.pushV],fun i hi=>?_⟩
 simp [Emb.pushV,Emb.fv,List.getElem?_append_left hi]
theorem Emb.pushV_fo {m:Emb} (k:Nat) (h:m.vb.length=m.vm.length):∀ i,i<m.vm.length->(m.pushV k).fo i=m.fo i:=by
 grind [Emb.pushV,Emb.fo]
theorem Emb.pushB_new (m:Emb) (k:Nat):(m.pushB k).fb m.bm.length=k:=by simp [Emb.pushB,Emb.fb]
theorem Emb.pushV_new (m:Emb) (k:Nat):(m.pushV k).fv m.vm.length=k:=by simp [Emb.pushV,Emb.fv]
theorem Emb.pushV_new0 {m:Emb} (k:Nat) (h:m.vb.length=m.vm.length):(m.pushV k).fo m.vm.length=0:=by simp [Emb.pushV,Emb.fo,h]
theorem EmM.up_b (h:EmM m B V B1 V1) {m':Emb} (hu:m.Up m') (ho:∀ i,i<m.vm.length->m'.fo i=m.fo i) {b:Box} (hb:B[i]? = some b):b.cz m'=b.cz m:=by
 simp [Box.cz,AV.czs_up hu ho b.cs (by rw [h.bl,h.vl];exact (h.b i b hb).2)]
theorem EmM.pushB (h:EmM m B V B1 V1) {b:Box} (hb:AV.inns B.length V.length b.cs=true):EmM (m.pushB B1.length) (B++[b]) V (B1++[b.cz (m.pushB B1.length)]) V1:=by
 have hu:=Emb.pushB_up m B1.length;refine ⟨by simp [Emb.pushB,h.bl],h.vl,h.ol,fun i c hi=>?_,fun i v hv=>?_,h.vlt,fun i j hi hj he=>?_,h.vi⟩
 ·by_cases ah:i<B.length
  ·rw [List.getElem?_append_left ah] at hi
   obtain ⟨h1,h2⟩:=h.b i c hi;rw [hu.b i (by rw [h.bl];omega),h.up_b hu (fun _ _=>rfl) hi,List.getElem?_append_left (h.lt_b ah)]
   refine ⟨h1,?_⟩;rw [AV.inns_eq,List.all_eq_true] at h2 ⊢;exact fun x hx=>AV.inn_mono (by simp) (Nat.le_refl _) x (h2 x hx)
  ·have qr:i - B.length=0:=by
    grind
   obtain rfl:i=B.length:=by omega
   simp at hi;subst hi;rw [<- h.bl,Emb.pushB_new];refine ⟨by simp,?_⟩
   rw [AV.inns_eq,List.all_eq_true] at hb ⊢;exact fun x hx=>AV.inn_mono (by simp) (Nat.le_refl _) x (hb x hx)
 ·have:=h.v i v hv
  exact this
 ·simp at hi hj
  by_cases h1:i<B.length <;> by_cases h2:j<B.length
  ·rw [hu.b i (by rw [h.bl];exact h1),hu.b j (by rw [h.bl];exact h2)] at he
   exact h.bi i j h1 h2 he
  ·obtain rfl:j=B.length:=by omega
   rw [hu.b i (by rw [h.bl];exact h1),<- h.bl,Emb.pushB_new] at he
   have:=h.lt_b h1;omega
  ·obtain rfl:i=B.length:=by omega
   rw [hu.b j (by rw [h.bl];exact h2),<- h.bl,Emb.pushB_new] at he
   have:=h.lt_b h2;omega
  ·omega
theorem EmM.pushV (h:EmM m B V B1 V1) {v:Vec}:EmM (m.pushV V1.length) B (V++[v]) B1 (V1++[⟨v.live,v.T,v.k,v.ver,v.es⟩]):=by
 have hu:=Emb.pushV_up m V1.length;have hl:m.vb.length=m.vm.length:=by rw [h.ol,h.vl]
 have ho:=Emb.pushV_fo (m:=m) V1.length hl;refine ⟨h.bl,by simp [Emb.pushV,h.vl],by simp [Emb.pushV,h.ol],fun i c hi=>?_,fun i c hi bw=>?_,fun i hi=>?_,h.bi,fun i j hi hj he=>?_⟩
 ·obtain ⟨h1,h2⟩:=h.b i c hi
  rw [h.up_b hu ho hi];refine ⟨h1,?_⟩;rw [AV.inns_eq,List.all_eq_true] at h2 ⊢;exact fun x hx=>AV.inn_mono (Nat.le_refl _) (by simp) x (h2 x hx)
 ·by_cases ah:i<V.length
  ·rw [List.getElem?_append_left ah] at hi
   have h1:=h.v i c hi bw;rw [hu.v i (by rw [h.vl];omega),List.getElem?_append_left (h.lt_v ah),h1]
   simp [Vec.cz,ho i (by rw [h.vl];omega)]
  ·have qr:i - V.length=0:=by
    grind
   obtain rfl:i=V.length:=by omega
   rw [<- h.vl,Emb.pushV_new];grind [Vec.cz,Emb.pushV_new0]
 ·simp at hi ⊢
  by_cases h1:i<V.length
  ·rw [hu.v i (by rw [h.vl];exact h1)];have:=h.vlt i h1;omega
  ·obtain rfl:i=V.length:=by omega
   rw [<- h.vl,Emb.pushV_new];omega
 ·simp at hi hj
  by_cases h1:i<V.length <;> by_cases h2:j<V.length
  ·rw [hu.v i (by rw [h.vl];exact h1),hu.v j (by rw [h.vl];exact h2)] at he
   exact h.vi i j h1 h2 he
  ·obtain rfl:j=V.length:=by omega
   rw [hu.v i (by rw [h.vl];exact h1),<- h.vl,Emb.pushV_new] at he
   have:=h.lt_v h1;omega
  ·obtain rfl:i=V.length:=by omega
   rw [hu.v j (by rw [h.vl];exact h2),<- h.vl,Emb.pushV_new] at he
   have:=h.lt_v h2;omega
  ·omega
theorem Stp.setB (h:EmM m B V B1 V1) (hi:i<B.length) (b:Box):Stp m B1 V1 m (B1.set (m.fb i) b) V1:=by
 refine ⟨Emb.Up.refl _,by simp,Nat.le_refl _,fun _ h=>.inl h,fun _ h=>.inl h,fun j hj hn=>?_,fun _ _ _=>rfl⟩
 rw [List.getElem?_set_ne];rintro rfl;exact hn (Emb.fb_mem (by rw [h.bl];exact hi))
theorem Stp.setV (h:EmM m B V B1 V1) (hi:i<V.length) (v:Vec):Stp m B1 V1 m B1 (V1.set (m.fv i) v):=by
 refine ⟨Emb.Up.refl _,Nat.le_refl _,by simp,fun _ h=>.inl h,fun _ h=>.inl h,fun _ _ _=>rfl,fun j hj hn=>?_⟩
 rw [List.getElem?_set_ne];rintro rfl;exact hn (Emb.fv_mem (by rw [h.vl];exact hi))
theorem Stp.pushB (b:Box):Stp m B1 V1 (m.pushB B1.length) (B1++[b]) V1:=by
 refine ⟨Emb.pushB_up _ _,by simp,Nat.le_refl _,fun j hj=>?_,fun _ h=>.inl h,fun j hj hn=>?_,fun _ _ _=>rfl⟩
 ·grind [Emb.pushB]
 grind
theorem Stp.pushV (v:Vec):Stp m B1 V1 (m.pushV V1.length) B1 (V1++[v]):=by
 refine ⟨Emb.pushV_up _ _,Nat.le_refl _,by simp,fun _ h=>.inl h,fun j hj=>?_,fun _ _ _=>rfl,fun j hj hn=>?_⟩
 ·grind [Emb.pushV]
 grind
end
def bL (n k by_:Nat):Bool:=decide ((n+k)*by_<=140737488355328)&&decide (n+k<=maxLen)
def Lf.flatK:Lf->Bool
 | .int _=>true
 | .bool=>true
 | _=>false
def Lf.sel (l:Lf) (b:Bool) (c c':CV):CV:=
 match l with
 | .int k=>.val (.int k (if b then cI c else cI c'))
 | .bool=>.val (.bool (if b then cB c else cB c'))
 | _=>c'
def MC (l:Lf) (off:Nat) (c:CV):List CV->Nat->List CV
 | [],_=>[]
 | c'::cs,j=>(if l.ok c'=true then l.sel (decide (j=off)) c c' else c')::MC l off c cs (j+1)
theorem Lf.sel_eq {l:Lf} {b:Bool} {c c':CV} (hf:l.flatK=true) (hc:l.ok c=true) (gc:l.ok c'=true):l.sel b c c'=if b then c else c':=by
 cases l with
 | int k =>
  unfold Lf.ok at hc gc;grind [Lf.sel,cI]
 | bool =>
  unfold Lf.ok at hc gc;grind [Lf.sel,cB]
 | row k=>grind [Lf.flatK]
 | ref=>grind [Lf.flatK]
 | raw=>grind [Lf.flatK]
 | mp k=>grind [Lf.flatK]
theorem MD {l:Lf} {c:CV} (hf:l.flatK=true) (hc:l.ok c=true):∀ (cs:List CV) (j off:Nat),(∀ c',cs[off]? = some c'->l.ok c'=true)->MC l (j+off) c cs j=cs.set off c
 | [],j,off,_=>by rfl
 | c'::cs,j,off,h=>by
  simp [MC];cases off with
  | zero =>
   have db:∀ (cs:List CV) (i:Nat),j<i->MC l j c cs i=cs:=by
    intro cs
    induction cs with
    | nil=>intro i _;rfl
    | cons d cs ih =>
     grind [MC,Lf.sel_eq]
   simp_all [Lf.sel_eq]
  | succ off =>
   have ih:=MD hf hc cs (j+1) off (fun d hd=>h d (by grind))
   grind [Lf.sel_eq]
def OZ:List Lf->Nat->List CV->List CV->List CV
 | l::ls,off,c::new,cs=>OZ ls (off+1) new (MC l off c cs 0)
 | _,_,_,cs=>cs
theorem VG {c:CV}:∀ {ls:List Lf} {cs:List CV} {o off:Nat},off<o->oks ls (cs.set off c) o=oks ls cs o
 | [],_,_,_,_=>rfl
 | l::ls,cs,o,off,h=>by
  simp only [oks];rw [List.getElem?_set_ne (by omega),VG (ls:=ls) (cs:=cs) (by omega)]
theorem PB:∀ {ls:List Lf} {off:Nat} {new cs:List CV},ls.all Lf.flatK=true->new.length=ls.length->((ls.zip new).all fun p=>p.1.ok p.2)=true->oks ls cs off=true->off+new.length<=cs.length ->
  OZ ls off new cs=cs.take off++new++cs.drop (off+new.length)
 | [],off,new,cs,_,hn,_,_,_=>by
  simp_all [OZ]
 | l::ls,off,[],cs,_,hn,_,_,_=>by grind
 | l::ls,off,c::new,cs,hf,hn,ho,hk,hl=>by
  simp only [List.all_cons,Bool.and_eq_true,List.zip_cons_cons,List.length_cons] at hf hn ho hl;obtain ⟨c0,h3,h4⟩:=oX hk 0 l (by simp)
  simp at h3
  have yr:MC l off c cs 0=cs.set off c:=by
   have:=MD hf.1 ho.1 cs 0 off (fun c' gc=>by grind)
   grind
  have Cy:oks ls (cs.set off c) (off+1)=true:=by
   simp_all [VG,oks]
  simp only [OZ,yr];rw [PB hf.2 (by omega) ho.2 Cy (by simp;omega)]
  have h1:(cs.set off c).take (off+1)=cs.take off++[c]:=by
   rw [List.take_set,List.take_add_one,h3];have:(cs.take off).length=off:=by simp;omega
   simp_all
  grind [List.drop_set_of_lt]
section
variable {P:Program} [C:Co P]
def FB (P:Program) (lk:Lk) (B:List Box) (V:List Vec) (T:TypeId) (x y:AV) (K:List Box->List Vec->Option Ou):Option Ou:=
 match x with
 | .ptr i off=>if lk.b.contains i=true then none else match fK P ⟨[],B,V⟩ T (.ptr i off) y with
  | some (B',V')=>K B' V'
  | none=>none
 | .gd [] (.ptr i off)=>if lk.b.contains i=true then none else
  match aZ P T,y,B[i]?,lfT P 20 T with
  | some ti,.cv c,some b,[l] =>
   if (b.live&&ti.size == 1&&l.flatK&&l.ok c)=true then
    match dX b.cs with
    | some cs=>chk (oks [l] cs off) (K (B.set i ⟨b.live,b.T,(MC l off c cs 0).map .cv⟩) V)
    | none=>none
   else none
  | some ti,.agg ys,some b,ls =>
   if (b.live&&ti.size == ls.length&&ti.size != 0&&ls.all Lf.flatK)=true then
    match dX ys,dX b.cs with
    | some new,some cs=>if (new.length == ls.length&&(ls.zip new).all fun p=>p.1.ok p.2)=true then chk (oks ls cs off) (K (B.set i ⟨b.live,b.T,(OZ ls off new cs).map .cv⟩) V) else none
    | _,_=>none
   else none
  | _,_,_,_=>none
 | _=>none
def yZ (P:Program) (lk:Lk) (B:List Box) (V:List Vec) (T:TypeId) (s x:AV) (K:AV->List Box->List Vec->Option Ou):Option Ou:=
 match aZ P T,s with
 | some ⟨_,_,.slc e k by_⟩,.own i u=>if lk.v.contains i=true then none else
  match aZ P e,V[i]?,wW ⟨[],B,V⟩ k x with
  | some te,some v,some new =>
   if (v.sl&&v.ver == u&&v.k == k&&v.T == e)=true/\te.zero.length=k/\te.size=k/\k≠0 then
    chk (bL v.es.length new.length by_) (K (.own i (v.ver+1)) B (V.set i ⟨v.live,v.T,v.k,v.ver+1,v.es++new⟩))
   else none
  | _,_,_=>none
 | _,_=>none
def SF (x:AV):Option AV:=match x with
 | .gd [] (.ptr i o)=>some (.gd [] (.ptr i o))
 | x=>wX x
variable {x a:AV}
theorem XR {m:Emb} (h:SF x=some a):wX (x.cz m)=some (a.cz m)/\(∀ nb nv,AV.inn nb nv x=true->AV.inn nb nv a=true):=by
 unfold SF at h;split at h
 ·grind [AV.cz,wX]
 ·exact aAH h
def isLit:Operand->Bool
 | .const _=>true
 | _=>false
def sOp (P:Program) (lk:Lk) (s:SS) (op:Op) (K:AV->List Box->List Vec->Option Ou):Option Ou:=
 match op with
 | .move x=>K (s.ev x) s.B s.V
 | .assign x=>K (s.ev x) s.B s.V
 | .pick c a b=>match s.ev c with
  | .cv (.val (.bool x))=>aC x (K (s.ev a) s.B s.V) (K (s.ev b) s.B s.V)
  | _=>none
 | .alloc T=>match mW P ⟨[],s.B,s.V⟩ T with
  | some (a,B,V)=>K a B V
  | none=>none
 | .box T x=>match EO ⟨[],s.B,s.V⟩ T (s.ev x) with
  | some (a,B,V)=>K a B V
  | none=>none
 | .build T parts=>match lO P T (parts.toList.map fun p=>(p.1,s.ev p.2)) with
  | some a=>K a s.B s.V
  | none=>none
 | .buildSlice T len parts=>match bH P ⟨[],s.B,s.V⟩ T len (parts.toList.map fun p=>(p.1,s.ev p.2)) with
  | some (a,B,V)=>K a B V
  | none=>none
 | .load T a=>aAK P s.B s.V T (s.ev a) fun x=>K x s.B s.V
 | .store T a x=>FB P lk s.B s.V T (s.ev a) (s.ev x) fun B V=>K .any B V
 | .binOp op T x y _=>aFs P op T (s.ev x) (s.ev y) fun r=>K r s.B s.V
 | .unOp op _ x=>match LN op (s.ev x) with
  | some a=>K a s.B s.V
  | none=>none
 | .fieldAddr T x f=>match SD P T (s.ev x) f with
  | some a=>K a s.B s.V
  | none=>none
 | .indexAddr T x i=>xN P s.V T (isLit i) (s.ev x) (s.ev i) fun r=>K r s.B s.V
 | .index T x i=>SE P T (isLit i) (s.ev x) (s.ev i) fun r=>K r s.B s.V
 | .extract x i=>match iA (s.ev x) i with
  | some a=>K a s.B s.V
  | none=>none
 | .convert T T' x=>match rR P T T' (s.ev x) with
  | some a=>K a s.B s.V
  | none=>none
 | .field T x f=>match yU P T (s.ev x) f with
  | some a=>K a s.B s.V
  | none=>none
 | .nilCheck x=>match SF (s.ev x) with
  | some a=>K a s.B s.V
  | none=>none
 | .makeFunc (.func f) first caps=>if sS (caps.toList.map s.ev)=true then none else
  if first.size=0 then K (.fn f (caps.toList.map s.ev)) s.B s.V else if caps.size=0/\first.size=1 then K (.fn f (.gd [false] .any::first.toList.map s.ev)) s.B s.V else none
 | .slice T x lo hi none=>LZ P T (s.ev x) (lo.map s.ev) (hi.map s.ev) fun r=>K r s.B s.V
 | .slice T x none (some (.const (.int _ 0))) (some (.const (.int _ 0)))=>match nK P ⟨[],s.B,s.V⟩ T (s.ev x) with
  | some (a,B,V)=>K a B V
  | none=>none
 | .slice T x lo (some (.tmp p)) (some (.tmp q))=>MA P T (s.ev x) (lo.map s.ev) (s.ev (.tmp p)) (s.ev (.tmp q)) fun r=>K r s.B s.V
 | .call { callee:=.builtin .len,args,argTypes } =>
  match args.toList,argTypes.toList with
  | [x],[T]=>match qQ P ⟨[],s.B,s.V⟩ T (s.ev x) with
   | some a=>K a s.B s.V
   | none=>none
  | _,_=>none
 | .call { callee:=.builtin .append,args,argTypes } =>
  match args.toList,argTypes.toList with
  | [a,x],[T,T']=>if T=T' then yZ P lk s.B s.V T (s.ev a) (s.ev x) K else none
  | _,_=>none
 | .call { callee:=.builtin .max,args,.. }=>match AK true (args.toList.map s.ev) with
  | some a=>K a s.B s.V
  | none=>none
 | .call { callee:=.builtin .min,args,.. }=>match AK false (args.toList.map s.ev) with
  | some a=>K a s.B s.V
  | none=>none
 | _=>none
def OpOK (P:Program) (m:Emb) (lk:Lk) (s:SS) (st:St) (op:Op) (K:AV->List Box->List Vec->Option Ou) (r:Ou):Prop:=
 ∃ a x B V B' V' m',bI P st op=some (a,B',V')/\AV.le a (x.cz m')/\(x.clo=true\/a=x.cz m')/\K x B V=some r /\
  EmM m' B V B' V'/\Stp m st.B st.V m' B' V'/\(∀ i,i<m.vm.length->m'.fo i=m.fo i)/\AV.inn B.length V.length x=true/\s.B.length<=B.length/\s.V.length<=V.length /\
  (∀ i∈lk.b,i<s.B.length->B[i]? = s.B[i]?)/\(∀ i∈lk.v,i<s.V.length->V[i]? = s.V[i]?)
variable {m:Emb} {lk:Lk} {s:SS} {st:St} {K:AV->List Box->List Vec->Option Ou} {r:Ou}
variable {op:Op}
theorem OpOK.pure (hE:Em m s st) (h:bI P st op=some (a,st.B,st.V)) (bt:AV.le a (x.cz m)) (hc:x.clo=true\/a=x.cz m) (dm:AV.inn s.B.length s.V.length x=true) (hK:K x s.B s.V=some r) :
  OpOK P m lk s st op K r:=
 ⟨a,x,s.B,s.V,st.B,st.V,m,h,bt,hc,hK,hE.m,Stp.refl _ _ _,fun _ _=>rfl,dm,Nat.le_refl _,Nat.le_refl _,fun _ _ _=>rfl,fun _ _ _=>rfl⟩
theorem OpOK.pureE (hE:Em m s st) (h:bI P st op=some (x.cz m,st.B,st.V)) (dm:AV.inn s.B.length s.V.length x=true) (hK:K x s.B s.V=some r) :
  OpOK P m lk s st op K r:=OpOK.pure hE h (AV.le_refl _) (.inr rfl) dm hK
theorem JD (hE:Em m s st) (parts:List (Nat×Operand)):parts.map (fun p=>(p.1,st.ev p.2))=(parts.map fun p=>(p.1,s.ev p.2)).map fun p=>(p.1,p.2.cz m):=by
 simp only [List.map_map];exact List.map_congr_left fun p _=>by simp [-St.ev,hE.ev]
theorem JE {nb nv:Nat} {cs:List AV} (h:x.cells=some cs) (hx:AV.inn nb nv x=true):AV.inns nb nv cs=true:=by
 cases x <;> simp only [AV.cells,Option.some.injEq,reduceCtorEq] at h <;> subst h <;> simp_all [AV.inn,AV.inns]
theorem aAN (hE:Em m s st) {k:Nat} {es:List (List CV)} (h:wW ⟨[],s.B,s.V⟩ k x=some es):wW st k (x.cz m)=some es:=by
 unfold wW at h;split at h
 ·grind [AV.cz,wW]
 ·grind [AV.cz,wW]
 ·rename_i j u
  split at h
  ·rename_i v hv
   split at h
   ·rename_i hc
    simp at hc;obtain ⟨⟨c1,rfl⟩,c3⟩:=hc;have h1:=hE.m.v j v hv (.inl (Vec.sl_live c1));simp_all [AV.cz,Vec.cz,Vec.sl]
   grind
  grind
 grind
theorem aAO (hE:Em m s st) {T:TypeId} (h:qQ P ⟨[],s.B,s.V⟩ T x=some a):qQ P st T (x.cz m)=some a/\∃ c,a=.cv c:=by
 unfold qQ at h;split at h
 ·split at h
  ·grind [AV.cz,qQ]
  ·grind [AV.cz,qQ]
  ·rename_i i u
   split at h
   ·rename_i v hv
    split at h
    ·rename_i hc
     simp at hc;obtain ⟨c1,rfl⟩:=hc;have h1:=hE.m.v i v hv (.inl (Vec.sl_live c1));grind [AV.cz,qQ,Vec.cz,Vec.sl_mk]
    grind
   grind
  grind
 ·cases h;simp_all
 grind
theorem kS {l:List Nat} {A:Type} {i:Nat} {xs:List A} {y:A} (h:¬l.contains i=true):∀ j∈l,j<xs.length->(xs.set i y)[j]? = xs[j]?:=by
 grind
theorem SG {cs:List CV} {off:Nat} {c:CV} (h:off<cs.length):splice (cs.map .cv) off [.cv c]=(cs.set off c).map .cv:=by
 grind [splice,List.set_eq_take_append_cons_drop,List.map_take,List.map_drop]
theorem qW:∀ (cs:List CV),dX (cs.map .cv)=some cs
 | []=>rfl
 | c::cs=>by simp [qW cs]
theorem nP (hE:Em m s st) (h:sOp P lk s op K=some r):OpOK P m lk s st op K r:=by
 have ay:=hE.ev;have dm:=hE.innEv;unfold sOp at h;split at h
 ·rename_i x
  exact OpOK.pureE hE (x:=s.ev x) (by simp_all) (dm x) h
 ·rename_i x
  exact OpOK.pureE hE (x:=s.ev x) (by simp_all) (dm x) h
 ·rename_i c a b
  split at h
  ·rename_i x hc
   cases x with
   | true =>
    refine OpOK.pureE hE (x:=s.ev a) ?_ (dm a) h;simp only [bI,ay,hc,AV.cz,AJ];grind
   | false =>
    refine OpOK.pureE hE (x:=s.ev b) ?_ (dm b) h;simp only [bI,ay,hc,AV.cz,AJ];grind
  ·cases h
 ·rename_i T
  split at h
  ·rename_i a B V ha
   unfold mW at ha;split at ha
   ·rename_i ti ai
    split at ha
    ·rename_i hz
     obtain ⟨rfl,rfl,rfl⟩:=ha;refine ⟨_,_,_,_,st.B++[⟨true,T,fL ti.zero⟩],st.V,m.pushB st.B.length,?_,AV.le_refl _,.inr rfl,h,?_,Stp.pushB _,fun _ _=>rfl,by simp [AV.inn],by simp,Nat.le_refl _,fun i _ hi=>by grind,fun _ _ _=>rfl⟩
     ·simp only [bI,mW,ai]
      rw [if_pos hz];simp only [AV.cz];rw [<- hE.m.bl,Emb.pushB_new]
     ·have:=hE.m.pushB (b:=⟨true,T,fL ti.zero⟩) (by rw [AV.inns_eq];exact xM _ _ _)
      grind [Box.cz,AV.czs_eq,vT]
    ·cases ha
   ·cases ha
  ·cases h
 ·rename_i T x
  split at h
  ·rename_i a B V ha
   unfold EO at ha;split at ha
   ·rename_i cs bc
    split at ha
    ·rename_i ho
     obtain ⟨rfl,rfl,rfl⟩:=ha;have Bg:=JE bc (dm x);have hu:=Emb.pushB_up m st.B.length;have im:AV.czs (m.pushB st.B.length) cs=cs.map (AV.cz m):=by rw [AV.czs_up hu (fun _ _=>rfl) cs (by rw [hE.m.bl,hE.m.vl];exact Bg),AV.czs_eq]
     refine ⟨_,_,_,_,st.B++[⟨true,T,cs.map (AV.cz m)⟩],st.V,m.pushB st.B.length,?_,AV.le_refl _,.inr rfl,h,?_,Stp.pushB _,fun _ _=>rfl,by simp [AV.inn],by simp,Nat.le_refl _,fun i _ hi=>by grind,fun _ _ _=>rfl⟩
     ·simp only [bI,ay,EO,AV.cells_cz bc]
      rw [if_pos (DM ho)];simp only [AV.cz];rw [<- hE.m.bl,Emb.pushB_new]
     ·have:=hE.m.pushB (b:=⟨true,T,cs⟩) Bg
      grind [Box.cz]
    ·cases ha
   ·cases ha
  ·cases h
 ·split at h
  ·rename_i a ha
   refine OpOK.pureE hE (x:=a) ?_ (OW ha ?_) h
   ·simp only [bI,JD hE,SB ha,Option.map_some]
   grind
  ·cases h
 ·rename_i T len parts
  split at h
  ·rename_i a B V ha
   unfold bH at ha;split at ha
   ·rename_i a1 a2 e k a3 ai
    split at ha
    ·rename_i te d7
     split at ha
     ·rename_i hc
      split at ha
      ·rename_i out qn
       simp at ha;obtain ⟨cs,bc,rfl,rfl,rfl⟩:=ha;have hl:m.vb.length=m.vm.length:=by rw [hE.m.ol,hE.m.vl]
       refine ⟨_,_,_,_,st.B,st.V++[⟨true,e,k,0,aI k len cs⟩],m.pushV st.V.length,?_,AV.le_refl _,.inr rfl,h,?_,Stp.pushV _,Emb.pushV_fo _ hl,by simp [AV.inn],Nat.le_refl _,by simp,fun _ _ _=>rfl,fun i _ hi=>by grind⟩
       ·simp only [bI,bH,ai,d7]
        rw [if_pos hc];have:=vS (m:=m) qn;rw [vT,<- JD hE] at this;simp only [this,eG bc,qW,Option.map_some,AV.cz];rw [<- hE.m.vl,Emb.pushV_new,Emb.pushV_new0 _ hl]
       ·exact hE.m.pushV (v:=⟨true,e,k,0,aI k len cs⟩)
      ·cases ha
     ·cases ha
    ·cases ha
   ·cases ha
  ·cases h
 ·rename_i T a
  obtain ⟨q,y,h1,h2,h3,h4,h5⟩:=SC hE (dm a) h;exact OpOK.pure hE (by simp_all) h2 h3 h4 h5
 ·rename_i T a x
  unfold FB at h;split at h
  ·rename_i i off hx
   split at h
   ·cases h
   ·rename_i dc
    split at h
    ·rename_i B' V' hs
     unfold fK at hs;split at hs
     ·rename_i ti i' off' new ai hp aj
      injection hp with Jd Je
      subst Jd;subst Je;split at hs
      ·rename_i b hb
       split at hs
       ·rename_i hc
        simp only [Bool.and_eq_true,beq_iff_eq,decide_eq_true_eq] at hc;obtain ⟨⟨⟨c1,c2⟩,c3⟩,c4⟩:=hc;have c3':=c3;rw [c2] at c3';obtain ⟨rfl,rfl⟩:=hs;have ah:=(List.getElem?_eq_some_iff.1 hb).1;obtain ⟨co,lz⟩:=hE.m.b i b hb
        have lg:AV.inns s.B.length s.V.length (splice b.cs off new)=true:=by
         have hn:=JE aj (dm x);grind [AV.inns_eq,splice]
        refine ⟨.any,.any,_,_,st.B.set (m.fb i) ((⟨b.live,b.T,splice b.cs off new⟩:Box).cz m),st.V,m,?_,AV.le_refl _,.inr (by simp [AV.cz]),h,hE.m.setB ah lg,Stp.setB hE.m ah _,fun _ _=>rfl,rfl,by simp,Nat.le_refl _,kS dc,fun _ _ _=>rfl⟩
        simp only [bI,ay,hx,AV.cz,fK,ai,AV.cells_cz aj,co,Box.cz,c1,c2,AV.czs_eq,List.length_map,XO,DM c4,c3',decide_true,beq_self_eq_true,Bool.and_self,if_true,Option.map_some]
       ·cases hs
      ·cases hs
     ·cases hs
    ·cases h
  ·rename_i i off hx
   split at h
   ·cases h
   ·rename_i dc
    split at h
    ·rename_i ti c b l ai hy hb hl
     split at h
     ·rename_i hc
      simp at hc;obtain ⟨⟨⟨c1,c2⟩,c3⟩,c4⟩:=hc;split at h
      ·rename_i cs bc
       obtain ⟨h1,h2⟩:=aW h;obtain ⟨d,h3,h4⟩:=oX h1 0 l (by simp)
       simp at h3;have ah:=(List.getElem?_eq_some_iff.1 hb).1;have Cl:=(List.getElem?_eq_some_iff.1 h3).1;obtain ⟨co,lz⟩:=hE.m.b i b hb
       have yr:MC l off c cs 0=cs.set off c:=by
        have:=MD c3 c4 cs 0 off (fun c' gc=>by grind)
        grind
       rw [yr] at h2
       have lg:AV.inns s.B.length s.V.length ((cs.set off c).map .cv)=true:=by
        rw [AV.inns_eq,List.all_eq_true];intro y hy;obtain ⟨q,_,rfl⟩:=List.mem_map.1 hy;rfl
       refine ⟨.any,.any,_,_,st.B.set (m.fb i) ((⟨b.live,b.T,(cs.set off c).map .cv⟩:Box).cz m),st.V,m,?_,AV.le_refl _,.inr (by simp [AV.cz]),h2,hE.m.setB ah lg,Stp.setB hE.m ah _,fun _ _=>rfl,rfl,by simp,Nat.le_refl _,kS dc,fun _ _ _=>rfl⟩
       have dz:AV.czs m b.cs=cs.map .cv:=by rw [AV.czs_eq];exact eG bc
       have i9:∀ (l:List CV),AV.czs m (l.map .cv)=l.map .cv:=by intro l;simp [AV.czs_eq,AV.cz]
       simp only [bI,ay,hx,hy,AV.cz,fK,ai,AV.cells,co,Box.cz,c1,dz,i9,SG Cl];rw [if_pos (by simp [AV.one];omega)]
       simp
      ·cases h
     ·cases h
    ·rename_i ti ys b ai hy hb
     split at h
     ·rename_i hc
      simp only [Bool.and_eq_true] at hc;obtain ⟨⟨⟨c1,c2⟩,cne⟩,c3⟩:=hc;split at h
      ·rename_i new cs aj bc
       split at h
       ·rename_i jt
        simp only [Bool.and_eq_true,beq_iff_eq] at jt;obtain ⟨h1,h2⟩:=aW h;have ah:=(List.getElem?_eq_some_iff.1 hb).1;obtain ⟨co,lz⟩:=hE.m.b i b hb
        by_cases bh:off+new.length<=cs.length
        case neg =>
         cases Nh:lfT P 20 T with
         | nil=>grind
         | cons l0 ls0 =>
          obtain ⟨c0,g1,g2⟩:=oX h1 ((l0::ls0).length - 1) ((l0::ls0).getLast (by simp)) (by grind)
          grind
        rw [PB c3 jt.1 jt.2 h1 bh] at h2
        have lg:AV.inns s.B.length s.V.length ((cs.take off++new++cs.drop (off+new.length)).map .cv)=true:=by
         rw [AV.inns_eq,List.all_eq_true];intro y hy;obtain ⟨q,_,rfl⟩:=List.mem_map.1 hy;rfl
        refine ⟨.any,.any,_,_,st.B.set (m.fb i) ((⟨b.live,b.T,(cs.take off++new++cs.drop (off+new.length)).map .cv⟩:Box).cz m),st.V,m,?_,AV.le_refl _,.inr (by simp [AV.cz]),h2,hE.m.setB ah lg,Stp.setB hE.m ah _,fun _ _=>rfl,rfl,by simp,Nat.le_refl _,kS dc,fun _ _ _=>rfl⟩
        have dz:AV.czs m b.cs=cs.map .cv:=by rw [AV.czs_eq];exact eG bc
        have Ni:AV.czs m ys=new.map .cv:=by rw [AV.czs_eq];exact eG aj
        have i9:∀ (l:List CV),AV.czs m (l.map .cv)=l.map .cv:=by intro l;simp [AV.czs_eq,AV.cz]
        simp only [bI,ay,hx,hy,AV.cz,fK,ai,AV.cells,co,Box.cz,i9];simp_all
       ·cases h
      ·cases h
     ·cases h
    ·cases h
  ·cases h
 ·obtain ⟨c,h1,h2⟩:=XQ h m
  exact OpOK.pureE hE (x:=.cv c) (by grind [bI,AV.cz]) rfl h2
 ·split at h
  ·rename_i a ha
   obtain ⟨h1,c,rfl⟩:=aDk (m:=m) ha;exact OpOK.pureE hE (x:=.cv c) (by simp_all) rfl h
  ·cases h
 ·rename_i T x f
  split at h
  ·rename_i a ha
   obtain ⟨h1,h2⟩:=OX (m:=m) ha;exact OpOK.pureE hE (x:=a) (by simp_all) (h2 _ _ (dm x)) h
  ·cases h
 ·rename_i T x i
  obtain ⟨y,h1,h2,h3⟩:=CW hE (dm x) h;exact OpOK.pureE hE (x:=y) (by simp_all) h2 h3
 ·rename_i T x i
  obtain ⟨a,y,h1,h2,h3,h4,h5⟩:=OY (m:=m) (dm x) h;exact OpOK.pure hE (by simp_all) h2 h3 h4 h5
 ·rename_i x i
  split at h
  ·rename_i a ha
   obtain ⟨h1,h2⟩:=LY (m:=m) ha;exact OpOK.pureE hE (x:=a) (by simp_all) (h2 _ _ (dm x)) h
  ·cases h
 ·split at h
  ·rename_i a ha
   obtain ⟨h1,h2⟩:=XP (m:=m) ha;exact OpOK.pureE hE (x:=a) (by simp_all) (h2 _ _) h
  ·cases h
 ·rename_i T x f
  split at h
  ·rename_i a ha
   obtain ⟨h1,h2⟩:=aAI (m:=m) ha;exact OpOK.pureE hE (x:=a) (by simp_all) (h2 _ _ (dm x)) h
  ·cases h
 ·rename_i x
  split at h
  ·rename_i a ha
   obtain ⟨h1,h2⟩:=XR (m:=m) ha;exact OpOK.pureE hE (x:=a) (by simp_all) (h2 _ _ (dm x)) h
  ·cases h
 ·rename_i f first caps
  split at h
  ·cases h
  rename_i ia;have im:caps.toList.map st.ev=AV.czs m (caps.toList.map s.ev):=by simp_all [AV.czs_eq,List.map_map]
  have Jf:pQ (caps.toList.map st.ev)=false:=by rw [im];exact FA m (eq_false_of_ne_true ia)
  split at h
  ·rename_i hf
   refine OpOK.pureE hE (x:=.fn f (caps.toList.map s.ev)) ?_ ?_ h
   ·simp_all [bI,AV.cz]
   grind [AV.inn,AV.inns_eq]
  ·rename_i hf
   split at h
   ·rename_i hc
    have Jg:first.toList.map st.ev=AV.czs m (first.toList.map s.ev):=by simp_all [AV.czs_eq,List.map_map]
    refine OpOK.pureE hE (x:=.fn f (.gd [false] .any::first.toList.map s.ev)) ?_ ?_ h
    ·simp_all [AV.cz,AV.czs]
    ·simp [AV.inn,AV.inns_eq]
     grind
   ·cases h
 ·obtain ⟨c,h1,h2⟩:=CF (m:=m) h
  refine OpOK.pureE hE (x:=.cv c) ?_ rfl h2;have e1:∀ (o:Option Operand),fH st o=(o.map s.ev).map (AV.cz m):=by intro o;cases o <;> simp only [fH,Option.map_some,Option.map_none,ay]
  grind [bI,AV.cz]
 ·split at h
  ·rename_i a B V ha
   unfold nK at ha;split at ha
   ·rename_i a1 a2 e k a3 ai
    split at ha
    ·cases ha
    ·rename_i hk
     split at ha
     ·rename_i k' es hx
      obtain ⟨rfl,rfl,rfl⟩:=ha;have hl:m.vb.length=m.vm.length:=by rw [hE.m.ol,hE.m.vl]
      refine ⟨_,_,_,_,st.B,st.V++[⟨true,e,k,0,[]⟩],m.pushV st.V.length,?_,AV.le_refl _,.inr rfl,h,?_,Stp.pushV _,Emb.pushV_fo _ hl,by simp [AV.inn],Nat.le_refl _,by simp,fun _ _ _=>rfl,fun i _ hi=>by grind⟩
      ·simp only [bI,nK,ai,if_neg hk,ay,hx,AV.cz]
       rw [<- hE.m.vl,Emb.pushV_new,Emb.pushV_new0 _ hl]
      ·exact hE.m.pushV (v:=⟨true,e,k,0,[]⟩)
     ·cases ha
   ·cases ha
  ·cases h
 ·obtain ⟨c,h1,h2⟩:=MB (m:=m) h
  refine OpOK.pureE hE (x:=.cv c) ?_ rfl h2;have e1:∀ (o:Option Operand),fH st o=(o.map s.ev).map (AV.cz m):=by intro o;cases o <;> simp only [fH,Option.map_some,Option.map_none,ay]
  grind [bI,AV.cz]
 ·split at h
  ·split at h
   ·rename_i a ha
    obtain ⟨h3,c,rfl⟩:=aAO hE ha;exact OpOK.pureE hE (x:=.cv c) (by grind [bI,AV.cz]) rfl h
   ·cases h
  ·cases h
 ·split at h
  ·rename_i a x T T' h1 h2
   split at h
   ·rename_i hT
    subst hT;unfold yZ at h;split at h
    ·rename_i a1 a2 e k by_ i u ai ha
     split at h
     ·cases h
     ·rename_i dc
      split at h
      ·rename_i te v new d7 hv nh
       split at h
       ·rename_i hc
        simp at hc;obtain ⟨⟨⟨⟨c1,rfl⟩,c3⟩,c4⟩,c5⟩:=hc;obtain ⟨h4,h5⟩:=aW h;simp [bL] at h4;have ah:=(List.getElem?_eq_some_iff.1 hv).1;have cx:=hE.m.v i v hv (.inl (Vec.sl_live c1));have Jc:(v.live&&decide (e<bE))=true:=by rw [<- c4];exact c1
        refine ⟨_,_,_,_,st.B,st.V.set (m.fv i) ((⟨v.live,v.T,v.k,v.ver+1,v.es++new⟩:Vec).cz m i),m,?_,AV.le_refl _,.inr rfl,h5,hE.m.setV ah,Stp.setV hE.m ah _,fun _ _=>rfl,by simpa [AV.inn] using ah,Nat.le_refl _,by simp,fun _ _ _=>rfl,kS dc⟩
        simp only [bI,h1,h2,ay,ha,AV.cz,qS,ai,cx,aAN hE nh,Vec.cz,Vec.sl];grind
       ·cases h
      ·cases h
    ·cases h
   ·cases h
  ·cases h
 ·rename_i args ats
  split at h
  ·rename_i a ha
   obtain ⟨h3,c,rfl⟩:=VE (m:=m) ha;refine OpOK.pureE hE (x:=.cv c) ?_ rfl h;have:args.toList.map st.ev=(args.toList.map s.ev).map (AV.cz m):=by simp_all
   grind [bI]
  ·cases h
 ·rename_i args ats
  split at h
  ·rename_i a ha
   obtain ⟨h3,c,rfl⟩:=VE (m:=m) ha;refine OpOK.pureE hE (x:=.cv c) ?_ rfl h;have:args.toList.map st.ev=(args.toList.map s.ev).map (AV.cz m):=by simp_all
   grind [bI]
  ·cases h
 ·cases h
end
inductive Sc where
 | one (l:Lf)
 | agg (ls:List Lf)
 deriving DecidableEq
def Sc.n:Sc->Nat
 | .one _=>1
 | .agg ls=>ls.length
def Sc.av:Sc->List CV->Nat->AV
 | .one l,vs,k=>l.av (vs.getD k dC)
 | .agg ls,vs,k=>.agg (avs ls vs k)
def Sc.avs:List Sc->List CV->Nat->List AV
 | [],_,_=>[]
 | c::cs,vs,k=>c.av vs k::Sc.avs cs vs (k+c.n)
def Sc.res:List Sc->List CV->AV
 | [c],vs=>c.av vs 0
 | cs,vs=>.tup (Sc.avs cs vs 0)
def Lf.scalar:Lf->Bool
 | .int _=>true
 | .bool=>true
 | _=>false
def Sc.flat:Sc->Bool
 | .one l=>l.scalar
 | .agg ls=>ls.all Lf.scalar
structure Sig where
 ps:List Sc
 rs:List Sc
abbrev Den:=FuncId->List CV->Option (List CV)
def bN (sg:FuncId->Option Sig) (M:Den) (c:CV) (args:List CV) (ps rs:List Sc):Option (List CV):=
 match c with
 | .fn f caps=>match sg f with
  | some g=>if g.ps=ps++List.replicate caps.length (.one .ref)/\g.rs=rs/\caps.all (fun c=>Lf.ref.ok c)=true then M f (args++caps) else none
  | none=>none
 | _=>none
def XS (B:List Box) (V:List Vec):AV->Option (CV×Bool)
 | .cv c=>some (c,false)
 | .own i g=>match fB V (.own i g) with
  | some c=>some (c,true)
  | none=>none
 | .ptr i 0=>match B[i]? with
  | some b=>match b.live,dR V b.cs with
   | true,some cs=>some (.ref cs,true)
   | _,_=>none
  | none=>none
 | _=>none
def CG (B:List Box) (V:List Vec):List AV->Option (List CV×Bool)
 | []=>some ([],false)
 | x::xs=>match XS B V x,CG B V xs with
  | some (c,b),some (cs,b')=>some (c::cs,b || b')
  | _,_=>none
def lnd (B:List Box) (V:List Vec) (x:AV):Option (CV×Bool):=
 match x with
 | .fn f xs=>match CG B V xs with
  | some (cs,b)=>some (.fn f cs,b)
  | none=>none
 | x=>XS B V x
def aDm (B:List Box) (V:List Vec) (c:Sc) (x:AV):Option (List CV×Bool):=
 match c,x with
 | .one l,x=>match lnd B V x with
  | some (c,b)=>if l.ok c=true then some ([c],b) else none
  | none=>none
 | .agg ls,.agg xs=>match CG B V xs with
  | some (cs,b)=>if (oks ls cs 0&&ls.length == cs.length)=true then some (cs,b) else none
  | none=>none
 | _,_=>none
def fP (B:List Box) (V:List Vec):List Sc->List AV->Option (List CV×Bool)
 | [],[]=>some ([],false)
 | c::cs,x::xs=>match aDm B V c x,fP B V cs xs with
  | some (l,b),some (l',b')=>some (l++l',b || b')
  | _,_=>none
 | _,_=>none
section
variable {P:Program} [C:Co P] {m:Emb} {B:List Box} {V:List Vec} {B1:List Box} {V1:List Vec}
variable {x:AV}
theorem PC (hE:EmM m B V B1 V1) {c:CV} (h:fB V x=some c):fB V1 (x.cz m)=some c:=by
 unfold fB at h;split at h
 ·grind [AV.cz,fB]
 ·rename_i i g
  split at h
  ·rename_i v hv
   split at h
   ·rename_i hc
    simp at hc;obtain ⟨c1,rfl⟩:=hc;have h1:=hE.v i v hv (.inl c1);simp_all [AV.cz,fB,Vec.cz]
   grind
  grind
 grind
theorem AP (hE:EmM m B V B1 V1):∀ {xs:List AV} {cs:List CV},dR V xs=some cs->dR V1 (AV.czs m xs)=some cs
 | [],cs,h=>by grind [AV.czs,dR]
 | x::xs,cs,h=>by
  simp only [dR] at h;split at h
  ·rename_i c cs' h1 h2
   cases h;simp only [AV.czs,dR,PC hE h1,AP hE h2]
  ·cases h
theorem JF (hE:EmM m B V B1 V1) {c:CV} {b:Bool} (h:XS B V x=some (c,b)):AV.lend B1 V1 (x.cz m)=.cv c/\(b=false->x=.cv c):=by
 unfold XS at h;split at h
 ·grind [AV.cz,AV.lend]
 ·split at h
  ·rename_i c' hc
   have:=PC hE hc;grind [AV.cz,AV.lend]
  grind
 ·rename_i i
  split at h
  ·rename_i b' hb
   split at h
   ·rename_i cs hl bc
    cases h;obtain ⟨h1,_⟩:=hE.b i b' hb;simp [AV.cz,h1,Box.cz,hl,AP hE bc]
   grind
  grind
 grind
theorem xO (hE:EmM m B V B1 V1):∀ {xs:List AV} {cs:List CV} {b:Bool},CG B V xs=some (cs,b)->AV.lends B1 V1 (AV.czs m xs)=cs.map .cv/\(b=false->xs=cs.map .cv)
 | [],cs,b,h=>by grind [CG,AV.czs,AV.lends]
 | x::xs,cs,b,h=>by
  simp [CG] at h;split at h
  ·rename_i c b1 cs' b2 h1 h2
   obtain ⟨p1,p2⟩:=JF hE h1;obtain ⟨q1,q2⟩:=xO hE h2;grind [AV.czs,AV.lends]
  grind
theorem xP:∀ (cs:List CV),AV.closeds (cs.map .cv)=true
 | []=>rfl
 | c::cs=>by simp [xP cs]
theorem aEU (f:FuncId) (cs:List CV):AV.le (.fn f (cs.map .cv)) (.cv (.fn f cs)):=by
 intro e w ks v hv;obtain ⟨vs,h1,h2⟩:=hv;exact ⟨vs,by rw [VB] at h1;exact h1,jO h2⟩
variable {xs:List AV}
theorem aAP {p:List CV×Bool} (h:CG B V xs=some p):sS xs=false:=by
 match xs with
 | []=>rfl
 | .gd _ _::_=>grind [CG,XS]
 | .any::_=>rfl
 | .cv _::_=>rfl
 | .ptr _ _::_=>rfl
 | .own _ _::_=>rfl
 | .opt _ _ _ _::_=>rfl
 | .agg _::_=>rfl
 | .tup _::_=>rfl
 | .fn _ _::_=>rfl
theorem aAQ (hE:EmM m B V B1 V1) {c:CV} {b:Bool} (h:lnd B V x=some (c,b)):AV.le (AV.lend B1 V1 (x.cz m)) (.cv c)/\(b=false->AV.le (x.cz m) (.cv c)/\AV.closed (x.cz m)=true):=by
 unfold lnd at h;split at h
 ·rename_i f xs
  split at h
  ·rename_i cs b' h1
   cases h;obtain ⟨p1,p2⟩:=xO hE h1;have ia:=FA m (aAP h1);refine ⟨by simp [AV.cz,p1,ia];exact aEU f cs,fun hb=>?_⟩
   have:=p2 hb;subst this;have im:AV.czs m (cs.map .cv)=cs.map .cv:=by simp [AV.czs_eq,AV.cz]
   refine ⟨by simp [AV.cz,im];exact aEU f cs,?_⟩
   simp [AV.cz,im];exact xP cs
  grind
 ·obtain ⟨p1,p2⟩:=JF hE h
  refine ⟨by rw [p1];exact AV.le_refl _,fun hb=>?_⟩
  rw [p2 hb];exact ⟨by exact AV.le_refl _,by rfl⟩
theorem avs_cut:∀ (ls:List Lf) (vs vs':List CV) (k k':Nat),(∀ j,j<ls.length->vs.getD (k+j) dC=vs'.getD (k'+j) dC)->avs ls vs k=avs ls vs' k'
 | [],_,_,_,_,_=>rfl
 | l::ls,vs,vs',k,k',h=>by
  simp only [avs];rw [avs_cut ls vs vs' (k+1) (k'+1) (fun j hj=>by have:=h (j+1) (by simp;omega);grind)]
  have:=h 0 (by simp)
  grind
theorem Sc.av_cut (c:Sc) (vs vs':List CV) (k k':Nat) (h:∀ j,j<c.n->vs.getD (k+j) dC=vs'.getD (k'+j) dC):c.av vs k=c.av vs' k':=by
 cases c with
 | one l=>simp_all [Sc.n,Sc.av]
 | agg ls=>simp [Sc.av];rw [avs_cut ls vs vs' k k' h]
theorem Sc.avs_cut:∀ (cs:List Sc) (vs vs':List CV) (k k':Nat),(∀ j,vs.getD (k+j) dC=vs'.getD (k'+j) dC)->Sc.avs cs vs k=Sc.avs cs vs' k'
 | [],_,_,_,_,_=>rfl
 | c::cs,vs,vs',k,k',h=>by
  simp only [Sc.avs];rw [Sc.av_cut c vs vs' k k' fun j _=>h j,Sc.avs_cut cs vs vs' (k+c.n) (k'+c.n) fun j=>by have:=h (c.n+j);rw [show k+c.n+j=k+(c.n+j) by omega,show k'+c.n+j=k'+(c.n+j) by omega];exact this]
theorem XT (hE:EmM m B V B1 V1) {c:Sc} {l:List CV} {b:Bool} (h:aDm B V c x=some (l,b)) :
  l.length=c.n/\AV.le (AV.lend B1 V1 (x.cz m)) (c.av l 0)/\(b=false->AV.le (x.cz m) (c.av l 0)/\AV.closed (x.cz m)=true):=by
 unfold aDm at h;split at h
 ·split at h
  ·rename_i c' b' h1
   split at h
   ·rename_i bg
    cases h;obtain ⟨p1,p2⟩:=aAQ hE h1;have bt:=Lf.le bg;exact ⟨rfl,fun e w ks v hv=>bt _ _ _ _ (p1 _ _ _ _ hv),fun hb=>⟨fun e w ks v hv=>bt _ _ _ _ ((p2 hb).1 _ _ _ _ hv),(p2 hb).2⟩⟩
   grind
  grind
 ·split at h
  ·rename_i cs b' h1
   split at h
   ·rename_i bg
    cases h;simp at bg;obtain ⟨p1,p2⟩:=xO hE h1;have bt:=DN bg.1;simp [bg.2] at bt;refine ⟨by grind [Sc.n],?_,fun hb=>?_⟩
    ·simp [AV.cz,p1]
     exact AV.le_agg bt
    ·have:=p2 hb
     subst this;have im:AV.czs m (l.map .cv)=l.map .cv:=by simp [AV.czs_eq,AV.cz]
     simp [AV.cz,im];exact ⟨AV.le_agg bt,xP l⟩
   grind
  grind
 grind
theorem dY (hE:EmM m B V B1 V1):∀ {cs:List Sc} {xs:List AV} {l:List CV} {b:Bool},fP B V cs xs=some (l,b) ->
  AV.les (AV.lends B1 V1 (AV.czs m xs)) (Sc.avs cs l 0)/\(b=false->AV.les (AV.czs m xs) (Sc.avs cs l 0)/\AV.closeds (AV.czs m xs)=true)
 | [],[],l,b,h=>by
  exact ⟨.nil,fun _=>⟨.nil,rfl⟩⟩
 | c::cs,x::xs,l,b,h=>by
  simp [fP] at h;split at h
  ·rename_i l1 b1 l2 b2 h1 h2
   cases h;obtain ⟨p0,p1,p2⟩:=XT hE h1;obtain ⟨q1,q2⟩:=dY hE h2;have e1:c.av (l1++l2) 0=c.av l1 0:=Sc.av_cut c _ _ 0 0 fun j hj=>by grind
   have e2:Sc.avs cs (l1++l2) (0+c.n)=Sc.avs cs l2 0:=Sc.avs_cut cs _ _ _ _ fun j=>by grind
   simp only [AV.czs,AV.lends,Sc.avs,e1,e2];refine ⟨.cons p1 q1,fun hb=>?_⟩
   simp at hb;exact ⟨.cons (p2 hb.1).1 (q2 hb.2).1,by simp_all⟩
  grind
 | [],_::_,_,_,h=>by grind [fP]
 | _::_,[],_,_,h=>by grind [fP]
variable {f:FuncId}
theorem CallP.args {as as':List AV} {B:List Box} {V:List Vec} {K:AV->List Box->List Vec->Prop} (h:CallP P f as' B V K) (bt:AV.les as as') (hs:AV.scos B.length (vers V) as'):CallP P f as B V K:=
 fun F n hF am n0 w0 e w vs hm hv _=>h F n hF am n0 w0 e w vs hm (bt.all hv) hs
theorem avs_closed:∀ (ls:List Lf) (vs:List CV) (k:Nat),AV.closeds (avs ls vs k)=true
 | [],_,_=>rfl
 | l::ls,vs,k=>by
  obtain ⟨d,hd⟩:=l.av_cv (vs.getD k dC);simp only [avs,AV.closeds,hd,AV.closed,avs_closed ls vs (k+1),Bool.and_self]
theorem Sc.av_closed (c:Sc) (vs:List CV) (k:Nat):AV.closed (c.av vs k)=true:=by
 cases c with
 | one l=>obtain ⟨d,hd⟩:=l.av_cv (vs.getD k dC);grind [Sc.av,AV.closed]
 | agg ls=>exact avs_closed ls vs k
theorem Sc.avs_closed:∀ (cs:List Sc) (vs:List CV) (k:Nat),AV.closeds (Sc.avs cs vs k)=true
 | [],_,_=>rfl
 | c::cs,vs,k=>by simp [Sc.avs,AV.closeds,Sc.av_closed,Sc.avs_closed cs vs (k+c.n)]
theorem Sc.res_closed (cs:List Sc) (vs:List CV):AV.closed (Sc.res cs vs)=true:=by
 unfold Sc.res;split
 ·exact Sc.av_closed _ _ _
 ·exact Sc.avs_closed _ _ _
theorem avs_pl (ls:List Lf) (vs:List CV):∀ (k:Nat) (m:Emb) (nb nv:Nat),AV.czs m (avs ls vs k)=avs ls vs k/\AV.inns nb nv (avs ls vs k)=true:=by
 induction ls with
 | nil=>intro k m nb nv;exact ⟨by rfl,rfl⟩
 | cons l ls ih =>
  intro k m nb nv;obtain ⟨d,hd⟩:=l.av_cv (vs.getD k dC);obtain ⟨h1,h2⟩:=ih (k+1) m nb nv;grind [avs,AV.czs,AV.cz,AV.inns,AV.inn]
theorem Sc.av_pl (c:Sc) (vs:List CV) (k:Nat) (m:Emb) (nb nv:Nat):(c.av vs k).cz m=c.av vs k/\AV.inn nb nv (c.av vs k)=true:=by
 cases c with
 | one l=>obtain ⟨d,hd⟩:=l.av_cv (vs.getD k dC);simp only [Sc.av,hd];exact ⟨by rfl,rfl⟩
 | agg ls =>
  obtain ⟨h1,h2⟩:=avs_pl ls vs k m nb nv;grind [Sc.av,AV.cz,AV.inn]
theorem Sc.avs_pl:∀ (cs:List Sc) (vs:List CV) (k:Nat) (m:Emb) (nb nv:Nat),AV.czs m (Sc.avs cs vs k)=Sc.avs cs vs k/\AV.inns nb nv (Sc.avs cs vs k)=true
 | [],vs,k,m,nb,nv=>⟨by rfl,rfl⟩
 | c::cs,vs,k,m,nb,nv=>by
  obtain ⟨h1,h2⟩:=Sc.av_pl c vs k m nb nv;obtain ⟨h3,h4⟩:=Sc.avs_pl cs vs (k+c.n) m nb nv;grind [Sc.avs,AV.czs,AV.inns]
theorem Sc.res_pl (cs:List Sc) (vs:List CV) (m:Emb) (nb nv:Nat):(Sc.res cs vs).cz m=Sc.res cs vs/\AV.inn nb nv (Sc.res cs vs)=true:=by
 unfold Sc.res;split
 ·exact Sc.av_pl _ _ _ _ _ _
 ·obtain ⟨h1,h2⟩:=Sc.avs_pl cs vs 0 m nb nv
  grind [AV.cz,AV.inn]
theorem JG:∀ (ls:List Lf) (vs:List CV) (k:Nat),ls.all Lf.scalar=true->AV.flats (avs ls vs k)=true
 | [],_,_,_=>rfl
 | l::ls,vs,k,h=>by
  simp only [List.all_cons,Bool.and_eq_true] at h;simp [avs,JG ls vs (k+1) h.2];cases l <;> simp [Lf.scalar] at h <;> simp [Lf.av,AV.flat,CV.flat]
theorem Sc.flat_av {c:Sc} (vs:List CV) (k:Nat) (h:c.flat=true):AV.flat (c.av vs k)=true:=by
 cases c with
 | one l=>cases l <;> simp [Sc.flat,Lf.scalar] at h <;> simp [Sc.av,Lf.av,AV.flat,CV.flat]
 | agg ls=>exact JG ls vs k h
theorem Sc.flat_avs:∀ (cs:List Sc) (vs:List CV) (k:Nat),cs.all Sc.flat=true->AV.flats (Sc.avs cs vs k)=true
 | [],_,_,_=>rfl
 | c::cs,vs,k,h=>by
  simp_all [List.all_cons,Bool.and_eq_true,Sc.avs,AV.flats,Sc.flat_av,Sc.flat_avs]
theorem Sc.flat_res {cs:List Sc} (vs:List CV) (h:cs.all Sc.flat=true):AV.flat (Sc.res cs vs)=true:=by
 unfold Sc.res;split
 ·simp at h;exact Sc.flat_av vs 0 h
 ·exact Sc.flat_avs _ vs 0 h
def Lf.avF (l:Lf) (c:CV):AV:=if l.scalar=true then l.av c else .any
def avsF:List Lf->List CV->Nat->List AV
 | [],_,_=>[]
 | l::ls,cs,o=>l.avF (cs.getD o dC)::avsF ls cs (o+1)
def Sc.avF:Sc->List CV->Nat->AV
 | .one l,vs,k=>l.avF (vs.getD k dC)
 | .agg ls,vs,k=>.agg (avsF ls vs k)
def Sc.avsF:List Sc->List CV->Nat->List AV
 | [],_,_=>[]
 | c::cs,vs,k=>c.avF vs k::Sc.avsF cs vs (k+c.n)
def Sc.resF:List Sc->List CV->AV
 | [c],vs=>c.avF vs 0
 | cs,vs=>.tup (Sc.avsF cs vs 0)
theorem Lf.avF_le (l:Lf) (c:CV):AV.le (l.av c) (l.avF c):=by
 unfold Lf.avF;split
 ·exact AV.le_refl _
 ·exact AV.le_any _
theorem Lf.avF_flat (l:Lf) (c:CV):AV.flat (l.avF c)=true/\AV.closed (l.avF c)=true/\(∀ m,(l.avF c).cz m=l.avF c)/\(∀ nb nv,AV.inn nb nv (l.avF c)=true):=by
 unfold Lf.avF;split
 ·rename_i h
  cases l <;> simp [Lf.scalar] at h <;> simp [Lf.av,AV.flat,CV.flat,AV.closed,AV.cz,AV.inn]
 ·simp [AV.cz,AV.inn]
theorem avsF_le:∀ (ls:List Lf) (cs:List CV) (o:Nat),AV.les (avs ls cs o) (avsF ls cs o)
 | [],_,_=>.nil
 | _::ls,cs,o=>.cons (Lf.avF_le _ _) (avsF_le ls cs (o+1))
theorem avsF_flat:∀ (ls:List Lf) (cs:List CV) (o:Nat),AV.flats (avsF ls cs o)=true/\AV.closeds (avsF ls cs o)=true/\(∀ m,AV.czs m (avsF ls cs o)=avsF ls cs o)/\(∀ nb nv,AV.inns nb nv (avsF ls cs o)=true)
 | [],_,_=>⟨rfl,rfl,fun _=>rfl,fun _ _=>rfl⟩
 | l::ls,cs,o=>by
  obtain ⟨h1,h2,h3,h4⟩:=Lf.avF_flat l (cs.getD o dC);obtain ⟨q1,q2,q3,q4⟩:=avsF_flat ls cs (o+1);simp_all [avsF,AV.czs,AV.inns]
theorem Sc.avF_le (c:Sc) (vs:List CV) (k:Nat):AV.le (c.av vs k) (c.avF vs k):=by
 cases c with
 | one l=>exact Lf.avF_le _ _
 | agg ls=>exact AV.le_agg (avsF_le ls vs k)
theorem Sc.avF_flat (c:Sc) (vs:List CV) (k:Nat):AV.flat (c.avF vs k)=true/\AV.closed (c.avF vs k)=true/\(∀ m,(c.avF vs k).cz m=c.avF vs k)/\(∀ nb nv,AV.inn nb nv (c.avF vs k)=true):=by
 cases c with
 | one l=>exact Lf.avF_flat _ _
 | agg ls =>
  obtain ⟨h1,h2,h3,h4⟩:=avsF_flat ls vs k;simp_all [Sc.avF,AV.cz,AV.inn]
theorem Sc.avsF_le:∀ (cs:List Sc) (vs:List CV) (k:Nat),AV.les (Sc.avs cs vs k) (Sc.avsF cs vs k)
 | [],_,_=>.nil
 | c::cs,vs,k=>.cons (Sc.avF_le c vs k) (Sc.avsF_le cs vs (k+c.n))
theorem Sc.avsF_flat:∀ (cs:List Sc) (vs:List CV) (k:Nat),AV.flats (Sc.avsF cs vs k)=true/\AV.closeds (Sc.avsF cs vs k)=true/\(∀ m,AV.czs m (Sc.avsF cs vs k)=Sc.avsF cs vs k)/\(∀ nb nv,AV.inns nb nv (Sc.avsF cs vs k)=true)
 | [],_,_=>⟨rfl,rfl,fun _=>rfl,fun _ _=>rfl⟩
 | c::cs,vs,k=>by
  obtain ⟨h1,h2,h3,h4⟩:=Sc.avF_flat c vs k;obtain ⟨q1,q2,q3,q4⟩:=Sc.avsF_flat cs vs (k+c.n);simp_all [Sc.avsF,AV.czs,AV.inns]
theorem AV.le_tup {ys:List AV} (h:AV.les xs ys):AV.le (.tup xs) (.tup ys):=by
 intro e w ks v hv;obtain ⟨vs,h1,h2⟩:=hv;exact ⟨vs,h1,h.all h2⟩
theorem Sc.resF_le (cs:List Sc) (vs:List CV):AV.le (Sc.res cs vs) (Sc.resF cs vs):=by
 match cs with
 | [c]=>exact Sc.avF_le c vs 0
 | []=>exact AV.le_tup (Sc.avsF_le _ vs 0)
 | _::_::_=>exact AV.le_tup (Sc.avsF_le _ vs 0)
theorem Sc.resF_flat (cs:List Sc) (vs:List CV):AV.flat (Sc.resF cs vs)=true/\AV.closed (Sc.resF cs vs)=true/\(∀ m,(Sc.resF cs vs).cz m=Sc.resF cs vs)/\(∀ nb nv,AV.inn nb nv (Sc.resF cs vs)=true):=by
 match cs with
 | [c]=>exact Sc.avF_flat c vs 0
 | []=>exact ⟨rfl,rfl,fun _=>by rfl,fun _ _=>rfl⟩
 | c1::c2::r =>
  obtain ⟨q1,q2,q3,q4⟩:=Sc.avsF_flat (c1::c2::r) vs 0;simp_all [Sc.resF,AV.cz,AV.inn]
theorem SpecR.weak {P:Program} [Co P] {args:List AV} {r r':AV} (h:SpecR P f args r) (bt:AV.le r r') (hc:AV.closed r'=true):SpecR P f args r':=by
 intro F n hF am n0 w0 e w vs hm hv hs;refine CallsCo.mono (h F n hF am n0 w0 e w vs hm hv hs) ?_;rintro en w' ⟨e',B',V',r0,v,rfl,⟨rfl,rfl,rfl⟩,h1,h2,h3,h4⟩;exact ⟨e',[],[],r',v,rfl,⟨rfl,rfl,rfl⟩,h1,h2,bt _ _ _ _ h3,AV.sco_closed _ _ _ hc⟩
def sT (P:Program) [Co P] (f:FuncId) (args:List AV) (T:TypeId) (k:Nat) (es:List (List CV)):Prop:=
 CallPc P f args fun r _ V=>∃ i v,r=.own i v.ver/\V[i]? = some v/\v.live=true/\v.T=T/\v.k=k/\v.es=es
def aGT (P:Program) [Co P] (f:FuncId) (T:TypeId) (k by_:Nat):Prop:=
 ∀ (B:List Box) (V:List Vec) (i:Nat) (v:Vec) (n:Int) (x:List CV),V[i]? = some v->v.sl=true->v.T=T->v.k=k->0<=n->n<=v.es.length->bL v.es.length 1 by_=true->x.length=k ->
  CallP P f [.own i v.ver,.cv (.val (.int .i64 n)),.cv (.row k [x])] B V fun r B' V'=>r=.own i (v.ver+1)/\B'=B/\V'=V.set i ⟨v.live,v.T,v.k,v.ver+1,v.es.take n.toNat++x::v.es.drop n.toNat⟩
def AQ (P:Program) [Co P] (f:FuncId) (T:TypeId) (k:Nat) (cs:List CV) (es es':List (List CV)) (hdr:Bool):Prop:=
 ∀ (B:List Box) (V:List Vec) (i:Nat) (v:Vec),V[i]? = some v->v.sl=true->v.T=T->v.k=k->v.es=es ->
  CallP P f (.own i v.ver::cs.map .cv) B V fun r B' V'=>r=(if hdr then .own i (v.ver+1) else .tup [])/\B'=B/\V'=V.set i ⟨v.live,v.T,v.k,if hdr then v.ver+1 else v.ver,es'⟩
def CX (T:TypeId) (fs:List FuncId) (cs:List AV):Box:=⟨true,T,fs.map fun g=>.fn g [.gd [false] .any,.agg cs]⟩
def XU (P:Program) [Co P] (f:FuncId) (T:TypeId) (fs:List FuncId):Prop:=
 ∀ (a b c:AV) (B:List Box) (V:List Vec),[a,b,c].all AV.one=true->CallP P f [.agg [a,b,c]] B V fun r B' V'=>r=.slb fs.length B.length 0/\B'=B++[CX T fs [a,b,c]]/\V'=V
def aFv:Nat:=1000000000
structure Fns (P:Program) [Co P] (sg:FuncId->Option Sig) (M:Den):Prop where
 own:∀ f vs k es T,sg f=none->M f vs=some [.row k es,.fn T []]->dS P f=true/\sT P f (vs.map .cv) T k es
 mtt:∀ f T k cs es es' hdr,sg f=none->M f (.row k es::.fn T []::cs)=some [.row k es',.val (.bool hdr)]->dS P f=true/\AQ P f T k cs es es' hdr
 way:∀ f T fs,sg f=none->M f (.fn T []::fs.map fun g=>.fn g [])=some [.fn 0 []]->dS P f=true/\XU P f T fs
 ent:∀ f g,sg f=some g->dS P f=true
 spec:∀ f g vs out,sg f=some g->M f vs=some out->SpecR P f (Sc.avs g.ps vs 0) (Sc.res g.rs out)
variable {sg:FuncId->Option Sig} {M:Den}
theorem JH (hM:Fns P sg M) (hE:EmM m B V B1 V1) {g:Sig} {l:List CV} {b:Bool} {out:List CV} (hs:sg f=some g) (hl:fP B V g.ps xs=some (l,b)) (ho:M f l=some out)
  (eh:b=false\/g.rs.all Sc.flat=true):CallP P f (AV.czs m xs) B1 V1 fun r B' V'=>r=Sc.res g.rs out/\B'=B1/\V'=V1:=by
 have h:=hM.spec f g l out hs ho;obtain ⟨p1,p2⟩:=dY hE hl;have bw:=Sc.avs_closed g.ps l 0;have xi:=Sc.res_closed g.rs out;cases b with
 | false=>exact CallP.args (SpecR.frame h bw xi B1 V1) (p2 rfl).1 (AV.scos_closed _ _ _ bw)
 | true =>
  have uv:g.rs.all Sc.flat=true:=eh.elim (fun h=>by cases h) id
  have h2:SpecR P f (AV.lends B1 V1 (AV.czs m xs)) (Sc.res g.rs out):=CallP.args h p1 (AV.scos_closed _ _ _ bw);exact SpecR.lent h2 rfl xi (Sc.flat_res out uv)
end
section
variable {P:Program} [C:Co P] {T:TypeId} {mi:MI}
section
variable {w:World} {b c:Nat} {arr:Array MapEntry} {es:List (List CV)} {cs:List CV} {d:CV}
end
end
section
variable {P:Program} [C:Co P] {T:TypeId} {mi:MI}
end
section
variable {P:Program} [C:Co P] {T:TypeId} {mi:MI}
end
section
variable {P:Program} [C:Co P] {T:TypeId}
variable {e' k by_:Nat} {z:List Value}
theorem JI {k1 k2:IntKind} {l c:Int} {s:Nat} {te:TI}
  (ai:aZ P T=some ⟨s,z,.slc e' k by_⟩) (cy:k≠0) (d7:aZ P e'=some te) (eu:te.zero.length=k) (f9:te.zero.all Value.oneCell'=true) (h0:0<=l) (h1:l<=c) (h2:c.toNat*by_<=140737488355328) (h3:c.toNat<=maxLen)
  {w:World} {n0:Nat} (iF:n0<=w.heap.size) (S:Nat->Prop) :
  ∃ vout:Array Value,(Instr.makeSlice T (.int k1 l) (.int k2 c)).run P w=.ok (.slice (some ⟨w.heap.size,0,none⟩) l.toNat c.toNat) (w.alloc (.cells vout e')) /\
   OwnsV (w.alloc (.cells vout e')) n0 e' k (.slice (some ⟨w.heap.size,0,none⟩) l.toNat c.toNat) (List.replicate l.toNat (te.zero.map CV.val)).length (iR te.zero l.toNat) /\
   CV.vals w S (List.replicate l.toNat (te.zero.map CV.val)).flatten (iR te.zero l.toNat)/\(∀ y∈List.replicate l.toNat (te.zero.map CV.val),y.length=k) /\
   ∀ g,aY (.slice (some ⟨w.heap.size,0,none⟩) l.toNat c.toNat)=some g->w.heap.size<=g:=by
 obtain ⟨hT,Bc,xc⟩:=cZ ai;have an:=eJ ai;obtain ⟨i,d,i1,i2,i3,i4,i5⟩:=fA d7
 obtain ⟨zv,Be,xg⟩:∃ zv,i.zero=some zv/\zv.cells.toList=te.zero:=by
  grind
 have cn:i.size=k:=by grind [Program.cellsOf]
 have jf:i.bytes=by_:=by grind [Program.bytesOf]
 have ag:=run_make (P:=P) w T e' i zv hT i1 Be k1 k2 l c h0 h1 (by
  grind) (by grind [maxLen])
 have bc:zv.cells.size=k:=by grind
 have ce:(madeCells zv.cells (c.toNat*i.size)).toList=iR te.zero c.toNat:=by
  rw [cn,<- xg];rw [show c.toNat*k=c.toNat*zv.cells.size by rw [bc]]
  exact rS zv.cells (by omega) c.toNat
 have Cz:l.toNat<=c.toNat:=by omega
 have xz:(iR te.zero c.toNat).take (l.toNat*k)=iR te.zero l.toNat:=by
  have uh:∀ (a b:Nat),iR te.zero (a+b)=iR te.zero a++iR te.zero b:=by
   intro a b
   induction a with
   | zero=>simp
   | succ a ih=>grind [iR]
  obtain ⟨r,ba⟩:∃ r,c.toNat=l.toNat+r:=⟨c.toNat - l.toNat,by omega⟩
  rw [ba,uh];grind [lR]
 have C0:CV.vals w S (te.zero.map CV.val) te.zero:=by
  have:∀ (l:List Value),l.all Value.oneCell'=true->CV.vals w S (l.map CV.val) l:=by
   intro l
   induction l with
   | nil=>grind [CV.vals]
   | cons y l ih =>
    grind [CV.vals,CV.holds]
  grind
 have bj:∀ m,CV.vals w S (List.replicate m (te.zero.map CV.val)).flatten (iR te.zero m):=by
  intro m
  induction m with
  | zero=>simp [CV.vals]
  | succ m ih=>exact CV.vals.append C0 ih
 have aj:(w.alloc (.cells (madeCells zv.cells (c.toNat*i.size)) e')).heap[w.heap.size]? = some (.cells (madeCells zv.cells (c.toNat*i.size)) e' (0,0)):=World.alloc_heap_new w _;have ak:(iR te.zero l.toNat).length=l.toNat*k:=by rw [lR,eu]
 have au:OwnsS (w.alloc (.cells (madeCells zv.cells (c.toNat*i.size)) e')) n0 e' k (.slice (some ⟨w.heap.size,0,none⟩) l.toNat c.toNat) l.toNat (iR te.zero l.toNat):=by
  by_cases yk:c.toNat=0
  ·have mu:l.toNat=0:=by omega
   left;refine ⟨_,by rw [yk,mu],mu,by rw [mu];rfl⟩
  ·right
   refine ⟨⟨ak,.inr ⟨w.heap.size,c.toNat,_,rfl,iF,aj,Cz,h3,?_,?_⟩⟩,w.heap.size,?_,rfl⟩
   ·rw [size_madeCells,cn]
   ·grind
   ·obtain ⟨c',gc⟩:∃ c',c.toNat=c'+1:=⟨c.toNat - 1,by omega⟩
    rw [gc];rfl
 refine ⟨_,ag,.inl ⟨an,by grind⟩,bj _,by grind,fun g hg=>?_⟩
 have:g=w.heap.size:=by
  cases hc:c.toNat with
  | zero=>rw [hc] at hg;simp [aY] at hg
  | succ q=>grind [aY]
 omega
theorem SH {o:Oper} {st:St} {x y:Operand} {k1 k2:IntKind} {l c:Int} {s:Nat} {te:TI} (aa:o.op=.makeSlice T x y) (hx:st.ev x=.cv (.val (.int k1 l))) (hy:st.ev y=.cv (.val (.int k2 c)))
  (ai:aZ P T=some ⟨s,z,.slc e' k by_⟩) (cy:k≠0) (d7:aZ P e'=some te) (eu:te.zero.length=k) (f9:te.zero.all Value.oneCell'=true) (h0:0<=l) (h1:l<=c) (h2:c.toNat*by_<=140737488355328) (h3:c.toNat<=maxLen) :
  Step P o st (.own st.V.length 0) st.B (st.V++[⟨true,e',k,0,List.replicate l.toNat (te.zero.map .val)⟩]):=by
 intro n0 w0 e a w hr;have cr:=(hr.ev x).1;rw [hx] at cr;have ju:=(hr.ev y).1;rw [hy] at ju;obtain ⟨vout,ag,r1,r2,r3,r4⟩:=JI (k1:=k1) (k2:=k2) ai cy d7 eu f9 h0 h1 h2 h3 hr.mem.base e.S
 obtain ⟨e1,b1,b2,b3,_⟩:=hr.mem.newVec (w':=w.alloc (.cells vout e')) e' k (.slice (some ⟨w.heap.size,0,none⟩) l.toNat c.toNat) (List.replicate l.toNat (te.zero.map .val)) (iR te.zero l.toNat)
  r1 r2 r3 (World.grownBy_alloc _ _ _) r4
 refine ⟨.value (.slice (some ⟨w.heap.size,0,none⟩) l.toNat c.toNat),.slice (some ⟨w.heap.size,0,none⟩) l.toNat c.toNat,_,e1,?_,.inl rfl,b1,b2,by simp [AV.holds,b3],by simp⟩
 simp [execOp,aa,cr.1,ju.1,ag]
theorem FC {w:World} {S:Nat->Prop} {k:Nat}:∀ {es:List (List CV)} {b o:Nat},CV.rows w S k es b o->∃ news,CV.vals w S es.flatten news/\(∀ l∈es,l.length=k)/\∀ j u,news[j]? = some u->w.cell? ⟨b,o+j,none⟩=some u
 | [],b,o,_=>⟨[],by simp [CV.vals],by simp,by simp⟩
 | l::es,b,o,bj=>by
  obtain ⟨r1,r2,r3⟩:=bj;obtain ⟨vs1,c1,c2,c3⟩:=r2.vals;obtain ⟨vs2,d1,d2,d3⟩:=FC r3;refine ⟨vs1++vs2,by simpa using c1.append d1,fun m hm=>(List.mem_cons.1 hm).elim (fun h=>h▸r1) (d2 m),?_⟩
  grind
theorem qX {k:Nat}:∀ {l:List (List CV)},(∀ m∈l,m.length=k)->l.flatten.length=l.length*k
 | [],_=>by simp
 | m::l,hl=>by simp [hl m (by simp),qX (l:=l) (fun q hq=>hl q (by simp [hq])),Nat.add_mul];omega
theorem XV {o:Oper} {st:St} {x y:Operand} {T':TypeId} {i u s:Nat} {v:Vec} {es:List (List CV)} (aa:o.op=.call { callee:=.builtin .copy,args:=#[x,y],argTypes:=#[T,T'] }) (hx:st.ev x=.own i u) (hy:st.ev y=.cv (.row k es))
  (hv:st.V[i]? = some v) (dg:v.sl=true) (hu:v.ver=u) (ai:aZ P T=some ⟨s,z,.slc e' k by_⟩) (hk:k=v.k) (cy:k≠0) (bt:es.length<=v.es.length) :
  Step P o st (.cv (.val (.int .i64 es.length))) st.B (st.V.set i { v with es:=es++v.es.drop es.length }):=by
 intro n0 w0 e a w hr;obtain ⟨hT,Bc,xc⟩:=cZ ai;have ym:P.cellsOf e'≠0:=by omega
 have hl:=Vec.sl_live dg;obtain ⟨xs,q1',q2,q3⟩:=hr.mem.vec i v hv hl;have q1:=q1'.s (Vec.sl_T dg);have cr:=(hr.ev x).1;rw [hx] at cr;simp [AV.holds] at cr;have ju:=(hr.ev y).1;rw [hy] at ju;obtain ⟨ao,cap,nh,Jh,fq,b8⟩:=ju;have cn:=aS (P:=P) ym;obtain ⟨ad,c,hs,Nj,Nk⟩:=q1.slice
 have fin:∀ (w':World),(execOp a.eval o).run P w=.ok (.value (goInt es.length)) w'->Mem n0 w0 e st.B (st.V.set i { v with es:=es++v.es.drop es.length }) w'->Ext e w st.B.length (vers st.V) (kss st.V) e w' st.B.length (vers (st.V.set i { v with es:=es++v.es.drop es.length })) (kss (st.V.set i { v with es:=es++v.es.drop es.length })) ->
   ∃ nx v' w' e',(execOp a.eval o).run P w=.ok nx w'/\(nx=.value v'\/(nx=.skip/\v'=undef))/\Mem n0 w0 e' st.B (st.V.set i { v with es:=es++v.es.drop es.length }) w'/\cL e st w e' st.B (st.V.set i { v with es:=es++v.es.drop es.length }) w'/\AV.holds e' w' (kss (st.V.set i { v with es:=es++v.es.drop es.length })) (.cv (.val (.int .i64 es.length))) v'/\AV.sco st.B.length (vers (st.V.set i { v with es:=es++v.es.drop es.length })) (.cv (.val (.int .i64 es.length))):=
  fun w' h1 h2 h3=>⟨_,_,w',e,h1,.inl rfl,h2,h3,by simp [AV.holds,CV.holds,goInt],by simp⟩
 by_cases G9:es=[]
 ·subst G9
  have jv:st.V.set i { v with es:=[]++v.es.drop ([]:List (List CV)).length }=st.V:=by
   refine List.ext_getElem? fun j=>?_
   rw [List.getElem?_set];split
   ·rename_i hj;subst hj;rw [hv,if_pos (List.getElem?_eq_some_iff.1 hv).1];simp
   ·rfl
  have ag:(execOp a.eval o).run P w=.ok (.value (goInt ([]:List (List CV)).length)) w:=by
   have:(Builtin.copy_ #[T,T'] o.type #[.slice ad v.es.length c,.slice ao 0 cap]).run P w=.ok (goInt 0) w:=by
    cases ad <;> cases ao <;> simp [Builtin.copy_,run_underlying hT,Builtin.lenOf,Builtin.firstCells,cn,storeCells,loadCells,loadCellsFrom]
   simp_all [execOp,resolve,invoke,builtin]
  refine fin w ag ?_ ?_
  ·rw [jv];exact hr.mem
  ·rw [jv];exact Ext.refl _ _ _ _ _
 ·obtain ⟨b,off,rfl,hS,bj⟩:∃ b off,ao=some ⟨b,off,none⟩/\e.S b/\CV.rows w e.S k es b off:=by
   grind
  obtain ⟨news,d1,d2,d3⟩:=FC bj;have uk:news.length=es.length*k:=by rw [d1.length];exact qX d2
  have bY:0<es.length:=List.length_pos_iff.2 G9;have bh:0+news.length<=v.es.length*v.k:=by rw [uk,hk];have:=Nat.mul_le_mul_right v.k bt;omega
  obtain ⟨g,cap',hg,k9,w',ax,au,sq⟩:=q1.store (P:=P) (Vec.sl_T dg) bh (by omega) d1.one
  rw [hs] at k9;have l9:=run_loadCells_list (P:=P) w ⟨b,off,none⟩ news (fun j u hj=>by grind [addr_add])
  have ag:(execOp a.eval o).run P w=.ok (.value (goInt es.length)) w':=by
   have:(Builtin.copy_ #[T,T'] o.type #[.slice (some ⟨g,0,none⟩) v.es.length c,.slice (some ⟨b,off,none⟩) es.length cap]).run P w=.ok (goInt es.length) w':=by
    simp_all [Builtin.copy_,run_underlying,Builtin.lenOf,Builtin.firstCells]
   simp_all [execOp,resolve,invoke,builtin]
  have bu:CV.vals w e.S (es++v.es.drop es.length).flatten (xs.take 0++news++xs.drop (0+news.length)):=by
   rw [List.flatten_append];simp;refine d1.append ?_;have jq:v.es.flatten=(v.es.take es.length).flatten++(v.es.drop es.length).flatten:=by rw [<- List.flatten_append,List.take_append_drop]
   rw [jq] at q2;have:=(eI q2).2;grind [qX,List.mem_of_mem_take,List.length_take,Nat.min_eq_left]
  obtain ⟨m1,m2⟩:=hr.mem.vecSet hv hl (es++v.es.drop es.length) _ (by
   have:(es++v.es.drop es.length).length=v.es.length:=by grind
   rw [this];omega) bu (by
    grind) (by grind)
  grind
end
open Classical in
noncomputable def eqO (a b:Option Ou):Option Ou:=if a=b then b else none
theorem PD {a b:Option Ou} {r:Ou} (h:eqO a b=some r):a=some r/\b=some r:=by
 unfold eqO at h;grind
noncomputable def xQ (es:List (List CV)) (kt kf:Option Ou):Option Ou:=
 match es with
 | []=>eqO kt kf
 | _::_=>kf
theorem JJ {es:List (List CV)} {kt kf:Option Ou} {r:Ou} (h:xQ es kt kf=some r):kf=some r/\(es=[]->kt=some r):=by
 unfold xQ at h;split at h
 ·exact ⟨(PD h).2,fun _=>(PD h).1⟩
 grind
def aA (x:Option (List CV)) (K:List CV->Option Ou):Option Ou:=match x with
 | some out=>K out
 | none=>none
theorem dK {x:Option (List CV)} {K:List CV->Option Ou} {r:Ou} (h:aA x K=some r):∃ out,x=some out/\K out=some r:=by
 cases x with
 | none=>cases h
 | some out=>exact ⟨out,rfl,h⟩
def scT (P:Program) (T:TypeId):Sc:=match P.underlying T with
 | some (.struct _)=>.agg (lfT P 20 T)
 | some (.array _ _)=>.agg (lfT P 20 T)
 | some (.slice e)=>.one (.row (P.cellsOf e))
 | some .bool=>.one .bool
 | some (.int k)=>.one (.int k)
 | some (.pointer _)=>.one .ref
 | _=>.one .raw
def rsT (P:Program) (T:TypeId):List Sc:=match P.underlying T with
 | some (.tuple ts)=>ts.toList.map (scT P)
 | _=>[scT P T]
def cM (lk:Lk) (d:Option Nat):Bool:=match d with
 | some d=>!lk.t.contains d
 | none=>true
def SS.set (s:SS) (d:Nat) (x:AV):SS:=⟨s.n,(d,x)::s.t,s.B,s.V⟩
def unA:AV:=.gd [false] .any
section
variable (P:Program) (sg:FuncId->Option Sig) (M:Den)
def DP (dr:Bool) (B:List Box) (V:List Vec) (f:FuncId) (as:List AV) (K:AV->Option Ou):Option Ou:=
 match sg f with
 | none=>none
 | some g=>match fP B V g.ps as with
  | none=>none
  | some (l,b)=>if (!b || (!dr&&g.rs.all Sc.flat))=true then aA (M f l) fun out=>K (Sc.res g.rs out) else if (!dr)=true then aA (M f l) fun out=>K (Sc.resF g.rs out) else none
def ME (dr:Bool) (s:SS) (x:Operand) (args:List Operand) (ats:List TypeId) (T:TypeId) (K:AV->Option Ou):Option Ou:=
 match x with
 | .func f=>DP sg M dr s.B s.V f (args.map s.ev) K
 | x=>match s.ev x with
  | .fn f caps=>if sS caps=true then none else DP sg M dr s.B s.V f (args.map s.ev++caps) K
  | .cv c=>match fP s.B s.V (ats.map (scT P)) (args.map s.ev) with
   | some (l,b)=>if (!b || (!dr&&(rsT P T).all Sc.flat))=true then aA (bN sg M c l (ats.map (scT P)) (rsT P T)) fun out=>K (Sc.res (rsT P T) out) else none
   | none=>none
  | _=>none
def aAR (s:SS) (T:TypeId) (x y:Operand):Option (List (List CV)):=
 match aZ P T,s.ev y with
 | some ⟨_,_,.slc _ _ _⟩,.cv (.val (.slice none 0 0))=>match s.ev x with
  | .cv (.row _ es)=>some es
  | .own i g=>match s.V[i]? with
   | some v=>if (v.sl&&v.ver == g)=true then some v.es else none
   | none=>none
  | _=>none
 | _,_=>none
def VH (s:SS) (T:TypeId) (len:Nat) (parts:Array (Nat×Operand)):Option AV:=
 if (parts.toList.all fun p=>(s.ev p.2).clo)=true then
  match bH P ⟨[],[],[]⟩ T len (parts.toList.map fun p=>(p.1,s.ev p.2)) with
  | some (A,B,V)=>some (AV.lend B V A)
  | none=>none
 else none
def CY (lk:Lk) (s:SS) (op:Op) (K:AV->List Box->List Vec->Option Ou):Option (Option Ou):=
 match op with
 | .store T a x=>match s.ev a with
  | .opt i g el off=>some (if lk.v.contains i=true then none else match s.V[i]?,aZ P T,(s.ev x).cells with
   | some v,some ti,some new=>match dX new with
    | some cs=>if (v.sl&&v.ver == g&&cs.length == ti.size)=true then
      chk (decide (el<v.es.length)&&decide (off+cs.length<=v.k)) (K .any s.B (s.V.set i ⟨v.live,v.T,v.k,v.ver,v.es.set el (spl (v.es.getD el []) off cs)⟩))
     else none
    | none=>none
   | _,_,_=>none)
  | _=>none
 | .slice T x none (some h) none=>match s.ev x with
  | .own i g=>some (if lk.v.contains i=true then none else match s.V[i]?,aZ P T,s.ev h with
   | some v,some ⟨_,_,.slc _ k _⟩,.cv (.val (.int _ n))=>if (v.sl&&v.ver == g&&k == v.k&&k != 0)=true then
     chk (decide (0<=n)&&decide (n<=v.es.length)) (K (.own i (v.ver+1)) s.B (s.V.set i ⟨v.live,v.T,v.k,v.ver+1,v.es.take n.toNat⟩))
    else none
   | _,_,_=>none)
  | _=>none
 | .makeSlice T x y=>some (match aZ P T,s.ev x,s.ev y with
  | some ⟨_,_,.slc e k by_⟩,.cv (.val (.int _ l)),.cv (.val (.int _ c))=>match aZ P e with
   | some te=>if (k != 0&&te.zero.length == k&&te.zero.all Value.oneCell')=true then
     chk (decide (0<=l)&&decide (l<=c)&&bL c.toNat 0 by_) (K (.own s.V.length 0) s.B (s.V++[⟨true,e,k,0,List.replicate l.toNat (te.zero.map .val)⟩]))
    else none
   | none=>none
  | _,_,_=>none)
 | .call { callee:=.builtin .copy,args:=⟨[x,y]⟩,argTypes:=⟨[T,_]⟩ }=>match s.ev x,s.ev y with
  | .own i g,.cv (.row k es)=>some (if lk.v.contains i=true then none else match s.V[i]?,aZ P T with
   | some v,some ⟨_,_,.slc _ k' _⟩=>if (v.sl&&v.ver == g&&k' == v.k&&k == k'&&k' != 0)=true then
     chk (decide (es.length<=v.es.length)) (K (.cv (.val (.int .i64 es.length))) s.B (s.V.set i ⟨v.live,v.T,v.k,v.ver,es++v.es.drop es.length⟩)) else none
   | _,_=>none)
  | _,_=>none
 | _=>none
def VI (lk:Lk) (s:SS) (o o2:Oper) (next:SS->Option Ou):Option (Option Ou):=
 match o.op,o2.op with
 | .slice T x (some l) none none,.call { callee:=.builtin .clear,args,argTypes } =>
  match o.dst,s.ev x,s.ev l,args.toList,argTypes.toList with
  | some d,.own i g,.cv (.val (.int _ lo)),[.tmp d'],[T']=>some (
   match s.V[i]?,aZ P T with
   | some v,some ⟨_,_,.slc e k _⟩=>match aZ P e with
    | some te=>if (o.guard.isNone&&o2.guard.isNone&&o2.dst.isNone&&d' == d&&T' == T&&decide (d<s.n)&&!lk.t.contains d&&!lk.v.contains i&&v.sl&&v.ver == g&&k == v.k&&k != 0&&!te.zero.isEmpty&&te.zero.length == k&&te.zero.all Value.oneCell')=true then
      chk (decide (0<=lo)&&decide (lo<=v.es.length)) (next ⟨s.n,(d,.any)::s.t,s.B,s.V.set i ⟨v.live,v.T,v.k,v.ver,v.es.take lo.toNat++List.replicate (v.es.length - lo.toNat) (te.zero.map .val)⟩⟩)
     else none
    | none=>none
   | _,_=>none)
  | _,_,_,_,_=>none
 | _,_=>none
def aAS (lk:Lk) (s:SS) (o o2 o3:Oper) (next:SS->Option Ou):Option (Option Ou):=
 let _:=(P,lk,s,o,o2,o3,next)
 none
noncomputable def evO (lk:Lk) (dr:Bool) (b0:Nat) (s:SS) (o:Oper) (K:AV->List Box->List Vec->Option Ou):Option Ou:=
 match o.op with
 | .call { callee:=.value x,args,argTypes }=>ME P sg M dr s x args.toList argTypes.toList o.type fun r=>K r s.B s.V
 | .defer _=>none
 | op =>
  if dr=true then
   match op with
   | .buildSlice T len parts=>match VH P s T len parts with
    | some A=>K A s.B s.V
    | none=>none
   | .load _ a=>(match s.ev a with
    | .ptr i _=>if i<b0 then sOp P lk s op K else none
    | .gd [] (.ptr i _)=>if i<b0 then sOp P lk s op K else none
    | .cv _=>sOp P lk s op K
    | .opt _ _ _ _=>sOp P lk s op K
    | _=>none)
   | op=>if nN op<=3 then sOp P lk s op K else none
  else
   match op with
   | .binOp .eql T x y _=>match aAR P s T x y with
    | some es=>xQ es (K (.cv (.val (.bool true))) s.B s.V) (K (.cv (.val (.bool false))) s.B s.V)
    | none=>sOp P lk s op K
   | .binOp .neq T x y _=>match aAR P s T x y with
    | some es=>xQ es (K (.cv (.val (.bool false))) s.B s.V) (K (.cv (.val (.bool true))) s.B s.V)
    | none=>sOp P lk s op K
   | op=>match CY P lk s op K with
    | some r=>r
    | none=>sOp P lk s op K
abbrev IN:=Lk->SS->Oper->(SS->Option Ou)->Option (Option Ou)
def aFw:IN:=fun _ _ _ _=>none
def ngO (o:Oper):Oper:={ o with guard:=none }
noncomputable def evW (inl:IN) (lk:Lk) (dr:Bool) (b0:Nat) (s:SS) (o:Oper) (next:SS->Option Ou):Option Ou:=
 match inl lk s (ngO o) next with
 | some r=>r
 | none=>evO P sg M lk dr b0 s o fun x B V=>next (s.put o.dst x B V)
noncomputable def AR (inl:IN) (lk:Lk) (dr:Bool) (b0:Nat) (ops:List Oper) (o:Oper) (s:SS) (next:SS->Option Ou):Option Ou:=
 if cM lk o.dst=true then
  match o.guard with
  | none=>evW P sg M inl lk dr b0 s o next
  | some (j,want) =>
   match (ops[j]?).bind (·.dst) with
   | none=>none
   | some d =>
    if d<s.n then
     match s.get d with
     | .cv (.val (.bool c))=>if lk.t.contains d=true then none else
      aC c
       (match want with
        | true=>evW P sg M inl lk dr b0 (s.set d (.cv (.val (.bool true)))) o next
        | false=>next ((s.set d (.cv (.val (.bool true)))).put o.dst unA s.B s.V))
       (match want with
        | false=>evW P sg M inl lk dr b0 (s.set d (.cv (.val (.bool false)))) o next
        | true=>next ((s.set d (.cv (.val (.bool false)))).put o.dst unA s.B s.V))
     | .gd [false] _=>next (s.put o.dst unA s.B s.V)
     | _=>none
    else none
 else none
noncomputable def evR (inl:IN) (lk:Lk) (dr:Bool) (b0:Nat) (ops:List Oper):List Oper->SS->(SS->Option Ou)->Option Ou
 | [],s,K=>K s
 | [o],s,K=>AR P sg M inl lk dr b0 ops o s K
 | [o,o2],s,K =>
  match (match dr with | true=>none | false=>VI P lk s o o2 K) with
  | some r=>r
  | none=>AR P sg M inl lk dr b0 ops o s fun s'=>AR P sg M inl lk dr b0 ops o2 s' K
 | o::o2::o3::rest,s,K =>
  match (match dr with | true=>none | false=>VI P lk s o o2 fun s'=>evR inl lk dr b0 ops (o3::rest) s' K) with
  | some r=>r
  | none=>match (match dr with | true=>none | false=>aAS P lk s o o2 o3 fun s'=>evR inl lk dr b0 ops rest s' K) with
   | some r=>r
   | none=>AR P sg M inl lk dr b0 ops o s fun s'=>evR inl lk dr b0 ops (o2::o3::rest) s' K
end
structure Adv (lk:Lk) (m:Emb) (s:SS) (st:St) (m':Emb) (s':SS) (st':St):Prop where
 stp:Stp m st.B st.V m' st'.B st'.V
 n:s'.n=s.n
 bl:s.B.length<=s'.B.length
 vl:s.V.length<=s'.V.length
 t:∀ d∈lk.t,s'.get d=s.get d
 b:∀ i∈lk.b,i<s.B.length->s'.B[i]? = s.B[i]?
 v:∀ i∈lk.v,i<s.V.length->s'.V[i]? = s.V[i]?
 o:∀ i∈lk.o,i<s.V.length->m'.fo i=m.fo i
theorem Adv.refl (lk:Lk) (m:Emb) (s:SS) (st:St):Adv lk m s st m s st:=
 ⟨Stp.refl _ _ _,rfl,Nat.le_refl _,Nat.le_refl _,fun _ _=>rfl,fun _ _ _=>rfl,fun _ _ _=>rfl,fun _ _ _=>rfl⟩
theorem Adv.trans {lk:Lk} {m m' m'':Emb} {s s' s'':SS} {st st' st'':St} (h:Adv lk m s st m' s' st') (h':Adv lk m' s' st' m'' s'' st''):Adv lk m s st m'' s'' st'':=
 ⟨h.stp.trans h'.stp,h'.n.trans h.n,Nat.le_trans h.bl h'.bl,Nat.le_trans h.vl h'.vl,fun d hd=>(h'.t d hd).trans (h.t d hd),
  fun i hi hl=>(h'.b i hi (Nat.lt_of_lt_of_le hl h.bl)).trans (h.b i hi hl),fun i hi hl=>(h'.v i hi (Nat.lt_of_lt_of_le hl h.vl)).trans (h.v i hi hl),fun i hi hl=>(h'.o i hi (Nat.lt_of_lt_of_le hl h.vl)).trans (h.o i hi hl)⟩
theorem SS.put_get {s:SS} {lk:Lk} {d:Option Nat} {B:List Box} {V:List Vec} (h:cM lk d=true):∀ k∈lk.t,(s.put d x B V).get k=s.get k:=by
 intro k hk;cases d with
 | none=>rfl
 | some d =>
  simp [cM] at h;have:d≠k:=by grind
  simp_all [SS.get,SS.put]
theorem Em.set {m:Emb} {s:SS} {st:St} (h:Em m s st) {d:Nat} {x:AV} (hg:s.get d=x) (hd:d<s.n):Em m (s.set d x) st:=by
 have dm:AV.inn s.B.length s.V.length x=true:=by rw [<- hg];exact h.inn d
 refine ⟨?_,fun p hp=>?_,h.m⟩
 ·rw [h.t]
  simp [SS.set];refine List.map_congr_left fun k hk=>?_
  simp only [vQ];split
  ·rename_i uw
   subst uw;rw [<- hg];simp [SS.get,hd];exact nO (AV.cz m) (by rfl) s.t d
  ·rfl
 ·simp [SS.set] at hp
  rcases hp with rfl | hp
  ·exact dm
  ·exact h.ti p hp
theorem SS.set_get {s:SS} {d:Nat} (hg:s.get d=x):∀ k,(s.set d x).get k=s.get k:=by
 intro k;show (if k<s.n then lk ((d,x)::s.t) k else .any)=if k<s.n then lk s.t k else .any
 simp
 by_cases h1:k<s.n
 ·by_cases h2:d=k
  ·subst h2
   rw [if_pos rfl,<- hg];simp [SS.get,h1]
  grind
 grind
theorem Adv.set {lk:Lk} {m:Emb} {s:SS} {st:St} {d:Nat} {x:AV} (hg:s.get d=x):Adv lk m s st m (s.set d x) st:=
 ⟨Stp.refl _ _ _,rfl,Nat.le_refl _,Nat.le_refl _,fun k _=>SS.set_get hg k,fun _ _ _=>rfl,fun _ _ _=>rfl,fun _ _ _=>rfl⟩
section
variable {F:Fence} {n:Nat} {P:Program} [C:Co P] {ops:List Oper}
variable {o:Oper} {rest:List Oper} {Q:St->Prop} {B':List Box} {V':List Vec}
theorem MG (hF:Free F) {st:St} {av y:AV} (aa:bI P st o.op=some (av,B',V')) (bt:AV.le av y)
  (dj:∀ nb vs,AV.sco nb vs av->AV.sco nb vs y) (h:cE F n P ops.toArray rest (st.put o.dst y B' V') Q):OT F n P ops.toArray o rest st Q:=by
 intro n0 w0 e a w Qr hr hk;refine jF (by grind [bI]) (vP aa hr) fun w₁ hw₁=>?_
 obtain ⟨cf,ar⟩:=hr.rely hw₁;obtain ⟨nx,v,w',e',h1,h2,h3,h4,h5,h6⟩:=rT aa n0 w0 e a w₁ cf;have ba:=cf.put h3 h4 (bt _ _ _ _ h5) (dj _ _ h6) o.dst;exact ⟨nx,v,w',h1,h2,h n0 w0 e' _ w' Qr ba fun e'' st' a' w'' hq af bq hx=>hk e'' st' a' w'' hq af (by rw [bq];cases o.dst <;> rfl) (ar.trans (h4.trans hx))⟩
theorem qY (hF:Free F) {st:St} {av:AV} (fc:∀ c,o.op≠.defer c) (hc:∀ a:Act,(execOp a.eval o).calm P) (ax:Step P o st av B' V')
  (h:cE F n P ops.toArray rest (st.put o.dst av B' V') Q):OT F n P ops.toArray o rest st Q:=by
 intro n0 w0 e a w Qr hr hk;refine jF fc (hc a) fun w₁ hw₁=>?_
 obtain ⟨cf,ar⟩:=hr.rely hw₁;obtain ⟨nx,v,w',e',h1,h2,h3,h4,h5,h6⟩:=ax n0 w0 e a w₁ cf;have ba:=cf.put h3 h4 h5 h6 o.dst;exact ⟨nx,v,w',h1,h2,h n0 w0 e' _ w' Qr ba fun e'' st' a' w'' hq af bq hx=>hk e'' st' a' w'' hq af (by rw [bq];cases o.dst <;> rfl) (ar.trans (h4.trans hx))⟩
def Wants (lo:List Oper) (o:Oper) (s:St) (b:Bool):Prop:=
 ∀ s':St,(∀ d∈o.looksAt lo.toArray,s'.t[d]? = s.t[d]?)->∀ n0 w0 e a w,Rel n0 w0 e s' a w->Region.wanted o (yielded lo.toArray a.tmps)=b
theorem Wants.none {o:Oper} {s:St} (hg:o.guard=none):Wants ops o s true:=fun _ _ _ _ _ _ _ _=>by simp [Region.wanted,hg]
theorem Wants.known {s:St} {j d:Nat} {want c:Bool} (hg:o.guard=some (j,want)) (hd:(ops[j]?).bind (·.dst)=some d) (hs:s.t[d]? = some (.cv (.val (.bool c)))):Wants ops o s (c == want):=by
 intro s' ha n0 w0 e a w hr;have jw:(ops.toArray[j]?).bind (·.dst)=some d:=by grind
 have h1:s'.t[d]? = some (.cv (.val (.bool c))):=by
  grind [Oper.looksAt]
 simp only [Region.wanted,hg,yielded,jw,Option.bind_some,hr.slot h1];rfl
theorem Wants.undef {s:St} {j d:Nat} {want:Bool} {x:AV} (hg:o.guard=some (j,want)) (hd:(ops[j]?).bind (·.dst)=some d) (hs:s.t[d]? = some (.gd [false] x)):Wants ops o s false:=by
 intro s' ha n0 w0 e a w hr;have jw:(ops.toArray[j]?).bind (·.dst)=some d:=by grind
 have h1:s'.t[d]? = some (.gd [false] x):=by
  grind [Oper.looksAt]
 obtain ⟨v,h2,h3⟩:=hr.tm.get h1;have yt:a.tmps[d]? = some v:=by grind
 have hv:=h3.2 (by simp)
 subst hv;simp only [Region.wanted,hg,yielded,jw,Option.bind_some,yt];rfl
theorem dM {st:St} (hw:Wants ops o st true) (h:OT F n P ops.toArray o rest st Q):cE F n P ops.toArray (o::rest) st Q:=by
 intro n0 w0 e a w Qr hr hk;simp [bP,hw st (fun _ _=>rfl) _ _ _ _ _ hr]
 exact h n0 w0 e a w Qr hr hk
theorem SI (hF:Free F) {st:St} (hw:Wants ops o st false) (h:cE F n P ops.toArray rest (st.put o.dst (.gd [false] .any) st.B st.V) Q):cE F n P ops.toArray (o::rest) st Q:=by
 intro n0 w0 e a w Qr hr hk;simp [bP,hw st (fun _ _=>rfl) _ _ _ _ _ hr]
 have ba:=hr.put hr.mem (Ext.refl _ _ _ _ _) (x:=.gd [false] .any) (v:=undef) (by simp [AV.holds]) (by simp) o.dst
 exact h n0 w0 e _ w Qr ba fun e'' st' a' w'' hq af bq hx=>hk e'' st' a' w'' hq af (by rw [bq,put_defers]) hx
theorem aAT (hF:Free F) {st:St} {T yT:TypeId} {x y:Operand} {neg:Bool} {s e k by_:Nat} {z:List Value} {len:Nat}
  (aa:o.op=.binOp (if neg=true then .neq else .eql) T x y yT) (hx:∀ n0 w0 e a w,Rel n0 w0 e st a w->∃ ao cap,a.eval x=.slice ao len cap/\(ao.isNone=true->len=0))
  (hy:st.ev y=.cv (.val (.slice none 0 0))) (hT:aZ P T=some ⟨s,z,.slc e k by_⟩)
  (h:∀ b:Bool,(b=true->len=0)->cE F n P ops.toArray rest (st.put o.dst (.cv (.val (.bool (if neg=true then !b else b)))) st.B st.V) Q):OT F n P ops.toArray o rest st Q:=by
 intro n0 w0 e1 a w Qr hr hk;obtain ⟨ao,cap,hv,h1⟩:=hx _ _ _ _ _ hr;have ju:=(hr.ev y).1;rw [hy] at ju;obtain ⟨ju,_⟩:=ju;have iy:=fun w=>run_equal_slice_nil w T e ao len cap (cZ hT).1
 have ag:∀ w,(execOp a.eval o).run P w=.ok (.value (.bool (if neg=true then !ao.isNone else ao.isNone))) w:=by
  intro w;have:=iy w;cases neg with
  | true =>
   simp_all [execOp,eqGuard,binOp]
  | false =>
   simp_all [execOp,eqGuard,binOp]
 have hE:(Op.equal T (a.eval x) (.slice none 0 0)).calm P:=by
  unfold Op.equal Op.maxDepth;rw [Op.equalIn,hv];refine jZ (dJ T) (run_underlying (cZ hT).1 default) ?_;cases ao <;> trivial
 have cj:(execOp a.eval o).calm P:=by
  have Ha:a.eval y=.slice none 0 0:=ju;cases neg with
  | true =>
   simp only [execOp,aa,if_true,Ha];refine k_v (k_b (by rw [hv];trivial) fun _=>?_)
   rw [hv] at hE ⊢;exact k_b hE fun _=>trivial
  | false =>
   simp only [execOp,aa,Ha];refine k_v (k_b (by rw [hv];trivial) fun _=>?_)
   rw [hv] at hE ⊢;exact k_b hE fun _=>trivial
 refine jF (by grind) cj fun w₁ hw₁=>⟨_,_,w₁,ag w₁,.inl rfl,?_⟩
 obtain ⟨cf,ar⟩:=hr.rely hw₁;have ba:=cf.put cf.mem (Ext.refl _ _ _ _ _) (x:=.cv (.val (.bool (if neg=true then !ao.isNone else ao.isNone)))) (v:=.bool (if neg=true then !ao.isNone else ao.isNone)) (by simp [AV.holds,CV.holds]) (by simp) o.dst
 exact h ao.isNone h1 n0 w0 e1 _ w₁ Qr ba fun e'' st' a' w'' hq af bq ap=>hk e'' st' a' w'' hq af (by rw [bq,put_defers]) (ar.trans ap)
end
section
variable {F:Fence} {n:Nat} {P:Program} [C:Co P] {ops:List Oper} {sg:FuncId->Option Sig} {M:Den}
theorem Adv.put {lk:Lk} {m m':Emb} {s:SS} {st:St} {d:Option Nat} {x:AV} {B:List Box} {V:List Vec} {y:AV} {B':List Box} {V':List Vec} (hd:cM lk d=true) (hs:Stp m st.B st.V m' B' V')
  (hB:s.B.length<=B.length) (hV:s.V.length<=V.length) (hb:∀ i∈lk.b,i<s.B.length->B[i]? = s.B[i]?) (hv:∀ i∈lk.v,i<s.V.length->V[i]? = s.V[i]?) (ho:∀ i,i<s.V.length->m'.fo i=m.fo i) :
  Adv lk m s st m' (s.put d x B V) (st.put d y B' V'):=
 ⟨hs,rfl,hB,hV,SS.put_get hd,hb,hv,fun i _ hi=>ho i hi⟩
theorem OpOK.sc {m':Emb} {x a:AV} (h:x.clo=true\/a=x.cz m'):∀ nb vs,AV.sco nb vs a->AV.sco nb vs (x.cz m'):=by
 rcases h with h | h
 ·obtain ⟨h1,_,h3⟩:=AV.clo_spec h
  grind
 grind
variable {o:Oper} {rest:List Oper}
theorem AS (hF:Free F) {m:Emb} {lk:Lk} {s:SS} {st:St} {K:AV->List Box->List Vec->Option Ou} {r:Ou} {Q:St->Prop} (hE:Em m s st) (hw:Wants ops o st true) (hd:cM lk o.dst=true)
  (h:OpOK P m lk s st o.op K r)
  (hk:∀ x B V m' B' V',K x B V=some r->Em m' (s.put o.dst x B V) (st.put o.dst (x.cz m') B' V')->Adv lk m s st m' (s.put o.dst x B V) (st.put o.dst (x.cz m') B' V')->cE F n P ops.toArray rest (st.put o.dst (x.cz m') B' V') Q) :
  cE F n P ops.toArray (o::rest) st Q:=by
 obtain ⟨a,x,B,V,B',V',m',h1,h2,h3,h4,h5,h6,h7,h8,h9,lh,mw,pz⟩:=h;refine dM hw (MG hF h1 h2 (OpOK.sc h3) ?_);exact hk x B V m' B' V' h4 (hE.put h5 h6.up h7 h9 lh h8 o.dst) (Adv.put hd h6 h9 lh mw pz fun i hi=>h7 i (by rw [hE.m.vl];exact hi))
theorem bS {m:Emb} {s:SS} {st:St} (hE:Em m s st) (args:List Operand):args.map st.ev=AV.czs m (args.map s.ev):=by
 rw [AV.czs_eq,List.map_map];exact List.map_congr_left fun x _=>hE.ev x
theorem DQ (m:Emb) (xs ys:List AV):AV.czs m (xs++ys)=AV.czs m xs++AV.czs m ys:=by simp [AV.czs_eq]
theorem JK {B:List Box} {V:List Vec}:∀ {ps:List Sc} {xs:List AV} {l:List CV} {b:Bool} (caps:List CV),fP B V ps xs=some (l,b)->caps.all (fun c=>Lf.ref.ok c)=true ->
  fP B V (ps++List.replicate caps.length (.one .ref)) (xs++caps.map .cv)=some (l++caps,b)
 | [],[],l,b,caps,h,hc=>by
  obtain ⟨rfl,rfl⟩:=h
  induction caps with
  | nil=>rfl
  | cons c caps ih =>
   simp_all [List.replicate_succ,fP,aDm,lnd,XS]
 | p::ps,x::xs,l,b,caps,h,hc=>by
  simp only [fP] at h;split at h
  ·rename_i l1 b1 l2 b2 h1 h2
   cases h;simp only [List.cons_append,fP,h1,JK caps h2 hc,List.append_assoc]
  ·cases h
 | [],_::_,_,_,_,h,_=>by grind [fP]
 | _::_,[],_,_,_,h,_=>by grind [fP]
structure ClA (m:Emb) (s:SS) (A:AV):Prop where
 cz:A.cz m=A
 inn:AV.inn s.B.length s.V.length A=true
 cl:AV.closed A=true
theorem ClA.res (m:Emb) (s:SS) (rs:List Sc) (out:List CV):ClA m s (Sc.res rs out):=by
 obtain ⟨p1,p2⟩:=Sc.res_pl rs out m s.B.length s.V.length;exact ⟨p1,p2,Sc.res_closed rs out⟩
theorem ClA.resF (m:Emb) (s:SS) (rs:List Sc) (out:List CV):ClA m s (Sc.resF rs out):=by
 obtain ⟨_,p1,p2,p3⟩:=Sc.resF_flat rs out;exact ⟨p2 m,p3 _ _,p1⟩
def aEV (P:Program) [Co P] (m:Emb) (s:SS) (st:St) (o:Oper) (K:AV->Option Ou) (r:Ou) (dr:Bool):Prop:=
 ∃ (x:Operand) (args:Array Operand) (ts:Array TypeId) (f:FuncId) (caps:List AV) (A:AV),o.op=.call { callee:=.value x,args,argTypes:=ts }/\dA (st.ev x)=some (f,caps)/\dS P f=true /\
  K A=some r/\ClA m s A/\CallP P f (args.toList.map st.ev++caps) st.B st.V (fun r' B' V'=>r'=A/\B'=st.B/\V'=st.V) /\
  (dr=true->∃ as',AV.les (args.toList.map st.ev++caps) as'/\AV.closeds (args.toList.map st.ev++caps)=true/\AV.closeds as'=true/\SpecR P f as' A)
theorem SJ (hM:Fns P sg M) {m:Emb} {B B1:List Box} {V V1:List Vec} (hE:EmM m B V B1 V1) {f:FuncId} {g:Sig} {xs:List AV} {l:List CV} {b:Bool} {out:List CV} (hs:sg f=some g) (hl:fP B V g.ps xs=some (l,b)) (ho:M f l=some out) :
  CallP P f (AV.czs m xs) B1 V1 fun r B' V'=>r=Sc.resF g.rs out/\B'=B1/\V'=V1:=by
 have h:=hM.spec f g l out hs ho;obtain ⟨p1,p2⟩:=dY hE hl;have bw:=Sc.avs_closed g.ps l 0;obtain ⟨q1,q2,_,_⟩:=Sc.resF_flat g.rs out;have h2:SpecR P f (AV.lends B1 V1 (AV.czs m xs)) (Sc.resF g.rs out):=SpecR.weak (CallP.args h p1 (AV.scos_closed _ _ _ bw)) (Sc.resF_le _ _) q2;exact SpecR.lent h2 rfl q2 q1
theorem zA (hM:Fns P sg M) {m:Emb} {s:SS} {st:St} (hE:Em m s st) {dr:Bool} {f:FuncId} {xs:List AV} {K:AV->Option Ou} {r:Ou} (h:DP sg M dr s.B s.V f xs K=some r) :
  ∃ A,dS P f=true/\K A=some r/\ClA m s A/\CallP P f (AV.czs m xs) st.B st.V (fun r' B' V'=>r'=A/\B'=st.B/\V'=st.V) /\
   (dr=true->∃ as',AV.les (AV.czs m xs) as'/\AV.closeds (AV.czs m xs)=true/\AV.closeds as'=true/\SpecR P f as' A):=by
 unfold DP at h;split at h
 ·cases h
 ·rename_i g hg
  split at h
  ·cases h
  ·rename_i l b hl
   split at h
   ·obtain ⟨out,h1,h2⟩:=dK h
    refine ⟨_,hM.ent f g hg,h2,ClA.res m s g.rs out,JH hM hE.m hg hl h1 ?_,fun hdr=>?_⟩
    ·grind
    ·cases b
     ·obtain ⟨q1,q2⟩:=(dY hE.m hl).2 rfl
      exact ⟨_,q1,q2,Sc.avs_closed _ _ _,hM.spec f g l out hg h1⟩
     grind
   ·split at h
    ·obtain ⟨out,h1,h2⟩:=dK h
     exact ⟨_,hM.ent f g hg,h2,ClA.resF m s g.rs out,SJ hM hE.m hg hl h1,fun hd=>by grind⟩
    grind
theorem CH (hM:Fns P sg M) {m:Emb} {s:SS} {st:St} (hE:Em m s st) {dr:Bool} {x:Operand} {args:Array Operand} {ts:Array TypeId} (aa:o.op=.call { callee:=.value x,args,argTypes:=ts }) {K:AV->Option Ou} {r:Ou}
  (h:ME P sg M dr s x args.toList ts.toList o.type K=some r):aEV P m s st o K r dr:=by
 unfold ME at h;split at h
 ·rename_i f
  obtain ⟨A,h1,h2,hA,h3,h4⟩:=zA hM hE h;refine ⟨_,args,ts,f,[],A,aa,by rfl,h1,h2,hA,?_,fun hdr=>?_⟩
  ·grind [bS]
  grind [bS]
 ·split at h
  ·rename_i f caps hx
   split at h
   ·cases h
   rename_i ia;obtain ⟨A,h1,h2,hA,h3,h4⟩:=zA hM hE h;rw [DQ,<- bS hE] at h3 h4;exact ⟨_,args,ts,f,AV.czs m caps,A,aa,by rw [hE.ev,hx];simp [AV.cz,FA m (eq_false_of_ne_true ia)],h1,h2,hA,h3,h4⟩
  ·rename_i c hx
   split at h
   ·rename_i l b hl
    split at h
    ·rename_i hb
     obtain ⟨out,h1,h2⟩:=dK h;unfold bN at h1;split at h1
     ·rename_i f caps
      split at h1
      ·rename_i g hg
       split at h1
       ·rename_i xj
        obtain ⟨xj,Ji,hc⟩:=xj;rw [<- Ji] at h2 hb;have l9:=JK caps hl hc;rw [<- xj] at l9
        have h3:CallP P f (AV.czs m (args.toList.map s.ev++caps.map .cv)) st.B st.V _:=JH hM hE.m hg l9 h1 (by
         grind)
        have i9:AV.czs m (caps.map .cv)=caps.map .cv:=by simp [AV.czs_eq,AV.cz]
        rw [DQ,<- bS hE,i9] at h3;refine ⟨_,args,ts,f,caps.map .cv,_,aa,by rw [hE.ev,hx];rfl,hM.ent f g hg,h2,ClA.res m s g.rs out,h3,fun hdr=>?_⟩
        cases b
        ·obtain ⟨q1,q2⟩:=(dY hE.m l9).2 rfl
         rw [DQ,<- bS hE,i9] at q1 q2;exact ⟨_,q1,q2,Sc.avs_closed _ _ _,hM.spec f g _ out hg h1⟩
        grind
       grind
      grind
     grind
    grind
   grind
  grind
theorem SK (hF:Free F) {m:Emb} {lk:Lk} {s:SS} {st:St} {K:AV->Option Ou} {r:Ou} {Q:St->Prop} (hE:Em m s st) (hw:Wants ops o st true) (hd:cM lk o.dst=true)
  (h:aEV P m s st o K r false)
  (hk:∀ x,K x=some r->Em m (s.put o.dst x s.B s.V) (st.put o.dst (x.cz m) st.B st.V)->Adv lk m s st m (s.put o.dst x s.B s.V) (st.put o.dst (x.cz m) st.B st.V)->cE F n P ops.toArray rest (st.put o.dst (x.cz m) st.B st.V) Q) :
  cE F n P ops.toArray (o::rest) st Q:=by
 obtain ⟨x,args,ts,f,caps,A,h1,h2,h3,h4,⟨p1,p2,_⟩,h5,_⟩:=h;refine dM hw (qV hF h1 h2 (enters h3) (CallP.mono h5 ?_));rintro r' B' V' ⟨rfl,rfl,rfl⟩;have:=hk _ h4 (hE.put hE.m (Emb.Up.refl _) (fun _ _=>rfl) (Nat.le_refl _) (Nat.le_refl _) p2 o.dst) (Adv.put hd (Stp.refl _ _ _) (Nat.le_refl _) (Nat.le_refl _) (fun _ _ _=>rfl) (fun _ _ _=>rfl) (fun _ _=>rfl))
 grind
end
end Go.Sx
