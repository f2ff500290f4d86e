/-
 The laws of the stints of a common hold at every input, without any condition.
-/
import Derived.RangeFuncNested
import Derived.Test.YtfgdfpnkhdlmfaaGreatP03
namespace Go.Sx
open Go Go.RowKit
variable [G:Ghost]
inductive YSh where
 | clo (cs:List Sc)
 | lent (T:TypeId) (k:Nat)
 deriving DecidableEq
def xH (H:Nat->Option (Obj×Bool)) (w:World):Prop:=∀ (b:Nat) (o:Obj) (f:Bool),H b=some (o,f)->w.heap[b]? = some o
def aA9 (H:Nat->Option (Obj×Bool)) (S X:Nat->Prop) (es':List (List CV)) (w w':World):Prop:=
 ∃ H',G.J es' H'/\xH H' w'/\(∀ b,H' b≠none->H b≠none\/S b\/w.heap.size<=b)/\(∀ b o,S b->H' b≠some (o,true))/\w.heap.size<=w'.heap.size /\
  w'.os=w.os/\w'.tape=w.tape/\w'.output=w.output/\(∀ b,b<w.heap.size->H b=none->¬X b->w'.heap[b]? = w.heap[b]?)/\(∀ b,S b->w'.heap[b]? = w.heap[b]?)
def GU (es:List (List CV)):Bool:=es.all fun l=>l.all CV.flat
def zB (P:Program) (l:Nat) (sh:YSh) (es:List (List CV)) (x:List CV) (b:Bool) (es':List (List CV)):Prop:=
 ∀ (F:Fence) (n:Nat),Free F->∀ (H:Nat->Option (Obj×Bool)) (S:Nat->Prop) (w:World) (args:Array Value),
  G.J es H->xH H w->GW w->(∀ b,S b->b<w.heap.size)->(∀ b o,S b->H b≠some (o,true))->G.lo<=w.heap.size ->
  match sh with
  | .clo cs=>(∀ (e:Env) (ks:List Nat),e.S=S->AV.all e w ks (Sc.avs cs x 0) args.toList)->YieldAt F n P l args w fun en w'=>en=.returned (.bool b)/\aA9 H S (fun _=>False) es' w w'
  | .lent T k=>∀ (v:Value) (el:List (List CV)) (xs:List Value),x=[.row k el]->GU el=true->args=#[v]->T<bQ->OwnsV w G.lo T k v el.length xs->CV.vals w S el.flatten xs->(∀ l∈el,l.length=k) ->
    (∀ g,bM v=some g->H g=none/\¬S g)->YieldAt F n P l args w fun en w'=>en=.returned (.bool b)/\aA9 H S (fun g=>bM v=some g) es' w w'/\OwnsV w' G.lo T k v el.length xs
variable {k:Nat} {xs:List Value}
theorem OwnsV.rebase {w:World} {b b':Nat} {e:TypeId} {v:Value} {n:Nat} (h:OwnsV w b e k v n xs) (hb:∀ g,bM v=some g->b'<=g):OwnsV w b' e k v n xs:=by
 have _:=G;rcases h with ⟨hT,h | ⟨h,g,h1,h2⟩⟩ | ⟨h0,g,arr,c,h1,h2,h3⟩
 ·exact .inl ⟨hT,.inl h⟩
 ·refine .inl ⟨hT,.inr ⟨⟨h.1,?_⟩,g,h1,h2⟩⟩
  rcases h.2 with h | ⟨g',cap,cur,q1,q2,q3⟩
  ·grind
  ·refine .inr ⟨g',cap,cur,q1,?_,q3⟩
   grind [Value.ownBlock]
 ·subst h1;exact .inr ⟨h0,g,arr,c,rfl,hb g rfl,h3⟩
theorem EU {es:List (List CV)} (h:GU es=true):es.flatten.all CV.flat=true:=by
 have _:=G;rw [List.all_eq_true];intro c hc;obtain ⟨l,hl,bz⟩:=List.mem_flatten.1 hc;exact List.all_eq_true.1 (List.all_eq_true.1 h l hl) c bz
def aIe (st:St) (sh:YSh) (xs:List AV) (x:List CV):Prop:=match sh with
 | .clo cs=>AV.les xs (Sc.avs cs x 0)
 | .lent T k=>∃ i v,xs=[.own i v.ver]/\st.V[i]? = some v/\v.sl=true/\v.T=T/\v.k=k/\x=[.row k v.es]/\GU v.es=true
section
variable {F:Fence} {n:Nat} {P:Program} {ops:Array Oper}
variable {es':List (List CV)}
theorem Mem.round {n0:Nat} {w0:World} {e:Env} {B:List Box} {V:List Vec} {w w':World} (h:Mem n0 w0 e B V w) {gv:Vec} (hg:V[0]? = some gv) (su:gv.T=ghT) {X:Nat->Prop}
  (hX:∀ b,X b->∃ (i:Nat) (x:Vec),V[i]? = some x/\x.live=true/\bM (e.hdr i x.ver)=some b/\GU x.es=true/\∃ xs,OwnsV w' n0 x.T x.k (e.hdr i x.ver) x.es.length xs/\CV.vals w e.S x.es.flatten xs)
  (hp:aA9 e.H e.S X es' w w') :
  ∃ e',Mem n0 w0 e' B (V.set 0 ⟨gv.live,gv.T,gv.k,gv.ver,es'⟩) w'/\Ext e w B.length (vers V) (kss V) e' w' B.length (vers (V.set 0 ⟨gv.live,gv.T,gv.k,gv.ver,es'⟩)) (kss (V.set 0 ⟨gv.live,gv.T,gv.k,gv.ver,es'⟩)):=by
 obtain ⟨H',p1,p2,p3,p4,p5,p6,p7,p8,p9,p10⟩:=hp;obtain ⟨g1,g2,g3,g4⟩:=h.hid.gh 0 gv hg su
 have cg:gv.live=false:=by
  cases hl:gv.live with
  | false=>rfl
  | true=>exact absurd su (h.liveT hg hl)
 have ag:∀ (j:Nat) (y:Vec),(V.set 0 ⟨gv.live,gv.T,gv.k,gv.ver,es'⟩)[j]? = some y->(j≠0/\V[j]? = some y)\/(j=0/\y=⟨gv.live,gv.T,gv.k,gv.ver,es'⟩):=by
  grind
 have cx:∀ (j:Nat) (y:Vec),(V.set 0 ⟨gv.live,gv.T,gv.k,gv.ver,es'⟩)[j]? = some y->y.live=true->V[j]? = some y:=by
  grind
 have jc:vers (V.set 0 ⟨gv.live,gv.T,gv.k,gv.ver,es'⟩)=vers V:=by
  refine List.ext_getElem? fun j=>?_
  grind
 have w9:kss (V.set 0 ⟨gv.live,gv.T,gv.k,gv.ver,es'⟩)=kss V:=by
  refine List.ext_getElem? fun j=>?_
  grind
 let e':Env:={ e with H:=H' }
 have hx:Ext e w B.length (vers V) (kss V) e' w' B.length (vers (V.set 0 ⟨gv.live,gv.T,gv.k,gv.ver,es'⟩)) (kss (V.set 0 ⟨gv.live,gv.T,gv.k,gv.ver,es'⟩)):=by
  rw [jc,w9];exact ⟨⟨fun _ hb=>hb,p10⟩,fun _ _=>rfl,fun _ _ _ _=>rfl,Nat.le_refl _,Nat.le_refl _,fun _ _=>Nat.le_refl _,fun _ _=>rfl,p5,fun _ h=>.inl h,rfl,fun hy=>(by grind),rfl⟩
 have keepB:∀ (i:Nat) (b:Box),B[i]? = some b->b.live=true->w'.heap[e.ρ i]? = w.heap[e.ρ i]?:=by
  intro i b hb hl;refine p9 _ (h.lt_box hb hl) (h.hid.box i b hb hl) fun hx=>?_
  obtain ⟨j,x,q1,q2,q3,_⟩:=hX _ hx;exact h.vecbox j x i b _ q1 q2 hb hl q3 rfl
 refine ⟨e',⟨?_,?_,h.boxlo,h.boxinj,?_,?_,?_,?_,fun b hb=>Nat.lt_of_lt_of_le (h.ro b hb) p5,?_,Nat.le_trans h.base p5,h.bl,⟨p2,?_,?_,?_,p4⟩⟩,hx⟩
 ·intro i b hb hl
  obtain ⟨vs,q1,q2⟩:=h.box i b hb hl;exact ⟨vs,(keepB i b hb hl).trans q1,by have:=AV.all.mono hx _ _ (h.boxsc i b hb) q2;grind⟩
 ·intro i b hb;rw [jc];exact h.boxsc i b hb
 ·intro i x hi hl
  have gw:=cx i x hi hl;obtain ⟨xs,q1,q2,q3⟩:=h.vec i x gw hl
  by_cases fw:∃ g,bM (e.hdr i x.ver)=some g/\X g
  ·obtain ⟨g,r1,r2⟩:=fw
   obtain ⟨j,y,s1,s2,s3,s4,ys,s5,s6⟩:=hX g r2;obtain rfl:=h.vecinj i x j y g gw hl s1 s2 r1 s3;rw [gw] at s1;cases s1;exact ⟨ys,s5,CV.flat_vals (EU s4) s6,q3⟩
  ·refine ⟨xs,q1.keep fun g hg=>?_,CV.vals.mono hx.ro _ _ q2,q3⟩
   exact p9 g (q1.lt g hg).2 (h.hid.vec i x g gw hl hg) fun hx=>fw ⟨g,hg,hx⟩
 ·intro i x g hi hl hg;exact h.vecS i x g (cx i x hi hl) hl hg
 ·intro i x j b g hi hl hb bg hg;exact h.vecbox i x j b g (cx i x hi hl) hl hb bg hg
 ·intro i x j y g hi hl hj ij hg ew;exact h.vecinj i x j y g (cx i x hi hl) hl (cx j y hj ij) ij hg ew
 ·have hb:=h.below
  unfold Env.nb at hb ⊢;rw [g2] at hb;simp at hb;have:e'.y=true:=g2;rw [this];exact hb.trans ⟨p6,p7,p8,p5,fun k hk=>by omega⟩
 ·intro i b hb hl
  cases hc:H' (e.ρ i) with
  | none=>exact hc
  | some o =>
   exfalso;rcases p3 (e.ρ i) (by grind) with h1 | h1 | h1
   ·exact h1 (h.hid.box i b hb hl)
   ·exact (h.boxlo i b hb hl).2 h1
   ·have:=h.lt_box hb hl;omega
 ·intro i x g hi hl hg
  have gw:=cx i x hi hl;cases hc:H' g with
  | none=>exact hc
  | some o =>
   exfalso;rcases p3 g (by grind) with h1 | h1 | h1
   ·exact h1 (h.hid.vec i x g gw hl hg)
   ·exact h.vecS i x g gw hl hg h1
   ·obtain ⟨xs,q1,_⟩:=h.vec i x gw hl
    have:=(q1.lt g hg).2;omega
 ·intro i x hi hT
  rcases ag i x hi with ⟨ax,h1⟩ | ⟨rfl,rfl⟩
  ·exact absurd (h.hid.gh i x h1 hT).1 ax
  grind
theorem ZH (hF:Free F) {o:Oper} {rest:List Oper} {st:St} {Q:St->Prop} {x:Operand} {args:Array Operand} {ts:Array TypeId} {l:Nat} {gv:Vec} {sh:YSh} {cs:List CV} {b:Bool}
  (ae:o.op=.call { callee:=.value x,args,argTypes:=ts }) (hx:st.ev x=.cv (.val (.func (.yield l) #[] #[]))) (hg:st.V[0]? = some gv) (su:gv.T=ghT) (af:aIe st sh (args.toList.map st.ev) cs)
  (hy:zB P l sh gv.es cs b es') (h:dQ F n P ops rest (st.put o.dst (.cv (.val (.bool b))) st.B (st.V.set 0 ⟨gv.live,gv.T,gv.k,gv.ver,es'⟩)) Q):YO F n P ops o rest st Q:=by
 intro n0 w0 e a w Qr hr hk;have hm:=hr.mem;have ce:=(hr.ev x).1;rw [hx] at ce;have cn:=hr.evs args.toList;obtain ⟨g1,g2,g3,g4⟩:=hm.hid.gh 0 gv hg su;refine ⟨fun f _=>hF.fn f,?_⟩
 rw [Oper.semAt_plain F _ _ (by grind)]
 have key:YieldAt F (n - 1) P l (args.map a.eval) w fun en w'=>en=.returned (.bool b) /\
   ∃ e',Mem n0 w0 e' st.B (st.V.set 0 ⟨gv.live,gv.T,gv.k,gv.ver,es'⟩) w'/\dW e st w e' st.B (st.V.set 0 ⟨gv.live,gv.T,gv.k,gv.ver,es'⟩) w':=by
  have oa:=hy F (n - 1) hF e.H e.S w (args.map a.eval) g3 hm.hid.obj ⟨hm.below.os.trans (hm.bl.2 g2).1,hm.below.tape.trans (hm.bl.2 g2).2.1,hm.below.output.trans (hm.bl.2 g2).2.2.1,(hm.bl.2 g2).2.2.2⟩ hm.ro hm.hid.own (Nat.le_trans g4 (Nat.le_trans hm.bl.1 hm.base));cases sh with
  | clo cs' =>
   have h1:=oa fun e1 ks hS=>by
    have h2:=AV.les.all af (cn.1);have h3:=AV.closeds_holds (e:=e) (e':=e1) (ks':=ks) (fun b hb=>by grind) _ _ (Sc.avs_closed cs' cs 0) h2
    simp_all
   obtain ⟨fn,tmps,as,bd,q1,q2⟩:=h1;refine ⟨fn,tmps,as,bd,q1,q2.mono ?_⟩;rintro en w' ⟨rfl,hp⟩;exact ⟨rfl,hm.round hg su (fun b hb=>hb.elim) hp⟩
  | lent T k =>
   obtain ⟨i,v,q1,q2,q3,q4,q5,q6,q7⟩:=af;have hl:=Vec.sl_live q3;obtain ⟨xs,r1,r2,r3⟩:=hm.vec i v q2 hl
   obtain ⟨u,hu,Kb⟩:∃ u,args.toList.map a.eval=[u]/\u=e.hdr i v.ver:=by
    match hh:args.toList.map a.eval with
    | []=>simp_all
    | [u]=>grind [AV.all,AV.holds]
    | _::_::_=>grind [AV.all]
   have xk:args.map a.eval=#[e.hdr i v.ver]:=by
    grind
   subst q4;subst q5;have fl:G.lo<=n0:=Nat.le_trans g4 hm.bl.1;have h1:=oa (e.hdr i v.ver) v.es xs q6 q7 xk (Vec.sl_T q3) (r1.base fl) r2 r3 (fun g ez=>⟨hm.hid.vec i v g q2 hl ez,hm.vecS i v g q2 hl ez⟩)
   obtain ⟨fn,tmps,as,bd,s1,s2⟩:=h1;refine ⟨fn,tmps,as,bd,s1,s2.mono ?_⟩;rintro en w' ⟨rfl,hp,ho⟩;exact ⟨rfl,hm.round hg su (fun g ez=>⟨i,v,q2,hl,ez,q7,xs,ho.rebase fun g' ew=>(r1.lt g' ew).1,r2⟩) hp⟩
 obtain ⟨fn,tmps,as,bd,q1,q2⟩:=key
 have ai:(execOp a.eval o).run P w=.ok (.round l fn tmps as bd) w:=by
  simp [execOp,ae,resolve,ce.1,Deferred.ofValue,invoke];omega
 rw [ai];refine ⟨fun hd=>by rw [hF.depth] at hd;grind,q2.mono ?_⟩
 rintro en w' ⟨rfl,e',ct,bw⟩;have bo:=hr.put ct bw (x:=.cv (.val (.bool b))) (v:=.bool b) (by simp [AV.holds,CV.holds]) (by simp) o.dst
 exact h n0 w0 e' _ w' Qr bo fun e'' st' a' w'' hq ah ac fw=>hk e'' st' a' w'' hq ah (by rw [ac];cases o.dst <;> rfl) (bw.trans fw)
end
section
variable {F:Fence} {n:Nat} {P:Program} {ops:List Oper} {sg:FuncId->Option Sig} {M:Den}
variable {s:SS} {st:St}
theorem aCe {m:Emb} (hE:Em m s st) {T:TypeId} {x y:Operand} {es:List (List CV)} (h:aDR P s T x y=some es) :
  (∃ s' z e k b,cG P T=some ⟨s',z,.slc e k b⟩)/\st.ev y=.cv (.val (.slice none 0 0)) /\
  (∀ n0 w0 e a w,Rel n0 w0 e st a w->∃ ao cap,a.eval x=.slice ao es.length cap/\(ao.isNone=true->es.length=0)):=by
 unfold aDR at h;split at h
 ·rename_i a1 a2 a3 a4 a5 hT hy
  refine ⟨⟨_,_,_,_,_,hT⟩,by rw [hE.ev,hy];rfl,fun n0 w0 e a w hr=>?_⟩
  have ce:=(hr.ev x).1;rw [hE.ev] at ce;split at h
  ·grind [AV.cz,AV.holds,CV.holds]
  ·rename_i i g hx
   split at h
   ·rename_i v hv
    split at h
    ·rename_i hc
     simp at hc;obtain ⟨c1,rfl⟩:=hc;rw [hx] at ce;have h1:=hE.m.v i v hv (.inl (Vec.sl_live c1));obtain ⟨xs,q1',_⟩:=hr.mem.vec _ _ h1 (Vec.sl_live c1);have q1:=q1'.s (Vec.sl_T c1);simp [Vec.cz] at q1;rw [<- ce.1] at q1;rcases q1 with ⟨a',q1,q2,_⟩ | ⟨q1,g,q2,_⟩
     ·grind
     ·rcases q1.2 with ⟨q3,q4⟩ | ⟨g',cap,cur,q3,_⟩
      ·grind
      grind
    grind
   grind
  grind
 grind
theorem oL {vl:LK} {c:CV} (h:kC c=some vl):xG vl c=c:=by
 have _:=G;cases c <;> simp [kC] at h;rename_i v;cases v <;> simp [kOf] at h
 ·subst h;rfl
 ·subst h;rfl
 ·obtain ⟨rfl,_⟩:=CJ h;rfl
 ·subst h;rfl
theorem mH {mi:MI} {T:TypeId} {g:Nat} {v:Vec} {cs:List CV} (h:isM mi T g v cs=true) (aa:dX mi.kl mi.vl v.es=true):IsM mi T v/\v.ver=g/\dU mi cs=true:=by
 have _:=G;unfold isM at h;simp at h;obtain ⟨⟨⟨⟨h1,h2⟩,h3⟩,h4⟩,h5⟩:=h;exact ⟨⟨h1,h3,h4,aa⟩,h2,h5⟩
theorem IsM.cz {mi:MI} {T:TypeId} {v:Vec} (h:IsM mi T v) (m:Emb) (i:Nat):IsM mi T (v.cz m i):=have _:=G;⟨h.live,h.T,h.k,h.ok⟩
theorem iV {mi:MI} {x:AV} {cs:List CV} (m:Emb) (h:fJ mi x=some cs):fJ mi (x.cz m)=some cs:=by
 unfold fJ at h;split at h
 ·grind [AV.cz,fJ]
 ·simp_all [AV.cz,fJ,AV.czs_eq,fC,nR]
 grind
variable {o:Oper} {rest:List Oper} {K:AV->List Box->List Vec->Option Ou} {r:Ou} {Q:St->Prop}
theorem ZI (hF:Free F) {lk:Lk} {m:Emb} (hE:Em m s st) (hw:Wants ops o st true) (hd:bX lk o.dst=true)
  (h:HX P lk s o.op K=some (some r))
  (hk:∀ x B V m' B' V',K x B V=some r->Em m' (s.put o.dst x B V) (st.put o.dst (x.cz m') B' V')->Adv lk m s st m' (s.put o.dst x B V) (st.put o.dst (x.cz m') B' V')->dQ F n P ops.toArray rest (st.put o.dst (x.cz m') B' V') Q) :
  dQ F n P ops.toArray (o::rest) st Q:=by
 have aw:=hE.ev;unfold HX at h;split at h
 ·rename_i T a x ae
  split at h
  ·rename_i i g el off ha
   injection h with h
   split at h
   ·cases h
   ·rename_i cw
    split at h
    ·rename_i v ti new hv ar am
     split at h
     ·rename_i cs aT
      split at h
      ·rename_i hc
       simp at hc;obtain ⟨⟨c1,rfl⟩,c3⟩:=hc;obtain ⟨h1,h2⟩:=aO h;simp at h1;have aq:=(List.getElem?_eq_some_iff.1 hv).1;have bt:=hE.m.v i v hv (.inl (Vec.sl_live c1));have ak:=AG (P:=P) (o:=o) (st:=st) (u:=m.fo i+v.ver) (el:=el) (off:=off) ae (by grind [AV.cz]) bt c1 rfl h1.1 ar (by rw [aw];exact AV.cells_cz am) (by rw [fC aT];exact nR cs) c3 h1.2
       refine dM hw (iU hF (by grind) ak ?_)
       have:=hk .any s.B (s.V.set i ⟨v.live,v.T,v.k,v.ver,v.es.set el (spl (v.es.getD el []) off cs)⟩) m st.B _ h2
        (hE.put (hE.m.setV (v:=⟨v.live,v.T,v.k,v.ver,v.es.set el (spl (v.es.getD el []) off cs)⟩) aq) (Emb.Up.refl _) (fun _ _=>rfl) (Nat.le_refl _) (by simp) rfl o.dst)
        (Adv.put hd (Stp.setV hE.m aq _) (Nat.le_refl _) (by simp) (fun _ _ _=>rfl) (kS cw) (fun _ _=>rfl))
       grind [AV.cz,Vec.cz]
      grind
     grind
    grind
  grind
 ·rename_i T x hh ae
  split at h
  ·rename_i i g hx
   injection h with h
   split at h
   ·cases h
   ·rename_i cw
    split at h
    ·rename_i v a1 a2 a3 k a4 kk nn hv ar hn
     split at h
     ·rename_i hc
      simp at hc;obtain ⟨⟨⟨c1,rfl⟩,c3⟩,c4⟩:=hc;obtain ⟨h1,h2⟩:=aO h;simp at h1;have aq:=(List.getElem?_eq_some_iff.1 hv).1;have bt:=hE.m.v i v hv (.inl (Vec.sl_live c1));have ak:=OC (P:=P) (kk:=kk) (n:=nn) (o:=o) (st:=st) (u:=m.fo i+v.ver) ae (by grind [AV.cz]) bt c1 rfl (by grind [AV.cz]) h1.1 h1.2 ar c3 c4
      refine dM hw (iU hF (by grind) ak ?_)
      have:=hk (.own i (v.ver+1)) s.B (s.V.set i ⟨v.live,v.T,v.k,v.ver+1,v.es.take nn.toNat⟩) m st.B _ h2
       (hE.put (hE.m.setV (v:=⟨v.live,v.T,v.k,v.ver+1,v.es.take nn.toNat⟩) aq) (Emb.Up.refl _) (fun _ _=>rfl) (Nat.le_refl _) (by simp) (by grind [AV.inn]) o.dst)
       (Adv.put hd (Stp.setV hE.m aq _) (Nat.le_refl _) (by simp) (fun _ _ _=>rfl) (kS cw) (fun _ _=>rfl))
      grind [AV.cz,Vec.cz,Nat.add_assoc]
     grind
    grind
  grind
 ·rename_i T ae
  split at h
  ·rename_i mi hm
   injection h with h
   refine dM hw (iU hF (by grind) (SF hm ae) ?_)
   have hl:m.vb.length=m.vm.length:=by rw [hE.m.ol,hE.m.vl]
   have:=hk (.own s.V.length 0) s.B (s.V++[⟨true,mi.tag T,mi.kl.length+1,0,[]⟩]) (m.pushV st.V.length) st.B (st.V++[⟨true,mi.tag T,mi.kl.length+1,0,[]⟩]) h
    (hE.put (hE.m.pushV (v:=⟨true,mi.tag T,mi.kl.length+1,0,[]⟩)) (Emb.pushV_up _ _) (Emb.pushV_fo _ hl) (Nat.le_refl _) (by simp) (by simp [AV.inn]) o.dst)
    (Adv.put hd (Stp.pushV _) (Nat.le_refl _) (by simp) (fun _ _ _=>rfl) (fun i _ hi=>List.getElem?_append_left hi) (fun i hi=>Emb.pushV_fo _ hl i (by rw [hE.m.vl];exact hi)))
   have e1:(AV.own s.V.length 0).cz (m.pushV st.V.length)=.own st.V.length 0:=by
    simp only [AV.cz];rw [<- hE.m.vl,Emb.pushV_new,Emb.pushV_new0 _ hl]
   grind
  grind
 ·rename_i T x k ae
  split at h
  ·rename_i kn es hx
   injection h with h
   split at h
   ·rename_i mi hm
    split at h
    ·rename_i cs fq
     split at h
     ·rename_i hc
      simp at hc;obtain ⟨rfl,aa⟩:=hc;obtain ⟨h1,h2⟩:=aO h;have ak:=uS (o:=o) (st:=st) false hm ae (by grind [AV.cz]) h1 (by rw [aw];exact iV m fq) aa
      rw [oL (gX hm h1)] at h2;refine dM hw (iU hF (by grind) ak ?_)
      have:=hk _ s.B s.V m st.B st.V h2 (hE.put hE.m (Emb.Up.refl _) (fun _ _=>rfl) (Nat.le_refl _) (Nat.le_refl _) (by rfl) o.dst) (Adv.put hd (Stp.refl _ _ _) (Nat.le_refl _) (Nat.le_refl _) (fun _ _ _=>rfl) (fun _ _ _=>rfl) (fun _ _=>rfl))
      grind [AV.cz,AV.czs]
     grind
    grind
   grind
  ·rename_i i g hx
   injection h with h
   split at h
   ·rename_i v mi hv hm
    split at h
    ·rename_i cs fq
     split at h
     ·rename_i hc
      obtain ⟨h1,h2⟩:=aO h;obtain ⟨hI,rfl,aa⟩:=mH hc h1;have bt:=hE.m.v i v hv (.inl hI.live);have ak:=CK (o:=o) (st:=st) (u:=m.fo i+v.ver) hm ae (by grind [AV.cz]) bt (hI.cz m i) rfl (by rw [aw];exact iV m fq) aa
      rw [oL (gX hm hI.ok)] at h2;refine dM hw (iU hF (by grind) ak ?_)
      have:=hk (.cv (aH mi.kl.length cs mi.z v.es)) s.B s.V m st.B st.V h2 (hE.put hE.m (Emb.Up.refl _) (fun _ _=>rfl) (Nat.le_refl _) (Nat.le_refl _) rfl o.dst) (Adv.put hd (Stp.refl _ _ _) (Nat.le_refl _) (Nat.le_refl _) (fun _ _ _=>rfl) (fun _ _ _=>rfl) (fun _ _=>rfl))
      grind [AV.cz,Vec.cz]
     grind
    grind
   grind
  grind
 ·rename_i T x k ae
  split at h
  ·rename_i kn es hx
   injection h with h
   split at h
   ·rename_i mi hm
    split at h
    ·rename_i cs fq
     split at h
     ·rename_i hc
      simp at hc;obtain ⟨rfl,aa⟩:=hc;obtain ⟨h1,h2⟩:=aO h;have ak:=uS (o:=o) (st:=st) true hm ae (by grind [AV.cz]) h1 (by rw [aw];exact iV m fq) aa
      rw [oL (gX hm h1)] at h2;refine dM hw (iU hF (by grind) ak ?_)
      have:=hk _ s.B s.V m st.B st.V h2 (hE.put hE.m (Emb.Up.refl _) (fun _ _=>rfl) (Nat.le_refl _) (Nat.le_refl _) (by rfl) o.dst) (Adv.put hd (Stp.refl _ _ _) (Nat.le_refl _) (Nat.le_refl _) (fun _ _ _=>rfl) (fun _ _ _=>rfl) (fun _ _=>rfl))
      grind [AV.cz,AV.czs]
     grind
    grind
   grind
  ·rename_i i g hx
   injection h with h
   split at h
   ·rename_i v mi hv hm
    split at h
    ·rename_i cs fq
     split at h
     ·rename_i hc
      obtain ⟨h1,h2⟩:=aO h;obtain ⟨hI,rfl,aa⟩:=mH hc h1;have bt:=hE.m.v i v hv (.inl hI.live);have ak:=OF (o:=o) (st:=st) (u:=m.fo i+v.ver) hm ae (by grind [AV.cz]) bt (hI.cz m i) rfl (by rw [aw];exact iV m fq) aa
      rw [oL (gX hm hI.ok)] at h2;refine dM hw (iU hF (by grind) ak ?_)
      have:=hk _ s.B s.V m st.B st.V h2 (hE.put hE.m (Emb.Up.refl _) (fun _ _=>rfl) (Nat.le_refl _) (Nat.le_refl _) (by rfl) o.dst) (Adv.put hd (Stp.refl _ _ _) (Nat.le_refl _) (Nat.le_refl _) (fun _ _ _=>rfl) (fun _ _ _=>rfl) (fun _ _=>rfl))
      exact this
     grind
    grind
   grind
  grind
 ·rename_i T x k y ae
  split at h
  ·rename_i i g hx
   injection h with h
   split at h
   ·cases h
   ·rename_i cw
    split at h
    ·rename_i v mi d hv hm hy
     split at h
     ·rename_i cs fq
      split at h
      ·rename_i hc
       simp at hc;obtain ⟨h1,h2⟩:=aO h;obtain ⟨hI,rfl,aa⟩:=mH hc.1 h1;have aq:=(List.getElem?_eq_some_iff.1 hv).1;have bt:=hE.m.v i v hv (.inl hI.live);have ak:=VF (o:=o) (st:=st) (u:=m.fo i+v.ver) (d:=d) hm ae (by grind [AV.cz]) bt (hI.cz m i) rfl (by rw [aw];exact iV m fq) aa (by grind [AV.cz]) hc.2
       refine dM hw (iU hF (by grind) ak ?_)
       have:=hk .any s.B (s.V.set i ⟨v.live,v.T,v.k,v.ver,bV mi.kl.length cs d v.es⟩) m st.B _ h2
        (hE.put (hE.m.setV (v:=⟨v.live,v.T,v.k,v.ver,bV mi.kl.length cs d v.es⟩) aq) (Emb.Up.refl _) (fun _ _=>rfl) (Nat.le_refl _) (by simp) rfl o.dst)
        (Adv.put hd (Stp.setV hE.m aq _) (Nat.le_refl _) (by simp) (fun _ _ _=>rfl) (kS cw) (fun _ _=>rfl))
       grind [AV.cz,Vec.cz]
      grind
     grind
    grind
  grind
 ·rename_i T x k f ae
  split at h
  ·rename_i i g hx
   injection h with h
   split at h
   ·cases h
   ·rename_i cw
    split at h
    ·rename_i v mi hv hm
     split at h
     ·rename_i cs fq
      split at h
      ·rename_i hc
       simp at hc;obtain ⟨h1,h2⟩:=aO h;obtain ⟨hI,rfl,aa⟩:=mH hc.1 h1;have aq:=(List.getElem?_eq_some_iff.1 hv).1;have bt:=hE.m.v i v hv (.inl hI.live);have ak:=aB4 (o:=o) (st:=st) (u:=m.fo i+v.ver) (f:=f) hm ae (by grind [AV.cz]) bt (hI.cz m i) rfl (by rw [aw];exact iV m fq) aa hc.2
       refine dM hw (iU hF (by grind) ak ?_)
       have:=hk .any s.B (s.V.set i ⟨v.live,v.T,v.k,v.ver,bV mi.kl.length cs (fvC f) v.es⟩) m st.B _ h2
        (hE.put (hE.m.setV (v:=⟨v.live,v.T,v.k,v.ver,bV mi.kl.length cs (fvC f) v.es⟩) aq) (Emb.Up.refl _) (fun _ _=>rfl) (Nat.le_refl _) (by simp) rfl o.dst)
        (Adv.put hd (Stp.setV hE.m aq _) (Nat.le_refl _) (by simp) (fun _ _ _=>rfl) (kS cw) (fun _ _=>rfl))
       grind [AV.cz,Vec.cz]
      grind
     grind
    grind
  grind
 ·rename_i x k T T' ae
  split at h
  ·rename_i i g hx
   injection h with h
   split at h
   ·cases h
   ·rename_i cw
    split at h
    ·rename_i v mi hv hm
     split at h
     ·rename_i cs fq
      split at h
      ·rename_i hc
       obtain ⟨h1,h2⟩:=aO h;obtain ⟨hI,rfl,aa⟩:=mH hc h1;have aq:=(List.getElem?_eq_some_iff.1 hv).1;have bt:=hE.m.v i v hv (.inl hI.live);have ak:=aB5 (o:=o) (st:=st) (u:=m.fo i+v.ver) hm ae (by grind [AV.cz]) bt (hI.cz m i) rfl (by rw [aw];exact iV m fq) aa
       refine dM hw (iU hF (by grind) ak ?_)
       have:=hk .any s.B (s.V.set i ⟨v.live,v.T,v.k,v.ver,zQ mi.kl.length cs v.es⟩) m st.B _ h2
        (hE.put (hE.m.setV (v:=⟨v.live,v.T,v.k,v.ver,zQ mi.kl.length cs v.es⟩) aq) (Emb.Up.refl _) (fun _ _=>rfl) (Nat.le_refl _) (by simp) rfl o.dst)
        (Adv.put hd (Stp.setV hE.m aq _) (Nat.le_refl _) (by simp) (fun _ _ _=>rfl) (kS cw) (fun _ _=>rfl))
       grind [AV.cz,Vec.cz]
      grind
     grind
    grind
  grind
 ·rename_i T x y ae
  injection h with h
  split at h
  ·rename_i a1 a2 et k by_ k1 l k2 c ar hx hy
   split at h
   ·rename_i te fh
    split at h
    ·rename_i hc
     simp only [Bool.and_eq_true,beq_iff_eq,bne_iff_ne] at hc;obtain ⟨⟨c1,c2⟩,c3⟩:=hc;obtain ⟨h1,h2⟩:=aO h;simp only [Bool.and_eq_true,decide_eq_true_eq,cJ] at h1;obtain ⟨⟨g1,g2⟩,g3,g4⟩:=h1;have ak:=YX (P:=P) (o:=o) (st:=st) (k1:=k1) (k2:=k2) ae (by grind [AV.cz]) (by grind [AV.cz]) ar c1 fh c2 c3 g1 g2 g3 g4
     refine dM hw (iU hF (by grind) ak ?_)
     have hl:m.vb.length=m.vm.length:=by rw [hE.m.ol,hE.m.vl]
     have:=hk (.own s.V.length 0) s.B (s.V++[⟨true,et,k,0,List.replicate l.toNat (te.zero.map .val)⟩]) (m.pushV st.V.length) st.B (st.V++[⟨true,et,k,0,List.replicate l.toNat (te.zero.map .val)⟩]) h2
      (hE.put (hE.m.pushV (v:=⟨true,et,k,0,List.replicate l.toNat (te.zero.map .val)⟩)) (Emb.pushV_up _ _) (Emb.pushV_fo _ hl) (Nat.le_refl _) (by simp) (by simp [AV.inn]) o.dst)
      (Adv.put hd (Stp.pushV _) (Nat.le_refl _) (by simp) (fun _ _ _=>rfl) (fun i _ hi=>List.getElem?_append_left hi) (fun i hi=>Emb.pushV_fo _ hl i (by rw [hE.m.vl];exact hi)))
     have e1:(AV.own s.V.length 0).cz (m.pushV st.V.length)=.own st.V.length 0:=by
      simp only [AV.cz];rw [<- hE.m.vl,Emb.pushV_new,Emb.pushV_new0 _ hl]
     grind
    grind
   grind
  grind
 ·rename_i x y T T' ae
  split at h
  ·rename_i i g k es hx hy
   injection h with h
   split at h
   ·cases h
   ·rename_i cw
    split at h
    ·rename_i v a1 a2 a3 k' a4 hv ar
     split at h
     ·rename_i hc
      simp at hc;obtain ⟨⟨⟨⟨c1,rfl⟩,c3⟩,rfl⟩,c5⟩:=hc;obtain ⟨h1,h2⟩:=aO h;simp at h1;have aq:=(List.getElem?_eq_some_iff.1 hv).1;have bt:=hE.m.v i v hv (.inl (Vec.sl_live c1));have ak:=aB6 (P:=P) (o:=o) (st:=st) (u:=m.fo i+v.ver) ae (by grind [AV.cz]) (by grind [AV.cz]) bt c1 rfl ar c3 c5 h1
      refine dM hw (iU hF (by grind) ak ?_)
      have:=hk (.cv (.val (.int .i64 es.length))) s.B (s.V.set i ⟨v.live,v.T,v.k,v.ver,es++v.es.drop es.length⟩) m st.B _ h2
       (hE.put (hE.m.setV (v:=⟨v.live,v.T,v.k,v.ver,es++v.es.drop es.length⟩) aq) (Emb.Up.refl _) (fun _ _=>rfl) (Nat.le_refl _) (by simp) rfl o.dst)
       (Adv.put hd (Stp.setV hE.m aq _) (Nat.le_refl _) (by simp) (fun _ _ _=>rfl) (kS cw) (fun _ _=>rfl))
      grind [AV.cz,Vec.cz]
     grind
    grind
  grind
 grind
variable {next:SS->Option Ou}
theorem GV (hF:Free F) {lk:Lk} {m:Emb} {o2:Oper} (hE:Em m s st)
  (h:aA7 P lk s o o2 next=some (some r))
  (hk:∀ m' s' st',next s'=some r->Em m' s' st'->Adv lk m s st m' s' st'->dQ F n P ops.toArray rest st' Q) :
  dQ F n P ops.toArray (o::o2::rest) st Q:=by
 have aw:=hE.ev;unfold aA7 at h;split at h
 ·rename_i T x l args ats ae oz
  split at h
  ·rename_i d i g kk lo d' T' hd hx hl af jt
   injection h with h
   split at h
   ·rename_i v a1 a2 e k a3 hv ar
    split at h
    ·rename_i te fh
     split at h
     ·rename_i hc
      simp only [Bool.and_eq_true,beq_iff_eq,bne_iff_ne] at hc;obtain ⟨⟨⟨⟨⟨⟨⟨⟨⟨⟨⟨⟨⟨⟨c1,c2⟩,c3⟩,rfl⟩,rfl⟩,c6⟩,c7⟩,c8⟩,c9⟩,rfl⟩,c11⟩,c12⟩,c13⟩,c14⟩,c15⟩:=hc;obtain ⟨h1,h2⟩:=aO h;simp at h1;have aq:=(List.getElem?_eq_some_iff.1 hv).1;have bt:=hE.m.v i v hv (.inl (Vec.sl_live c9));have gu:args=#[.tmp d']:=by rw [<- Array.toArray_toList (xs:=args),af]
      have A7:ats=#[T']:=by rw [<- Array.toArray_toList (xs:=ats),jt]
      have ja:d'<st.t.length:=by rw [hE.t];simp_all
      refine YV hF (kk:=kk) (u:=m.fo i+v.ver) (by simp_all) (by simp_all) ae hd oz gu A7 (by simp_all) ja (by grind [AV.cz]) bt c9 rfl (by grind [AV.cz]) h1.1 h1.2 ar c11 c12 fh (by
       grind) c14 c15 ?_
      have A8:=hE.put (hE.m.setV (v:=⟨v.live,v.T,v.k,v.ver,v.es.take lo.toNat++List.replicate (v.es.length - lo.toNat) (te.zero.map .val)⟩) aq) (Emb.Up.refl _) (fun _ _=>rfl) (Nat.le_refl _) (by simp) (x:=.any) rfl (some d')
      refine hk m _ _ h2 (by grind [SS.put,St.put,AV.cz,Vec.cz]) ?_
      have:=Adv.put (lk:=lk) (m:=m) (s:=s) (st:=st) (d:=some d') (x:=.any) (y:=.any) (B:=s.B) (V:=s.V.set i ⟨v.live,v.T,v.k,v.ver,v.es.take lo.toNat++List.replicate (v.es.length - lo.toNat) (te.zero.map .val)⟩)
       (B':=st.B) (V':=st.V.set (m.fv i) { v.cz m i with es:=v.es.take lo.toNat++List.replicate (v.es.length - lo.toNat) (te.zero.map .val) }) (by grind [bX]) (Stp.setV hE.m aq _) (Nat.le_refl _) (by simp) (fun _ _ _=>rfl) (kS (by grind)) (fun _ _=>rfl)
      simpa [SS.put,St.put,Vec.cz] using this
     grind
    grind
   grind
  grind
 grind
theorem KL {y:Operand} {d:Nat} (h:aA8 y d=true):∀ t,y=.tmp t->t≠d:=by
 have _:=G;grind [aA8]
theorem VN (hF:Free F) {lk:Lk} {m:Emb} {o2 o3:Oper} (hE:Em m s st)
  (h:aDS P lk s o o2 o3 next=some (some r))
  (hk:∀ m' s' st',next s'=some r->Em m' s' st'->Adv lk m s st m' s' st'->dQ F n P ops.toArray rest st' Q) :
  dQ F n P ops.toArray (o::o2::o3::rest) st Q:=by
 have aw:=hE.ev;unfold aDS at h;split at h
 ·rename_i T x k e1 T' x' e2 y ae oz xh
  split at h
  ·rename_i d1 d2 i g d ve t7 hx hy
   injection h with h
   split at h
   ·rename_i v mi hv hm
    split at h
    ·rename_i cs fq
     split at h
     ·rename_i hc
      simp at hc;obtain ⟨⟨⟨⟨⟨⟨⟨⟨⟨⟨⟨⟨⟨⟨⟨⟨⟨⟨c1,c2⟩,c3⟩,c4⟩,rfl⟩,rfl⟩,rfl⟩,rfl⟩,c9⟩,c10⟩,c11⟩,c12⟩,c13⟩,c14⟩,c15⟩,c16⟩,c17⟩,c18⟩,c19⟩:=hc;obtain ⟨h1,h2⟩:=aO h;obtain ⟨hI,rfl,aa⟩:=mH c18 h1;have aq:=(List.getElem?_eq_some_iff.1 hv).1;have bt:=hE.m.v i v hv (.inl hI.live);have aj:st.t.length=s.n:=by rw [hE.t];simp
      refine aDB hF (u:=m.fo i+v.ver) (d:=d) hm (by simp_all) (by simp_all) (by simp_all) ae ve oz t7 xh (by simp_all) (by grind) (by grind) c14 c15
       (fun t ht=>⟨KL c16 t ht,KL c17 t ht⟩) (by grind [AV.cz]) bt (hI.cz m i) rfl (by rw [aw];exact iV m fq) aa (by grind [AV.cz]) c19 ?_
      have hb:=hE.put (hE.m.setV (v:=⟨v.live,v.T,v.k,v.ver,bV mi.kl.length cs d v.es⟩) aq) (Emb.Up.refl _) (fun _ _=>rfl) (Nat.le_refl _) (by simp) (x:=.any) rfl (some e1)
      have ha:=Adv.put (lk:=lk) (m:=m) (s:=s) (st:=st) (d:=some e1) (x:=.any) (y:=.any) (B:=s.B) (V:=s.V.set i ⟨v.live,v.T,v.k,v.ver,bV mi.kl.length cs d v.es⟩)
       (B':=st.B) (V':=st.V.set (m.fv i) { v.cz m i with es:=bV mi.kl.length cs d v.es }) (by grind [bX]) (Stp.setV hE.m aq _) (Nat.le_refl _) (by simp) (fun _ _ _=>rfl) (kS (by grind)) (fun _ _=>rfl)
      have jb:=hb.put hb.m (Emb.Up.refl _) (fun _ _=>rfl) (Nat.le_refl _) (Nat.le_refl _) (x:=.any) rfl (some e2)
      have vg:=Adv.put (lk:=lk) (m:=m) (s:=s.put (some e1) .any s.B (s.V.set i ⟨v.live,v.T,v.k,v.ver,bV mi.kl.length cs d v.es⟩)) (st:=st.put (some e1) .any st.B (st.V.set (m.fv i) { v.cz m i with es:=bV mi.kl.length cs d v.es })) (B':=st.B) (V':=st.V.set (m.fv i) { v.cz m i with es:=bV mi.kl.length cs d v.es }) (d:=some e2) (x:=.any) (y:=.any)
       (B:=s.B) (V:=s.V.set i ⟨v.live,v.T,v.k,v.ver,bV mi.kl.length cs d v.es⟩) (by grind [bX]) (Stp.refl _ _ _) (Nat.le_refl _) (Nat.le_refl _) (fun _ _ _=>rfl) (fun _ _ _=>rfl) (fun _ _=>rfl)
      refine hk m _ _ h2 (by grind [SS.put,St.put,AV.cz,Vec.cz]) ?_
      exact ha.trans (by grind [SS.put,St.put,Vec.cz])
     grind
    grind
   grind
  grind
 grind
theorem zC (hM:Fns P sg M) (hF:Free F) {lk:Lk} {b0:Nat} {m:Emb} (hE:Em m s st) (hw:Wants ops o st true) (hd:bX lk o.dst=true)
  (h:evO P sg M lk false b0 s o K=some r)
  (hk:∀ x B V m' B' V',K x B V=some r->Em m' (s.put o.dst x B V) (st.put o.dst (x.cz m') B' V')->Adv lk m s st m' (s.put o.dst x B V) (st.put o.dst (x.cz m') B' V')->dQ F n P ops.toArray rest (st.put o.dst (x.cz m') B' V') Q) :
  dQ F n P ops.toArray (o::rest) st Q:=by
 have xl:∀ (neg:Bool) (T T':TypeId) (x y:Operand) (es:List (List CV)),o.op=.binOp (if neg=true then .neq else .eql) T x y T'->aDR P s T x y=some es ->
   (∀ b:Bool,(b=true->es=[])->K (.cv (.val (.bool (if neg=true then !b else b)))) s.B s.V=some r)->dQ F n P ops.toArray (o::rest) st Q:=by
  intro neg T T' x y es ae hn hK;obtain ⟨⟨_,_,_,_,_,hT⟩,hy,hx⟩:=aCe hE hn;refine dM hw (aDT hF ae hx hy hT fun b hb=>?_)
  have:=hk _ s.B s.V m st.B st.V (hK b fun h=>List.eq_nil_of_length_eq_zero (hb h)) (hE.put hE.m (Emb.Up.refl _) (fun _ _=>rfl) (Nat.le_refl _) (Nat.le_refl _) rfl o.dst) (Adv.put hd (Stp.refl _ _ _) (Nat.le_refl _) (Nat.le_refl _) (fun _ _ _=>rfl) (fun _ _ _=>rfl) (fun _ _=>rfl))
  grind [AV.cz]
 unfold evO at h;split at h
 ·rename_i x args ats ae
  exact ZG hF hE hw hd (GS hM hE ae h) fun x hx he ha=>hk x s.B s.V m st.B st.V hx he ha
 ·cases h
 ·simp at h
  split at h
  ·split at h
   ·obtain ⟨h1,h2⟩:=PL h
    simp_all
   ·exact ET hF hE hw hd (oK hE h) hk
  ·split at h
   ·obtain ⟨h1,h2⟩:=PL h
    simp_all
   ·exact ET hF hE hw hd (oK hE h) hk
  ·split at h
   ·rename_i r' hx
    subst h;exact ZI hF hE hw hd hx hk
   ·exact ET hF hE hw hd (oK hE h) hk
theorem Em.slot {m:Emb} (h:Em m s st) {d:Nat} (hd:d<s.n):st.t[d]? = some ((s.get d).cz m):=by
 have h1:=h.get d;rw [h.t] at h1 ⊢;simp_all
def CP (F:Fence) (n:Nat) (P:Program) (inl:IN):Prop:=
 ∀ {lk:Lk} {m:Emb} {s:SS} {st:St} {ops:List Oper} {o:Oper} {rest:List Oper} {r:Ou} {Q:St->Prop} {next:SS->Option Ou},Em m s st->Wants ops o st true->bX lk o.dst=true->inl lk s o next=some (some r) ->
  (∀ m' s' st',next s'=some r->Em m' s' st'->Adv lk m s st m' s' st'->dQ F n P ops.toArray rest st' Q)->dQ F n P ops.toArray (o::rest) st Q
theorem aGL:CP F n P aIE:=by
 intro lk m s st ops o rest r Q next hE hw hd h hk
 grind [aIE]
theorem pV (hM:Fns P sg M) (hF:Free F) {lk:Lk} {b0:Nat} {m:Emb} {inl:IN} (hI:CP F n P inl) (hE:Em m s st) (h:ES P sg M inl lk false b0 ops o s next=some r)
  (hk:∀ m' s' st',next s'=some r->Em m' s' st'->Adv lk m s st m' s' st'->dQ F n P ops.toArray rest st' Q):dQ F n P ops.toArray (o::rest) st Q:=by
 unfold ES at h;split at h
 ·rename_i hd
  have run:∀ (s1:SS),Em m s1 st->Adv lk m s st m s1 st->Wants ops o st true->evW P sg M inl lk false b0 s1 o next=some r->dQ F n P ops.toArray (o::rest) st Q:=by
   intro s1 bY dy hw h1;unfold evW at h1;split at h1
   ·rename_i r' dc
    subst h1;exact hI bY hw hd dc fun m' s' st' hx he ha=>hk _ _ _ hx he (dy.trans ha)
   exact zC hM hF bY hw hd h1 fun x B V m' B' V' hx he ha=>hk _ _ _ hx he (dy.trans ha)
  have skip:∀ (s1:SS),Em m s1 st->Adv lk m s st m s1 st->Wants ops o st false->next (s1.put o.dst unA s1.B s1.V)=some r->dQ F n P ops.toArray (o::rest) st Q:=by
   intro s1 bY dy hw h1;refine ZE hF hw ?_
   have he:Em m (s1.put o.dst unA s1.B s1.V) (st.put o.dst (.gd [false] .any) st.B st.V):=by
    have:=bY.put bY.m (Emb.Up.refl _) (fun _ _=>rfl) (Nat.le_refl _) (Nat.le_refl _) (x:=unA) rfl o.dst
    grind [unA,AV.cz]
   have ha:Adv lk m s1 st m (s1.put o.dst unA s1.B s1.V) (st.put o.dst (.gd [false] .any) st.B st.V):=Adv.put hd (Stp.refl _ _ _) (Nat.le_refl _) (Nat.le_refl _) (fun _ _ _=>rfl) (fun _ _ _=>rfl) (fun _ _=>rfl)
   exact hk _ _ _ h1 he (dy.trans ha)
  split at h
  ·rename_i hg
   exact run s hE (Adv.refl _ _ _ _) (Wants.none hg) h
  ·rename_i j want hg
   split at h
   ·cases h
   ·rename_i d d8
    split at h
    ·rename_i dh
     have dg:=hE.slot dh;split at h
     ·rename_i c hc
      split at h
      ·cases h
      ·rw [hc] at dg
       have hw:=Wants.known hg d8 dg;have bY:=hE.set hc dh;have dy:=Adv.set (lk:=lk) (m:=m) (st:=st) hc;cases c <;> cases want
       ·exact run _ bY dy hw h
       ·exact skip _ bY dy hw h
       ·exact skip _ bY dy hw h
       ·exact run _ bY dy hw h
     ·rename_i x hc
      rw [hc] at dg;exact skip s hE (Adv.refl _ _ _ _) (Wants.undef hg d8 dg) h
     grind
    grind
 grind
theorem nT (hM:Fns P sg M) (hF:Free F) {inl:IN} (hI:CP F n P inl) {lk:Lk} {b0:Nat} {r:Ou}:∀ (l:List Oper) {m:Emb} {s:SS} {st:St} {K:SS->Option Ou} {Q:St->Prop},Em m s st->evR P sg M inl lk false b0 ops l s K=some r ->
  (∀ m' s' st',K s'=some r->Em m' s' st'->Adv lk m s st m' s' st'->Q st')->dQ F n P ops.toArray l st Q
 | [],m,s,st,K,Q,hE,h,hk=>by
  exact CH (hk m s st h hE (Adv.refl _ _ _ _))
 | [o],m,s,st,K,Q,hE,h,hk=>by
  exact pV hM hF hI hE h fun m' s' st' h1 h2 h3=>CH (hk m' s' st' h1 h2 h3)
 | [o,o2],m,s,st,K,Q,hE,h,hk=>by
  simp [evR] at h;split at h
  ·rename_i r' hc
   subst h;exact GV hF hE hc fun m' s' st' h1 h2 h3=>CH (hk m' s' st' h1 h2 h3)
  ·exact pV hM hF hI hE h fun m' s' st' h1 h2 h3=>pV hM hF hI h2 h1 fun m'' s'' st'' g1 g2 g3=>CH (hk m'' s'' st'' g1 g2 (h3.trans g3))
 | o::o2::o3::rest,m,s,st,K,Q,hE,h,hk=>by
  simp [evR] at h;split at h
  ·rename_i r' hc
   subst h;exact GV hF hE hc fun m' s' st' h1 h2 h3=>nT hM hF hI (o3::rest) h2 h1 fun m'' s'' st'' g1 g2 g3=>hk m'' s'' st'' g1 g2 (h3.trans g3)
  ·split at h
   ·rename_i r' hc
    subst h;exact VN hF hE hc fun m' s' st' h1 h2 h3=>nT hM hF hI rest h2 h1 fun m'' s'' st'' g1 g2 g3=>hk m'' s'' st'' g1 g2 (h3.trans g3)
   ·exact pV hM hF hI hE h fun m' s' st' h1 h2 h3=>nT hM hF hI (o2::o3::rest) h2 h1 fun m'' s'' st'' g1 g2 g3=>hk m'' s'' st'' g1 g2 (h3.trans g3)
end
section
variable {F:Fence} {n:Nat} {P:Program} {lo:List Oper} {b0:Nat} {sg:FuncId->Option Sig} {M:Den}
theorem qM {o:Oper} {s:St} {A:AV} {B':List Box} (hw:Wants lo o s true) (h:aGB F n P o s A B'):aIz F n P lo o s A B':=by
 intro n0 w0 e a w Q K hr hk;rw [if_pos (hw s (fun _ _=>rfl) _ _ _ _ _ hr)]
 exact h n0 w0 e a w Q K hr hk
theorem Wants.agr {o:Oper} {s s':St} {b:Bool} (h:Wants lo o s b) (ha:∀ d∈o.looksAt lo.toArray,s'.t[d]? = s.t[d]?):Wants lo o s' b:=
 fun s'' h'=>h s'' fun d hd=>(h' d hd).trans (ha d hd)
end
inductive Sh1 where
 | lf (l:Lf)
 | own (i:Nat)
inductive Sh where
 | lf (l:Lf)
 | agg (ls:List Lf)
 | ptr (i o:Nat)
 | own (i:Nat)
 | fnp (f:FuncId) (ps:List Nat)
 | tp (b:Bool) (hs:List Sh1)
 | any
def KM:List AV->Option (List Nat)
 | []=>some []
 | .ptr i 0::xs=>(KM xs).map (i::·)
 | _::_=>none
def Sh1.ext (V:List Vec) (sh:Sh1) (x:AV):Option (List CV):=
 match sh,x with
 | .lf l,.cv c=>if l.ok c=true then some [c] else none
 | .own i,.own i' g=>match V[i]? with
  | some v=>if (i == i'&&v.live&&v.ver == g)=true then some [] else none
  | none=>none
 | _,_=>none
def Sh1.exts (V:List Vec):List Sh1->List AV->Option (List CV)
 | [],[]=>some []
 | h::hs,x::xs=>match h.ext V x,Sh1.exts V hs xs with
  | some a,some b=>some (a++b)
  | _,_=>none
 | _,_=>none
def Sh1.n:Sh1->Nat
 | .lf _=>1
 | .own _=>0
def Sh1.ns:List Sh1->Nat
 | []=>0
 | h::hs=>h.n+Sh1.ns hs
def Sh1.bld (sh:Sh1) (vs:List CV) (k:Nat):AV:=match sh with
 | .lf l=>l.av (vs.getD k dC)
 | .own i=>.own i 0
def Sh1.blds:List Sh1->List CV->Nat->List AV
 | [],_,_=>[]
 | h::hs,vs,k=>h.bld vs k::Sh1.blds hs vs (k+h.n)
def Sh1.okS (nv:Nat) (vx:List Nat):Sh1->Bool
 | .lf _=>true
 | .own i=>decide (i<nv)&&vx.contains i
def Sh.ext (V:List Vec) (sh:Sh) (x:AV):Option (List CV):=
 match sh,x with
 | .lf l,.cv c=>if l.ok c=true then some [c] else none
 | .agg ls,.agg xs=>match gC xs with
  | some cs=>if (oks ls cs 0&&ls.length == cs.length)=true then some cs else none
  | none=>none
 | .ptr i o,.ptr i' o'=>if i=i'/\o=o' then some [] else none
 | .own i,.own i' g=>match V[i]? with
  | some v=>if (i == i'&&v.live&&v.ver == g)=true then some [] else none
  | none=>none
 | .fnp f ps,.fn f' xs=>if f=f'/\KM xs=some ps then some [] else none
 | .tp true hs,.tup xs=>Sh1.exts V hs xs
 | .tp false hs,.agg xs=>Sh1.exts V hs xs
 | .any,_=>some []
 | _,_=>none
def Sh.n:Sh->Nat
 | .lf _=>1
 | .agg ls=>ls.length
 | .tp _ hs=>Sh1.ns hs
 | _=>0
def Sh.bld (sh:Sh) (vs:List CV) (k:Nat):AV:=
 match sh with
 | .lf l=>l.av (vs.getD k dC)
 | .agg ls=>.agg (avs ls vs k)
 | .ptr i o=>.ptr i o
 | .own i=>.own i 0
 | .fnp f ps=>.fn f (ps.map fun i=>.ptr i 0)
 | .tp true hs=>.tup (Sh1.blds hs vs k)
 | .tp false hs=>.agg (Sh1.blds hs vs k)
 | .any=>.any
def Sh.exts (V:List Vec):List Sh->List AV->Option (List CV)
 | [],[]=>some []
 | h::hs,x::xs=>match h.ext V x,Sh.exts V hs xs with
  | some a,some b=>some (a++b)
  | _,_=>none
 | _,_=>none
def Sh.ns:List Sh->Nat
 | []=>0
 | h::hs=>h.n+Sh.ns hs
def Sh.blds:List Sh->List CV->Nat->List AV
 | [],_,_=>[]
 | h::hs,vs,k=>h.bld vs k::Sh.blds hs vs (k+h.n)
structure Hint where
 keep:List Nat
 vars:List (Nat×Sh)
 bx:List (Nat×TypeId×List Sh)
 vx:List (Nat×TypeId×Nat×Option Nat)
def Hint.vxu (h:Hint):List Nat:=(h.vx.filter fun p=>p.2.2.2.isNone).map (·.1)
mutual
def AV.noV (vx:List Nat):AV->Bool
 | .own i _=>!vx.contains i
 | .opt i _ _ _=>!vx.contains i
 | .agg xs=>AV.noVs vx xs
 | .tup xs=>AV.noVs vx xs
 | .fn _ xs=>AV.noVs vx xs
 | .gd _ x=>AV.noV vx x
 | _=>true
def AV.noVs (vx:List Nat):List AV->Bool
 | []=>true
 | x::xs=>AV.noV vx x&&AV.noVs vx xs
end
def HY (s:SS):List (Nat×TypeId×List Sh)->Option (List CV)
 | []=>some []
 | (i,T,hs)::r=>match s.B[i]? with
  | some b=>if (b.live&&b.T == T)=true then
    match Sh.exts s.V hs b.cs,HY s r with
    | some a,some c=>some (a++c)
    | _,_=>none
   else none
  | none=>none
def aIf (g:Option Nat) (ver:Nat):Bool:=match g with
 | some g=>ver == g
 | none=>true
def liveT (T:TypeId):Bool:=!(T == ghT)
def SO (s:SS):List (Nat×TypeId×Nat×Option Nat)->Option (List CV)
 | []=>some []
 | (i,T,k,g)::r=>match s.V[i]? with
  | some v=>if (v.live == liveT T&&v.T == T&&v.k == k&&aIf g v.ver)=true then (SO s r).map (.row k v.es::·) else none
  | none=>none
def kI (h:Hint) (s:SS):Option (List CV):=
 match Sh.exts s.V (h.vars.map (·.2)) (h.vars.map fun p=>s.get p.1),HY s h.bx,SO s h.vx with
 | some a,some b,some c=>some (a++(b++c))
 | _,_,_=>none
def OH:List (Nat×Sh)->List CV->Nat->List (Nat×AV)
 | [],_,_=>[]
 | (d,h)::r,vs,k=>(d,h.bld vs k)::OH r vs (k+h.n)
def KN:List (Nat×TypeId×List Sh)->Nat->List CV->Nat->Option Box
 | [],_,_,_=>none
 | (j,T,hs)::r,i,vs,k=>if i=j then some ⟨true,T,Sh.blds hs vs k⟩ else KN r i vs (k+Sh.ns hs)
def nB':List (Nat×TypeId×List Sh)->Nat
 | []=>0
 | (_,_,hs)::r=>Sh.ns hs+nB' r
def KO:List (Nat×TypeId×Nat×Option Nat)->Nat->List CV->Nat->Option Vec
 | [],_,_,_=>none
 | (j,T,k,g)::r,i,vs,p=>if i=j then some ⟨liveT T,T,k,g.getD 0,cR (vs.getD p dC)⟩ else KO r i vs (p+1)
def jJ (n:Nat) (l:List Nat):Nat:=l.countP fun i=>decide (n<=i)
def aDU (h:Hint) (s:SS) (vs:List CV):List Box:=
 (List.range (s.B.length+jJ s.B.length (h.bx.map (·.1)))).map fun i =>
  match KN h.bx i vs (Sh.ns (h.vars.map (·.2))) with
  | some b=>b
  | none=>s.B.getD i ⟨false,0,[]⟩
def aBa (h:Hint) (s:SS) (vs:List CV):List Vec:=
 (List.range (s.V.length+jJ s.V.length (h.vx.map (·.1)))).map fun i =>
  match KO h.vx i vs (Sh.ns (h.vars.map (·.2))+nB' h.bx) with
  | some v=>v
  | none=>s.V.getD i ⟨false,0,0,0,[]⟩
def bF (h:Hint) (lk:Lk) (s:SS) (vs:List CV):SS:=
 ⟨s.n,(h.keep++lk.t).map (fun d=>(d,s.get d))++OH h.vars vs 0,aDU h s vs,aBa h s vs⟩
def cW (h:Hint) (lk:Lk) (s:SS):Lk:=
 ⟨h.keep++lk.t,(List.range s.B.length).filter (fun i=>!(h.bx.map (·.1)).contains i),(List.range s.V.length).filter (fun i=>!(h.vx.map (·.1)).contains i),lk.o⟩
def gF (h:Hint) (lk:Lk) (s:SS):Bool:=
 (h.keep++lk.t).all (fun d=>(s.get d).noV h.vxu) &&
 (List.range s.B.length).all (fun i=>(h.bx.map (·.1)).contains i || AV.noVs h.vxu ((s.B.getD i ⟨false,0,[]⟩).cs)) &&
 lk.b.all (fun i=>!(h.bx.map (·.1)).contains i)&&(lk.v.all (fun i=>!(h.vx.map (·.1)).contains i)&&lk.o.all (fun i=>!h.vxu.contains i)) &&
 (h.bx.map (·.1)).all (fun i=>decide (i<s.B.length+jJ s.B.length (h.bx.map (·.1))))&&(h.vx.map (·.1)).all (fun i=>decide (i<s.V.length+jJ s.V.length (h.vx.map (·.1)))) &&
 h.vx.all (fun p=>p.2.2.2.isNone || !h.vxu.contains p.1) &&
 (List.range (jJ s.B.length (h.bx.map (·.1)))).all (fun j=>(h.bx.map (·.1)).contains (s.B.length+j))&&(List.range (jJ s.V.length (h.vx.map (·.1)))).all (fun j=>(h.vx.map (·.1)).contains (s.V.length+j)) &&
 (let nb:=s.B.length+jJ s.B.length (h.bx.map (·.1));let nv:=s.V.length+jJ s.V.length (h.vx.map (·.1));
  let CQ:Sh->Bool:=fun sh=>match sh with
   | .ptr i _=>decide (i<nb)
   | .own i=>decide (i<nv)&&h.vxu.contains i
   | .tp _ hs=>hs.all (Sh1.okS nv h.vxu)
   | .fnp _ ps=>ps.all fun i=>decide (i<nb)
   | _=>true
  h.vars.all (fun p=>CQ p.2)&&h.bx.all (fun p=>p.2.2.all CQ))
structure Wk (st st1:St):Prop where
 t:AV.les st.t st1.t
 Bl:st1.B.length=st.B.length
 B:∀ (i:Nat) (b1:Box),st1.B[i]? = some b1->∃ b,st.B[i]? = some b/\(b1.live=true->b.live=true/\b1.T=b.T/\AV.les b.cs b1.cs)
 V:st1.V=st.V
 sct:∀ nb vs,AV.scos nb vs st.t->AV.scos nb vs st1.t
 scB:∀ nb vs (i:Nat) (b b1:Box),st.B[i]? = some b->st1.B[i]? = some b1->AV.scos nb vs b.cs->AV.scos nb vs b1.cs
variable {n0:Nat} {w0:World} {st:St} {a:Act}
theorem Wk.weak {e:Env} {st1:St} {w:World} (h:Wk st st1) (hr:Rel n0 w0 e st a w):Weak st st1:=by
 refine ⟨h.t,h.B,fun i v1 hv=>⟨v1,by rw [<- h.V];exact hv,rfl,rfl,fun _=>rfl⟩,?_,?_⟩
 ·rw [h.Bl,h.V];exact h.sct _ _ hr.sc
 ·intro i b1 bv
  obtain ⟨b,hb,_⟩:=h.B i b1 bv;rw [h.Bl,h.V];exact h.scB _ _ i b b1 hb bv (hr.mem.boxsc i b hb)
theorem Wk.rel {e:Env} {st1:St} {w:World} (h:Wk st st1) (hr:Rel n0 w0 e st a w):Rel n0 w0 e st1 a w:=hr.weak (h.weak hr)
theorem Wk.refl (st:St):Wk st st:=
 ⟨AV.les_refl _,rfl,fun i b1 hb=>⟨b1,hb,fun hl=>⟨hl,rfl,AV.les_refl _⟩⟩,rfl,fun _ _ h=>h,fun _ _ i b b1 h1 h2 h3=>by grind⟩
section
variable {F:Fence} {n:Nat} {P:Program}
variable {Q:Exit->St->Prop}
theorem SP {c:Code} {st:St} (h:W F n P c st fun ex st'=>∃ st1,Wk st' st1/\Q ex st1):W F n P c st Q:=by
 intro n0 w0 e a w Qr hr hk;refine h n0 w0 e a w Qr hr ?_;rintro ex e' st' a' w' ⟨st1,hw,hq⟩ ah ac hx;have oc:=hw.weak ah;refine hk ex e' st1 a' w' hq (ah.weak oc) ac ?_;exact hx.weak oc (by rw [hw.Bl];exact hx.nB) (by rw [hw.V];simpa using hx.nV)
theorem aJN {c:Code} {st st1:St} (hw:Wk st st1) (h:W F n P c st1 Q):W F n P c st Q:=by
 intro n0 w0 e a w Qr hr hk;have oc:=hw.weak hr;have hx:dW e st w e st1.B st1.V w:=(Ext.refl e w st.B.length (vers st.V) (kss st.V)).weak oc (by rw [hw.Bl];omega) (by rw [hw.V];simp)
 exact h n0 w0 e a w Qr (hr.weak oc) fun x e' st' a' w' hq ah ac bw=>hk x e' st' a' w' hq ah ac (hx.trans bw)
end
def LeS (x y:AV):Prop:=AV.le x y/\∀ nb vs,AV.sco nb vs x->AV.sco nb vs y
theorem LeS.refl (x:AV):LeS x x:=⟨AV.le_refl _,fun _ _ h=>h⟩
theorem LeS.any (x:AV):LeS x .any:=⟨AV.le_any _,fun _ _ _=>by simp⟩
variable {c:CV}
theorem LeS.of_cv {x:AV} (h:AV.le x (.cv c)):LeS x (.cv c):=have _:=G;⟨h,fun _ _ _=>by simp⟩
def Win (vs:List CV) (k:Nat) (a:List CV):Prop:=∀ j,j<a.length->vs.getD (k+j) dC=a.getD j dC
theorem Win.left {vs a b:List CV} (h:Win vs k (a++b)):Win vs k a:=by
 have _:=G;intro j hj;rw [h j (by grind)]
 grind
theorem Win.right {vs a b:List CV} (h:Win vs k (a++b)):Win vs (k+a.length) b:=by
 have _:=G;intro j hj;have:=h (a.length+j) (by grind)
 grind
mutual
theorem AV.cz_noV {m m':Emb} {vx:List Nat} {nb nv:Nat} (hb:∀ i,i<nb->m.fb i=m'.fb i) (hv:∀ i,i<nv->m.fv i=m'.fv i) (ho:∀ i,i<nv->vx.contains i=false->m.fo i=m'.fo i) :
  ∀ (x:AV),AV.inn nb nv x=true->AV.noV vx x=true->x.cz m=x.cz m'
 | .any,_,_=>by have _:=G;rfl
 | .cv _,_,_=>by rfl
 | .ptr i _,h,_=>by simp_all [AV.inn,AV.cz]
 | .own i _,h,h'=>by simp_all [AV.inn,AV.noV,AV.cz]
 | .opt i _ _ _,h,h'=>by simp_all [AV.inn,AV.noV,AV.cz]
 | .agg xs,h,h'=>by simp only [AV.inn,AV.noV] at h h';simp only [AV.cz,AV.czs_noV hb hv ho xs h h']
 | .tup xs,h,h'=>by simp only [AV.inn,AV.noV] at h h';simp only [AV.cz,AV.czs_noV hb hv ho xs h h']
 | .fn _ xs,h,h'=>by simp only [AV.inn,AV.noV] at h h';simp only [AV.cz,AV.czs_noV hb hv ho xs h h']
 | .gd [] x,h,h'=>by simp only [AV.inn,AV.noV] at h h';simp only [AV.cz,AV.cz_noV hb hv ho x h h']
 | .gd (_::_) x,h,h'=>by simp only [AV.inn,AV.noV] at h h';simp only [AV.cz,AV.cz_noV hb hv ho x h h']
theorem AV.czs_noV {m m':Emb} {vx:List Nat} {nb nv:Nat} (hb:∀ i,i<nb->m.fb i=m'.fb i) (hv:∀ i,i<nv->m.fv i=m'.fv i) (ho:∀ i,i<nv->vx.contains i=false->m.fo i=m'.fo i) :
  ∀ (xs:List AV),AV.inns nb nv xs=true->AV.noVs vx xs=true->AV.czs m xs=AV.czs m' xs
 | [],_,_=>by have _:=G;rfl
 | x::xs,h,h'=>by
  simp [AV.inns,AV.noVs] at h h';simp only [AV.czs,AV.cz_noV hb hv ho x h.1 h'.1,AV.czs_noV hb hv ho xs h.2 h'.2]
end
def CQ (nb nv:Nat) (vx:List Nat) (sh:Sh):Bool:=match sh with
 | .ptr i _=>decide (i<nb)
 | .own i=>decide (i<nv)&&vx.contains i
 | .tp _ hs=>hs.all (Sh1.okS nv vx)
 | .fnp _ ps=>ps.all fun i=>decide (i<nb)
 | _=>true
theorem PN:∀ {xs:List AV} {ps:List Nat},KM xs=some ps->xs=ps.map fun i=>.ptr i 0
 | [],ps,h=>by have _:=G;grind [KM]
 | x::xs,ps,h=>by
  unfold KM at h;split at h
  ·rename_i h1;cases h1
  ·rename_i i xs' h1
   cases h1;simp only [Option.map_eq_some_iff] at h;obtain ⟨q,h2,rfl⟩:=h;rw [PN h2];rfl
  ·cases h
section
variable {m m1:Emb} {nb nv:Nat} {vx:List Nat} {V:List Vec}
structure Reb (m m1:Emb) (nb nv:Nat) (vx:List Nat) (V:List Vec):Prop where
 b:∀ i,i<nb->m1.fb i=m.fb i
 v:∀ i,i<nv->m1.fv i=m.fv i
 o:∀ i,i<nv->vx.contains i=false->m1.fo i=m.fo i
 x:∀ i v,i<nv->vx.contains i=true->V[i]? = some v->m1.fo i=m.fo i+v.ver
variable {x:AV} {a:List CV}
theorem Sh1.ext_spec (hr:Reb m m1 nb nv vx V) {sh:Sh1} {vs:List CV} {k:Nat} (h:sh.ext V x=some a) (ho:sh.okS nv vx=true) (hw:Win vs k a) :
  a.length=sh.n/\LeS (x.cz m) ((sh.bld vs k).cz m1)/\AV.inn nb nv (sh.bld vs k)=true:=by
 unfold Sh1.ext at h;split at h
 ·rename_i l c
  split at h
  ·rename_i aa
   cases h;have:=hw 0 (by simp)
   simp at this;obtain ⟨d,hd⟩:=l.av_cv (vs.getD k dC);refine ⟨rfl,?_,by simp only [Sh1.bld,hd];rfl⟩
   simp only [Sh1.bld,hd];refine LeS.of_cv ?_;rw [<- hd];simp [this];exact Lf.le aa
  grind
 ·rename_i i i' g
  split at h
  ·rename_i v hv
   split at h
   ·rename_i hc
    cases h;simp at hc;obtain ⟨⟨rfl,_⟩,rfl⟩:=hc;simp only [Sh1.okS,Bool.and_eq_true,decide_eq_true_eq] at ho;refine ⟨rfl,?_,by grind [Sh1.bld,AV.inn]⟩
    simp [Sh1.bld,AV.cz,hr.v i ho.1,hr.x i v ho.1 ho.2 hv];exact LeS.refl _
   grind
  grind
 grind
theorem Sh1.exts_spec (hr:Reb m m1 nb nv vx V):∀ {hs:List Sh1} {xs:List AV} {a vs:List CV} {k:Nat},Sh1.exts V hs xs=some a->hs.all (Sh1.okS nv vx)=true->Win vs k a ->
  a.length=Sh1.ns hs/\AV.les (AV.czs m xs) (AV.czs m1 (Sh1.blds hs vs k))/\AV.inns nb nv (Sh1.blds hs vs k)=true/\(∀ nB ws,AV.scos nB ws (AV.czs m xs)->AV.scos nB ws (AV.czs m1 (Sh1.blds hs vs k)))
 | [],[],a,vs,k,h,_,_=>by
  simp [Sh1.exts] at h;subst h;exact ⟨rfl,.nil,rfl,fun _ _ h=>h⟩
 | h::hs,x::xs,a,vs,k,he,ho,hw=>by
  simp [Sh1.exts] at he;simp only [List.all_cons,Bool.and_eq_true] at ho;split at he
  ·rename_i a1 a2 h1 h2
   cases he;obtain ⟨p1,p2,p3⟩:=Sh1.ext_spec hr h1 ho.1 hw.left;have je:=hw.right;rw [p1] at je;obtain ⟨q0,q1,q2,q3⟩:=Sh1.exts_spec hr h2 ho.2 je;simp only [Sh1.blds,AV.inns,p3,q2];exact ⟨by grind [Sh1.ns],.cons p2.1 q1,rfl,fun nB ws hs=>⟨p2.2 _ _ hs.1,q3 _ _ hs.2⟩⟩
  grind
 | [],_::_,_,_,_,h,_,_=>by grind [Sh1.exts]
 | _::_,[],_,_,_,h,_,_=>by grind [Sh1.exts]
theorem Sh1.exts_len:∀ {hs:List Sh1} {xs:List AV} {a:List CV},Sh1.exts V hs xs=some a->a.length=Sh1.ns hs
 | [],[],a,h=>by have _:=G;simp [Sh1.exts] at h;subst h;rfl
 | h::hs,x::xs,a,he=>by
  simp only [Sh1.exts] at he;split at he
  ·rename_i a1 a2 h1 h2
   cases he
   have:a1.length=h.n:=by
    unfold Sh1.ext at h1;split at h1
    ·split at h1
     ·cases h1;rfl
     ·cases h1
    ·split at h1
     ·split at h1
      ·cases h1;rfl
      ·cases h1
     ·cases h1
    ·cases h1
   simp [Sh1.ns,this,Sh1.exts_len h2]
  ·cases he
 | [],_::_,_,h=>by grind [Sh1.exts]
 | _::_,[],_,h=>by grind [Sh1.exts]
theorem Sh.ext_spec (hr:Reb m m1 nb nv vx V) {sh:Sh} {vs:List CV} {k:Nat} (h:sh.ext V x=some a) (ho:CQ nb nv vx sh=true) (hw:Win vs k a) :
  a.length=sh.n/\LeS (x.cz m) ((sh.bld vs k).cz m1)/\AV.inn nb nv (sh.bld vs k)=true:=by
 unfold Sh.ext at h;split at h
 ·rename_i l c
  split at h
  ·rename_i aa
   cases h;have:=hw 0 (by simp)
   simp at this;obtain ⟨d,hd⟩:=l.av_cv (vs.getD k dC);refine ⟨rfl,?_,by simp only [Sh.bld,hd];rfl⟩
   simp only [Sh.bld,hd];refine LeS.of_cv ?_;rw [<- hd];simp [this];exact Lf.le aa
  grind
 ·rename_i ls xs
  split at h
  ·rename_i cs aT
   split at h
   ·rename_i aa
    cases h;simp at aa;have bq:=IX aa.1;simp [aa.2] at bq;have he:avs ls vs k=avs ls a 0:=avs_cut ls vs a k 0 fun j hj=>by rw [Nat.zero_add];exact hw j (by omega)
    obtain ⟨p1,p2⟩:=avs_pl ls a 0 m1 nb nv;refine ⟨by grind [Sh.n],?_,by grind [Sh.bld,AV.inn]⟩
    simp [Sh.bld,he,AV.cz,p1,AV.czs_eq,fC aT];refine ⟨AV.le_agg bq,fun _ _ _=>?_⟩
    have:=AV.sco_closed (vs:=by omega) (nB:=by omega) (.agg (avs ls a 0)) (by exact avs_closed _ _ _)
    omega
   grind
  grind
 ·rename_i i o i' o'
  split at h
  ·rename_i hc
   obtain ⟨rfl,rfl⟩:=hc;cases h;simp [CQ] at ho;exact ⟨rfl,by simp [Sh.bld,AV.cz,hr.b i ho];exact LeS.refl _,by grind [Sh.bld,AV.inn]⟩
  grind
 ·rename_i i i' g
  split at h
  ·rename_i v hv
   split at h
   ·rename_i hc
    cases h;simp at hc;obtain ⟨⟨rfl,_⟩,rfl⟩:=hc;simp only [CQ,Bool.and_eq_true,decide_eq_true_eq] at ho;refine ⟨rfl,?_,by grind [Sh.bld,AV.inn]⟩
    simp [Sh.bld,AV.cz,hr.v i ho.1,hr.x i v ho.1 ho.2 hv];exact LeS.refl _
   grind
  grind
 ·rename_i f ps f' xs
  split at h
  ·rename_i hc
   obtain ⟨rfl,hp⟩:=hc;cases h;simp [CQ] at ho;rw [PN hp];refine ⟨rfl,?_,?_⟩
   ·simp [Sh.bld,AV.cz,AV.czs_eq]
    have:(ps.map (AV.cz m∘fun i=>.ptr i 0))=ps.map (AV.cz m1∘fun i=>.ptr i 0):=List.map_congr_left fun i hi=>by simp [AV.cz,hr.b i (ho i hi)]
    rw [this];exact LeS.refl _
   grind [Sh.bld,AV.inn,AV.inns_eq]
  grind
 ·obtain ⟨q0,q1,q2,q3⟩:=Sh1.exts_spec (m:=m) (m1:=m1) (nb:=nb) (nv:=nv) (vx:=vx) hr h (by grind [CQ]) hw
  refine ⟨q0,?_,by grind [Sh.bld,AV.inn]⟩
  simp [Sh.bld,AV.cz];refine ⟨fun e w ks u hu=>?_,fun nB ws hs=>?_⟩
  ·obtain ⟨us,h1,h2⟩:=hu
   exact ⟨us,h1,q1.all h2⟩
  ·simp_all
 ·obtain ⟨q0,q1,q2,q3⟩:=Sh1.exts_spec (m:=m) (m1:=m1) (nb:=nb) (nv:=nv) (vx:=vx) hr h (by grind [CQ]) hw
  refine ⟨q0,?_,by grind [Sh.bld,AV.inn]⟩
  simp only [Sh.bld,AV.cz];exact ⟨AV.le_agg q1,fun nB ws hs=>by simp_all⟩
 ·cases h
  exact ⟨rfl,by exact LeS.any _,rfl⟩
 grind
theorem Sh.exts_len:∀ {hs:List Sh} {xs:List AV} {a:List CV},Sh.exts V hs xs=some a->(∀ sh∈hs,∀ x a,sh.ext V x=some a->a.length=sh.n)->a.length=Sh.ns hs
 | [],[],a,h,_=>by have _:=G;simp [Sh.exts] at h;subst h;rfl
 | h::hs,x::xs,a,he,hl=>by
  simp only [Sh.exts] at he;split at he
  ·rename_i a1 a2 h1 h2
   cases he;simp [Sh.ns,hl h (by simp) x a1 h1,Sh.exts_len h2 fun sh zl=>hl sh (by simp [zl])]
  ·cases he
 | [],_::_,_,h,_=>by grind [Sh.exts]
 | _::_,[],_,h,_=>by grind [Sh.exts]
theorem Sh.ext_len {sh:Sh} (h:sh.ext V x=some a):a.length=sh.n:=by
 have _:=G;unfold Sh.ext at h;split at h
 ·split at h
  ·cases h;rfl
  grind
 ·grind [Sh.n]
 ·split at h
  ·cases h;rfl
  grind
 ·split at h
  ·split at h
   ·cases h;rfl
   grind
  grind
 ·split at h
  ·cases h;rfl
  grind
 ·exact Sh1.exts_len h
 ·exact Sh1.exts_len h
 ·cases h;rfl
 grind
theorem Sh.exts_spec (hr:Reb m m1 nb nv vx V):∀ {hs:List Sh} {xs:List AV} {a vs:List CV} {k:Nat},Sh.exts V hs xs=some a->hs.all (CQ nb nv vx)=true->Win vs k a ->
  AV.les (AV.czs m xs) (AV.czs m1 (Sh.blds hs vs k))/\AV.inns nb nv (Sh.blds hs vs k)=true/\(∀ nB ws,AV.scos nB ws (AV.czs m xs)->AV.scos nB ws (AV.czs m1 (Sh.blds hs vs k)))
 | [],[],a,vs,k,h,_,_=>by exact ⟨.nil,rfl,fun _ _ h=>h⟩
 | h::hs,x::xs,a,vs,k,he,ho,hw=>by
  simp [Sh.exts] at he;simp only [List.all_cons,Bool.and_eq_true] at ho;split at he
  ·rename_i a1 a2 h1 h2
   cases he;obtain ⟨p1,p2,p3⟩:=Sh.ext_spec hr h1 ho.1 hw.left;have je:=hw.right;rw [p1] at je;obtain ⟨q1,q2,q3⟩:=Sh.exts_spec hr h2 ho.2 je;simp only [Sh.blds,AV.inns,p3,q2];exact ⟨.cons p2.1 q1,rfl,fun nB ws hs=>⟨p2.2 _ _ hs.1,q3 _ _ hs.2⟩⟩
  grind
 | [],_::_,_,_,_,h,_,_=>by grind [Sh.exts]
 | _::_,[],_,_,_,h,_,_=>by grind [Sh.exts]
theorem EW (hr:Reb m m1 nb nv vx V) {s':SS}:∀ {vars:List (Nat×Sh)} {a vs:List CV} {k:Nat},Sh.exts V (vars.map (·.2)) (vars.map fun p=>s'.get p.1)=some a->vars.all (fun p=>CQ nb nv vx p.2)=true->Win vs k a ->
  (∀ d,LeS ((s'.get d).cz m) ((lk (OH vars vs k) d).cz m1))/\(∀ p∈OH vars vs k,AV.inn nb nv p.2=true)
 | [],a,vs,k,_,_,_=>⟨fun d=>by exact LeS.any _,by simp [OH]⟩
 | (d0,h)::vars,a,vs,k,he,ho,hw=>by
  simp [Sh.exts] at he;simp only [List.all_cons,Bool.and_eq_true] at ho;split at he
  ·rename_i a1 a2 h1 h2
   cases he;obtain ⟨p1,p2,p3⟩:=Sh.ext_spec hr h1 ho.1 hw.left;have je:=hw.right;obtain ⟨q1,q2⟩:=EW hr h2 ho.2 je;grind [OH,SD]
  grind
theorem EX:∀ {bx:List (Nat×TypeId×List Sh)} {i:Nat} {vs:List CV} {k:Nat},KN bx i vs k=none↔(bx.map (·.1)).contains i=false
 | [],i,vs,k=>by have _:=G;simp [KN]
 | (j,T,hs)::r,i,vs,k=>by
  simp only [KN,List.map_cons,List.contains_cons,Bool.or_eq_false_iff,beq_eq_false_iff_ne];split
  ·rename_i h;simp [h]
  ·rename_i h;rw [EX];simp [h]
theorem PO (hr:Reb m m1 nb nv vx V) {s':SS} (hV:s'.V=V):∀ {bx:List (Nat×TypeId×List Sh)} {a vs:List CV} {k i:Nat} {b:Box},HY s' bx=some a->bx.all (fun p=>p.2.2.all (CQ nb nv vx))=true->Win vs k a->KN bx i vs k=some b ->
  ∃ b',s'.B[i]? = some b'/\b.live=true/\b'.live=true/\b.T=b'.T/\AV.les (AV.czs m b'.cs) (AV.czs m1 b.cs)/\AV.inns nb nv b.cs=true/\(∀ nB ws,AV.scos nB ws (AV.czs m b'.cs)->AV.scos nB ws (AV.czs m1 b.cs))
 | [],a,vs,k,i,b,_,_,_,h=>by grind [KN]
 | (j,T,hs)::r,a,vs,k,i,b,he,ho,hw,hb=>by
  simp [HY] at he;simp only [List.all_cons,Bool.and_eq_true] at ho;split at he
  ·split at he
   ·split at he
    ·rename_i a1 a2 h1 h2
     cases he;rw [hV] at h1;have hl:=Sh.exts_len h1 fun sh _ x a h=>Sh.ext_len h
     simp [KN] at hb;split at hb
     ·obtain ⟨q1,q2,q3⟩:=Sh.exts_spec hr h1 ho.1 hw.left
      grind
     ·have je:=hw.right
      rw [hl] at je;exact PO hr hV h2 ho.2 je hb
    grind
   grind
  grind
theorem VO {s':SS}:∀ {bx:List (Nat×TypeId×List Sh)} {a:List CV},HY s' bx=some a->a.length=nB' bx
 | [],a,h=>by simp [HY] at h;subst h;rfl
 | (j,T,hs)::r,a,he=>by
  simp only [HY] at he;split at he
  ·split at he
   ·split at he
    ·rename_i a1 a2 h1 h2
     cases he;simp [nB',Sh.exts_len h1 fun sh _ x a h=>Sh.ext_len h,VO h2]
    ·cases he
   ·cases he
  ·cases he
theorem VP {s':SS}:∀ {bx:List (Nat×TypeId×List Sh)} {a:List CV},HY s' bx=some a->∀ i∈bx.map (·.1),∃ b,s'.B[i]? = some b
 | [],a,h,i,hi=>by have _:=G;grind
 | (j,T,hs)::r,a,he,i,hi=>by
  simp [HY] at he;split at he
  ·split at he
   ·split at he
    ·rename_i a1 a2 h1 h2
     simp only [List.map_cons,List.mem_cons] at hi;rcases hi with rfl | hi
     ·grind
     ·exact VP h2 i hi
    grind
   grind
  grind
theorem EY:∀ {vxs:List (Nat×TypeId×Nat×Option Nat)} {i:Nat} {vs:List CV} {k:Nat},KO vxs i vs k=none↔(vxs.map (·.1)).contains i=false
 | [],i,vs,k=>by have _:=G;simp [KO]
 | (j,T,q,g)::r,i,vs,k=>by
  simp only [KO,List.map_cons,List.contains_cons,Bool.or_eq_false_iff,beq_eq_false_iff_ne];split
  ·rename_i h;simp [h]
  ·rename_i h;rw [EY];simp [h]
theorem PP {s':SS}:∀ {vxs:List (Nat×TypeId×Nat×Option Nat)} {a vs:List CV} {p i:Nat} {v:Vec},SO s' vxs=some a->Win vs p a->KO vxs i vs p=some v ->
  ∃ v',s'.V[i]? = some v'/\v'=⟨v.live,v.T,v.k,v'.ver,v.es⟩/\(v.live=true\/v.T=ghT)/\∃ q∈vxs,q.1=i/\((q.2.2.2.isNone=true/\v.ver=0)\/(q.2.2.2.isNone=false/\v.ver=v'.ver))
 | [],a,vs,p,i,v,_,_,h=>by grind [KO]
 | (j,T,k,g)::r,a,vs,p,i,v,he,hw,hb=>by
  simp [SO] at he;split at he
  ·rename_i v' ir
   split at he
   ·simp at he
    obtain ⟨a2,h2,rfl⟩:=he;simp [KO] at hb;split at hb
    ·rename_i gp
     subst gp;cases hb;have:=hw 0 (by simp)
     refine ⟨v',ir,?_,by grind [liveT],(i,T,k,g),by simp,rfl,?_⟩
     ·obtain ⟨lv,T',k',ver',es'⟩:=v'
      grind [cR]
     ·cases g with
      | none=>simp
      | some g =>
       simp_all [aIf]
    ·have je:Win vs (p+1) a2:=by
      have:Win vs p ([CV.row k v'.es]++a2):=hw;simpa using this.right
     obtain ⟨v',q1,q2,q3,q,q4,q5⟩:=PP h2 je hb;grind
   grind
  grind
theorem VQ {s':SS}:∀ {vxs:List (Nat×TypeId×Nat×Option Nat)} {a:List CV},SO s' vxs=some a->∀ i∈vxs.map (·.1),∃ v,s'.V[i]? = some v
 | [],a,h,i,hi=>by have _:=G;grind
 | (j,T,k,g)::r,a,he,i,hi=>by
  simp [SO] at he;split at he
  ·split at he
   ·simp at he
    obtain ⟨a2,h2,rfl⟩:=he;simp only [List.map_cons,List.mem_cons] at hi;rcases hi with rfl | hi
    ·grind
    ·exact VQ h2 i hi
   grind
  grind
end
variable {i:Nat}
theorem getD_some {A:Type} {l:List A} {d x:A} (h:l[i]? = some x):l.getD i d=x:=by have _:=G;grind
theorem rP {h:Hint} {lk:Lk} {s:SS} (aa:gF h lk s=true) :
  (∀ d∈h.keep++lk.t,(s.get d).noV h.vxu=true) /\
  (∀ i,i<s.B.length->(h.bx.map (·.1)).contains i=false->AV.noVs h.vxu ((s.B.getD i ⟨false,0,[]⟩).cs)=true) /\
  (∀ i∈lk.b,(h.bx.map (·.1)).contains i=false)/\(∀ i∈lk.v,(h.vx.map (·.1)).contains i=false) /\
  (∀ j,j<jJ s.B.length (h.bx.map (·.1))->(h.bx.map (·.1)).contains (s.B.length+j)=true) /\
  (∀ j,j<jJ s.V.length (h.vx.map (·.1))->(h.vx.map (·.1)).contains (s.V.length+j)=true) /\
  h.vars.all (fun p=>CQ (s.B.length+jJ s.B.length (h.bx.map (·.1))) (s.V.length+jJ s.V.length (h.vx.map (·.1))) h.vxu p.2)=true /\
  h.bx.all (fun p=>p.2.2.all (CQ (s.B.length+jJ s.B.length (h.bx.map (·.1))) (s.V.length+jJ s.V.length (h.vx.map (·.1))) h.vxu))=true /\
  (∀ p∈h.vx,p.2.2.2.isNone=false->h.vxu.contains p.1=false)/\(∀ i∈lk.o,h.vxu.contains i=false):=by
 have _:=G;unfold gF at aa;simp only [Bool.and_eq_true] at aa;obtain ⟨⟨⟨⟨⟨⟨⟨⟨⟨h1,h2⟩,h3⟩,h4,pv⟩,h5⟩,h6⟩,n9⟩,h7⟩,h8⟩,h9,jj⟩:=aa;refine ⟨?_,?_,?_,?_,?_,?_,?_,?_,?_,?_⟩
 ·grind
 ·grind
 ·grind
 ·grind
 ·grind
 ·grind
 ·congr 1
 ·congr 1
 ·grind
 grind
theorem aDV (l l':List (Nat×AV)) (d:Nat):lk (l++l') d=if (l.map (·.1)).contains d then lk l d else lk l' d:=by
 have _:=G
 induction l with
 | nil=>simp
 | cons p l ih =>
  grind [SD]
section
variable {h:Hint} {lk:Lk} {s0 s':SS} {st0 st':St} {m0 m':Emb} {vs:List CV}
theorem VR (ma:Em m0 s0 st0) (hE:Em m' s' st') (ha:Adv (cW h lk s0) m0 s0 st0 m' s' st') (hx:kI h s'=some vs) (aa:gF h lk s0=true) :
  ∃ m1 st1,Wk st' st1/\Em m1 (bF h lk s0 vs) st1/\Adv (cW h lk s0) m0 s0 st0 m1 (bF h lk s0 vs) st1/\∀ i,i<(bF h lk s0 vs).V.length->m1.fv i=m'.fv i:=by
 obtain ⟨o1,o2,o3,o4,o5,o6,o7,o8,o9,o10⟩:=rP aa;generalize xn:h.bx.map (·.1)=bxs at *
 have ip:∀ i,h.vxu.contains i=true->(h.vx.map (·.1)).contains i=true:=by
  grind [Hint.vxu,List.contains_iff_mem]
 generalize Fb:h.vxu=vxu at *;generalize xq:h.vx.map (·.1)=vxs at *
 generalize qo:s0.B.length+jJ s0.B.length bxs=nb at *;generalize xr:s0.V.length+jJ s0.V.length vxs=nv at *;unfold kI at hx;split at hx
 case h_2=>cases hx
 rename_i a b c ea eb ec;injection hx with hx
 have Iv:=Sh.exts_len ea fun sh _ x a h=>Sh.ext_len h
 have ko:=VO eb
 have wa:Win vs 0 a:=by
  intro j hj;grind
 have wbc:Win vs a.length (b++c):=by
  intro j hj;grind
 have wb:Win vs (Sh.ns (h.vars.map (·.2))) b:=by rw [<- Iv];exact wbc.left
 have wc:Win vs (Sh.ns (h.vars.map (·.2))+nB' h.bx) c:=by rw [<- Iv,<- ko];exact wbc.right
 have kb:∀ i,i<s0.B.length->bxs.contains i=false->s'.B[i]? = s0.B[i]?:=fun i hi hc=>ha.b i (by grind [cW]) hi
 have kv:∀ i,i<s0.V.length->vxs.contains i=false->s'.V[i]? = s0.V[i]?:=fun i hi hc=>ha.v i (by grind [cW]) hi
 have nbI:∀ i,i<nb->bxs.contains i=true\/(i<s0.B.length/\bxs.contains i=false):=by
  intro i hi
  by_cases aq:i<s0.B.length
  ·grind
  ·left
   have:=o5 (i - s0.B.length) (by omega)
   grind
 have nvI:∀ i,i<nv->vxs.contains i=true\/(i<s0.V.length/\vxs.contains i=false):=by
  intro i hi
  by_cases aq:i<s0.V.length
  ·grind
  ·left
   have:=o6 (i - s0.V.length) (by omega)
   grind
 have cd:∀ i,i<nb->∃ b,s'.B[i]? = some b:=by
  intro i hi;rcases nbI i hi with hc | ⟨aq,hc⟩
  ·exact VP eb i (by grind)
  grind
 have ir:∀ i,i<nv->∃ v,s'.V[i]? = some v:=by
  intro i hi;rcases nvI i hi with hc | ⟨aq,hc⟩
  ·exact VQ ec i (by grind)
  grind
 have K5:nb<=s'.B.length:=by
  grind
 have K6:nv<=s'.V.length:=by
  grind
 let m1:Emb:=⟨m'.bm.take nb,m'.vm.take nv,(List.range nv).map fun i=>if vxu.contains i=true then m'.fo i+(s'.V.getD i ⟨false,0,0,0,[]⟩).ver else m'.fo i⟩
 have m1b:∀ i,i<nb->m1.fb i=m'.fb i:=by grind [Emb.fb,List.getD]
 have m1v:∀ i,i<nv->m1.fv i=m'.fv i:=by grind [Emb.fv,List.getD]
 have m1o:∀ i,i<nv->m1.fo i=if vxu.contains i=true then m'.fo i+(s'.V.getD i ⟨false,0,0,0,[]⟩).ver else m'.fo i:=by
  intro i hi;have:m1.fo i=((List.range nv).map fun i=>if vxu.contains i=true then m'.fo i+(s'.V.getD i ⟨false,0,0,0,[]⟩).ver else m'.fo i).getD i 0:=rfl
  grind
 have pg:Reb m' m1 nb nv vxu s'.V:=by
  refine ⟨m1b,m1v,fun i hi hc=>?_,fun i v hi hc hv=>?_⟩
  ·grind
  grind
 have A9:m1.bm.length=nb/\m1.vm.length=nv/\m1.vb.length=nv:=by
  refine ⟨?_,?_,by grind⟩
  ·simp [m1,hE.m.bl];omega
  ·simp [m1,hE.m.vl];omega
 let T:=bF h lk s0 vs
 have vh:T.B.length=nb:=by grind [bF,aDU]
 have ub:T.V.length=nv:=by grind [bF,aBa]
 have Ba:∀ i,i<nb->T.B[i]? = some (match KN h.bx i vs (Sh.ns (h.vars.map (·.2))) with | some b=>b | none=>s0.B.getD i ⟨false,0,[]⟩):=by
  grind [bF,aDU,List.getElem?_range]
 have Bb:∀ i,i<nv->T.V[i]? = some (match KO h.vx i vs (Sh.ns (h.vars.map (·.2))+nB' h.bx) with | some v=>v | none=>s0.V.getD i ⟨false,0,0,0,[]⟩):=by
  grind [bF,aBa,List.getElem?_range]
 have uc:s0.B.length<=nb:=by omega
 have ud:s0.V.length<=nv:=by omega
 have boxI:∀ (i:Nat) (bT:Box),T.B[i]? = some bT->∃ b':Box,s'.B[i]? = some b'/\AV.inns nb nv bT.cs=true/\(bT.live=true->b'.live=true/\bT.T=b'.T/\AV.les (AV.czs m' b'.cs) (AV.czs m1 bT.cs)) /\
   (∀ nB ws,AV.scos nB ws (AV.czs m' b'.cs)->AV.scos nB ws (AV.czs m1 bT.cs)):=by
  intro i bT qp;have hi:i<nb:=by grind
  rw [Ba i hi] at qp;injection qp with qp
  cases hq:KN h.bx i vs (Sh.ns (h.vars.map (·.2))) with
  | some b0 =>
   rw [hq] at qp;subst qp;obtain ⟨b',q1,q2,q3,q4,q5,q6,q7⟩:=PO pg rfl eb o8 wb hq;grind
  | none =>
   rw [hq] at qp;subst qp;have hc:bxs.contains i=false:=by rw [<- xn];exact EX.1 hq
   rcases nbI i hi with gq | ⟨aq,_⟩
   ·grind
   ·have i9:s0.B[i]? = some s0.B[i]:=by simp
    have ue:=o2 i aq hc;have dc:=(ma.m.b i _ i9).2;rw [getD_some i9] at ue ⊢
    have ka:AV.czs m1 s0.B[i].cs=AV.czs m' s0.B[i].cs:=
     AV.czs_noV (nb:=s0.B.length) (nv:=s0.V.length) (fun j hj=>m1b j (by omega)) (fun j hj=>m1v j (by omega)) (fun j hj Dn=>by grind) _ dc ue
    refine ⟨s0.B[i],by grind,?_,fun hl=>⟨hl,rfl,by rw [ka];exact AV.les_refl _⟩,fun nB ws hs=>by grind⟩
    rw [AV.inns_eq,List.all_eq_true] at dc ⊢;exact fun y hy=>AV.inn_mono uc ud y (dc y hy)
 have fa:∀ i j,i<nb->j<nb->m'.fb i=m'.fb j->i=j:=fun i j hi hj he=>hE.m.bi i j (by omega) (by omega) he
 let pick:Nat->Option Nat:=fun j=>(List.range nb).find? fun i=>m'.fb i == j
 have pickS:∀ i,i<nb->pick (m'.fb i)=some i:=by
  intro i hi;simp only [pick];cases hf:(List.range nb).find? fun k=>m'.fb k == m'.fb i with
  | none =>
   grind
  | some k =>
   grind
 have pickI:∀ j i,pick j=some i->i<nb/\m'.fb i=j:=by
  grind
 let B1:List Box:=(List.range st'.B.length).map fun j=>match pick j with
  | some i=>(T.B.getD i ⟨false,0,[]⟩).cz m1
  | none=>st'.B.getD j ⟨false,0,[]⟩
 let st1:St:=⟨mkT T.n (T.t.map fun p=>(p.1,p.2.cz m1)),B1,st'.V⟩
 have xu:∀ j,j<st'.B.length->B1[j]? = some (match pick j with | some i=>(T.B.getD i ⟨false,0,[]⟩).cz m1 | none=>st'.B.getD j ⟨false,0,[]⟩):=by
  intro j hj;simp [B1,List.getElem?_range hj]
 have slotLe:∀ d,LeS ((s'.get d).cz m') ((if d<T.n then Go.Sx.lk T.t d else .any).cz m1):=by
  intro d
  by_cases hd:d<T.n
  ·rw [if_pos hd]
   have hT:T.t=(h.keep++lk.t).map (fun d=>(d,s0.get d))++OH h.vars vs 0:=rfl
   rw [hT,aDV];have qq:((h.keep++lk.t).map (fun d=>(d,s0.get d))).map (·.1)=h.keep++lk.t:=by rw [List.map_map];exact List.map_id _
   rw [qq];split
   ·rename_i hc
    have an:d∈h.keep++lk.t:=by simpa using hc
    have e1:Go.Sx.lk ((h.keep++lk.t).map fun d=>(d,s0.get d)) d=s0.get d:=by
     rw [yX s0.get];rw [if_pos hc]
    have e2:s'.get d=s0.get d:=ha.t d an;rw [e1,e2]
    have ka:(s0.get d).cz m1=(s0.get d).cz m':=
     AV.cz_noV (nb:=s0.B.length) (nv:=s0.V.length) (fun j hj=>m1b j (by omega)) (fun j hj=>m1v j (by omega)) (fun j hj Dn=>by rw [m1o j (by omega),Dn];rfl) _ (ma.inn d) (o1 d an)
    rw [ka];exact LeS.refl _
   ·exact (EW pg (s':=s') ea o7 wa).1 d
  ·rw [if_neg hd]
   simp only [AV.cz];exact LeS.any _
 have cw:∀ d,Go.Sx.lk (T.t.map fun p=>(p.1,p.2.cz m1)) d=(Go.Sx.lk T.t d).cz m1:=fun d=>qJ (AV.cz m1) (by simp [AV.cz]) T.t d
 have gx:∀ d,Go.Sx.lk (s'.t.map fun p=>(p.1,p.2.cz m')) d=(Go.Sx.lk s'.t d).cz m':=fun d=>qJ (AV.cz m') (by simp [AV.cz]) s'.t d
 have hn:s'.n=T.n:=ha.n
 have slotLe':∀ d,d<T.n->LeS ((Go.Sx.lk s'.t d).cz m') ((Go.Sx.lk T.t d).cz m1):=by
  intro d hd;have:=slotLe d;rw [if_pos hd] at this;simpa only [SS.get,hn,hd,if_true] using this
 have vj:st'.t=mkT T.n (s'.t.map fun p=>(p.1,p.2.cz m')):=by rw [hE.t,hn]
 refine ⟨m1,st1,⟨?_,?_,?_,rfl,?_,?_⟩,⟨rfl,?_,?_⟩,?_,fun i hi=>m1v i (by rw [<- ub];exact hi)⟩
 ·
  rw [vj];show AV.les (mkT T.n _) (mkT T.n _)
  have:∀ (l:List Nat),(∀ d∈l,d<T.n)->AV.les (l.map (Go.Sx.lk (s'.t.map fun p=>(p.1,p.2.cz m')))) (l.map (Go.Sx.lk (T.t.map fun p=>(p.1,p.2.cz m1)))):=by
   intro l
   induction l with
   | nil=>intro _;exact .nil
   | cons d l ih =>
    intro hl;simp only [List.map_cons,cw,gx];exact .cons (slotLe' d (hl d (by simp))).1 (by simpa only [cw,gx] using ih fun d hd=>hl d (by simp [hd]))
  exact this _ fun d hd=>by simpa using hd
 ·simp [st1,B1]
 ·intro j b1 bv
  have hj:j<st'.B.length:=by
   have:=(List.getElem?_eq_some_iff.1 bv).1;simpa [st1,B1] using this
  rw [show st1.B[j]? = B1[j]? from rfl,xu j hj] at bv;injection bv with bv
  cases hp:pick j with
  | none =>
   rw [hp] at bv;simp only at bv;have hs:st'.B[j]? = some st'.B[j]:=by simp [hj]
   rw [getD_some hs] at bv;subst bv;exact ⟨_,hs,fun hl=>⟨hl,rfl,AV.les_refl _⟩⟩
  | some i =>
   rw [hp] at bv;simp only at bv;obtain ⟨hi,rfl⟩:=pickI j i hp
   have Fc:T.B[i]? = some (T.B.getD i ⟨false,0,[]⟩):=by
    have:i<T.B.length:=by rw [vh];exact hi
    simp [List.getD,this]
   obtain ⟨b',q1,q2,q3,q4⟩:=boxI i _ Fc;obtain ⟨q5,_⟩:=hE.m.b i b' q1;subst bv;exact ⟨_,q5,fun hl=>q3 hl⟩
 ·intro nB ws hs
  rw [vj] at hs;rw [AV.scos_iff] at hs ⊢;intro y hy;show AV.sco nB ws y;simp only [st1,mkT,List.mem_map,List.mem_range] at hy;obtain ⟨d,hd,rfl⟩:=hy;rw [cw];refine (slotLe' d hd).2 nB ws ?_;rw [<- gx];exact hs _ (by simp only [mkT,List.mem_map,List.mem_range];exact ⟨d,hd,rfl⟩)
 ·intro nB ws j b b1 hb bv hs
  have hj:j<st'.B.length:=(List.getElem?_eq_some_iff.1 hb).1;rw [show st1.B[j]? = B1[j]? from rfl,xu j hj] at bv;injection bv with bv
  cases hp:pick j with
  | none =>
   rw [hp] at bv;simp only at bv;rw [getD_some hb] at bv;subst bv;exact hs
  | some i =>
   rw [hp] at bv;simp only at bv;obtain ⟨hi,rfl⟩:=pickI j i hp
   have Fc:T.B[i]? = some (T.B.getD i ⟨false,0,[]⟩):=by
    have:i<T.B.length:=by rw [vh];exact hi
    simp [List.getD,this]
   obtain ⟨b',q1,q2,q3,q4⟩:=boxI i _ Fc;obtain ⟨q5,_⟩:=hE.m.b i b' q1;rw [q5] at hb;injection hb with hb
   subst hb;subst bv;exact q4 nB ws hs
 ·
  intro p hp;show AV.inn T.B.length T.V.length p.2=true;rw [vh,ub];have hT:T.t=(h.keep++lk.t).map (fun d=>(d,s0.get d))++OH h.vars vs 0:=rfl
  rw [show (bF h lk s0 vs).t=T.t from rfl,hT,List.mem_append] at hp;rcases hp with hp | hp
  ·obtain ⟨d,_,rfl⟩:=List.mem_map.1 hp
   exact AV.inn_mono uc ud _ (ma.inn d)
  ·exact (EW pg (s':=s') ea o7 wa).2 p hp
 ·
  refine ⟨by rw [A9.1];exact vh.symm,by rw [A9.2.1];exact ub.symm,by rw [A9.2.2];exact ub.symm,fun i bT qp=>?_,fun i v hv ik=>?_,fun i hi=>?_,fun i j hi hj he=>?_,fun i j hi hj he=>?_⟩
  ·have hi:i<nb:=by rw [<- vh];exact (List.getElem?_eq_some_iff.1 qp).1
   obtain ⟨b',q1,q2,q3,q4⟩:=boxI i bT qp;obtain ⟨q5,_⟩:=hE.m.b i b' q1;have hj:=(List.getElem?_eq_some_iff.1 q5).1;refine ⟨?_,by show AV.inns T.B.length T.V.length _=true;rw [vh,ub];exact q2⟩
   rw [m1b i hi];show B1[m'.fb i]? = _;rw [xu _ hj,pickS i hi];simp only;rw [getD_some qp]
  ·have hi:i<nv:=by rw [<- ub];exact (List.getElem?_eq_some_iff.1 hv).1
   rw [m1v i hi];show st'.V[m'.fv i]? = _;rw [show (bF h lk s0 vs).V[i]? = T.V[i]? from rfl,Bb i hi] at hv;injection hv with hv
   cases hq:KO h.vx i vs (Sh.ns (h.vars.map (·.2))+nB' h.bx) with
   | some v0 =>
    rw [hq] at hv;simp only at hv;subst hv;obtain ⟨v',q1,q2,q3,q,q6,q7,q8⟩:=PP ec wc hq;have q5:=hE.m.v i v' q1 (by rw [q2];exact q3)
    rw [q5];rcases q8 with ⟨q8,q9⟩ | ⟨q8,q9⟩
    ·have hc:vxu.contains i=true:=by
      rw [<- Fb];simp only [Hint.vxu,List.contains_iff_mem,List.mem_map,List.mem_filter];exact ⟨q,⟨q6,q8⟩,q7⟩
     simp only [Vec.cz,q9,Nat.add_zero,pg.x i v' hi hc q1];rw [q2]
    ·have hc:vxu.contains i=false:=by rw [<- q7];exact o9 q q6 q8
     simp only [Vec.cz,q9,pg.o i hi hc];rw [q2]
   | none =>
    rw [hq] at hv;simp only at hv;subst hv;have hc:vxs.contains i=false:=by rw [<- xq];exact EY.1 hq
    rcases nvI i hi with gq | ⟨aq,_⟩
    ·rw [hc] at gq;cases gq
    ·have i9:s0.V[i]? = some s0.V[i]:=by simp [aq]
     rw [getD_some i9];rw [getD_some i9] at ik;have q5:=hE.m.v i s0.V[i] (by rw [kv i aq hc,i9]) ik
     rw [q5]
     have Fd:vxu.contains i=false:=by
      cases Fd:vxu.contains i with
      | false=>rfl
      | true=>rw [ip i Fd] at hc;cases hc
     simp only [Vec.cz,pg.o i hi Fd]
  ·rw [show (bF h lk s0 vs).V.length=nv from ub] at hi
   rw [m1v i hi];show m'.fv i<st'.V.length;exact hE.m.vlt i (by omega)
  ·rw [show (bF h lk s0 vs).B.length=nb from vh] at hi hj
   rw [m1b i hi,m1b j hj] at he;exact fa i j hi hj he
  ·rw [show (bF h lk s0 vs).V.length=nv from ub] at hi hj
   rw [m1v i hi,m1v j hj] at he;exact hE.m.vi i j (by omega) (by omega) he
 ·
  have hu:=ha.stp.up;have Fe:m0.bm.length=s0.B.length:=ma.m.bl;have Ff:m0.vm.length=s0.V.length:=ma.m.vl;refine ⟨⟨⟨by rw [A9.1,Fe];exact uc,fun i hi=>by rw [m1b i (by omega)];exact hu.b i hi,by rw [A9.2.1,Ff];exact ud,fun i hi=>by rw [m1v i (by omega)];exact hu.v i hi⟩,?_,ha.stp.vl,?_,?_,?_,ha.stp.vf⟩,rfl,?_,?_,?_,?_,?_,fun i hi aq=>?_⟩
  ·show st0.B.length<=B1.length
   simpa [B1] using ha.stp.bl
  ·intro j hj;exact ha.stp.bn j (List.mem_of_mem_take hj)
  ·intro j hj;exact ha.stp.vn j (List.mem_of_mem_take hj)
  ·intro j hj tv
   show B1[j]? = _;have js:j<st'.B.length:=Nat.lt_of_lt_of_le hj ha.stp.bl;rw [xu j js]
   have hp:pick j=none:=by
    cases hp:pick j with
    | none=>rfl
    | some i =>
     obtain ⟨hi,he⟩:=pickI j i hp;have an:m'.fb i∈m'.bm:=Emb.fb_mem (by rw [hE.m.bl];omega)
     rw [he] at an;rcases ha.stp.bn j an with h1 | h1
     ·exact absurd h1 tv
     ·omega
   rw [hp];simp only;rw [<- ha.stp.bf j hj tv];simp [List.getD,js]
  ·rw [show (bF h lk s0 vs).B.length=nb from vh];exact uc
  ·rw [show (bF h lk s0 vs).V.length=nv from ub];exact ud
  ·intro d hd
   show T.get d=s0.get d
   by_cases dh:d<s0.n
   ·simp only [SS.get,show T.n=s0.n from rfl,dh,if_true]
    have hT:T.t=(h.keep++lk.t).map (fun d=>(d,s0.get d))++OH h.vars vs 0:=rfl
    have an:d∈h.keep++lk.t:=hd;have qq:((h.keep++lk.t).map (fun d=>(d,s0.get d))).map (·.1)=h.keep++lk.t:=by rw [List.map_map];exact List.map_id _
    rw [hT,aDV,qq,if_pos (by simpa using an),yX s0.get,if_pos (by simpa using an)]
    simp [SS.get,dh]
   ·simp only [SS.get,show T.n=s0.n from rfl,dh,if_false]
  ·intro i hi aq
   have hc:bxs.contains i=false:=by
    simp only [cW,List.mem_filter,xn,Bool.not_eq_true'] at hi;exact hi.2
   have zm:i<nb:=by omega
   show T.B[i]? = _;rw [Ba i zm];have hq:KN h.bx i vs (Sh.ns (h.vars.map (·.2)))=none:=EX.2 (by rw [xn];exact hc)
   rw [hq];simp [List.getD,aq]
  ·intro i hi aq
   have hc:vxs.contains i=false:=by
    simp only [cW,List.mem_filter,xq,Bool.not_eq_true'] at hi;exact hi.2
   have zm:i<nv:=by omega
   show T.V[i]? = _;rw [Bb i zm];have hq:KO h.vx i vs (Sh.ns (h.vars.map (·.2))+nB' h.bx)=none:=EY.2 (by rw [xq];exact hc)
   rw [hq];simp [List.getD,aq]
  ·rw [m1o i (by omega),o10 i hi]
   exact ha.o i hi aq
theorem oF (ma:Em m0 s0 st0) (hE:Em m' s' st') (ha:Adv (cW h lk s0) m0 s0 st0 m' s' st') (hx:kI h s'=some vs) (aa:gF h lk s0=true) :
  ∃ m1 st1,Wk st' st1/\Em m1 (bF h lk s0 vs) st1/\Adv (cW h lk s0) m0 s0 st0 m1 (bF h lk s0 vs) st1:=by
 obtain ⟨m1,st1,h1,h2,h3,_⟩:=VR ma hE ha hx aa;grind
theorem Adv.sub (aa:gF h lk s0=true) {m:Emb} {s1:SS} {st1:St} (ha:Adv (cW h lk s0) m0 s0 st0 m s1 st1):Adv lk m0 s0 st0 m s1 st1:=by
 obtain ⟨_,_,o3,o4,_⟩:=rP aa;refine ⟨ha.stp,ha.n,ha.bl,ha.vl,fun d hd=>ha.t d (by simp [cW,hd]),fun i hi hl=>ha.b i ?_ hl,fun i hi hl=>ha.v i ?_ hl,ha.o⟩
 ·grind [cW]
 grind [cW]
end
mutual
def AV.fb (i:Nat) (cs:List CV):AV->AV
 | .ptr j o=>if j=i then .cv (.ref (cs.drop o)) else .ptr j o
 | .agg xs=>.agg (AV.fbs i cs xs)
 | .tup xs=>.tup (AV.fbs i cs xs)
 | .fn f xs=>.fn f (AV.fbs i cs xs)
 | .gd [] x=>.gd [] (AV.fb i cs x)
 | x=>x
def AV.fbs (i:Nat) (cs:List CV):List AV->List AV
 | []=>[]
 | x::xs=>AV.fb i cs x::AV.fbs i cs xs
end
def KP (i ver:Nat) (c:CV) (j u el o:Nat):AV:=if j=i/\u=ver/\el=0/\o=0 then (match c with
 | .row _ (l::_)=>.cv (.ref l)
 | _=>.opt j u el o) else .opt j u el o
def aGM (v:Value):Prop:=∀ b o n c,v=.slice (some ⟨b,o,none⟩) n (c+1)->o=0
mutual
def AV.fv (i ver:Nat) (c:CV):AV->AV
 | .own j u=>if j=i/\u=ver then .cv c else .own j u
 | .opt j u el o=>KP i ver c j u el o
 | .agg xs=>.agg (AV.fvs i ver c xs)
 | .tup xs=>.tup (AV.fvs i ver c xs)
 | .fn f xs=>.fn f (AV.fvs i ver c xs)
 | .gd [] x=>.gd [] (AV.fv i ver c x)
 | x=>x
def AV.fvs (i ver:Nat) (c:CV):List AV->List AV
 | []=>[]
 | x::xs=>AV.fv i ver c x::AV.fvs i ver c xs
end
theorem AV.fbs_eq (i:Nat) (cs:List CV):∀ xs,AV.fbs i cs xs=xs.map (AV.fb i cs)
 | []=>by have _:=G;rfl
 | x::xs=>by simp [AV.fbs,AV.fbs_eq i cs xs]
theorem AV.fvs_eq (i ver:Nat) (c:CV):∀ xs,AV.fvs i ver c xs=xs.map (AV.fv i ver c)
 | []=>by have _:=G;rfl
 | x::xs=>by simp [AV.fvs,AV.fvs_eq i ver c xs]
theorem aDW (i:Nat) (cs:List CV) (xs:List AV):sN (AV.fbs i cs xs)=sN xs:=by
 have _:=G
 match xs with
 | []=>rfl
 | .gd [] _::_=>rfl
 | .gd (b::L) x::r=>simp [AV.fbs,AV.fb];unfold sN;grind
 | .any::_=>rfl
 | .cv _::_=>rfl
 | .ptr _ _::_=>simp [AV.fbs,AV.fb];split <;> rfl
 | .own _ _::_=>rfl
 | .opt _ _ _ _::_=>rfl
 | .agg _::_=>rfl
 | .tup _::_=>rfl
 | .fn _ _::_=>rfl
theorem aDX (i ver:Nat) (c:CV) (xs:List AV):sN (AV.fvs i ver c xs)=sN xs:=by
 have _:=G
 match xs with
 | []=>rfl
 | .gd [] _::_=>rfl
 | .gd (b::L) x::r=>simp [AV.fvs,AV.fv];unfold sN;grind
 | .any::_=>rfl
 | .cv _::_=>rfl
 | .ptr _ _::_=>rfl
 | .own _ _::_=>simp [AV.fvs,AV.fv];split <;> rfl
 | .opt _ _ _ _::_ =>
  simp [AV.fvs,AV.fv,KP];split
  ·split <;> rfl
  ·rfl
 | .agg _::_=>rfl
 | .tup _::_=>rfl
 | .fn _ _::_=>rfl
section
variable {e:Env} {w:World} {ks:List Nat}
mutual
theorem AV.fb_holds {i:Nat} {cs:List CV} (hk:∀ o,CV.holds w e.S (.ref (cs.drop o)) (.pointer (some ⟨e.ρ i,o,none⟩))):∀ (x:AV) (v:Value),AV.holds e w ks x v->AV.holds e w ks (AV.fb i cs x) v
 | .ptr j o,v,h=>by
  grind [AV.fb,AV.holds]
 | .agg xs,v,h=>by obtain ⟨vs,h1,h2⟩:=h;exact ⟨vs,h1,AV.fbs_holds hk xs _ h2⟩
 | .tup xs,v,h=>by obtain ⟨vs,h1,h2⟩:=h;exact ⟨vs,h1,AV.fbs_holds hk xs _ h2⟩
 | .fn f xs,v,h=>by obtain ⟨vs,h1,h2⟩:=h;exact ⟨vs,by grind [aDW],AV.fbs_holds hk xs _ h2⟩
 | .gd [] x,v,h=>by exact ⟨fun hb=>AV.fb_holds hk x v (h.1 hb),h.2⟩
 | .gd (_::_) x,v,h=>by grind [AV.fb]
 | .any,v,h=>by grind [AV.fb]
 | .cv _,v,h=>by grind [AV.fb]
 | .own _ _,v,h=>by grind [AV.fb]
 | .opt _ _ _ _,v,h=>by grind [AV.fb]
theorem AV.fbs_holds {i:Nat} {cs:List CV} (hk:∀ o,CV.holds w e.S (.ref (cs.drop o)) (.pointer (some ⟨e.ρ i,o,none⟩))):∀ (xs:List AV) (vs:List Value),AV.all e w ks xs vs->AV.all e w ks (AV.fbs i cs xs) vs
 | [],vs,h=>by have _:=G;grind [AV.fbs]
 | x::xs,[],h=>by grind [AV.all]
 | x::xs,v::vs,h=>by
  exact ⟨AV.fb_holds hk x v h.1,AV.fbs_holds hk xs vs h.2⟩
end
mutual
theorem AV.fv_holds {i ver:Nat} {c:CV} (hk:CV.holds w e.S c (e.hdr i ver)/\aGM (e.hdr i ver)):∀ (x:AV) (v:Value),AV.holds e w ks x v->AV.holds e w ks (AV.fv i ver c x) v
 | .own j u,v,h=>by
  grind [AV.fv,AV.holds]
 | .agg xs,v,h=>by obtain ⟨vs,h1,h2⟩:=h;exact ⟨vs,h1,AV.fvs_holds hk xs _ h2⟩
 | .tup xs,v,h=>by obtain ⟨vs,h1,h2⟩:=h;exact ⟨vs,h1,AV.fvs_holds hk xs _ h2⟩
 | .fn f xs,v,h=>by obtain ⟨vs,h1,h2⟩:=h;exact ⟨vs,by grind [aDX],AV.fvs_holds hk xs _ h2⟩
 | .gd [] x,v,h=>by exact ⟨fun hb=>AV.fv_holds hk x v (h.1 hb),h.2⟩
 | .gd (_::_) x,v,h=>by grind [AV.fv]
 | .any,v,h=>by grind [AV.fv]
 | .cv _,v,h=>by grind [AV.fv]
 | .ptr _ _,v,h=>by grind [AV.fv]
 | .opt j u el o,v,h=>by
  simp [AV.fv,KP];split
  ·split
   ·simp [AV.holds] at h ⊢
    obtain ⟨q1,q2⟩:=hk;obtain ⟨a,cap,h2,h3,h4,h5⟩:=q1;rcases h5 with h5 | ⟨b',o',rfl,h6,h7⟩
    ·cases h5
    ·obtain ⟨c',rfl⟩:∃ c',cap=c'+1:=⟨cap - 1,by grind⟩
     have hz:=q2 b' o' _ _ h2;grind [bM,CV.rows,CV.holds]
   omega
  omega
theorem AV.fvs_holds {i ver:Nat} {c:CV} (hk:CV.holds w e.S c (e.hdr i ver)/\aGM (e.hdr i ver)):∀ (xs:List AV) (vs:List Value),AV.all e w ks xs vs->AV.all e w ks (AV.fvs i ver c xs) vs
 | [],vs,h=>by have _:=G;grind [AV.fvs]
 | x::xs,[],h=>by grind [AV.all]
 | x::xs,v::vs,h=>by
  exact ⟨AV.fv_holds hk x v h.1,AV.fvs_holds hk xs vs h.2⟩
end
end
mutual
theorem AV.fb_scoped {i:Nat} {cs:List CV} {nb:Nat} {vs:List Nat}:∀ (x:AV),AV.sco nb vs x->AV.sco nb vs (AV.fb i cs x)
 | .ptr j o,h=>by have _:=G;grind [AV.fb,AV.sco]
 | .agg xs,h=>by exact AV.fbs_scoped xs h
 | .tup xs,h=>by exact AV.fbs_scoped xs h
 | .fn f xs,h=>by exact AV.fbs_scoped xs h
 | .gd [] x,h=>by exact AV.fb_scoped x h
 | .gd (_::_) x,h=>by grind [AV.fb]
 | .any,h=>by grind [AV.fb]
 | .cv _,h=>by grind [AV.fb]
 | .own _ _,h=>by grind [AV.fb]
 | .opt _ _ _ _,h=>by grind [AV.fb]
theorem AV.fbs_scoped {i:Nat} {cs:List CV} {nb:Nat} {vs:List Nat}:∀ (xs:List AV),AV.scos nb vs xs->AV.scos nb vs (AV.fbs i cs xs)
 | [],h=>by have _:=G;grind [AV.fbs]
 | x::xs,h=>by exact ⟨AV.fb_scoped x h.1,AV.fbs_scoped xs h.2⟩
end
mutual
theorem AV.fv_scoped {i ver:Nat} {c:CV} {nb:Nat} {vs:List Nat}:∀ (x:AV),AV.sco nb vs x->AV.sco nb vs (AV.fv i ver c x)
 | .own j o,h=>by have _:=G;grind [AV.fv,AV.sco]
 | .agg xs,h=>by exact AV.fvs_scoped xs h
 | .tup xs,h=>by exact AV.fvs_scoped xs h
 | .fn f xs,h=>by exact AV.fvs_scoped xs h
 | .gd [] x,h=>by exact AV.fv_scoped x h
 | .gd (_::_) x,h=>by grind [AV.fv]
 | .any,h=>by grind [AV.fv]
 | .cv _,h=>by grind [AV.fv]
 | .ptr _ _,h=>by grind [AV.fv]
 | .opt j u el o,h=>by
  simp [AV.fv,KP];grind [AV.sco]
theorem AV.fvs_scoped {i ver:Nat} {c:CV} {nb:Nat} {vs:List Nat}:∀ (xs:List AV),AV.scos nb vs xs->AV.scos nb vs (AV.fvs i ver c xs)
 | [],h=>by have _:=G;grind [AV.fvs]
 | x::xs,h=>by exact ⟨AV.fv_scoped x h.1,AV.fvs_scoped xs h.2⟩
end
def Box.mp (f:List AV->List AV) (b:Box):Box:=⟨b.live,b.T,f b.cs⟩
def KQ (p:Nat->Bool) (f:List AV->List AV) (B:List Box):List Box:=B.mapIdx fun j b=>if p j=true then b.mp f else b
theorem gK (p:Nat->Bool) (f:List AV->List AV) (B:List Box):(KQ p f B).length=B.length:=by have _:=G;simp [KQ]
theorem mI (p:Nat->Bool) (f:List AV->List AV) (B:List Box) (j:Nat):(KQ p f B)[j]? = (B[j]?).map fun b=>if p j=true then b.mp f else b:=by have _:=G;simp [KQ]
theorem Rel.map {e:Env} {w:World} (h:Rel n0 w0 e st a w) (p:Nat->Bool) (f:List AV->List AV) (hh:∀ xs vs,AV.all e w (kss st.V) xs vs->AV.all e w (kss st.V) (f xs) vs) (hs:∀ nb ws xs,AV.scos nb ws xs->AV.scos nb ws (f xs)) :
  Rel n0 w0 e ⟨f st.t,KQ p f st.B,st.V⟩ a w:=by
 have ag:∀ (i:Nat) (b:Box),(KQ p f st.B)[i]? = some b->∃ b0,st.B[i]? = some b0/\b.live=b0.live/\b.T=b0.T/\(b.cs=f b0.cs\/b.cs=b0.cs):=by
  intro i b hb;rw [mI,Option.map_eq_some_iff] at hb;obtain ⟨b0,h1,h2⟩:=hb;refine ⟨b0,h1,?_⟩;subst h2;split
  ·exact ⟨rfl,rfl,.inl rfl⟩
  simp
 have hl:(KQ p f st.B).length=st.B.length:=gK _ _ _;refine ⟨hh _ _ h.tm,?_,⟨?_,?_,?_,?_,h.mem.vec,h.mem.vecS,?_,h.mem.vecinj,h.mem.ro,h.mem.below,h.mem.base,h.mem.bl,h.mem.hid.of rfl ⟨rfl,rfl⟩ (fun _ h=>.inl h) (SameG.refl _) (fun _ _ _=>rfl) (fun i b hb bg=>?_) (fun i x g hx hl hg=>.inl ⟨i,x,hx,hl,hg⟩)⟩⟩
 rotate_left 6
 ·grind
 ·rw [hl];exact hs _ _ _ h.sc
 ·intro i b hb bg
  obtain ⟨b0,h1,h2,h3,h4⟩:=ag i b hb;obtain ⟨vs,a1,a2⟩:=h.mem.box i b0 h1 (by grind)
  grind
 ·intro i b hb
  obtain ⟨b0,h1,h2,h3,h4⟩:=ag i b hb;rw [hl];rcases h4 with h4 | h4
  ·rw [h4];exact hs _ _ _ (h.mem.boxsc i b0 h1)
  ·rw [h4];exact h.mem.boxsc i b0 h1
 ·intro i b hb bg
  obtain ⟨b0,h1,h2,h3,h4⟩:=ag i b hb;exact h.mem.boxlo i b0 h1 (by grind)
 ·intro i j b c hb hc bg bz he
  obtain ⟨b0,h1,h2,_⟩:=ag i b hb;obtain ⟨c0,g1,g2,_⟩:=ag j c hc;exact h.mem.boxinj i j b0 c0 h1 g1 (by grind) (by grind) he
 ·intro i v j b g hv ik hb bg hg
  obtain ⟨b0,h1,h2,_⟩:=ag j b hb;exact h.mem.vecbox i v j b0 g hv ik h1 (by grind) hg
theorem Rel.freezeB' {e:Env} {w:World} (hr:Rel n0 w0 e st a w) {x:Box} {cs:List CV} (hx:st.B[i]? = some x) (hl:x.live=true) (aT:gC x.cs=some cs) :
  ∃ e',Rel n0 w0 e' ⟨st.t,st.B.set i { x with live:=false },st.V⟩ a w/\dW e st w e' (st.B.set i { x with live:=false }) st.V w /\
   (∀ o,CV.holds w e'.S (.ref (cs.drop o)) (.pointer (some ⟨e'.ρ i,o,none⟩))):=by
 have hn:∀ (e0:Env) (st0:St) (a0:Act),st0=⟨.ptr i 0::st.t,st.B,st.V⟩->a0=⟨(Value.pointer (some ⟨e.ρ i,0,none⟩)::a.tmps.toList).toArray,a.defers⟩->Rel n0 w0 e st0 a0 w:=by
  rintro e0 st0 a0 rfl rfl;refine ⟨?_,?_,hr.mem⟩
  ·exact ⟨by rfl,hr.tm⟩
  ·exact ⟨by grind [AV.sco],hr.sc⟩
 obtain ⟨e',h1,h2⟩:=(hn e _ _ rfl rfl).freezeB (i:=i) hx hl aT;have hρ:e'.ρ i=e.ρ i:=h2.ρ i (List.getElem?_eq_some_iff.1 hx).1;have Do:=h1.tm;have aj:(st.B.set i { x with live:=false }).length=st.B.length:=by simp
 have hp:CV.holds w e'.S (.ref cs) (.pointer (some ⟨e'.ρ i,0,none⟩)):=by
  rw [hρ];simpa [AV.holds] using Do.1
 refine ⟨e',⟨?_,?_,h1.mem⟩,h2,fun o=>?_⟩
 ·exact AV.all.mono h2 _ _ hr.sc hr.tm
 ·rw [aj];exact hr.sc
 ·obtain ⟨b,o',hb,hS,hc⟩:=hp
  cases hb;exact ⟨e'.ρ i,o,rfl,hS,by simpa using hc.drop o⟩
theorem OwnsV.offz {w:World} {T:TypeId} {v:Value} {n:Nat} (h:OwnsV w n0 T k v n xs):aGM v:=by
 have _:=G;intro b o m c hv;rcases h with ⟨_,h⟩ | h
 ·rcases h with ⟨a,h,_⟩ | ⟨h,_⟩
  ·grind
  ·rcases h.2 with ⟨h,_⟩ | ⟨g,cap,cur,h,_⟩
   ·grind
   grind
 ·obtain ⟨b',arr,c',h,_⟩:=h.2
  grind
theorem Rel.freezeV' {e:Env} {w:World} (hr:Rel n0 w0 e st a w) {x:Vec} (hx:st.V[i]? = some x) (hl:x.live=true) (hc:iS st.V (.own i x.ver)=some c) :
  ∃ e',Rel n0 w0 e' ⟨st.t,st.B,st.V.set i { x with live:=false }⟩ a w/\dW e st w e' st.B (st.V.set i { x with live:=false }) w /\
   (CV.holds w e'.S c (e'.hdr i x.ver)/\aGM (e'.hdr i x.ver)):=by
 obtain ⟨xs,q1,q2,q3⟩:=hr.mem.vec i x hx hl
 have hn:Rel n0 w0 e ⟨.own i x.ver::st.t,st.B,st.V⟩ ⟨(e.hdr i x.ver::a.tmps.toList).toArray,a.defers⟩ w:=by
  refine ⟨?_,?_,hr.mem⟩
  ·exact ⟨by simp only [AV.holds];exact ⟨trivial,q1.one⟩,hr.tm⟩
  ·exact ⟨⟨by grind,by grind⟩,hr.sc⟩
 obtain ⟨e',h1,h2⟩:=hn.freezeV (i:=i) hx hl hc;have hh:e'.hdr i x.ver=e.hdr i x.ver:=h2.hdr i x.ver (by grind) (by grind)
 have Do:=h1.tm
 have hv:vers (st.V.set i { x with live:=false })=vers st.V:=by
  refine List.ext_getElem? fun j=>?_
  grind
 refine ⟨e',⟨?_,?_,h1.mem⟩,h2,by rw [hh];simpa [AV.holds] using Do.1,by rw [hh];exact q1.offz⟩
 ·exact AV.all.mono h2 _ _ hr.sc hr.tm
 ·rw [hv];exact hr.sc
theorem Rel.ownNil {e:Env} {w:World} (hr:Rel n0 w0 e st a w) {d T:Nat} (hd:st.t[d]? = some (.cv (.val (.slice none 0 0)))) (hT:T<bQ) :
  ∃ e',Rel n0 w0 e' ⟨st.t.set d (.own st.V.length 0),st.B,st.V++[⟨true,T,k,0,[]⟩]⟩ a w/\dW e st w e' st.B (st.V++[⟨true,T,k,0,[]⟩]) w:=by
 obtain ⟨e',b1,b2,b3,_⟩:=hr.mem.newVec (w':=w) T k (.slice none 0 0) [] [] (.inl ⟨hT,.inl ⟨none,rfl,rfl,rfl⟩⟩) (by simp [CV.vals]) (by simp)
  ⟨rfl,rfl,rfl,Nat.le_refl _,fun _ _ _=>rfl⟩ (fun g hg=>by grind [bM])
 refine ⟨e',?_,b2⟩;obtain ⟨v,h1,h2⟩:=hr.tm.get hd;simp only [AV.holds,CV.holds] at h2;have:=hr.put b1 b2 (x:=.own st.V.length 0) (v:=v) (by grind [AV.holds]) (by simp) (some d)
 have ha:a.put (some d) v=a:=by
  have:a.tmps.setIfInBounds d v=a.tmps:=by
   grind
  simp_all [Act.put]
 simp_all
theorem Rel.ownNilB {e:Env} {w:World} (hr:Rel n0 w0 e st a w) {off T:Nat} {b:Box} (hb:st.B[i]? = some b) (hl:b.live=true) (hd:b.cs[off]? = some (.cv (.val (.slice none 0 0)))) (hT:T<bQ) :
  ∃ e',Rel n0 w0 e' ⟨st.t,st.B.set i ⟨b.live,b.T,b.cs.set off (.own st.V.length 0)⟩,st.V++[⟨true,T,k,0,[]⟩]⟩ a w /\
   dW e st w e' (st.B.set i ⟨b.live,b.T,b.cs.set off (.own st.V.length 0)⟩) (st.V++[⟨true,T,k,0,[]⟩]) w:=by
 obtain ⟨e',b1,b2,b3,_⟩:=hr.mem.newVec (w':=w) T k (.slice none 0 0) [] [] (.inl ⟨hT,.inl ⟨none,rfl,rfl,rfl⟩⟩) (by simp [CV.vals]) (by simp)
  ⟨rfl,rfl,rfl,Nat.le_refl _,fun _ _ _=>rfl⟩ (fun g hg=>by grind [bM])
 let V':=st.V++[⟨true,T,k,0,[]⟩]
 let cs':=b.cs.set off (.own st.V.length 0)
 let B':=st.B.set i ⟨b.live,b.T,cs'⟩
 have aj:B'.length=st.B.length:=by grind
 have ag:∀ (j:Nat) (c:Box),B'[j]? = some c->∃ c0,st.B[j]? = some c0/\c.live=c0.live/\c.T=c0.T/\(c.cs=c0.cs\/(c0=b/\c.cs=cs')):=by
  grind
 have K7:AV.scos st.B.length (vers V') cs':=by
  have h0:=AV.scos_iff.1 (b1.boxsc i b hb);rw [AV.scos_iff];intro y hy;rcases List.mem_or_eq_of_mem_set hy with hy | rfl
  ·grind
  ·simp [V']
 have bh:∀ vs:List Value,AV.all e' w (kss V') b.cs vs->AV.all e' w (kss V') cs' vs:=by
  intro vs hv;obtain ⟨v,h1,h2⟩:=hv.get hd;simp only [AV.holds,CV.holds] at h2;have:=hv.set off (x:=.own st.V.length 0) (v:=v) (by grind [AV.holds])
  have cr:vs.set off v=vs:=by
   refine List.ext_getElem? fun j=>?_
   grind
  grind
 have hm:Mem n0 w0 e' B' V' w:=by
  refine ⟨?_,?_,?_,?_,b1.vec,b1.vecS,?_,b1.vecinj,b1.ro,b1.below,b1.base,b1.bl,b1.hid.of rfl ⟨rfl,rfl⟩ (fun _ h=>.inl h) (SameG.refl _) (fun _ _ _=>rfl) (fun j c hc bz=>?_) (fun i x g hx hl hg=>.inl ⟨i,x,hx,hl,hg⟩)⟩
  rotate_left 5
  ·grind
  ·intro j c hc bz
   obtain ⟨c0,h1,h2,h3,h4⟩:=ag j c hc;obtain ⟨vs,a1,a2⟩:=b1.box j c0 h1 (by grind)
   grind
  ·intro j c hc
   obtain ⟨c0,h1,h2,h3,h4⟩:=ag j c hc;rw [aj];rcases h4 with h4 | ⟨rfl,h4⟩
   ·rw [h4];exact b1.boxsc j c0 h1
   grind
  ·intro j c hc bz
   obtain ⟨c0,h1,h2,_⟩:=ag j c hc;exact b1.boxlo j c0 h1 (by grind)
  ·intro j l c d hc d8 bz ja he
   obtain ⟨c0,h1,h2,_⟩:=ag j c hc;obtain ⟨d0,g1,g2,_⟩:=ag l d d8;exact b1.boxinj j l c0 d0 h1 g1 (by grind) (by grind) he
  ·intro j v l c g hv ik hc bz hg
   obtain ⟨c0,h1,h2,_⟩:=ag l c hc;exact b1.vecbox j v l c0 g hv ik h1 (by grind) hg
 have hx:dW e st w e' B' V' w:=by
  grind
 refine ⟨e',⟨AV.all.mono hx _ _ hr.sc hr.tm,hx.scos hr.sc,hm⟩,hx⟩
mutual
def AV.noB (bx:List Nat):AV->Bool
 | .ptr i _=>!bx.contains i
 | .agg xs=>AV.noBs bx xs
 | .tup xs=>AV.noBs bx xs
 | .fn _ xs=>AV.noBs bx xs
 | .gd _ x=>AV.noB bx x
 | _=>true
def AV.noBs (bx:List Nat):List AV->Bool
 | []=>true
 | x::xs=>AV.noB bx x&&AV.noBs bx xs
end
inductive Pa where
 | mk (d T k:Nat)
 | fz (i:Nat)
 | fb (i:Nat)
 | mkb (i off T k:Nat)
def aDY (p:Pa) (lk:Lk) (s:SS):Option SS:=
 match p with
 | .mk d T k=>match s.get d with
  | .cv (.val (.slice none 0 0))=>if d<s.n/\lk.t.contains d=false/\T<bQ then some ⟨s.n,(d,.own s.V.length 0)::s.t,s.B,s.V++[⟨true,T,k,0,[]⟩]⟩ else none
  | _=>none
 | .fz i=>match s.V[i]? with
  | some v=>match iS s.V (.own i v.ver) with
   | some c=>if (v.live&&!lk.v.contains i&&lk.t.all (fun d=>(s.get d).noV [i])&&lk.b.all (fun j=>AV.noVs [i] (s.B.getD j ⟨false,0,[]⟩).cs))=true then
    some ⟨s.n,s.t.map fun p=>(p.1,AV.fv i v.ver c p.2),s.B.map (Box.mp (AV.fvs i v.ver c)),s.V.set i ⟨false,v.T,v.k,v.ver,v.es⟩⟩
    else none
   | none=>none
  | none=>none
 | .fb i=>match s.B[i]? with
  | some b=>match gC b.cs with
   | some cs=>if (b.live&&!lk.b.contains i&&lk.t.all (fun d=>(s.get d).noB [i])&&lk.b.all (fun j=>AV.noBs [i] (s.B.getD j ⟨false,0,[]⟩).cs))=true then
     some ⟨s.n,s.t.map fun p=>(p.1,AV.fb i cs p.2),(s.B.set i ⟨false,b.T,b.cs⟩).map (Box.mp (AV.fbs i cs)),s.V⟩
    else none
   | none=>none
  | none=>none
 | .mkb i off T k=>match s.B[i]? with
  | some b=>match b.cs[off]? with
   | some (.cv (.val (.slice none 0 0)))=>if (b.live&&!lk.b.contains i&&decide (T<bQ))=true then some ⟨s.n,s.t,s.B.set i ⟨b.live,b.T,b.cs.set off (.own s.V.length 0)⟩,s.V++[⟨true,T,k,0,[]⟩]⟩ else none
   | _=>none
  | none=>none
theorem PQ {m:Emb} {V V1:List Vec} {v:Vec} (hv:V[i]? = some v) (bt:V1[m.fv i]? = some (v.cz m i)) (h:iS V (.own i v.ver)=some c):iS V1 (.own (m.fv i) (v.cz m i).ver)=some c:=by
 have _:=G;simp only [iS,hv,beq_self_eq_true,Bool.and_true] at h;simp only [iS,bt,beq_self_eq_true,Bool.and_true];exact h
section
variable {m:Emb} {nb nv:Nat}
mutual
theorem AV.fb_cz {i:Nat} {cs:List CV} (hi:i<nb) (fa:∀ a b,a<nb->b<nb->m.fb a=m.fb b->a=b):∀ (x:AV),AV.inn nb nv x=true->(AV.fb i cs x).cz m=AV.fb (m.fb i) cs (x.cz m)/\AV.inn nb nv (AV.fb i cs x)=true
 | .ptr j o,h=>by
  have _:=G;grind [AV.fb,AV.cz,AV.inn]
 | .agg xs,h=>by obtain ⟨h1,h2⟩:=AV.fbs_cz (cs:=cs) hi fa xs h;simp_all [AV.fb,AV.cz,AV.inn]
 | .tup xs,h=>by obtain ⟨h1,h2⟩:=AV.fbs_cz (cs:=cs) hi fa xs h;simp_all [AV.fb,AV.cz,AV.inn]
 | .fn f xs,h=>by obtain ⟨h1,h2⟩:=AV.fbs_cz (cs:=cs) hi fa xs h;simp_all [AV.fb,AV.cz,AV.inn]
 | .gd [] x,h=>by obtain ⟨h1,h2⟩:=AV.fb_cz (cs:=cs) hi fa x h;simp_all [AV.fb,AV.cz,AV.inn]
 | .gd (_::_) x,h=>by grind [AV.fb,AV.cz]
 | .any,h=>by simp [AV.fb,AV.cz,AV.inn]
 | .cv _,h=>by simp [AV.fb,AV.cz,AV.inn]
 | .own _ _,h=>by grind [AV.fb,AV.cz]
 | .opt _ _ _ _,h=>by grind [AV.fb,AV.cz]
theorem AV.fbs_cz {i:Nat} {cs:List CV} (hi:i<nb) (fa:∀ a b,a<nb->b<nb->m.fb a=m.fb b->a=b):∀ (xs:List AV),AV.inns nb nv xs=true->AV.czs m (AV.fbs i cs xs)=AV.fbs (m.fb i) cs (AV.czs m xs)/\AV.inns nb nv (AV.fbs i cs xs)=true
 | [],_=>by have _:=G;simp [AV.fbs,AV.czs,AV.inns]
 | x::xs,h=>by
  simp [AV.inns] at h;obtain ⟨h1,h2⟩:=AV.fb_cz (cs:=cs) hi fa x h.1;obtain ⟨h3,h4⟩:=AV.fbs_cz (cs:=cs) hi fa xs h.2;simp_all [AV.fbs,AV.czs,AV.inns]
end
mutual
theorem AV.fv_cz {i ver:Nat} {c:CV} (hi:i<nv) (fa:∀ a b,a<nv->b<nv->m.fv a=m.fv b->a=b):∀ (x:AV),AV.inn nb nv x=true->(AV.fv i ver c x).cz m=AV.fv (m.fv i) (m.fo i+ver) c (x.cz m)/\AV.inn nb nv (AV.fv i ver c x)=true
 | .own j g,h=>by
  have _:=G;grind [AV.fv,AV.cz,AV.inn]
 | .agg xs,h=>by obtain ⟨h1,h2⟩:=AV.fvs_cz (ver:=ver) (c:=c) hi fa xs h;simp_all [AV.fv,AV.cz,AV.inn]
 | .tup xs,h=>by obtain ⟨h1,h2⟩:=AV.fvs_cz (ver:=ver) (c:=c) hi fa xs h;simp_all [AV.fv,AV.cz,AV.inn]
 | .fn f xs,h=>by obtain ⟨h1,h2⟩:=AV.fvs_cz (ver:=ver) (c:=c) hi fa xs h;simp_all [AV.fv,AV.cz,AV.inn]
 | .gd [] x,h=>by obtain ⟨h1,h2⟩:=AV.fv_cz (ver:=ver) (c:=c) hi fa x h;simp_all [AV.fv,AV.cz,AV.inn]
 | .gd (_::_) x,h=>by grind [AV.fv,AV.cz]
 | .any,h=>by simp [AV.fv,AV.cz,AV.inn]
 | .cv _,h=>by simp [AV.fv,AV.cz,AV.inn]
 | .ptr _ _,h=>by grind [AV.fv,AV.cz]
 | .opt j u el o,h=>by
  simp [AV.inn] at h
  by_cases hc:j=i/\u=ver/\el=0/\o=0
  ·simp [AV.cz,AV.fv,KP]
   grind [AV.cz,AV.inn]
  ·have gq:¬(m.fv j=m.fv i/\m.fo j+u=m.fo i+ver/\el=0/\o=0):=by
    grind
   simp_all [if_neg,AV.cz,AV.fv,KP,AV.inn]
theorem AV.fvs_cz {i ver:Nat} {c:CV} (hi:i<nv) (fa:∀ a b,a<nv->b<nv->m.fv a=m.fv b->a=b):∀ (xs:List AV),AV.inns nb nv xs=true->AV.czs m (AV.fvs i ver c xs)=AV.fvs (m.fv i) (m.fo i+ver) c (AV.czs m xs)/\AV.inns nb nv (AV.fvs i ver c xs)=true
 | [],_=>by have _:=G;simp [AV.fvs,AV.czs,AV.inns]
 | x::xs,h=>by
  simp [AV.inns] at h;obtain ⟨h1,h2⟩:=AV.fv_cz (ver:=ver) (c:=c) hi fa x h.1;obtain ⟨h3,h4⟩:=AV.fvs_cz (ver:=ver) (c:=c) hi fa xs h.2;simp_all [AV.fvs,AV.czs,AV.inns]
end
end
mutual
theorem AV.fb_no {i:Nat} {cs:List CV}:∀ (x:AV),AV.noB [i] x=true->AV.fb i cs x=x
 | .ptr j o,h=>by have _:=G;simp_all [AV.noB,AV.fb]
 | .agg xs,h=>by simp only [AV.noB] at h;simp only [AV.fb,AV.fbs_no xs h]
 | .tup xs,h=>by simp only [AV.noB] at h;simp only [AV.fb,AV.fbs_no xs h]
 | .fn f xs,h=>by simp only [AV.noB] at h;simp only [AV.fb,AV.fbs_no xs h]
 | .gd [] x,h=>by simp only [AV.noB] at h;simp only [AV.fb,AV.fb_no x h]
 | .gd (_::_) x,_=>by rfl
 | .any,_=>by rfl
 | .cv _,_=>by rfl
 | .own _ _,_=>by rfl
 | .opt _ _ _ _,_=>by rfl
theorem AV.fbs_no {i:Nat} {cs:List CV}:∀ (xs:List AV),AV.noBs [i] xs=true->AV.fbs i cs xs=xs
 | [],_=>by have _:=G;rfl
 | x::xs,h=>by simp_all [AV.noBs,Bool.and_eq_true,AV.fbs,AV.fb_no,AV.fbs_no]
end
mutual
theorem AV.fv_no {i ver:Nat} {c:CV}:∀ (x:AV),AV.noV [i] x=true->AV.fv i ver c x=x
 | .own j o,h=>by have _:=G;simp_all [AV.noV,AV.fv]
 | .agg xs,h=>by simp only [AV.noV] at h;simp only [AV.fv,AV.fvs_no xs h]
 | .tup xs,h=>by simp only [AV.noV] at h;simp only [AV.fv,AV.fvs_no xs h]
 | .fn f xs,h=>by simp only [AV.noV] at h;simp only [AV.fv,AV.fvs_no xs h]
 | .gd [] x,h=>by simp only [AV.noV] at h;simp only [AV.fv,AV.fv_no x h]
 | .gd (_::_) x,_=>by rfl
 | .any,_=>by rfl
 | .cv _,_=>by rfl
 | .ptr _ _,_=>by rfl
 | .opt j u el o,h=>by simp_all [AV.noV,AV.fv,KP]
theorem AV.fvs_no {i ver:Nat} {c:CV}:∀ (xs:List AV),AV.noVs [i] xs=true->AV.fvs i ver c xs=xs
 | [],_=>by have _:=G;rfl
 | x::xs,h=>by simp_all [AV.noVs,Bool.and_eq_true,AV.fvs,AV.fv_no,AV.fvs_no]
end
theorem IZ (f:AV->AV) (hf:f .any=.any) (n:Nat) (l:List (Nat×AV)):(mkT n l).map f=mkT n (l.map fun p=>(p.1,f p.2)):=by
 simp only [mkT,List.map_map];exact List.map_congr_left fun d _=>(qJ f hf l d).symm
theorem SS.get_map (s:SS) (f:AV->AV) (hf:f .any=.any) (B:List Box) (V:List Vec) (d:Nat):(⟨s.n,s.t.map fun p=>(p.1,f p.2),B,V⟩:SS).get d=f (s.get d):=by
 by_cases hd:d<s.n
 ·simp_all [qJ,SS.get]
 simp_all [if_neg,SS.get]
section
variable {F:Fence} {n:Nat} {P:Program}
theorem aJO {p:Pa} {lk:Lk} {m:Emb} {s s1:SS} {st:St} {c:Code} {Q:Exit->St->Prop} (hE:Em m s st) (h:aDY p lk s=some s1)
  (hk:∀ m1 st1,Em m1 s1 st1->Adv lk m s st m1 s1 st1->W F n P c st1 Q):W F n P c st Q:=by
 unfold aDY at h;split at h
 ·rename_i d T k
  split at h
  ·rename_i hg
   split at h
   ·rename_i hc
    obtain ⟨dh,cw,qr⟩:=hc;cases h;have dg:=hE.slot dh;rw [hg] at dg;intro n0 w0 e a w Qr hr cq;obtain ⟨e',bo,bw⟩:=hr.ownNil (T:=T) (k:=k) dg qr;have hl:m.vb.length=m.vm.length:=by rw [hE.m.ol,hE.m.vl]
    have bY:Em (m.pushV st.V.length) ⟨s.n,(d,.own s.V.length 0)::s.t,s.B,s.V++[⟨true,T,k,0,[]⟩]⟩ ⟨st.t.set d (.own st.V.length 0),st.B,st.V++[⟨true,T,k,0,[]⟩]⟩:=by
     have:=hE.put (hE.m.pushV (v:=⟨true,T,k,0,[]⟩)) (Emb.pushV_up _ _) (Emb.pushV_fo _ hl) (Nat.le_refl _) (by simp) (x:=.own s.V.length 0) (by simp [AV.inn]) (some d)
     simp [SS.put,AV.cz] at this;rw [<- hE.m.vl,Emb.pushV_new,Emb.pushV_new0 _ hl] at this;simpa [hE.m.vl] using this
    have ha:Adv lk m s st (m.pushV st.V.length) ⟨s.n,(d,.own s.V.length 0)::s.t,s.B,s.V++[⟨true,T,k,0,[]⟩]⟩ ⟨st.t.set d (.own st.V.length 0),st.B,st.V++[⟨true,T,k,0,[]⟩]⟩:=
     ⟨Stp.pushV _,rfl,Nat.le_refl _,by simp,fun j hj=>SS.put_get (d:=some d) (lk:=lk) (by grind [bX]) j hj,fun _ _ _=>rfl,fun i _ hi=>by grind,fun i _ hi=>Emb.pushV_fo _ hl i (by rw [hE.m.vl];exact hi)⟩
    exact hk _ _ bY ha n0 w0 e' a w Qr bo fun ex e'' st' a' w'' hq ah ac dw=>cq ex e'' st' a' w'' hq ah ac (bw.trans dw)
   grind
  grind
 ·rename_i i
  split at h
  ·rename_i v hv
   split at h
   case h_2=>cases h
   rename_i c bz;split at h
   ·rename_i hc
    cases h;simp only [Bool.and_eq_true] at hc;obtain ⟨⟨⟨hl,cw⟩,hlt⟩,ko⟩:=hc;have aq:=(List.getElem?_eq_some_iff.1 hv).1;have bt:=hE.m.v i v hv (.inl hl);intro n0 w0 e a w Qr hr cq;obtain ⟨e',l8,bw,dx⟩:=hr.freezeV' bt hl (PQ hv bt bz)
    let f:=AV.fvs (m.fv i) (m.fo i+v.ver) c
    let p:Nat->Bool:=fun j=>m.bm.contains j
    have bo:=l8.map p f (fun xs vs hx=>AV.fvs_holds dx xs vs hx) (fun nb ws xs=>AV.fvs_scoped xs)
    let st1:St:=⟨f st.t,KQ p f st.B,st.V.set (m.fv i) { v.cz m i with live:=false }⟩
    let s1:SS:=⟨s.n,s.t.map fun p=>(p.1,AV.fv i v.ver c p.2),s.B.map (Box.mp (AV.fvs i v.ver c)),s.V.set i ⟨false,v.T,v.k,v.ver,v.es⟩⟩
    have nh:AV.fv (m.fv i) (m.fo i+v.ver) c .any=.any:=by rfl
    have fc:AV.fv i v.ver c .any=.any:=by rfl
    have lc:=hE.m.setV (i:=i) (v:=⟨false,v.T,v.k,v.ver,v.es⟩) aq
    have bY:Em m s1 st1:=by
     refine ⟨?_,fun p hp=>?_,⟨by simpa [s1] using hE.m.bl,by simpa [s1] using hE.m.vl,by simpa [s1] using hE.m.ol,fun j b hb=>?_,fun j x hx iy=>lc.v j x hx iy,fun j hj=>lc.vlt j hj,fun j k hj hk=>hE.m.bi j k (by grind) (by grind),fun j k hj hk=>hE.m.vi j k (by grind) (by grind)⟩⟩
     ·show AV.fvs _ _ _ st.t=mkT s.n _
      rw [AV.fvs_eq,hE.t,IZ _ nh];congr 1;simp only [s1,List.map_map];refine List.map_congr_left fun p hp=>?_
      simp;rw [(AV.fv_cz aq hE.m.vi p.2 (hE.ti p hp)).1]
     ·simp only [s1,List.mem_map] at hp
      obtain ⟨q,hq,rfl⟩:=hp;simp [s1];exact (AV.fv_cz aq hE.m.vi q.2 (hE.ti q hq)).2
     ·rw [List.getElem?_map,Option.map_eq_some_iff] at hb
      obtain ⟨b0,qt,rfl⟩:=hb;obtain ⟨q1,q2⟩:=hE.m.b j b0 qt;obtain ⟨q3,q4⟩:=AV.fvs_cz (ver:=v.ver) (c:=c) aq hE.m.vi b0.cs q2;refine ⟨?_,by grind [Box.mp]⟩
      have hp:p (m.fb j)=true:=by
       simp [p];exact Emb.fb_mem (by rw [hE.m.bl];grind)
      grind [mI,Box.mp,Box.cz]
    have ha:Adv lk m s st m s1 st1:=by
     refine ⟨⟨Emb.Up.refl _,by grind [gK],by grind,fun _ h=>.inl h,fun _ h=>.inl h,fun j hj hn=>?_,fun j hj hn=>?_⟩,rfl,by grind,by grind,fun d hd=>?_,fun j hj bu=>?_,fun j hj bu=>?_,fun _ _ _=>rfl⟩
     ·grind [mI]
     ·rw [List.getElem?_set_ne]
      rintro rfl;exact hn (Emb.fv_mem (by rw [hE.m.vl];omega))
     ·have h1:=List.all_eq_true.1 hlt d hd
      rw [show s1.get d=AV.fv i v.ver c (s.get d) from SS.get_map s _ fc _ _ d];exact AV.fv_no _ h1
     ·have h1:=List.all_eq_true.1 ko j hj
      have i9:s.B[j]? = some s.B[j]:=by simp
      rw [List.getElem?_map,i9];simp_all [Box.mp,AV.fvs_no]
     grind
    have de:dW e st w e' st1.B st1.V w:=by
     have:st1.B.length=st.B.length:=gK _ _ _;grind
    exact hk m st1 bY ha n0 w0 e' a w Qr bo fun ex e'' st' a' w'' hq ah ac dw=>cq ex e'' st' a' w'' hq ah ac (de.trans dw)
   grind
  grind
 ·rename_i i
  split at h
  ·rename_i b hb
   split at h
   ·rename_i cs aT
    split at h
    ·rename_i hc
     cases h;simp only [Bool.and_eq_true] at hc;obtain ⟨⟨⟨hl,cw⟩,hlt⟩,ko⟩:=hc;have aq:=(List.getElem?_eq_some_iff.1 hb).1;obtain ⟨bv,jb⟩:=hE.m.b i b hb
     have xv:gC (b.cz m).cs=some cs:=by
      simp_all [Box.cz,AV.czs_eq,fC,nR]
     intro n0 w0 e a w Qr hr cq;obtain ⟨e',l8,bw,dx⟩:=hr.freezeB' bv hl xv
     let f:=AV.fbs (m.fb i) cs
     let p:Nat->Bool:=fun j=>m.bm.contains j
     have bo:=l8.map p f (fun xs vs hx=>AV.fbs_holds dx xs vs hx) (fun nb ws xs=>AV.fbs_scoped xs)
     let st1:St:=⟨f st.t,KQ p f (st.B.set (m.fb i) { b.cz m with live:=false }),st.V⟩
     let s1:SS:=⟨s.n,s.t.map fun p=>(p.1,AV.fb i cs p.2),(s.B.set i ⟨false,b.T,b.cs⟩).map (Box.mp (AV.fbs i cs)),s.V⟩
     have nh:AV.fb (m.fb i) cs .any=.any:=by rfl
     have fc:AV.fb i cs .any=.any:=by rfl
     have qu:=hE.m.setB (i:=i) (b:=⟨false,b.T,b.cs⟩) aq jb
     have bY:Em m s1 st1:=by
      refine ⟨?_,fun p hp=>?_,⟨by simpa [s1] using hE.m.bl,by simpa using hE.m.vl,by simpa using hE.m.ol,fun j c hc=>?_,fun j x hx iy=>hE.m.v j x hx iy,hE.m.vlt,fun j k hj hk=>hE.m.bi j k (by grind) (by grind),fun j k hj hk=>hE.m.vi j k (by omega) (by omega)⟩⟩
      ·show AV.fbs _ _ st.t=mkT s.n _
       rw [AV.fbs_eq,hE.t,IZ _ nh];congr 1;simp only [s1,List.map_map];refine List.map_congr_left fun p hp=>?_
       simp;rw [(AV.fb_cz aq hE.m.bi p.2 (hE.ti p hp)).1]
      ·simp only [s1,List.mem_map] at hp
       obtain ⟨q,hq,rfl⟩:=hp;simp [s1];exact (AV.fb_cz aq hE.m.bi q.2 (hE.ti q hq)).2
      ·rw [List.getElem?_map,Option.map_eq_some_iff] at hc
       obtain ⟨b0,qt,rfl⟩:=hc;obtain ⟨q1,q2⟩:=qu.b j b0 qt;simp at q2;obtain ⟨q3,q4⟩:=AV.fbs_cz (cs:=cs) aq hE.m.bi b0.cs q2;refine ⟨?_,by grind [Box.mp]⟩
       have hp:p (m.fb j)=true:=by
        simp [p];exact Emb.fb_mem (by rw [hE.m.bl];grind)
       rw [mI];have q1':(st.B.set (m.fb i) { b.cz m with live:=false })[m.fb j]? = some (b0.cz m):=q1
       rw [q1'];simp [hp,Box.mp,Box.cz,q3,f]
     have ha:Adv lk m s st m s1 st1:=by
      refine ⟨⟨Emb.Up.refl _,by grind [gK],Nat.le_refl _,fun _ h=>.inl h,fun _ h=>.inl h,fun j hj hn=>?_,fun j hj hn=>rfl⟩,rfl,by grind,by grind,fun d hd=>?_,fun j hj bu=>?_,fun j hj bu=>rfl,fun _ _ _=>rfl⟩
      ·rw [mI]
       have hp:p j=false:=by grind
       rw [List.getElem?_set_ne (by rintro rfl;exact hn (Emb.fb_mem (by rw [hE.m.bl];omega)))]
       grind
      ·have h1:=List.all_eq_true.1 hlt d hd
       rw [show s1.get d=AV.fb i cs (s.get d) from SS.get_map s _ fc _ _ d];exact AV.fb_no _ h1
      ·have h1:=List.all_eq_true.1 ko j hj
       have i9:s.B[j]? = some s.B[j]:=by simp
       rw [getD_some i9] at h1;rw [List.getElem?_map,List.getElem?_set_ne (by grind),i9]
       simp_all [Option.map_some,Box.mp,AV.fbs_no]
     have de:dW e st w e' st1.B st1.V w:=by
      have:st1.B.length=(st.B.set (m.fb i) { b.cz m with live:=false }).length:=gK _ _ _
      grind
     exact hk m st1 bY ha n0 w0 e' a w Qr bo fun ex e'' st' a' w'' hq ah ac dw=>cq ex e'' st' a' w'' hq ah ac (de.trans dw)
    grind
   grind
  grind
 ·rename_i i off T k
  split at h
  ·rename_i b hb
   split at h
   ·split at h
    ·rename_i hc
     cases h;simp only [Bool.and_eq_true] at hc;obtain ⟨⟨hl,cw⟩,qr⟩:=hc;replace qr:=of_decide_eq_true qr;have aq:=(List.getElem?_eq_some_iff.1 hb).1;obtain ⟨bv,jb⟩:=hE.m.b i b hb
     have ni:(b.cz m).cs[off]? = some (.cv (.val (.slice none 0 0))):=by
      grind [Box.cz,AV.czs_eq,AV.cz]
     intro n0 w0 e a w Qr hr cq;obtain ⟨e',bo,bw⟩:=hr.ownNilB (T:=T) (k:=k) bv hl ni qr;have ik:m.vb.length=m.vm.length:=by rw [hE.m.ol,hE.m.vl]
     let m1:=m.pushV st.V.length
     let s1:SS:=⟨s.n,s.t,s.B.set i ⟨b.live,b.T,b.cs.set off (.own s.V.length 0)⟩,s.V++[⟨true,T,k,0,[]⟩]⟩
     let st1:St:=⟨st.t,st.B.set (m.fb i) ⟨(b.cz m).live,(b.cz m).T,(b.cz m).cs.set off (.own st.V.length 0)⟩,st.V++[⟨true,T,k,0,[]⟩]⟩
     have hu:m.Up m1:=Emb.pushV_up _ _;have ho:=Emb.pushV_fo (m:=m) st.V.length ik;have hM:=hE.m.pushV (v:=⟨true,T,k,0,[]⟩)
     have ju:AV.inns s.B.length (s.V++[(⟨true,T,k,0,[]⟩:Vec)]).length (b.cs.set off (.own s.V.length 0))=true:=by
      have h0:=jb;rw [AV.inns_eq,List.all_eq_true] at h0 ⊢;intro y hy;rcases List.mem_or_eq_of_mem_set hy with hy | rfl
      ·exact AV.inn_mono (Nat.le_refl _) (by simp) y (h0 y hy)
      ·simp [AV.inn]
     have K8:=hM.setB (i:=i) (b:=⟨b.live,b.T,b.cs.set off (.own s.V.length 0)⟩) aq ju;have xw:m1.fb i=m.fb i:=hu.b i (by rw [hE.m.bl];omega)
     have aT:AV.czs m1 (b.cs.set off (.own s.V.length 0))=(AV.czs m b.cs).set off (.own st.V.length 0):=by
      have h1:AV.czs m1 b.cs=AV.czs m b.cs:=AV.czs_up hu ho b.cs (by rw [hE.m.bl,hE.m.vl];omega)
      have h2:(AV.own s.V.length 0).cz m1=.own st.V.length 0:=by
       simp only [AV.cz];rw [<- hE.m.vl,Emb.pushV_new,Emb.pushV_new0 _ ik]
      grind [AV.czs_eq,List.map_set]
     have bY:Em m1 s1 st1:=by
      refine ⟨?_,fun p hp=>?_,?_⟩
      ·rw [hE.t]
       congr 1;refine List.map_congr_left fun p hp=>?_
       rw [AV.cz_up hu ho p.2 (by rw [hE.m.bl,hE.m.vl];exact hE.ti p hp)]
      ·simp [s1]
       exact AV.inn_mono (Nat.le_refl _) (by simp) _ (hE.ti p hp)
      grind [Box.cz]
     have ha:Adv lk m s st m1 s1 st1:=by
      refine ⟨⟨hu,by grind,by grind,fun j hj=>.inl hj,fun j hj=>?_,fun j hj hn=>?_,fun j hj hn=>by grind⟩,rfl,by grind,by grind,fun d _=>rfl,fun j hj bu=>?_,fun j hj bu=>by grind,fun j _ hj=>ho j (by rw [hE.m.vl];exact hj)⟩
      ·grind [Emb.pushV]
      ·rw [List.getElem?_set_ne]
       rintro rfl;exact hn (Emb.fb_mem (by rw [hE.m.bl];omega))
      grind
     exact hk m1 st1 bY ha n0 w0 e' a w Qr bo fun ex e'' st' a' w'' hq ah ac dw=>cq ex e'' st' a' w'' hq ah ac (Ext.trans bw dw)
    grind
   grind
  grind
def rQ:List Pa->Lk->SS->Option SS
 | [],_,s=>some s
 | p::ps,lk,s=>match aDY p lk s with
  | some s1=>rQ ps lk s1
  | none=>none
theorem BG:∀ {ps:List Pa} {lk:Lk} {m:Emb} {s s1:SS} {st:St} {c:Code} {Q:Exit->St->Prop},Em m s st->rQ ps lk s=some s1 ->
  (∀ m1 st1,Em m1 s1 st1->Adv lk m s st m1 s1 st1->W F n P c st1 Q)->W F n P c st Q
 | [],lk,m,s,s1,st,c,Q,hE,h,hk=>by
  simp [rQ] at h;subst h;exact hk m st hE (Adv.refl _ _ _ _)
 | p::ps,lk,m,s,s1,st,c,Q,hE,h,hk=>by
  simp [rQ] at h;split at h
  ·rename_i s2 h2
   exact aJO hE h2 fun m1 st1 bY dy=>BG bY h fun m2 st2 i7 vg=>hk m2 st2 i7 (dy.trans vg)
  grind
end
section
variable {F:Fence} {n:Nat} {P:Program}
theorem aIF {p:Pa} {lk:Lk} {m:Emb} {s s1:SS} {st:St} {l:List Oper} {ops:Array Oper} {Q:St->Prop} (hE:Em m s st) (h:aDY p lk s=some s1)
  (hk:∀ m1 st1,Em m1 s1 st1->Adv lk m s st m1 s1 st1->dQ F n P ops l st1 Q):dQ F n P ops l st Q:=by
 unfold aDY at h;split at h
 ·rename_i d T k
  split at h
  ·rename_i hg
   split at h
   ·rename_i hc
    obtain ⟨dh,cw,qr⟩:=hc;cases h;have dg:=hE.slot dh;rw [hg] at dg;intro n0 w0 e a w Qr hr cq;obtain ⟨e',bo,bw⟩:=hr.ownNil (T:=T) (k:=k) dg qr;have hl:m.vb.length=m.vm.length:=by rw [hE.m.ol,hE.m.vl]
    have bY:Em (m.pushV st.V.length) ⟨s.n,(d,.own s.V.length 0)::s.t,s.B,s.V++[⟨true,T,k,0,[]⟩]⟩ ⟨st.t.set d (.own st.V.length 0),st.B,st.V++[⟨true,T,k,0,[]⟩]⟩:=by
     have:=hE.put (hE.m.pushV (v:=⟨true,T,k,0,[]⟩)) (Emb.pushV_up _ _) (Emb.pushV_fo _ hl) (Nat.le_refl _) (by simp) (x:=.own s.V.length 0) (by simp [AV.inn]) (some d)
     simp [SS.put,AV.cz] at this;rw [<- hE.m.vl,Emb.pushV_new,Emb.pushV_new0 _ hl] at this;simpa [hE.m.vl] using this
    have ha:Adv lk m s st (m.pushV st.V.length) ⟨s.n,(d,.own s.V.length 0)::s.t,s.B,s.V++[⟨true,T,k,0,[]⟩]⟩ ⟨st.t.set d (.own st.V.length 0),st.B,st.V++[⟨true,T,k,0,[]⟩]⟩:=
     ⟨Stp.pushV _,rfl,Nat.le_refl _,by simp,fun j hj=>SS.put_get (d:=some d) (lk:=lk) (by grind [bX]) j hj,fun _ _ _=>rfl,fun i _ hi=>by grind,fun i _ hi=>Emb.pushV_fo _ hl i (by rw [hE.m.vl];exact hi)⟩
    exact hk _ _ bY ha n0 w0 e' a w Qr bo fun e'' st' a' w'' hq ah ac dw=>cq e'' st' a' w'' hq ah ac (bw.trans dw)
   grind
  grind
 ·rename_i i
  split at h
  ·rename_i v hv
   split at h
   case h_2=>cases h
   rename_i c bz;split at h
   ·rename_i hc
    cases h;simp only [Bool.and_eq_true] at hc;obtain ⟨⟨⟨hl,cw⟩,hlt⟩,ko⟩:=hc;have aq:=(List.getElem?_eq_some_iff.1 hv).1;have bt:=hE.m.v i v hv (.inl hl);intro n0 w0 e a w Qr hr cq;obtain ⟨e',l8,bw,dx⟩:=hr.freezeV' bt hl (PQ hv bt bz)
    let f:=AV.fvs (m.fv i) (m.fo i+v.ver) c
    let p:Nat->Bool:=fun j=>m.bm.contains j
    have bo:=l8.map p f (fun xs vs hx=>AV.fvs_holds dx xs vs hx) (fun nb ws xs=>AV.fvs_scoped xs)
    let st1:St:=⟨f st.t,KQ p f st.B,st.V.set (m.fv i) { v.cz m i with live:=false }⟩
    let s1:SS:=⟨s.n,s.t.map fun p=>(p.1,AV.fv i v.ver c p.2),s.B.map (Box.mp (AV.fvs i v.ver c)),s.V.set i ⟨false,v.T,v.k,v.ver,v.es⟩⟩
    have nh:AV.fv (m.fv i) (m.fo i+v.ver) c .any=.any:=by rfl
    have fc:AV.fv i v.ver c .any=.any:=by rfl
    have lc:=hE.m.setV (i:=i) (v:=⟨false,v.T,v.k,v.ver,v.es⟩) aq
    have bY:Em m s1 st1:=by
     refine ⟨?_,fun p hp=>?_,⟨by simpa [s1] using hE.m.bl,by simpa [s1] using hE.m.vl,by simpa [s1] using hE.m.ol,fun j b hb=>?_,fun j x hx iy=>lc.v j x hx iy,fun j hj=>lc.vlt j hj,fun j k hj hk=>hE.m.bi j k (by grind) (by grind),fun j k hj hk=>hE.m.vi j k (by grind) (by grind)⟩⟩
     ·show AV.fvs _ _ _ st.t=mkT s.n _
      rw [AV.fvs_eq,hE.t,IZ _ nh];congr 1;simp only [s1,List.map_map];refine List.map_congr_left fun p hp=>?_
      simp;rw [(AV.fv_cz aq hE.m.vi p.2 (hE.ti p hp)).1]
     ·simp only [s1,List.mem_map] at hp
      obtain ⟨q,hq,rfl⟩:=hp;simp [s1];exact (AV.fv_cz aq hE.m.vi q.2 (hE.ti q hq)).2
     ·rw [List.getElem?_map,Option.map_eq_some_iff] at hb
      obtain ⟨b0,qt,rfl⟩:=hb;obtain ⟨q1,q2⟩:=hE.m.b j b0 qt;obtain ⟨q3,q4⟩:=AV.fvs_cz (ver:=v.ver) (c:=c) aq hE.m.vi b0.cs q2;refine ⟨?_,by grind [Box.mp]⟩
      have hp:p (m.fb j)=true:=by
       simp [p];exact Emb.fb_mem (by rw [hE.m.bl];grind)
      grind [mI,Box.mp,Box.cz]
    have ha:Adv lk m s st m s1 st1:=by
     refine ⟨⟨Emb.Up.refl _,by grind [gK],by grind,fun _ h=>.inl h,fun _ h=>.inl h,fun j hj hn=>?_,fun j hj hn=>?_⟩,rfl,by grind,by grind,fun d hd=>?_,fun j hj bu=>?_,fun j hj bu=>?_,fun _ _ _=>rfl⟩
     ·grind [mI]
     ·rw [List.getElem?_set_ne]
      rintro rfl;exact hn (Emb.fv_mem (by rw [hE.m.vl];omega))
     ·have h1:=List.all_eq_true.1 hlt d hd
      rw [show s1.get d=AV.fv i v.ver c (s.get d) from SS.get_map s _ fc _ _ d];exact AV.fv_no _ h1
     ·have h1:=List.all_eq_true.1 ko j hj
      have i9:s.B[j]? = some s.B[j]:=by simp
      rw [List.getElem?_map,i9];simp_all [Box.mp,AV.fvs_no]
     grind
    have de:dW e st w e' st1.B st1.V w:=by
     have:st1.B.length=st.B.length:=gK _ _ _;grind
    exact hk m st1 bY ha n0 w0 e' a w Qr bo fun e'' st' a' w'' hq ah ac dw=>cq e'' st' a' w'' hq ah ac (de.trans dw)
   grind
  grind
 ·rename_i i
  split at h
  ·rename_i b hb
   split at h
   ·rename_i cs aT
    split at h
    ·rename_i hc
     cases h;simp only [Bool.and_eq_true] at hc;obtain ⟨⟨⟨hl,cw⟩,hlt⟩,ko⟩:=hc;have aq:=(List.getElem?_eq_some_iff.1 hb).1;obtain ⟨bv,jb⟩:=hE.m.b i b hb
     have xv:gC (b.cz m).cs=some cs:=by
      simp_all [Box.cz,AV.czs_eq,fC,nR]
     intro n0 w0 e a w Qr hr cq;obtain ⟨e',l8,bw,dx⟩:=hr.freezeB' bv hl xv
     let f:=AV.fbs (m.fb i) cs
     let p:Nat->Bool:=fun j=>m.bm.contains j
     have bo:=l8.map p f (fun xs vs hx=>AV.fbs_holds dx xs vs hx) (fun nb ws xs=>AV.fbs_scoped xs)
     let st1:St:=⟨f st.t,KQ p f (st.B.set (m.fb i) { b.cz m with live:=false }),st.V⟩
     let s1:SS:=⟨s.n,s.t.map fun p=>(p.1,AV.fb i cs p.2),(s.B.set i ⟨false,b.T,b.cs⟩).map (Box.mp (AV.fbs i cs)),s.V⟩
     have nh:AV.fb (m.fb i) cs .any=.any:=by rfl
     have fc:AV.fb i cs .any=.any:=by rfl
     have qu:=hE.m.setB (i:=i) (b:=⟨false,b.T,b.cs⟩) aq jb
     have bY:Em m s1 st1:=by
      refine ⟨?_,fun p hp=>?_,⟨by simpa [s1] using hE.m.bl,by simpa using hE.m.vl,by simpa using hE.m.ol,fun j c hc=>?_,fun j x hx iy=>hE.m.v j x hx iy,hE.m.vlt,fun j k hj hk=>hE.m.bi j k (by grind) (by grind),fun j k hj hk=>hE.m.vi j k (by omega) (by omega)⟩⟩
      ·show AV.fbs _ _ st.t=mkT s.n _
       rw [AV.fbs_eq,hE.t,IZ _ nh];congr 1;simp only [s1,List.map_map];refine List.map_congr_left fun p hp=>?_
       simp;rw [(AV.fb_cz aq hE.m.bi p.2 (hE.ti p hp)).1]
      ·simp only [s1,List.mem_map] at hp
       obtain ⟨q,hq,rfl⟩:=hp;simp [s1];exact (AV.fb_cz aq hE.m.bi q.2 (hE.ti q hq)).2
      ·rw [List.getElem?_map,Option.map_eq_some_iff] at hc
       obtain ⟨b0,qt,rfl⟩:=hc;obtain ⟨q1,q2⟩:=qu.b j b0 qt;simp at q2;obtain ⟨q3,q4⟩:=AV.fbs_cz (cs:=cs) aq hE.m.bi b0.cs q2;refine ⟨?_,by grind [Box.mp]⟩
       have hp:p (m.fb j)=true:=by
        simp [p];exact Emb.fb_mem (by rw [hE.m.bl];grind)
       grind [mI,Box.mp,Box.cz]
     have ha:Adv lk m s st m s1 st1:=by
      refine ⟨⟨Emb.Up.refl _,by grind [gK],Nat.le_refl _,fun _ h=>.inl h,fun _ h=>.inl h,fun j hj hn=>?_,fun j hj hn=>rfl⟩,rfl,by grind,by grind,fun d hd=>?_,fun j hj bu=>?_,fun j hj bu=>rfl,fun _ _ _=>rfl⟩
      ·rw [mI]
       rw [List.getElem?_set_ne (by rintro rfl;exact hn (Emb.fb_mem (by rw [hE.m.bl];omega)))]
       grind
      ·have h1:=List.all_eq_true.1 hlt d hd
       rw [show s1.get d=AV.fb i cs (s.get d) from SS.get_map s _ fc _ _ d];exact AV.fb_no _ h1
      ·have h1:=List.all_eq_true.1 ko j hj
       have i9:s.B[j]? = some s.B[j]:=by simp
       rw [List.getElem?_map,List.getElem?_set_ne (by grind),i9]
       simp_all [Box.mp,AV.fbs_no]
     have de:dW e st w e' st1.B st1.V w:=by
      have:st1.B.length=(st.B.set (m.fb i) { b.cz m with live:=false }).length:=gK _ _ _
      grind
     exact hk m st1 bY ha n0 w0 e' a w Qr bo fun e'' st' a' w'' hq ah ac dw=>cq e'' st' a' w'' hq ah ac (de.trans dw)
    grind
   grind
  grind
 ·rename_i i off T k
  split at h
  ·rename_i b hb
   split at h
   ·split at h
    ·rename_i hc
     cases h;simp only [Bool.and_eq_true] at hc;obtain ⟨⟨hl,cw⟩,qr⟩:=hc;replace qr:=of_decide_eq_true qr;have aq:=(List.getElem?_eq_some_iff.1 hb).1;obtain ⟨bv,jb⟩:=hE.m.b i b hb
     have ni:(b.cz m).cs[off]? = some (.cv (.val (.slice none 0 0))):=by
      grind [Box.cz,AV.czs_eq,AV.cz]
     intro n0 w0 e a w Qr hr cq;obtain ⟨e',bo,bw⟩:=hr.ownNilB (T:=T) (k:=k) bv hl ni qr;have ik:m.vb.length=m.vm.length:=by rw [hE.m.ol,hE.m.vl]
     let m1:=m.pushV st.V.length
     let s1:SS:=⟨s.n,s.t,s.B.set i ⟨b.live,b.T,b.cs.set off (.own s.V.length 0)⟩,s.V++[⟨true,T,k,0,[]⟩]⟩
     let st1:St:=⟨st.t,st.B.set (m.fb i) ⟨(b.cz m).live,(b.cz m).T,(b.cz m).cs.set off (.own st.V.length 0)⟩,st.V++[⟨true,T,k,0,[]⟩]⟩
     have hu:m.Up m1:=Emb.pushV_up _ _;have ho:=Emb.pushV_fo (m:=m) st.V.length ik;have hM:=hE.m.pushV (v:=⟨true,T,k,0,[]⟩)
     have ju:AV.inns s.B.length (s.V++[(⟨true,T,k,0,[]⟩:Vec)]).length (b.cs.set off (.own s.V.length 0))=true:=by
      have h0:=jb;rw [AV.inns_eq,List.all_eq_true] at h0 ⊢;intro y hy;rcases List.mem_or_eq_of_mem_set hy with hy | rfl
      ·exact AV.inn_mono (Nat.le_refl _) (by simp) y (h0 y hy)
      ·simp [AV.inn]
     have K8:=hM.setB (i:=i) (b:=⟨b.live,b.T,b.cs.set off (.own s.V.length 0)⟩) aq ju;have xw:m1.fb i=m.fb i:=hu.b i (by rw [hE.m.bl];omega)
     have aT:AV.czs m1 (b.cs.set off (.own s.V.length 0))=(AV.czs m b.cs).set off (.own st.V.length 0):=by
      have h1:AV.czs m1 b.cs=AV.czs m b.cs:=AV.czs_up hu ho b.cs (by rw [hE.m.bl,hE.m.vl];omega)
      have h2:(AV.own s.V.length 0).cz m1=.own st.V.length 0:=by
       simp only [AV.cz];rw [<- hE.m.vl,Emb.pushV_new,Emb.pushV_new0 _ ik]
      grind [AV.czs_eq,List.map_set]
     have bY:Em m1 s1 st1:=by
      refine ⟨?_,fun p hp=>?_,?_⟩
      ·rw [hE.t]
       congr 1;refine List.map_congr_left fun p hp=>?_
       rw [AV.cz_up hu ho p.2 (by rw [hE.m.bl,hE.m.vl];exact hE.ti p hp)]
      ·simp [s1]
       exact AV.inn_mono (Nat.le_refl _) (by simp) _ (hE.ti p hp)
      grind [Box.cz]
     have ha:Adv lk m s st m1 s1 st1:=by
      refine ⟨⟨hu,by grind,by grind,fun j hj=>.inl hj,fun j hj=>?_,fun j hj hn=>?_,fun j hj hn=>by grind⟩,rfl,by grind,by grind,fun d _=>rfl,fun j hj bu=>?_,fun j hj bu=>by grind,fun j _ hj=>ho j (by rw [hE.m.vl];exact hj)⟩
      ·grind [Emb.pushV]
      ·rw [List.getElem?_set_ne]
       rintro rfl;exact hn (Emb.fb_mem (by rw [hE.m.bl];omega))
      grind
     exact hk m1 st1 bY ha n0 w0 e' a w Qr bo fun e'' st' a' w'' hq ah ac dw=>cq e'' st' a' w'' hq ah ac (Ext.trans bw dw)
    grind
   grind
  grind
theorem SQ:∀ {ps:List Pa} {lk:Lk} {m:Emb} {s s1:SS} {st:St} {l:List Oper} {ops:Array Oper} {Q:St->Prop},Em m s st->rQ ps lk s=some s1 ->
  (∀ m1 st1,Em m1 s1 st1->Adv lk m s st m1 s1 st1->dQ F n P ops l st1 Q)->dQ F n P ops l st Q
 | [],lk,m,s,s1,st,l,ops,Q,hE,h,hk=>by
  simp [rQ] at h;subst h;exact hk m st hE (Adv.refl _ _ _ _)
 | p::ps,lk,m,s,s1,st,l,ops,Q,hE,h,hk=>by
  simp [rQ] at h;split at h
  ·rename_i s2 h2
   exact aIF hE h2 fun m1 st1 bY dy=>SQ bY h fun m2 st2 i7 vg=>hk m2 st2 i7 (dy.trans vg)
  grind
end
structure FP where
 rb:List Nat
 wb:Option Nat
 al:Option Nat
 v:Option Nat
 rv:List Nat
 mr:List Nat
 z:Bool
def MEq (P:Program) (a b:Option Vec):Prop:=a=b\/∃ v v',a=some v/\b=some v'/\v'.live=v.live/\v'.T=v.T/\v'.k=v.k/\v'.ver=v.ver /\
 ∀ (T:TypeId) (mi:MI),eO P T=some mi->v.T=mi.tag T->(v'.es.all (okE mi)=v.es.all (okE mi))/\(v.es.all (okE mi)=true->∀ cs,dU mi cs=true->aH mi.kl.length cs mi.z v'.es=aH mi.kl.length cs mi.z v.es)
theorem MEq.refl {P:Program} (a:Option Vec):MEq P a a:=have _:=G;.inl rfl
theorem MEq.symm {P:Program} {a b:Option Vec} (h:MEq P a b):MEq P b a:=by
 have _:=G;rcases h with h | ⟨v,v',h1,h2,h3,h4,h5,h6,h7⟩
 ·exact .inl h.symm
 ·refine .inr ⟨v',v,h2,h1,h3.symm,h4.symm,h5.symm,h6.symm,fun T mi hm hT=>?_⟩
  grind
theorem MEq.trans {P:Program} {a b c:Option Vec} (h:MEq P a b) (h':MEq P b c):MEq P a c:=by
 have _:=G;rcases h with rfl | ⟨v,v',h1,h2,h3,h4,h5,h6,h7⟩
 ·exact h'
 ·rcases h' with rfl | ⟨x,x',g1,g2,g3,g4,g5,g6,g7⟩
  ·exact .inr ⟨v,v',h1,h2,h3,h4,h5,h6,h7⟩
  ·rw [h2] at g1;cases g1
   refine .inr ⟨v,x',h1,g2,g3.trans h3,g4.trans h4,g5.trans h5,g6.trans h6,fun T mi hm hT=>?_⟩
   grind
structure Eff where
 b:Option (Nat×Box)
 p:Option Box
 v:Option (Nat×Vec)
def Eff.none':Eff:=⟨none,none,none⟩
def Eff.B (f:Eff) (B:List Box):List Box:=(match f.b with | some (i,x)=>B.set i x | none=>B)++f.p.toList
def Eff.V (f:Eff) (V:List Vec):List Vec:=match f.v with | some (i,x)=>V.set i x | none=>V
theorem Eff.V_length (f:Eff) (V:List Vec):(f.V V).length=V.length:=by have _:=G;unfold Eff.V;grind
theorem Eff.B_length (f:Eff) (B:List Box):(f.B B).length=B.length+f.p.toList.length:=by have _:=G;unfold Eff.B;grind
def apF (x y:FP):Bool:=
 (match x.wb with | some i=>!y.rb.contains i | none=>true)&&(match y.wb with | some i=>!x.rb.contains i | none=>true) &&
 (match x.al with | some i=>!y.rb.contains i&&y.al.isNone | none=>true)&&(match y.al with | some i=>!x.rb.contains i&&x.al.isNone | none=>true) &&
 (match x.v,y.v with | some i,some j=>i != j | _,_=>true)&&(match x.v with | some i=>!y.rv.contains i | none=>true)&&(match y.v with | some i=>!x.rv.contains i | none=>true)&&(match x.v with | some i=>x.z || !y.mr.contains i | none=>true)&&(match y.v with | some i=>y.z || !x.mr.contains i | none=>true)
theorem aDZ {x y:FP} (h:apF x y=true):apF y x=true:=by
 have _:=G;unfold apF at h ⊢;grind
def HZ (lo:List Oper) (fps:List FP):Bool:=
 (List.range lo.length).all fun i=>(List.range lo.length).all fun j=>j<=i || (wl lo i).getD j false || (match fps[i]?,fps[j]? with | some x,some y=>apF x y | _,_=>false)
def aD0 (w:List Bool):Nat->Nat->Bool
 | _,0=>true
 | j,f+1=>w.getD j false&&aD0 w (j+1) f
def aBb (lo:List Oper) (n:Nat):Nat->Nat->Bool
 | _,0=>true
 | i,f+1=>aD0 (wl lo i) (i+1) (n - (i+1))&&aBb lo n (i+1) f
def aGN (w:List Bool) (x:FP) (n:Nat):Nat->List FP->Bool
 | j,[]=>aD0 w j (n - j)
 | j,y::ys=>(apF x y || w.getD j false)&&aGN w x n (j+1) ys
def aGO (lo:List Oper) (n:Nat):Nat->List FP->Bool
 | i,[]=>aBb lo n i (n - i)
 | i,x::xs=>aGN (wl lo i) x n (i+1) xs&&aGO lo n (i+1) xs
def aGP (lo:List Oper) (fps:List FP):Bool:=aGO lo lo.length 0 fps
theorem EZ {w:List Bool}:∀ {f j:Nat},aD0 w j f=true->∀ k,j<=k->k<j+f->w.getD k false=true
 | 0,j,_,k,h1,h2=>by have _:=G;omega
 | f+1,j,h,k,h1,h2=>by
  simp [aD0] at h
  by_cases hk:k=j
  ·grind
  ·exact EZ h.2 k (by omega) (by omega)
theorem KR {lo:List Oper} {n:Nat}:∀ {f i:Nat},aBb lo n i f=true->∀ a b,i<=a->a<i+f->a<b->b<n->(wl lo a).getD b false=true
 | 0,i,_,a,b,h1,h2,_,_=>by omega
 | f+1,i,h,a,b,h1,h2,h3,h4=>by
  simp [aBb] at h
  by_cases ha:a=i
  ·subst ha;exact EZ h.1 b (by omega) (by omega)
  ·exact KR h.2 a b (by omega) (by omega) h3 h4
theorem PR {w:List Bool} {x:FP} {n:Nat}:∀ {ys:List FP} {j:Nat},aGN w x n j ys=true->∀ k,j<=k->k<n->w.getD k false=true\/∃ y,ys[k - j]? = some y/\apF x y=true
 | [],j,h,k,h1,h2=>.inl (EZ h k h1 (by omega))
 | y::ys,j,h,k,h1,h2=>by
  simp [aGN] at h
  by_cases hk:k=j
  ·grind
  ·rcases PR h.2 k (by omega) h2 with h3 | ⟨z,h3,h4⟩
   ·grind
   grind
theorem PS {lo:List Oper} {n:Nat}:∀ {xs:List FP} {i:Nat},aGO lo n i xs=true->∀ a b,i<=a->a<b->b<n->(wl lo a).getD b false=true\/∃ x y,xs[a - i]? = some x/\xs[b - i]? = some y/\apF x y=true
 | [],i,h,a,b,h1,h2,h3=>.inl (KR h a b h1 (by omega) h2 h3)
 | x::xs,i,h,a,b,h1,h2,h3=>by
  simp [aGO] at h
  by_cases ha:a=i
  ·rcases PR h.1 b (by omega) h3 with h4 | ⟨y,h4,h5⟩
   ·grind
   grind
  ·rcases PS h.2 a b (by omega) h2 h3 with h4 | ⟨y,z,h4,h5,h6⟩
   ·grind
   grind
theorem PT {lo:List Oper} {fps:List FP} (h:aGP lo fps=true):HZ lo fps=true:=by
 unfold HZ;rw [List.all_eq_true];intro i hi;rw [List.all_eq_true];intro j hj;simp at hi hj
 by_cases mg:j<=i
 ·grind
 ·rcases PS h i j (Nat.zero_le _) (by omega) hj with h1 | ⟨x,y,h1,h2,h3⟩
  ·grind
  grind
section
variable (F:Fence) (n:Nat) (P:Program) (lo:List Oper) (vb:Nat->Prop)
def ZJ (o:Oper) (s:St) (A:AV) (B':List Box) (V':List Vec):Prop:=
 ∀ n0 w0 e a w (Q:Exit->Act->World->Prop) (K:Act->World->Prop),Rel n0 w0 e s a w ->
  (∀ e' v w',Mem n0 w0 e' B' V' w'->dW e s w e' B' V' w'->AV.holds e' w' (kss V') A v->AV.sco B'.length (vers V') A->K (a.put o.dst v) w') ->
  if Region.wanted o (yielded lo.toArray a.tmps)=true then o.wpIn F n P a w K Q else (∀ f,o.about P w a.eval=some f->F.fn f)/\K (a.put o.dst undef) w
structure AgrF (fp:FP) (o:Oper) (s s':St):Prop where
 sl:∀ d∈o.looksAt lo.toArray,s'.t[d]? = s.t[d]?
 B:∀ i∈fp.rb,s'.B[i]? = s.B[i]?
 Bl:fp.al.isSome=true->s'.B.length=s.B.length
 Vl:s'.V.length=s.V.length
 V0:∀ i,vb i->s'.V[i]? = s.V[i]?
 Vx:∀ j,fp.v=some j->s'.V[j]? = s.V[j]?
 Vr:∀ j∈fp.rv,s'.V[j]? = s.V[j]?
 Vm:∀ j∈fp.mr,MEq P (s.V[j]?) (s'.V[j]?)
theorem AgrF.refl (fp:FP) (o:Oper) (s:St):AgrF P lo vb fp o s s:=⟨fun _ _=>rfl,fun _ _=>rfl,fun _=>rfl,rfl,fun _ _=>rfl,fun _ _=>rfl,fun _ _=>rfl,fun _ _=>MEq.refl _⟩
theorem AgrF.trans {fp:FP} {o:Oper} {s s' s'':St} (h:AgrF P lo vb fp o s s') (h':AgrF P lo vb fp o s' s''):AgrF P lo vb fp o s s'':=
 ⟨fun d hd=>(h'.sl d hd).trans (h.sl d hd),fun i hi=>(h'.B i hi).trans (h.B i hi),fun hk=>(h'.Bl hk).trans (h.Bl hk),h'.Vl.trans h.Vl,fun i hi=>(h'.V0 i hi).trans (h.V0 i hi),fun j hj=>(h'.Vx j hj).trans (h.Vx j hj),fun j hj=>(h'.Vr j hj).trans (h.Vr j hj),fun j hj=>(h.Vm j hj).trans (h'.Vm j hj)⟩
theorem AgrF.symm {fp:FP} {o:Oper} {s s':St} (h:AgrF P lo vb fp o s s'):AgrF P lo vb fp o s' s:=
 ⟨fun d hd=>(h.sl d hd).symm,fun i hi=>(h.B i hi).symm,fun hk=>(h.Bl hk).symm,h.Vl.symm,fun i hi=>(h.V0 i hi).symm,fun j hj=>(h.Vx j hj).symm,fun j hj=>(h.Vr j hj).symm,fun j hj=>(h.Vm j hj).symm⟩
structure RF (fp:FP) (o:Oper) (s:St) (A:AV) (f:Eff):Prop where
 rl:∀ i∈fp.rb,i<s.B.length
 wb:∀ i x,f.b=some (i,x)->fp.wb=some i/\i∈fp.rb
 al:f.p.isSome=true->fp.al=some s.B.length
 v:∀ j x,f.v=some (j,x)->fp.v=some j/\¬vb j/\(fp.z=true->MEq P (s.V[j]?) (some x))
 sem:∀ s',AgrF P lo vb fp o s s'->ZJ F n P lo o s' A (f.B s'.B) (f.V s'.V)
variable {F n P lo vb}
theorem RF.agr {fp:FP} {o:Oper} {s s':St} {A:AV} {f:Eff} (h:RF F n P lo vb fp o s A f) (ha:AgrF P lo vb fp o s s'):RF F n P lo vb fp o s' A f:=by
 refine ⟨fun i hi=>?_,h.wb,fun hp=>?_,fun j x hf=>?_,fun s'' h'=>h.sem s'' (ha.trans P lo vb h')⟩
 ·have h1:=h.rl i hi
  have h2:=ha.B i hi;grind
 ·have h1:=h.al hp
  rw [ha.Bl (by grind)];exact h1
 ·obtain ⟨q1,q2,q3⟩:=h.v j x hf
  exact ⟨q1,q2,fun hz=>by rw [ha.Vx j q1];grind⟩
def stF (o:Oper) (s:St) (A:AV) (f:Eff):St:=s.put o.dst A (f.B s.B) (f.V s.V)
theorem VS {oi oj:Oper} {fi fj:FP} {s:St} {A:AV} {f:Eff} (hap:oi.apart lo.toArray oj=true) (hm:apF fi fj=true) (h:RF F n P lo vb fi oi s A f) (hj:∀ i∈fj.rb,i<s.B.length\/fi.al=some i) :
  AgrF P lo vb fj oj s (stF oi s A f):=by
 obtain ⟨h1,h2,h3⟩:=Oper.apart_spec hap;unfold apF at hm;simp at hm;refine ⟨fun d hd=>put_get fun x hx he=>h1 x hx (he▸hd),fun i hi=>?_,fun Oz=>?_,f.V_length _,fun q hq=>?_,fun j hj=>?_,fun q hq=>?_,fun q hq=>?_⟩
 ·show (f.B s.B)[i]? = _
  unfold Eff.B;split
  ·rename_i k x hb
   obtain ⟨hw,_⟩:=h.wb k x hb;grind
  grind
 ·show (f.B s.B).length=_
  rw [f.B_length];cases hp:f.p with
  | none=>rfl
  | some x =>
   have:=h.al (by grind)
   grind
 ·show (f.V s.V)[q]? = _
  unfold Eff.V;split
  ·rename_i k x hv
   obtain ⟨_,hk,_⟩:=h.v k x hv;grind
  ·rfl
 ·show (f.V s.V)[j]? = _
  unfold Eff.V;split
  ·rename_i k x hv
   obtain ⟨hk,_⟩:=h.v k x hv;grind
  ·rfl
 ·show (f.V s.V)[q]? = _
  unfold Eff.V;split
  ·rename_i k x hv
   obtain ⟨hk,_⟩:=h.v k x hv;grind
  ·rfl
 ·show MEq P (s.V[q]?) ((f.V s.V)[q]?)
  unfold Eff.V;split
  ·rename_i k x hv
   obtain ⟨hk,_,hz⟩:=h.v k x hv
   by_cases K9:k=q
   ·have Fg:fi.z=true:=by
     grind
    have ct:=hz Fg
    have hlt:k<s.V.length:=by
     rcases ct with ct | ⟨v,v',ct,_⟩
     ·grind
     grind
    grind
   ·rw [List.getElem?_set_ne K9];exact MEq.refl _
  ·exact MEq.refl _
end
end Go.Sx
