/-
 The laws of the stints of a common hold at every input, without any condition.
-/
import Derived.Laws.CopyRow
import Derived.Laws.MakeOwn
import Derived.Test.YtfgdfpnkhdlmfaaGreatP02
namespace Go.Sx
open Go Go.RowKit
variable [G:Ghost]
section
variable {P:Program} {T:TypeId} {mi:MI}
variable {cs:List CV} {d:CV} {es:List (List CV)}
theorem CL (aa:es.all (okE mi)=true) (hk:dU mi cs=true) (hd:kC d=some mi.vl):(bV mi.kl.length cs d es).all (okE mi)=true:=by
 have _:=G
 have h1:okE mi (cs++[d])=true:=by
  simp [okE,hd];rw [beq_iff_eq.1 hk]
 unfold bV;grind
theorem aGF {n:Nat} (aa:es.all (okE mi)=true):(zQ n cs es).all (okE mi)=true:=by
 have _:=G;rw [List.all_eq_true];exact fun l hl=>List.all_eq_true.1 aa l ((List.eraseIdx_sublist _ _).subset hl)
variable {o:Oper} {x k:Operand} {i u:Nat} {v:Vec}
theorem OF {st:St} (hm:eO P T=some mi) (ae:o.op=.lookup T x k true) (hx:st.ev x=.own i u) (hv:st.V[i]? = some v) (hI:IsM mi T v) (hu:v.ver=u) (hk:fJ mi (st.ev k)=some cs) (aa:dU mi cs=true) :
  Step P o st (.tup [.cv (aH mi.kl.length cs mi.z v.es),.cv (.val (.bool (decide (bN mi.kl.length cs v.es<v.es.length))))]) st.B st.V:=by
 subst hu;refine Step.pure fun n0 w0 e a w hr=>?_
 obtain ⟨b,arr,c,h1,h2,h3,h4⟩:=hI.get hm hr.mem hv;have ce:=(hr.ev x).1;rw [hx] at ce;have j9:=pU hk aa (hr.ev k).1;have ai:=(mG hm h3 h4 hI.ok aa).2;obtain ⟨e1,e2⟩:=pF (gX hm (cs:=cs) hI.ok);refine ⟨.tuple #[cvV (aH mi.kl.length cs mi.z v.es),.bool (decide (bN mi.kl.length cs v.es<v.es.length))],?_,?_,by simp⟩
 ·simp [execOp,ae,ce.1,h1,j9,ai]
 ·refine ⟨_,rfl,?_⟩
  refine ⟨?_,?_,trivial⟩
  ·rw [e1];simp only [AV.holds,CV.holds,cvV];exact ⟨trivial,uO e2⟩
  ·simp [AV.holds,CV.holds]
theorem KF {w:World} {S:Nat->Prop}:∀ {es:List (List CV)} {ps:List (Value×Value)},es.all (okE mi)=true->CV.ents w S mi.kl.length es ps->ps=es.map (fQ mi.kl.length)
 | [],[],_,_=>rfl
 | e::es,p::ps,h,he=>by
  simp only [List.all_cons,Bool.and_eq_true] at h;simp only [CV.ents] at he;obtain ⟨⟨vs,h1,_,h3⟩,h4⟩:=he;rw [List.map_cons,<- KF h.2 h4,h3,IV (mF h.1).2.2.2.2 h1];rfl
 | [],_::_,_,he=>by grind [CV.ents]
 | _::_,[],_,he=>by grind [CV.ents]
theorem aDA {w:World} {S:Nat->Prop} {v:Value} (h:CV.holds w S (.mp mi.kl.length es) v) (aa:es.all (okE mi)=true) :
  ∃ b arr c,v=.map (some b)/\S b/\w.heap[b]? = some (.map arr c)/\MOk mi.kl.length es arr c:=by
 obtain ⟨b,arr,c,ps,h1,h2,h3,h4,h5,h6⟩:=h;rw [KF aa h6] at h5;exact ⟨b,arr,c,h1,h2,h3,h4,h5⟩
theorem uS {st:St} (ok:Bool) (hm:eO P T=some mi) (ae:o.op=.lookup T x k ok) (hx:st.ev x=.cv (.mp mi.kl.length es)) (cn:es.all (okE mi)=true) (hk:fJ mi (st.ev k)=some cs) (aa:dU mi cs=true) :
  Step P o st (if ok=true then .tup [.cv (aH mi.kl.length cs mi.z es),.cv (.val (.bool (decide (bN mi.kl.length cs es<es.length))))] else .cv (aH mi.kl.length cs mi.z es)) st.B st.V:=by
 refine Step.pure fun n0 w0 e a w hr=>?_
 have ce:=(hr.ev x).1;rw [hx] at ce;obtain ⟨b,arr,c,h1,_,h3,h4⟩:=aDA ce cn;have j9:=pU hk aa (hr.ev k).1;obtain ⟨r1,r2⟩:=mG hm h3 h4 cn aa;obtain ⟨e1,e2⟩:=pF (gX hm (cs:=cs) cn);cases ok with
 | false =>
  refine ⟨cvV (aH mi.kl.length cs mi.z es),?_,?_,by simp⟩
  ·simp [execOp,ae,h1,j9,r1]
  ·rw [if_neg (by simp),e1];simp only [AV.holds,CV.holds,cvV];exact ⟨trivial,uO e2⟩
 | true =>
  refine ⟨.tuple #[cvV (aH mi.kl.length cs mi.z es),.bool (decide (bN mi.kl.length cs es<es.length))],?_,?_,by simp⟩
  ·simp [execOp,ae,h1,j9,r2]
  ·refine ⟨_,rfl,?_⟩
   refine ⟨?_,?_,trivial⟩
   ·rw [e1];simp only [AV.holds,CV.holds,cvV];exact ⟨trivial,uO e2⟩
   ·simp [AV.holds,CV.holds]
variable {y:Operand}
theorem VF {st:St} (hm:eO P T=some mi) (ae:o.op=.mapUpdate T x k y) (hx:st.ev x=.own i u) (hv:st.V[i]? = some v) (hI:IsM mi T v) (hu:v.ver=u) (hk:fJ mi (st.ev k)=some cs) (aa:dU mi cs=true)
  (hy:st.ev y=.cv d) (hd:kC d=some mi.vl) :
  Step P o st .any st.B (st.V.set i { v with es:=bV mi.kl.length cs d v.es }):=by
 subst hu;intro n0 w0 e a w hr;obtain ⟨b,arr,c,h1,h2,h3,h4⟩:=hI.get hm hr.mem hv;have ce:=(hr.ev x).1;rw [hx] at ce;have j9:=pU hk aa (hr.ev k).1;have jd:=(hr.ev y).1;rw [hy] at jd;simp [AV.holds] at jd;obtain ⟨e1,e2⟩:=pF hd;have t9:a.eval y=cvV d:=by grind [CV.holds]
 obtain ⟨w',arr',c',ai,hg,hw,xf⟩:=rN (d:=d) hm h3 h4 hI.ok aa;obtain ⟨m1,m2⟩:=hI.set hm hr.mem hv h1 h2 (CL hI.ok aa hd) hg hw xf;refine ⟨.skip,undef,w',e,?_,.inr ⟨rfl,rfl⟩,m1,m2,by simp [AV.holds],by simp⟩
 simp [execOp,ae,ce.1,h1,j9,t9,ai]
theorem aB4 {st:St} {f:FuncId} (hm:eO P T=some mi) (ae:o.op=.insert T x k (.func f)) (hx:st.ev x=.own i u) (hv:st.V[i]? = some v) (hI:IsM mi T v) (hu:v.ver=u) (hk:fJ mi (st.ev k)=some cs) (aa:dU mi cs=true)
  (hd:mi.vl=.fn) :
  Step P o st .any st.B (st.V.set i { v with es:=bV mi.kl.length cs (fvC f) v.es }):=by
 subst hu;intro n0 w0 e a w hr;obtain ⟨b,arr,c,h1,h2,h3,h4⟩:=hI.get hm hr.mem hv;have ce:=(hr.ev x).1;rw [hx] at ce;have j9:=pU hk aa (hr.ev k).1;have d8:kC (fvC f)=some mi.vl:=by rw [hd];rfl
 obtain ⟨w',arr',c',ai,hg,hw,xf⟩:=rN (d:=fvC f) hm h3 h4 hI.ok aa;obtain ⟨m1,m2⟩:=hI.set hm hr.mem hv h1 h2 (CL hI.ok aa d8) hg hw xf;refine ⟨.skip,undef,w',e,?_,.inr ⟨rfl,rfl⟩,m1,m2,by simp [AV.holds],by simp⟩
 have ai:(Instr.mapUpdate T (.map (some b)) (mkV (cs.map cvV)) (.func (.func f) #[] #[])).run P w=.ok () w':=ai;have hf:a.eval (.func f)=.func (.func f) #[] #[]:=rfl;simp [execOp,ae,ce.1,h1,j9,hf,ai]
theorem aB5 {st:St} {T':TypeId} (hm:eO P T=some mi) (ae:o.op=.call { callee:=.builtin .delete,args:=#[x,k],argTypes:=#[T,T'] }) (hx:st.ev x=.own i u) (hv:st.V[i]? = some v) (hI:IsM mi T v) (hu:v.ver=u) (hk:fJ mi (st.ev k)=some cs) (aa:dU mi cs=true) :
  Step P o st .any st.B (st.V.set i { v with es:=zQ mi.kl.length cs v.es }):=by
 subst hu;intro n0 w0 e a w hr;obtain ⟨b,arr,c,h1,h2,h3,h4⟩:=hI.get hm hr.mem hv;have ce:=(hr.ev x).1;rw [hx] at ce;have j9:=pU hk aa (hr.ev k).1;obtain ⟨w',arr',c',ai,hg,hw,xf⟩:=KD (kT':=T') (ty:=o.type) hm h3 h4 hI.ok aa;obtain ⟨m1,m2⟩:=hI.set hm hr.mem hv h1 h2 (aGF hI.ok) hg hw xf;refine ⟨.value (.tuple #[]),.tuple #[],w',e,?_,.inl rfl,m1,m2,by simp [AV.holds],by simp⟩
 simp [execOp,ae,resolve,invoke,builtin,ce.1,h1,j9,ai]
theorem eval_put_ne {a:Act} {d:Nat} {v:Value} (h:∀ t,y=.tmp t->t≠d):(a.put (some d) v).eval y=a.eval y:=by
 have _:=G;cases y <;> simp only [Act.eval,Act.put];simp_all [Ne.symm]
theorem aDB {F:Fence} {n:Nat} (hF:Free F) {ops:List Oper} {o2 o3:Oper} {rest:List Oper} {st:St} {Q:St->Prop} {x d1 d2:Nat} (hm:eO P T=some mi)
  (hg:o.guard=none) (uu:o2.guard=none) (Ky:o3.guard=none) (ae:o.op=.mapEntry T (.tmp x) k) (hd:o.dst=some d1) (oz:o2.op=.extract (.tmp d1) 1) (t7:o2.dst=some d2) (xh:o3.op=.entryStore T (.tmp x) (.tmp d2) y) (Kz:o3.dst=none)
  (gn:d1<st.t.length) (po:d2<st.t.length) (de:x≠d1) (ku:x≠d2) (pn:∀ t,y=.tmp t->t≠d1/\t≠d2) (hx:st.ev (.tmp x)=.own i u) (hv:st.V[i]? = some v) (hI:IsM mi T v) (hu:v.ver=u) (hk:fJ mi (st.ev k)=some cs) (aa:dU mi cs=true)
  (hy:st.ev y=.cv d) (sr:kC d=some mi.vl)
  (h:dQ F n P ops.toArray rest (((st.put (some d1) .any st.B (st.V.set i { v with es:=bV mi.kl.length cs d v.es })).put (some d2) .any st.B (st.V.set i { v with es:=bV mi.kl.length cs d v.es })).put none .any st.B (st.V.set i { v with es:=bV mi.kl.length cs d v.es })) Q) :
  dQ F n P ops.toArray (o::o2::o3::rest) st Q:=by
 intro n0 w0 e a w Qr hr cq;subst hu;obtain ⟨b,arr,c,h1,h2,h3,h4⟩:=hI.get hm hr.mem hv;have ce:=(hr.ev (.tmp x)).1;rw [hx] at ce;simp [AV.holds] at ce;have j9:=pU hk aa (hr.ev k).1;have jd:=(hr.ev y).1;rw [hy] at jd;simp [AV.holds] at jd;obtain ⟨e1,e2⟩:=pF sr;have t9:a.eval y=cvV d:=by grind [CV.holds]
 obtain ⟨w1,w',s,arr',c',r1,r2,qd,hw,xf⟩:=KE (d:=d) hm h3 h4 hI.ok aa;obtain ⟨m1,m2⟩:=hI.set hm hr.mem hv h1 h2 (CL hI.ok aa sr) qd hw xf;have xb:a.tmps.size=st.t.length:=by have:=hr.tm.length;omega
 simp [wpListIn,Region.wanted,hg,uu,Ky];refine ⟨fun f _=>hF.fn f,?_⟩
 have uy:(execOp a.eval o).run P w=.ok (.value (.tuple #[cvV (aH mi.kl.length cs mi.z v.es),goInt s])) w1:=by
  simp [execOp,ae,ce.1,h1,j9,r1]
 rw [Oper.semAt_plain F _ _ (by grind),uy]
 refine ⟨fun f _=>hF.fn f,?_⟩
 have ev1:(a.put o.dst (.tuple #[cvV (aH mi.kl.length cs mi.z v.es),goInt s])).eval (.tmp d1)=.tuple #[cvV (aH mi.kl.length cs mi.z v.es),goInt s]:=by
  simp [Act.eval,Act.put,hd,xb,gn]
 have uz:(execOp (a.put o.dst (.tuple #[cvV (aH mi.kl.length cs mi.z v.es),goInt s])).eval o2).run P w1=.ok (.value (goInt s)) w1:=by
  simp [execOp,oz,ev1];rfl
 rw [Oper.semAt_plain F _ _ (by grind),uz]
 refine ⟨fun f _=>hF.fn f,?_⟩
 have ev2:((a.put o.dst (.tuple #[cvV (aH mi.kl.length cs mi.z v.es),goInt s])).put o2.dst (goInt s)).eval (.tmp d2)=goInt s:=by
  simp [Act.eval,Act.put,hd,t7,xb,po]
 have ev3:((a.put o.dst (.tuple #[cvV (aH mi.kl.length cs mi.z v.es),goInt s])).put o2.dst (goInt s)).eval (.tmp x)=.map (some b):=by
  grind [eval_put_ne]
 have ev4:((a.put o.dst (.tuple #[cvV (aH mi.kl.length cs mi.z v.es),goInt s])).put o2.dst (goInt s)).eval y=cvV d:=by
  grind [eval_put_ne]
 have A3:(execOp ((a.put o.dst (.tuple #[cvV (aH mi.kl.length cs mi.z v.es),goInt s])).put o2.dst (goInt s)).eval o3).run P w1=.ok .skip w':=by
  simp [execOp,xh,ev2,ev3,ev4];simp [r2]
 rw [Oper.semAt_plain F _ _ (by grind),A3]
 have l9:=hr.put (x:=.any) (v:=.tuple #[cvV (aH mi.kl.length cs mi.z v.es),goInt s]) m1 m2 (by simp [AV.holds]) (by simp) o.dst
 have kz:=l9.put (x:=.any) (v:=goInt s) l9.mem (Ext.refl _ _ _ _ _) (by simp [AV.holds]) (by simp) o2.dst
 have ua:=kz.put (x:=.any) (v:=undef) kz.mem (Ext.refl _ _ _ _ _) (by simp [AV.holds]) (by simp) o3.dst
 have qm:wpListIn F n P ops.toArray Qr rest (((a.put o.dst (.tuple #[cvV (aH mi.kl.length cs mi.z v.es),goInt s])).put o2.dst (goInt s)).put o3.dst undef) w':=by
  rw [Kz] at ua ⊢;rw [t7] at ua ⊢;rw [hd] at ua ⊢;exact h n0 w0 e _ w' Qr ua fun e'' st' a' w'' hq ah ac dw=>cq e'' st' a' w'' hq ah ac (m2.trans dw)
 grind [Oper.uponIn]
end
section
variable {P:Program} {T:TypeId}
variable {e' k by_:Nat} {z:List Value}
theorem PD {k1 k2:IntKind} {l c:Int} {s:Nat} {te:TI}
  (ar:cG P T=some ⟨s,z,.slc e' k by_⟩) (j8:k≠0) (fh:cG P e'=some te) (gz:te.zero.length=k) (ia:te.zero.all Value.oneCell'=true) (h0:0<=l) (h1:l<=c) (h2:c.toNat*by_<=140737488355328) (h3:c.toNat<=maxLen)
  {w:World} {n0:Nat} (fg:n0<=w.heap.size) (S:Nat->Prop) :
  ∃ vout:Array Value,(Instr.makeSlice T (.int k1 l) (.int k2 c)).run P w=.ok (.slice (some ⟨w.heap.size,0,none⟩) l.toNat c.toNat) (w.alloc (.cells vout e')) /\
   OwnsV (w.alloc (.cells vout e')) n0 e' k (.slice (some ⟨w.heap.size,0,none⟩) l.toNat c.toNat) (List.replicate l.toNat (te.zero.map CV.val)).length (lM te.zero l.toNat) /\
   CV.vals w S (List.replicate l.toNat (te.zero.map CV.val)).flatten (lM te.zero l.toNat)/\(∀ y∈List.replicate l.toNat (te.zero.map CV.val),y.length=k) /\
   ∀ g,bM (.slice (some ⟨w.heap.size,0,none⟩) l.toNat c.toNat)=some g->w.heap.size<=g:=by
 obtain ⟨hT,fq,Ac⟩:=gH ar;have hlt:=gI ar;obtain ⟨i,d,i1,i2,i3,i4,i5⟩:=jS fh
 obtain ⟨zv,Is,Di⟩:∃ zv,i.zero=some zv/\zv.cells.toList=te.zero:=by
  grind
 have di:i.size=k:=by grind [Program.cellsOf]
 have me:i.bytes=by_:=by grind [Program.bytesOf]
 have ai:=run_make (P:=P) w T e' i zv hT i1 Is k1 k2 l c h0 h1 (by
  grind) (by grind [maxLen])
 have aT:zv.cells.size=k:=by grind
 have db:(madeCells zv.cells (c.toNat*i.size)).toList=lM te.zero c.toNat:=by
  rw [di,<- Di];rw [show c.toNat*k=c.toNat*zv.cells.size by rw [aT]]
  exact uM zv.cells (by omega) c.toNat
 have K0:l.toNat<=c.toNat:=by omega
 have kp:(lM te.zero c.toNat).take (l.toNat*k)=lM te.zero l.toNat:=by
  have kx:∀ (a b:Nat),lM te.zero (a+b)=lM te.zero a++lM te.zero b:=by
   intro a b
   induction a with
   | zero=>simp
   | succ a ih=>grind [lM]
  obtain ⟨r,bo⟩:∃ r,c.toNat=l.toNat+r:=⟨c.toNat - l.toNat,by omega⟩
  rw [bo,kx];grind [oI]
 have E4:CV.vals w S (te.zero.map CV.val) te.zero:=by
  have:∀ (l:List Value),l.all Value.oneCell'=true->CV.vals w S (l.map CV.val) l:=by
   intro l
   induction l with
   | nil=>grind [CV.vals]
   | cons y l ih =>
    grind [CV.vals,CV.holds]
  grind
 have bk:∀ m,CV.vals w S (List.replicate m (te.zero.map CV.val)).flatten (lM te.zero m):=by
  intro m
  induction m with
  | zero=>simp [CV.vals]
  | succ m ih=>exact CV.vals.append E4 ih
 have am:(w.alloc (.cells (madeCells zv.cells (c.toNat*i.size)) e')).heap[w.heap.size]? = some (.cells (madeCells zv.cells (c.toNat*i.size)) e' (0,0)):=World.alloc_heap_new w _;have aj:(lM te.zero l.toNat).length=l.toNat*k:=by rw [oI,gz]
 have ap:OwnsS (w.alloc (.cells (madeCells zv.cells (c.toNat*i.size)) e')) n0 e' k (.slice (some ⟨w.heap.size,0,none⟩) l.toNat c.toNat) l.toNat (lM te.zero l.toNat):=by
  by_cases Ax:c.toNat=0
  ·have u0:l.toNat=0:=by omega
   left;refine ⟨_,by rw [Ax,u0],u0,by rw [u0];rfl⟩
  ·right
   refine ⟨⟨aj,.inr ⟨w.heap.size,c.toNat,_,rfl,fg,am,K0,h3,?_,?_⟩⟩,w.heap.size,?_,rfl⟩
   ·rw [size_madeCells,di]
   ·grind
   ·obtain ⟨c',gq⟩:∃ c',c.toNat=c'+1:=⟨c.toNat - 1,by omega⟩
    rw [gq];rfl
 refine ⟨_,ai,.inl ⟨hlt,by grind⟩,bk _,by grind,fun g hg=>?_⟩
 have:g=w.heap.size:=by
  cases hc:c.toNat with
  | zero=>rw [hc] at hg;simp [bM] at hg
  | succ q=>grind [bM]
 omega
theorem YX {o:Oper} {st:St} {x y:Operand} {k1 k2:IntKind} {l c:Int} {s:Nat} {te:TI} (ae:o.op=.makeSlice T x y) (hx:st.ev x=.cv (.val (.int k1 l))) (hy:st.ev y=.cv (.val (.int k2 c)))
  (ar:cG P T=some ⟨s,z,.slc e' k by_⟩) (j8:k≠0) (fh:cG P e'=some te) (gz:te.zero.length=k) (ia:te.zero.all Value.oneCell'=true) (h0:0<=l) (h1:l<=c) (h2:c.toNat*by_<=140737488355328) (h3:c.toNat<=maxLen) :
  Step P o st (.own st.V.length 0) st.B (st.V++[⟨true,e',k,0,List.replicate l.toNat (te.zero.map .val)⟩]):=by
 intro n0 w0 e a w hr;have ce:=(hr.ev x).1;rw [hx] at ce;have jd:=(hr.ev y).1;rw [hy] at jd;obtain ⟨vout,ai,r1,r2,r3,r4⟩:=PD (k1:=k1) (k2:=k2) ar j8 fh gz ia h0 h1 h2 h3 hr.mem.base e.S
 obtain ⟨e1,b1,b2,b3,_⟩:=hr.mem.newVec (w':=w.alloc (.cells vout e')) e' k (.slice (some ⟨w.heap.size,0,none⟩) l.toNat c.toNat) (List.replicate l.toNat (te.zero.map .val)) (lM te.zero l.toNat)
  r1 r2 r3 (World.grownBy_alloc _ _ _) r4
 refine ⟨.value (.slice (some ⟨w.heap.size,0,none⟩) l.toNat c.toNat),.slice (some ⟨w.heap.size,0,none⟩) l.toNat c.toNat,_,e1,?_,.inl rfl,b1,b2,by simp [AV.holds,b3],by simp⟩
 simp [execOp,ae,ce.1,jd.1,ai]
theorem KG {w:World} {S:Nat->Prop} {k:Nat}:∀ {es:List (List CV)} {b o:Nat},CV.rows w S k es b o->∃ news,CV.vals w S es.flatten news/\(∀ l∈es,l.length=k)/\∀ j u,news[j]? = some u->w.cell? ⟨b,o+j,none⟩=some u
 | [],b,o,_=>have _:=G;⟨[],by simp [CV.vals],by simp,by simp⟩
 | l::es,b,o,bk=>by
  obtain ⟨r1,r2,r3⟩:=bk;obtain ⟨vs1,c1,c2,c3⟩:=r2.vals;obtain ⟨vs2,d1,d2,d3⟩:=KG r3;refine ⟨vs1++vs2,by simpa using c1.append d1,fun m hm=>(List.mem_cons.1 hm).elim (fun h=>h▸r1) (d2 m),?_⟩
  grind
theorem KH {k:Nat}:∀ {l:List (List CV)},(∀ m∈l,m.length=k)->l.flatten.length=l.length*k
 | [],_=>by have _:=G;simp
 | m::l,hl=>by simp [hl m (by simp),KH (l:=l) (fun q hq=>hl q (by simp [hq])),Nat.add_mul];omega
theorem aB6 {o:Oper} {st:St} {x y:Operand} {T':TypeId} {i u s:Nat} {v:Vec} {es:List (List CV)} (ae:o.op=.call { callee:=.builtin .copy,args:=#[x,y],argTypes:=#[T,T'] }) (hx:st.ev x=.own i u) (hy:st.ev y=.cv (.row k es))
  (hv:st.V[i]? = some v) (cu:v.sl=true) (hu:v.ver=u) (ar:cG P T=some ⟨s,z,.slc e' k by_⟩) (hk:k=v.k) (j8:k≠0) (bq:es.length<=v.es.length) :
  Step P o st (.cv (.val (.int .i64 es.length))) st.B (st.V.set i { v with es:=es++v.es.drop es.length }):=by
 intro n0 w0 e a w hr;obtain ⟨hT,fq,Ac⟩:=gH ar;have Ay:P.cellsOf e'≠0:=by omega
 have hl:=Vec.sl_live cu;obtain ⟨xs,q1',q2,q3⟩:=hr.mem.vec i v hv hl;have q1:=q1'.s (Vec.sl_T cu);have ce:=(hr.ev x).1;rw [hx] at ce;simp [AV.holds] at ce;have jd:=(hr.ev y).1;rw [hy] at jd;obtain ⟨ao,cap,mh,K2,gt,cn⟩:=jd;have di:=bI (P:=P) Ay;obtain ⟨ad,c,hs,Ox,A4⟩:=q1.slice
 have fin:∀ (w':World),(execOp a.eval o).run P w=.ok (.value (goInt es.length)) w'->Mem n0 w0 e st.B (st.V.set i { v with es:=es++v.es.drop es.length }) w'->Ext e w st.B.length (vers st.V) (kss st.V) e w' st.B.length (vers (st.V.set i { v with es:=es++v.es.drop es.length })) (kss (st.V.set i { v with es:=es++v.es.drop es.length })) ->
   ∃ nx v' w' e',(execOp a.eval o).run P w=.ok nx w'/\(nx=.value v'\/(nx=.skip/\v'=undef))/\Mem n0 w0 e' st.B (st.V.set i { v with es:=es++v.es.drop es.length }) w'/\dW e st w e' st.B (st.V.set i { v with es:=es++v.es.drop es.length }) w'/\AV.holds e' w' (kss (st.V.set i { v with es:=es++v.es.drop es.length })) (.cv (.val (.int .i64 es.length))) v'/\AV.sco st.B.length (vers (st.V.set i { v with es:=es++v.es.drop es.length })) (.cv (.val (.int .i64 es.length))):=
  fun w' h1 h2 h3=>⟨_,_,w',e,h1,.inl rfl,h2,h3,by simp [AV.holds,CV.holds,goInt],by simp⟩
 by_cases Iu:es=[]
 ·subst Iu
  have pf:st.V.set i { v with es:=[]++v.es.drop ([]:List (List CV)).length }=st.V:=by
   refine List.ext_getElem? fun j=>?_
   rw [List.getElem?_set];split
   ·rename_i hj;subst hj;rw [hv,if_pos (List.getElem?_eq_some_iff.1 hv).1];simp
   ·rfl
  have ai:(execOp a.eval o).run P w=.ok (.value (goInt ([]:List (List CV)).length)) w:=by
   have:(Builtin.copy_ #[T,T'] o.type #[.slice ad v.es.length c,.slice ao 0 cap]).run P w=.ok (goInt 0) w:=by
    cases ad <;> cases ao <;> simp [Builtin.copy_,run_underlying hT,Builtin.lenOf,Builtin.firstCells,di,storeCells,loadCells,loadCellsFrom]
   simp_all [execOp,resolve,invoke,builtin]
  refine fin w ai ?_ ?_
  ·rw [pf];exact hr.mem
  ·rw [pf];exact Ext.refl _ _ _ _ _
 ·obtain ⟨b,off,rfl,hS,bk⟩:∃ b off,ao=some ⟨b,off,none⟩/\e.S b/\CV.rows w e.S k es b off:=by
   grind
  obtain ⟨news,d1,d2,d3⟩:=KG bk;have An:news.length=es.length*k:=by rw [d1.length];exact KH d2
  have ax:0<es.length:=List.length_pos_iff.2 Iu;have ck:0+news.length<=v.es.length*v.k:=by rw [An,hk];have:=Nat.mul_le_mul_right v.k bq;omega
  obtain ⟨g,cap',hg,mj,w',ak,ap,uw⟩:=q1.store (P:=P) (Vec.sl_T cu) ck (by omega) d1.one
  rw [hs] at mj;have po:=run_loadCells_list (P:=P) w ⟨b,off,none⟩ news (fun j u hj=>by grind [addr_add])
  have ai:(execOp a.eval o).run P w=.ok (.value (goInt es.length)) w':=by
   have:(Builtin.copy_ #[T,T'] o.type #[.slice (some ⟨g,0,none⟩) v.es.length c,.slice (some ⟨b,off,none⟩) es.length cap]).run P w=.ok (goInt es.length) w':=by
    simp_all [Builtin.copy_,run_underlying,Builtin.lenOf,Builtin.firstCells]
   simp_all [execOp,resolve,invoke,builtin]
  have au:CV.vals w e.S (es++v.es.drop es.length).flatten (xs.take 0++news++xs.drop (0+news.length)):=by
   rw [List.flatten_append];simp;refine d1.append ?_;have lx:v.es.flatten=(v.es.take es.length).flatten++(v.es.drop es.length).flatten:=by rw [<- List.flatten_append,List.take_append_drop]
   rw [lx] at q2;have:=(eG q2).2;grind [KH,List.mem_of_mem_take,List.length_take,Nat.min_eq_left]
  obtain ⟨m1,m2⟩:=hr.mem.vecSet hv hl (es++v.es.drop es.length) _ (by
   have:(es++v.es.drop es.length).length=v.es.length:=by grind
   rw [this];omega) au (by
    grind) (by grind)
  grind
end
inductive Lf where
 | int (k:IntKind)
 | bool
 | row (k:Nat)
 | ref
 | raw
 | mp (kn:Nat)
 deriving DecidableEq
def cF:CV->List CV
 | .ref cs=>cs
 | _=>[]
def cI:CV->Int
 | .val (.int _ n)=>n
 | _=>0
def cB:CV->Bool
 | .val (.bool b)=>b
 | _=>false
def cR:CV->List (List CV)
 | .row _ es=>es
 | .mp _ es=>es
 | _=>[]
def dC:CV:=.val (.bool false)
def Lf.ok:Lf->CV->Bool
 | .int k,.val (.int k' _)=>decide (k=k')
 | .bool,.val (.bool _)=>true
 | .row k,.row k' _=>k == k'
 | .row _,.val (.slice none 0 0)=>true
 | .ref,.ref _=>true
 | .raw,_=>true
 | .mp k,.mp k' _=>k == k'
 | _,_=>false
def Lf.av:Lf->CV->AV
 | .int k,c=>.cv (.val (.int k (cI c)))
 | .bool,c=>.cv (.val (.bool (cB c)))
 | .row k,c=>.cv (.row k (cR c))
 | .ref,c=>.cv (.ref (cF c))
 | .raw,c=>.cv c
 | .mp k,c=>.cv (.mp k (cR c))
theorem Lf.le {l:Lf} {c:CV} (h:l.ok c=true):AV.le (.cv c) (l.av c):=by
 unfold Lf.ok at h;split at h
 ·simp at h;subst h;exact AV.le_refl _
 ·exact AV.le_refl _
 ·simp at h;subst h;exact AV.le_refl _
 ·intro e w ks v hv
  grind [AV.holds,CV.holds,Lf.av,cR]
 ·exact AV.le_refl _
 ·exact AV.le_refl _
 ·simp at h;subst h;exact AV.le_refl _
 grind
theorem Lf.av_cv (l:Lf) (c:CV):∃ d,l.av c=.cv d:=by have _:=G;cases l <;> exact ⟨_,rfl⟩
structure Emb where
 bm:List Nat
 vm:List Nat
 vb:List Nat
def Emb.fb (m:Emb) (i:Nat):Nat:=m.bm.getD i 0
def Emb.fv (m:Emb) (i:Nat):Nat:=m.vm.getD i 0
def Emb.fo (m:Emb) (i:Nat):Nat:=m.vb.getD i 0
mutual
def AV.cz (m:Emb):AV->AV
 | .any=>.any
 | .cv c=>.cv c
 | .ptr i o=>.ptr (m.fb i) o
 | .own i g=>.own (m.fv i) (m.fo i+g)
 | .opt i g el o=>.opt (m.fv i) (m.fo i+g) el o
 | .agg xs=>.agg (AV.czs m xs)
 | .tup xs=>.tup (AV.czs m xs)
 | .fn f xs=>.fn f (AV.czs m xs)
 | .gd [] x=>AV.cz m x
 | .gd (b::L) x=>.gd (b::L) (AV.cz m x)
def AV.czs (m:Emb):List AV->List AV
 | []=>[]
 | x::xs=>AV.cz m x::AV.czs m xs
end
theorem AV.czs_eq (m:Emb):∀ (xs:List AV),AV.czs m xs=xs.map (AV.cz m)
 | []=>by have _:=G;rfl
 | x::xs=>by simp [AV.czs,AV.czs_eq m xs]
mutual
def AV.inn (nb nv:Nat):AV->Bool
 | .any=>true
 | .cv _=>true
 | .ptr i _=>decide (i<nb)
 | .own i _=>decide (i<nv)
 | .opt i _ _ _=>decide (i<nv)
 | .agg xs=>AV.inns nb nv xs
 | .tup xs=>AV.inns nb nv xs
 | .fn _ xs=>AV.inns nb nv xs
 | .gd _ x=>AV.inn nb nv x
def AV.inns (nb nv:Nat):List AV->Bool
 | []=>true
 | x::xs=>AV.inn nb nv x&&AV.inns nb nv xs
end
theorem AV.inn_mono {nb nv nb' nv':Nat} (h1:nb<=nb') (h2:nv<=nv') (x:AV):AV.inn nb nv x=true->AV.inn nb' nv' x=true:=by
 have _:=G;refine AV.rec (motive_1:=fun x=>AV.inn nb nv x=true->AV.inn nb' nv' x=true) (motive_2:=fun xs=>AV.inns nb nv xs=true->AV.inns nb' nv' xs=true) ?_ ?_ ?_ ?_ ?_ ?_ ?_ ?_ ?_ ?_ ?_ x
 all_goals (intros;simp_all [AV.inn,AV.inns])
 all_goals omega
theorem AV.inns_eq (nb nv:Nat):∀ (xs:List AV),AV.inns nb nv xs=xs.all (AV.inn nb nv)
 | []=>by have _:=G;rfl
 | x::xs=>by simp [AV.inns,AV.inns_eq nb nv xs]
structure Emb.Up (m m':Emb):Prop where
 bl:m.bm.length<=m'.bm.length
 b:∀ i,i<m.bm.length->m'.fb i=m.fb i
 vl:m.vm.length<=m'.vm.length
 v:∀ i,i<m.vm.length->m'.fv i=m.fv i
theorem Emb.Up.refl (m:Emb):m.Up m:=have _:=G;⟨Nat.le_refl _,fun _ _=>rfl,Nat.le_refl _,fun _ _=>rfl⟩
theorem Emb.Up.trans {m m' m'':Emb} (h:m.Up m') (h':m'.Up m''):m.Up m'':=have _:=G;
 ⟨Nat.le_trans h.bl h'.bl,fun i hi=>(h'.b i (Nat.lt_of_lt_of_le hi h.bl)).trans (h.b i hi),Nat.le_trans h.vl h'.vl,fun i hi=>(h'.v i (Nat.lt_of_lt_of_le hi h.vl)).trans (h.v i hi)⟩
mutual
theorem AV.cz_up {m m':Emb} (h:m.Up m') (hv:∀ i,i<m.vm.length->m'.fo i=m.fo i):∀ (x:AV),AV.inn m.bm.length m.vm.length x=true->x.cz m'=x.cz m
 | .any,_=>by have _:=G;rfl
 | .cv _,_=>by rfl
 | .ptr i _,hx=>by simp [AV.inn] at hx;simp [AV.cz,h.b i hx]
 | .own i _,hx=>by simp [AV.inn] at hx;simp [AV.cz,h.v i hx,hv i hx]
 | .opt i _ _ _,hx=>by simp [AV.inn] at hx;simp [AV.cz,h.v i hx,hv i hx]
 | .agg xs,hx=>by simp only [AV.inn] at hx;simp only [AV.cz,AV.czs_up h hv xs hx]
 | .tup xs,hx=>by simp only [AV.inn] at hx;simp only [AV.cz,AV.czs_up h hv xs hx]
 | .fn _ xs,hx=>by simp only [AV.inn] at hx;simp only [AV.cz,AV.czs_up h hv xs hx]
 | .gd [] x,hx=>by simp only [AV.inn] at hx;simp only [AV.cz,AV.cz_up h hv x hx]
 | .gd (_::_) x,hx=>by simp only [AV.inn] at hx;simp only [AV.cz,AV.cz_up h hv x hx]
theorem AV.czs_up {m m':Emb} (h:m.Up m') (hv:∀ i,i<m.vm.length->m'.fo i=m.fo i):∀ (xs:List AV),AV.inns m.bm.length m.vm.length xs=true->AV.czs m' xs=AV.czs m xs
 | [],_=>by have _:=G;rfl
 | x::xs,hx=>by
  simp [AV.inns] at hx;simp only [AV.czs,AV.cz_up h hv x hx.1,AV.czs_up h hv xs hx.2]
end
structure SS where
 n:Nat
 t:List (Nat×AV)
 B:List Box
 V:List Vec
def SS.get (s:SS) (d:Nat):AV:=if d<s.n then lk s.t d else .any
def SS.ev (s:SS):Operand->AV
 | .tmp t=>s.get t
 | .const v=>CD v
 | .global _=>.any
 | .func f=>.cv (.fn f [])
def SS.put (s:SS) (d:Option Nat) (x:AV) (B:List Box) (V:List Vec):SS:=
 ⟨s.n,match d with | some d=>(d,x)::s.t | none=>s.t,B,V⟩
def Box.cz (m:Emb) (b:Box):Box:=⟨b.live,b.T,AV.czs m b.cs⟩
def Vec.cz (m:Emb) (i:Nat) (v:Vec):Vec:=⟨v.live,v.T,v.k,m.fo i+v.ver,v.es⟩
structure EmM (m:Emb) (B:List Box) (V:List Vec) (B1:List Box) (V1:List Vec):Prop where
 bl:m.bm.length=B.length
 vl:m.vm.length=V.length
 ol:m.vb.length=V.length
 b:∀ i b,B[i]? = some b->B1[m.fb i]? = some (b.cz m)/\AV.inns B.length V.length b.cs=true
 v:∀ i v,V[i]? = some v->v.live=true\/v.T=ghT->V1[m.fv i]? = some (v.cz m i)
 vlt:∀ i,i<V.length->m.fv i<V1.length
 bi:∀ i j,i<B.length->j<B.length->m.fb i=m.fb j->i=j
 vi:∀ i j,i<V.length->j<V.length->m.fv i=m.fv j->i=j
structure Em (m:Emb) (s:SS) (st:St):Prop where
 t:st.t=mkT s.n (s.t.map fun p=>(p.1,p.2.cz m))
 ti:∀ p∈s.t,AV.inn s.B.length s.V.length p.2=true
 m:EmM m s.B s.V st.B st.V
structure Stp (m:Emb) (B:List Box) (V:List Vec) (m':Emb) (B':List Box) (V':List Vec):Prop where
 up:m.Up m'
 bl:B.length<=B'.length
 vl:V.length<=V'.length
 bn:∀ j∈m'.bm,j∈m.bm\/B.length<=j
 vn:∀ j∈m'.vm,j∈m.vm\/V.length<=j
 bf:∀ j,j<B.length->j ∉ m.bm->B'[j]? = B[j]?
 vf:∀ j,j<V.length->j ∉ m.vm->V'[j]? = V[j]?
theorem Stp.refl (m:Emb) (B:List Box) (V:List Vec):Stp m B V m B V:=
 ⟨Emb.Up.refl _,Nat.le_refl _,Nat.le_refl _,fun _ h=>.inl h,fun _ h=>.inl h,fun _ _ _=>rfl,fun _ _ _=>rfl⟩
theorem Stp.trans {m m' m'':Emb} {B B' B'':List Box} {V V' V'':List Vec} (h:Stp m B V m' B' V') (h':Stp m' B' V' m'' B'' V''):Stp m B V m'' B'' V'':=by
 refine ⟨h.up.trans h'.up,Nat.le_trans h.bl h'.bl,Nat.le_trans h.vl h'.vl,fun j hj=>?_,fun j hj=>?_,fun j hj hn=>?_,fun j hj hn=>?_⟩
 ·rcases h'.bn j hj with h1 | h1
  ·exact h.bn j h1
  ·exact .inr (Nat.le_trans h.bl h1)
 ·rcases h'.vn j hj with h1 | h1
  ·exact h.vn j h1
  ·exact .inr (Nat.le_trans h.vl h1)
 ·rw [h'.bf j (Nat.lt_of_lt_of_le hj h.bl) fun hm=>?_,h.bf j hj hn]
  rcases h.bn j hm with h1 | h1
  ·grind
  ·omega
 ·rw [h'.vf j (Nat.lt_of_lt_of_le hj h.vl) fun hm=>?_,h.vf j hj hn]
  rcases h.vn j hm with h1 | h1
  ·grind
  ·omega
theorem Em.get {m:Emb} {s:SS} {st:St} (h:Em m s st) (d:Nat):st.t.getD d .any=(s.get d).cz m:=by
 rw [h.t];simp [SS.get];split
 ·exact qJ (AV.cz m) (by rfl) s.t d
 rfl
theorem Em.ev {m:Emb} {s:SS} {st:St} (h:Em m s st) (x:Operand):st.ev x=(s.ev x).cz m:=by
 cases x with
 | tmp t=>exact h.get t
 | const v=>grind [St.ev,SS.ev,CD,AV.cz]
 | global g=>rfl
 | func f=>rfl
theorem aDC:∀ (l:List (Nat×AV)) (d:Nat),lk l d=.any\/(d,lk l d)∈l
 | [],d=>have _:=G;.inl rfl
 | (k,x)::l,d=>by
  simp;split
  ·grind
  ·rcases aDC l d with h | h
   ·grind
   grind
theorem Em.inn {m:Emb} {s:SS} {st:St} (h:Em m s st) (d:Nat):AV.inn s.B.length s.V.length (s.get d)=true:=by
 unfold SS.get;split
 ·rcases aDC s.t d with h' | h'
  ·rw [h'];rfl
  ·exact h.ti _ h'
 ·rfl
theorem Em.innEv {m:Emb} {s:SS} {st:St} (h:Em m s st) (x:Operand):AV.inn s.B.length s.V.length (s.ev x)=true:=by
 cases x with
 | tmp t=>exact h.inn t
 | const v=>simp [SS.ev];split <;> rfl
 | global g=>rfl
 | func f=>rfl
theorem Em.put {m m':Emb} {s:SS} {st:St} (h:Em m s st) {B:List Box} {V:List Vec} {B1:List Box} {V1:List Vec} (hm:EmM m' B V B1 V1) (hu:m.Up m') (xi:∀ i,i<m.vm.length->m'.fo i=m.fo i)
  (Dk:s.B.length<=B.length) (E5:s.V.length<=V.length) {x:AV} (hx:AV.inn B.length V.length x=true) (d:Option Nat):Em m' (s.put d x B V) (st.put d (x.cz m') B1 V1):=by
 have hold:∀ y,AV.inn s.B.length s.V.length y=true->AV.inn B.length V.length y=true:=by
  intro y hy;exact AV.inn_mono Dk E5 y hy
 have ka:∀ p∈s.t,p.2.cz m'=p.2.cz m:=fun p hp=>AV.cz_up hu xi p.2 (by rw [h.m.bl,h.m.vl];exact h.ti p hp)
 have ht:s.t.map (fun p=>(p.1,p.2.cz m'))=s.t.map (fun p=>(p.1,p.2.cz m)):=List.map_congr_left fun p hp=>by grind
 cases d with
 | none =>
  refine ⟨?_,fun p hp=>hold _ (h.ti p hp),hm⟩
  simp [SS.put,h.t,ht]
 | some d =>
  refine ⟨?_,fun p hp=>?_,hm⟩
  ·simp [SS.put,h.t,ht]
  ·simp [SS.put] at hp
   rcases hp with rfl | hp
   ·exact hx
   ·exact hold _ (h.ti p hp)
section
variable {P:Program} {m:Emb}
theorem AV.cz_cv (c:CV):(AV.cv c).cz m=.cv c:=by have _:=G;rfl
variable {x:AV}
theorem AV.cells_cz {cs:List AV} (h:x.cells=some cs):(x.cz m).cells=some (cs.map (AV.cz m)):=by
 cases x <;> simp only [AV.cells,Option.some.injEq,reduceCtorEq] at h <;> subst h <;> simp [AV.cz,AV.cells,AV.czs_eq]
theorem AV.one_cz (h:AV.one x=true):AV.one (x.cz m)=true:=by
 have _:=G;cases x <;> simp [AV.one] at h <;> simp [AV.cz,AV.one]
variable {xs:List AV}
theorem IW (h:xs.all AV.one=true):(xs.map (AV.cz m)).all AV.one=true:=by
 rw [List.all_eq_true] at h ⊢;intro y hy;obtain ⟨x,hx,rfl⟩:=List.mem_map.1 hy;exact AV.one_cz (h x hx)
theorem aB7 (l new:List AV) (off:Nat):(splice l off new).map (AV.cz m)=splice (l.map (AV.cz m)) off (new.map (AV.cz m)):=by
 have _:=G;simp
theorem yZ {place:Nat->Option (Nat×Nat)}:∀ {parts:List (Nat×AV)} {cells out:List AV},jH place cells parts=some out ->
  jH place (cells.map (AV.cz m)) (parts.map fun p=>(p.1,p.2.cz m))=some (out.map (AV.cz m))
 | [],cells,out,h=>by simp_all
 | (i,x)::rest,cells,out,h=>by
  simp only [jH] at h;split at h
  ·rename_i o s new hp am
   split at h
   ·rename_i hc
    have:=yZ h;simp only [List.map_cons,jH,hp,AV.cells_cz am];simp only [Bool.and_eq_true,beq_iff_eq,decide_eq_true_eq] at hc;rw [if_pos (by simp only [List.length_map,Bool.and_eq_true,beq_iff_eq,decide_eq_true_eq];exact ⟨hc.1,IW hc.2⟩)]
    simp_all
   grind
  grind
theorem BA {nb nv:Nat} {place:Nat->Option (Nat×Nat)}:∀ {parts:List (Nat×AV)} {cells out:List AV},jH place cells parts=some out ->
  cells.all (AV.inn nb nv)=true->(parts.all fun p=>AV.inn nb nv p.2)=true->out.all (AV.inn nb nv)=true
 | [],cells,out,h,hc,_=>by simp_all
 | (i,x)::rest,cells,out,h,hc,hp=>by
  simp at h;simp only [List.all_cons,Bool.and_eq_true] at hp;split at h
  ·rename_i o s new j0 am
   split at h
   ·refine BA h ?_ hp.2
    grind [AV.cells,Option.some.injEq,reduceCtorEq,AV.inn,AV.inns_eq,splice]
   grind
  grind
theorem zA (z:List Value):(iG z).map (AV.cz m)=iG z:=by have _:=G;simp [AV.cz]
theorem BB (nb nv:Nat) (z:List Value):(iG z).all (AV.inn nb nv)=true:=by have _:=G;simp [AV.inn]
variable {parts:List (Nat×AV)}
theorem YY {T:TypeId} {av:AV} (h:mD P T parts=some av):mD P T (parts.map fun p=>(p.1,p.2.cz m))=some (av.cz m):=by
 unfold mD at h ⊢;split at h
 ·split at h
  ·split at h
   ·split at h
    ·simp only [Option.map_eq_some_iff] at h ⊢
     obtain ⟨out,h1,rfl⟩:=h;have:=yZ (m:=m) h1;grind [zA,AV.cz,AV.czs_eq]
    grind
   ·split at h
    ·cases h
    ·simp only [Option.map_eq_some_iff] at h ⊢
     obtain ⟨out,h1,rfl⟩:=h;have:=yZ (m:=m) h1;grind [zA,AV.cz,AV.czs_eq]
   grind
  grind
 grind
theorem VG {nb nv:Nat} {T:TypeId} {av:AV} (h:mD P T parts=some av) (hp:(parts.all fun p=>AV.inn nb nv p.2)=true):AV.inn nb nv av=true:=by
 unfold mD at h;split at h
 ·split at h
  ·split at h
   ·split at h
    ·simp at h
     obtain ⟨out,h1,rfl⟩:=h;simpa [AV.inn,AV.inns_eq] using BA h1 (BB _ _ _) hp
    grind
   ·split at h
    ·cases h
    ·simp at h
     obtain ⟨out,h1,rfl⟩:=h;simpa [AV.inn,AV.inns_eq] using BA h1 (BB _ _ _) hp
   grind
  grind
 grind
theorem fC {cs:List CV} (h:gC xs=some cs):xs.map (AV.cz m)=cs.map .cv:=by
 rw [mE h];simp [AV.cz]
variable {a:AV}
theorem aGG {op:UnOp} (h:RX op x=some a):RX op (x.cz m)=some (a.cz m)/\∃ c,a=.cv c:=by
 have _:=G;unfold RX at h;grind [AV.cz,RX]
theorem aDD {l:List LK} {ys:List AV} {b:Bool} (h:pM l xs ys=some b):pM l (AV.czs m xs) (AV.czs m ys)=some b:=by
 have _:=G
 induction l generalizing xs ys b with
 | nil=>grind [pM,AV.czs]
 | cons k l ih =>
  cases xs with
  | nil=>simp_all
  | cons x xs =>
   cases ys with
   | nil=>simp_all
   | cons y ys =>
    simp only [AV.czs];cases x <;> first | (simp [pM] at h;done) | skip
    cases y <;> first | (simp [pM] at h;done) | skip
    simp only [AV.cz];unfold pM at h ⊢;grind
theorem aDE {op:BinOp} {T:TypeId} {y:AV} (h:tC P op T x y=some a):tC P op T (x.cz m) (y.cz m)=some (a.cz m)/\∃ c,a=.cv c:=by
 unfold tC at h;split at h
 ·rename_i k a' k' b
  have hr:∃ c,a=.cv c:=by
   split at h
   ·obtain ⟨_,rfl,_⟩:=AB (P:=P) (k':=k') h T (.const undef) (.const undef) default;simp
   ·rename_i hs
    split at h
    ·obtain ⟨_,rfl,_⟩:=rI (P:=P) h hs T (.const undef) (.const undef) default;simp
    grind
  grind [AV.cz,tC]
 ·grind [AV.cz,tC]
 ·grind [AV.cz,tC,aDD]
 grind
theorem xF {T:TypeId} {f:Nat} (h:fN P T x f=some a):fN P T (x.cz m) f=some (a.cz m)/\(∀ nb nv,AV.inn nb nv x=true->AV.inn nb nv a=true):=by
 have _:=G;grind [AV.inn,AV.cz,fN]
theorem SG {i:Nat} (h:kH x i=some a):kH (x.cz m) i=some (a.cz m)/\(∀ nb nv,AV.inn nb nv x=true->AV.inn nb nv a=true):=by
 unfold kH at h;grind [AV.cz,kH,AV.czs_eq,AV.inn,AV.inns_eq]
theorem aB8 {T T':TypeId} (h:AW P T T' x=some a):AW P T T' (x.cz m)=some (a.cz m)/\(∀ nb nv,AV.inn nb nv a=true):=by
 have _:=G;unfold AW at h ⊢;split at h
 ·split at h
  ·injection h with h;subst h
   exact ⟨by rfl,fun _ _=>rfl⟩
  grind
 grind
def vU:List AV->Bool
 | .gd _ _::_=>true
 | _=>false
omit G in
theorem KI (m:Emb) (h:vU xs=false):sN (AV.czs m xs)=false:=by
 match xs with
 | []=>rfl
 | .gd _ _::_=>grind [vU]
 | .any::_=>rfl
 | .cv _::_=>rfl
 | .ptr _ _::_=>rfl
 | .own _ _::_=>rfl
 | .opt _ _ _ _::_=>rfl
 | .agg _::_=>rfl
 | .tup _::_=>rfl
 | .fn _ _::_=>rfl
theorem aDF (h:AF x=some a):AF (x.cz m)=some (a.cz m)/\(∀ nb nv,AV.inn nb nv x=true->AV.inn nb nv a=true):=by
 have _:=G;unfold AF at h;grind [AV.cz,AF]
theorem aDG {T:TypeId} {f:Nat} (h:CF P T x f=some a):CF P T (x.cz m) f=some (a.cz m)/\(∀ nb nv,AV.inn nb nv x=true->AV.inn nb nv a=true):=by
 unfold CF at h;split at h
 ·split at h
  ·split at h
   ·split at h
    ·split at h
     ·injection h with h;subst h
      refine ⟨?_,fun nb nv hx=>?_⟩
      ·simp_all [CF,AV.cz,AV.czs_eq]
      grind [AV.inn,AV.inns_eq]
     grind
    grind [CF,AV.cz,AV.czs_eq,AV.inn,AV.inns_eq]
   grind
  grind
 grind
theorem aA3 {mx:Bool} (h:JS mx xs=some a):JS mx (xs.map (AV.cz m))=some (a.cz m)/\∃ c,a=.cv c:=by
 have _:=G;unfold JS at h;grind [AV.cz,JS]
end
inductive Ou where
 | nx (vs:List CV)
 | br (id:Nat) (vs:List CV)
 | ret (vs:List CV)
def aA (b:Bool) (x y:Option Ou):Option Ou:=match b with
 | true=>x
 | false=>y
def chk (b:Bool) (x:Option Ou):Option Ou:=match b with
 | true=>x
 | false=>none
theorem aO {b:Bool} {x:Option Ou} {r:Ou} (h:chk b x=some r):b=true/\x=some r:=by have _:=G;cases b <;> simp_all [chk]
def lfT (P:Program):Nat->TypeId->List Lf
 | 0,_=>[]
 | d+1,T=>match P.underlying T with
  | some (.struct fs)=>fs.toList.flatMap fun f=>lfT P d f.type
  | some (.array n e)=>(List.replicate n (lfT P d e)).flatten
  | some (.slice e)=>[.row (P.cellsOf e)]
  | some .bool=>[.bool]
  | some (.int k)=>[.int k]
  | some (.map _ _)=>match eO P T with
   | some mi=>[.mp mi.kl.length]
   | none=>[.raw]
  | _=>[.raw]
def oks:List Lf->List CV->Nat->Bool
 | [],_,_=>true
 | l::ls,cs,o=>(match cs[o]? with | some c=>l.ok c | none=>false)&&oks ls cs (o+1)
def avs:List Lf->List CV->Nat->List AV
 | [],_,_=>[]
 | l::ls,cs,o=>l.av (cs.getD o dC)::avs ls cs (o+1)
def aDH (agg:Bool) (size:Nat) (lfs:List Lf) (cs:List CV) (off:Nat) (K:AV->Option Ou):Option Ou:=
 if lfs.length=size then
  chk (oks lfs cs off) (match agg,lfs with
   | true,_::_=>K (.agg (avs lfs cs off))
   | false,[l]=>K (l.av (cs.getD off dC))
   | _,_=>none)
 else none
def aDI (P:Program) (B:List Box) (V:List Vec) (T:TypeId) (x:AV) (K:AV->Option Ou):Option Ou:=
 match cG P T with
 | none=>none
 | some ti =>
  match x with
  | .ptr i off=>match jT P ⟨[],B,V⟩ T (.ptr i off) with
   | some a=>K a
   | none=>none
  | .gd [] (.ptr i off)=>match B[i]? with
   | some b=>match b.live,gC b.cs with
    | true,some cs=>aDH ti.kind.agg ti.size (lfT P 20 T) cs off K
    | _,_=>none
   | none=>none
  | .cv (.ref cs)=>aDH ti.kind.agg ti.size (lfT P 20 T) cs 0 K
  | .opt i g el o=>match V[i]? with
   | some v=>if (v.sl&&v.ver == g)=true then chk (decide (el<v.es.length)) (aDH ti.kind.agg ti.size (lfT P 20 T) (v.es.getD el []) o K) else none
   | none=>none
  | _=>none
theorem rO:∀ {ls:List Lf} {cs:List CV} {o:Nat},oks ls cs o=true->∀ j l,ls[j]? = some l->∃ c,cs[o+j]? = some c/\l.ok c=true
 | [],_,_,_,j,l,h=>by have _:=G;grind
 | l'::ls,cs,o,h,j,l,hl=>by
  simp [oks] at h;cases j with
  | zero =>
   grind
  | succ j =>
   obtain ⟨c,h1,h2⟩:=rO h.2 j l (by grind)
   grind
theorem IX:∀ {ls:List Lf} {cs:List CV} {o:Nat},oks ls cs o=true->AV.les (((cs.drop o).take ls.length).map .cv) (avs ls cs o)
 | [],cs,o,_=>by exact .nil
 | l::ls,cs,o,h=>by
  obtain ⟨c,h1,h2⟩:=rO h 0 l (by simp)
  simp [oks] at h;have ih:=IX h.2;simp at h1
  have hd:cs.drop o=c::cs.drop (o+1):=by
   grind [List.drop_eq_getElem_cons]
  simp only [hd];refine .cons ?_ ih;simp [h1];exact Lf.le h2
theorem AV.le_agg {xs ys:List AV} (h:AV.les xs ys):AV.le (.agg xs) (.agg ys):=by
 intro e w ks v hv;obtain ⟨vs,h1,h2⟩:=hv;exact ⟨vs,h1,h.all h2⟩
def AV.clo:AV->Bool
 | .cv _=>true
 | .agg xs=>xs.all fun x=>match x with | .cv _=>true | _=>false
 | _=>false
variable {x:AV}
theorem AV.clo_spec (h:x.clo=true):(∀ m,x.cz m=x)/\(∀ nb nv,AV.inn nb nv x=true)/\(∀ nb vs,AV.sco nb vs x):=by
 unfold AV.clo at h;split at h
 ·exact ⟨fun m=>by rfl,fun _ _=>rfl,fun _ _=>by simp⟩
 ·rename_i xs
  refine ⟨fun m=>?_,fun nb nv=>?_,fun nb vs=>?_⟩
  ·simp [AV.cz,AV.czs_eq]
   refine (List.map_congr_left fun x E6=>?_).trans (List.map_id xs)
   grind [AV.cz]
  ·grind [AV.inn,AV.inns_eq]
  grind [AV.sco,AV.scos_iff]
 grind
theorem aA4:∀ (ls:List Lf) (cs:List CV) (o:Nat),(AV.agg (avs ls cs o)).clo=true
 | [],_,_=>rfl
 | l::ls,cs,o=>by
  have:=aA4 ls cs (o+1);obtain ⟨d,hd⟩:=l.av_cv (cs.getD o dC);simp_all [AV.clo,avs]
theorem EP {agg:Bool} {size:Nat} {lfs:List Lf} {cs:List CV} {off:Nat} {K:AV->Option Ou} {r:Ou} (h:aDH agg size lfs cs off K=some r) :
  ∃ x,K x=some r/\x.clo=true/\(agg=true->off+size<=cs.length/\AV.le (.agg (((cs.drop off).take size).map .cv)) x)/\(agg=false->∃ c,cs[off]? = some c/\AV.le (.cv c) x):=by
 unfold aDH at h;split at h
 ·rename_i hl
  obtain ⟨h1,h2⟩:=aO h;split at h2
  ·rename_i l ls
   refine ⟨_,h2,aA4 _ _ _,fun _=>⟨?_,?_⟩,fun hc=>by cases hc⟩
   ·obtain ⟨c,h3,_⟩:=rO h1 ls.length ((l::ls)[ls.length]'(by simp)) (by simp)
    grind
   ·rw [<- hl]
    exact AV.le_agg (IX h1)
  ·rename_i l
   obtain ⟨c,h3,h4⟩:=rO h1 0 l (by simp)
   simp at h3;obtain ⟨d,hd⟩:=l.av_cv (cs.getD off dC);refine ⟨_,h2,(by rw [hd];rfl),(fun hc=>by cases hc),fun _=>⟨c,h3,?_⟩⟩
   simp [h3];exact Lf.le h4
  grind
 grind
section
variable {P:Program} {m:Emb} {s:SS} {st:St}
theorem YZ (hE:Em m s st) {T:TypeId} {x:AV} {K:AV->Option Ou} {r:Ou} (hx:AV.inn s.B.length s.V.length x=true) (h:aDI P s.B s.V T x K=some r) :
  ∃ a y,jT P st T (x.cz m)=some a/\AV.le a (y.cz m)/\((y.clo=true)\/a=y.cz m)/\AV.inn s.B.length s.V.length y=true/\K y=some r:=by
 unfold aDI at h;cases ar:cG P T with
 | none=>grind
 | some ti =>
  simp only [ar] at h
  have fin:∀ {a:AV},(∃ x,K x=some r/\x.clo=true/\AV.le a x)->∃ y,AV.le a (y.cz m)/\((y.clo=true)\/a=y.cz m)/\AV.inn s.B.length s.V.length y=true/\K y=some r:=by
   rintro a ⟨y,h1,h2,h3⟩;obtain ⟨c1,c2,_⟩:=AV.clo_spec h2;grind
  split at h
  ·rename_i i off
   split at h
   ·rename_i a ha
    unfold jT at ha;simp only [ar] at ha;split at ha
    ·rename_i b hb
     obtain ⟨bv,jb⟩:=hE.m.b i b hb;rw [AV.inns_eq,List.all_eq_true] at jb;split at ha
     ·have key:jT P st T ((AV.ptr i off).cz m)=some (a.cz m)/\AV.inn s.B.length s.V.length a=true:=by
       simp only [AV.cz,jT,bv,Box.cz,AV.czs_eq];grind [AV.cz,AV.czs_eq,List.map_take,List.map_drop,AV.inn,AV.inns_eq,List.all_eq_true]
      exact ⟨_,a,key.1,AV.le_refl _,.inr rfl,key.2,h⟩
     grind
    grind
   grind
  ·rename_i i off
   split at h
   ·rename_i b hb
    split at h
    ·rename_i cs hl aT
     obtain ⟨y,h1,h2,h3,h4⟩:=EP h;obtain ⟨bv,_⟩:=hE.m.b i b hb;have E7:(b.cz m).cs=cs.map .cv:=by simp [Box.cz,AV.czs_eq];exact fC aT
     have bg:(b.cz m).live=true:=hl;cases dt:ti.kind.agg with
     | true =>
      obtain ⟨h5,h6⟩:=h3 dt;obtain ⟨y',q1,q2,q3,q4⟩:=fin ⟨y,h1,h2,h6⟩;refine ⟨_,y',?_,q1,q2,q3,q4⟩;simp_all [AV.cz]
     | false =>
      obtain ⟨c,h5,h6⟩:=h4 dt;obtain ⟨y',q1,q2,q3,q4⟩:=fin ⟨y,h1,h2,h6⟩;refine ⟨_,y',?_,q1,q2,q3,q4⟩;simp_all [AV.cz]
    grind
   grind
  ·obtain ⟨y,h1,h2,h3,h4⟩:=EP h
   cases dt:ti.kind.agg with
   | true =>
    obtain ⟨h5,h6⟩:=h3 dt;obtain ⟨y',q1,q2,q3,q4⟩:=fin ⟨y,h1,h2,h6⟩;refine ⟨_,y',?_,q1,q2,q3,q4⟩;simp_all [AV.cz]
   | false =>
    obtain ⟨c,h5,h6⟩:=h4 dt;obtain ⟨y',q1,q2,q3,q4⟩:=fin ⟨y,h1,h2,h6⟩;refine ⟨_,y',?_,q1,q2,q3,q4⟩;simp_all [AV.cz]
  ·rename_i i g el o
   split at h
   ·rename_i v hv
    split at h
    ·rename_i hc
     simp at hc;obtain ⟨hl,rfl⟩:=hc;obtain ⟨oy,h⟩:=aO h;simp at oy;obtain ⟨y,h1,h2,h3,h4⟩:=EP h;have bt:=hE.m.v i v hv (.inl (Vec.sl_live hl));have na:=Vec.sl_mk hl v.k (m.fo i+v.ver) v.es;cases dt:ti.kind.agg with
     | true =>
      obtain ⟨h5,h6⟩:=h3 dt;obtain ⟨y',q1,q2,q3,q4⟩:=fin ⟨y,h1,h2,h6⟩;refine ⟨_,y',?_,q1,q2,q3,q4⟩;simp_all [AV.cz,Vec.cz]
     | false =>
      obtain ⟨c,h5,h6⟩:=h4 dt;obtain ⟨y',q1,q2,q3,q4⟩:=fin ⟨y,h1,h2,h6⟩;refine ⟨_,y',?_,q1,q2,q3,q4⟩;simp_all [AV.cz,Vec.cz]
    grind
   grind
  grind
end
structure Lk where
 t:List Nat
 b:List Nat
 v:List Nat
 o:List Nat
section
variable {P:Program}
def aJM (op:BinOp) (k:IntKind) (a b:Int) (K:AV->Option Ou):Option Ou:=
 match op with
 | .quo=>chk (b != 0) (K (.cv (.val (.int k (k.wrap (a.tdiv b))))))
 | .rem=>chk (b != 0) (K (.cv (.val (.int k (a.tmod b)))))
 | .shl=>chk (decide (0<=b)) (K (.cv (.val (.int k (k.wrap (a*2 ^ (min b.toNat k.bits)))))))
 | .shr=>chk (decide (0<=b)) (K (.cv (.val (.int k (a.fdiv (2 ^ (min b.toNat k.bits)))))))
 | op=>match PB op k a b with
  | some x=>K x
  | none=>none
def aIB (P:Program) (op:BinOp) (T:TypeId) (x y:AV) (K:AV->Option Ou):Option Ou:=
 match x,y with
 | .cv (.val (.int k a)),.cv (.val (.int k' b))=>if k=k'\/op=.shl\/op=.shr then aJM op k a b K else none
 | x,y=>match tC P op T x y with
  | some r=>K r
  | none=>none
variable {x:AV}
theorem aB9 {op:BinOp} {T:TypeId} {y:AV} {K:AV->Option Ou} {r:Ou} (h:aIB P op T x y K=some r) (m:Emb) :
  ∃ c,tC P op T (x.cz m) (y.cz m)=some (.cv c)/\K (.cv c)=some r:=by
 unfold aIB at h;split at h
 ·simp only [AV.cz,tC]
  split at h
  ·unfold aJM at h
   split at h
   ·obtain ⟨h1,h2⟩:=aO h
    simp_all
   ·obtain ⟨h1,h2⟩:=aO h
    simp_all
   ·obtain ⟨h1,h2⟩:=aO h
    simp_all
   ·obtain ⟨h1,h2⟩:=aO h
    simp_all
   ·rename_i hq hr iz kr
    have hs:¬(op=.shl\/op=.shr):=fun h'=>h'.elim iz kr
    split at h
    ·rename_i x hx
     obtain ⟨_,rfl,_⟩:=rI (P:=P) hx hs T (.const undef) (.const undef) default;grind
    grind
  grind
 ·split at h
  ·rename_i r' hr
   obtain ⟨h1,c,rfl⟩:=aDE (m:=m) hr;grind [AV.cz]
  grind
def aGH (K:Nat->Option Ou) (n:Int):Nat->Nat->Option Ou
 | q,0=>K q
 | q,f+1=>aA (n == Int.ofNat q) (K q) (aGH K n (q+1) f)
theorem PE {K:Nat->Option Ou} {n:Int} {r:Ou}:∀ (f q:Nat),(q:Int)<=n->n<=(q+f:Nat)->aGH K n q f=some r->K n.toNat=some r
 | 0,q,h1,h2,h=>by
  have _:=G;have:n.toNat=q:=by omega
  rw [this];exact h
 | f+1,q,h1,h2,h=>by
  simp only [aGH] at h;cases hc:(n == Int.ofNat q) with
  | true =>
   rw [hc] at h;have:n.toNat=q:=by grind
   rw [this];exact h
  | false =>
   rw [hc] at h;have ax:n≠(q:Int):=fun e=>by grind
   exact PE f (q+1) (by omega) (by omega) h
def BC (P:Program) (V:List Vec) (T:TypeId) (lit:Bool) (x i:AV) (K:AV->Option Ou):Option Ou:=
 match i with
 | .cv (.val (.int _ n)) =>
  match cG P T with
  | some ⟨_,_,.arr len _ k⟩ =>
   if k=0 then none else
   match x with
   | .ptr j off=>if lit=true then (if 0<=n/\n<len then K (.ptr j (off+n.toNat*k)) else none) else chk (decide (0<=n)&&decide (n<len)) (K (.gd [] (.ptr j (off+n.toNat*k))))
   | .gd [] (.ptr j off)=>chk (decide (0<=n)&&decide (n<len)) (K (.gd [] (.ptr j (off+n.toNat*k))))
   | .cv (.ref cs)=>chk (decide (0<=n)&&decide (n<len)) (K (.cv (.ref (cs.drop (n.toNat*k)))))
   | .opt j u el off=>chk (decide (0<=n)&&decide (n<len)) (K (.opt j u el (off+n.toNat*k)))
   | _=>none
  | some ⟨_,_,.slc _ k _⟩ =>
   if k=0 then none else
   match x with
   | .cv (.row k' es)=>if k'=k then chk (decide (0<=n)&&decide (n<es.length)) (K (.cv (.ref (es.getD n.toNat [])))) else none
   | .own j u =>
    match V[j]? with
    | some v=>if (v.sl&&v.ver == u&&v.k == k)=true then chk (decide (0<=n)&&decide (n<v.es.length)) (K (.opt j u n.toNat 0)) else none
    | none=>none
   | .fn len [.gd [false] .any,.any,.ptr j off]=>chk (decide (0<=n)&&decide (n<Int.ofNat len)) (aGH (fun q=>K (.ptr j (off+q*k))) n 0 (Nat.pred len))
   | _=>none
  | _=>none
 | _=>none
variable {m:Emb} {s:SS} {st:St}
theorem HV (hE:Em m s st) {T:TypeId} {lit:Bool} {i:AV} {K:AV->Option Ou} {r:Ou} (hx:AV.inn s.B.length s.V.length x=true) (h:BC P s.V T lit x i K=some r) :
  ∃ y,gJ P st T (x.cz m) (i.cz m)=some (y.cz m)/\AV.inn s.B.length s.V.length y=true/\K y=some r:=by
 unfold BC at h;split at h
 ·rename_i kk n
  simp;split at h
  ·rename_i a1 a2 len a3 k ar
   simp [ar];split at h
   ·cases h
   ·rename_i hk
    simp [if_neg hk];split at h
    ·rename_i j off
     split at h
     ·grind [AV.cz,AV.inn]
     ·obtain ⟨h1,h2⟩:=aO h
      grind [AV.cz,AV.inn]
    all_goals first
     | cases h;done
     | (obtain ⟨h1,h2⟩:=aO h
        simp only [Bool.and_eq_true,decide_eq_true_eq] at h1;refine ⟨_,?_,?_,h2⟩
        ·simp only [AV.cz];rw [if_pos h1]
        ·first | rfl | (simp only [AV.inn] at hx ⊢;exact hx))
  ·rename_i a1 a2 a3 k a4 ar
   split at h
   ·cases h
   ·split at h
    ·split at h
     ·obtain ⟨h1,h2⟩:=aO h
      exact ⟨_,by simp_all [AV.cz],rfl,h2⟩
     grind
    ·rename_i j u
     split at h
     ·rename_i v hv
      split at h
      ·rename_i hc
       simp at hc;obtain ⟨⟨hl,rfl⟩,nc⟩:=hc;obtain ⟨h1,h2⟩:=aO h;have bt:=hE.m.v j v hv (.inl (Vec.sl_live hl));grind [AV.inn,AV.cz,Vec.cz,Vec.sl]
      grind
     grind
    ·rename_i len j off
     obtain ⟨h1,h2⟩:=aO h;simp at h1;have h3:=PE (Nat.pred len) 0 (by omega) (by have:Nat.pred len=len - 1:=rfl;omega) h2
     grind [AV.cz,AV.czs,AV.inn,AV.inns]
    grind
  grind
 grind
def ZA (P:Program) (T:TypeId) (x:AV) (f:Nat):Option AV:=
 match x with
 | .gd [] y=>(fN P T y f).map fun z=>.gd [] z
 | x=>fN P T x f
theorem VH {T:TypeId} {y:AV} {f:Nat} (h:ZA P T x f=some y):fN P T (x.cz m) f=some (y.cz m)/\(∀ nb nv,AV.inn nb nv x=true->AV.inn nb nv y=true):=by
 unfold ZA at h;split at h
 ·simp at h
  obtain ⟨q,h1,rfl⟩:=h;obtain ⟨h2,h3⟩:=xF (m:=m) h1;grind [AV.cz,AV.inn]
 ·exact xF h
def ZB (P:Program) (T:TypeId) (lit:Bool) (x i:AV) (K:AV->Option Ou):Option Ou:=
 match cG P T,x,i with
 | some ⟨_,_,.arr n et 1⟩,.agg cs,.cv (.val (.int _ j)) =>
  match cG P et with
  | some te=>if te.kind.agg=true then none else
   if lit=true then (if 0<=j/\j<n then (match cs[j.toNat]? with | some x=>K x | none=>none) else none) else
   match gC cs,lfT P 20 et with
   | some ds,[l]=>chk (decide (0<=j)&&decide (j<n)&&oks [l] ds j.toNat) (K (l.av (ds.getD j.toNat dC)))
   | _,_=>none
  | none=>none
 | _,_,_=>none
theorem VI {T:TypeId} {lit:Bool} {i:AV} {K:AV->Option Ou} {r:Ou} {nb nv:Nat} (hx:AV.inn nb nv x=true) (h:ZB P T lit x i K=some r) :
  ∃ a y,UX P T (x.cz m) (i.cz m)=some a/\AV.le a (y.cz m)/\((y.clo=true)\/a=y.cz m)/\AV.inn nb nv y=true/\K y=some r:=by
 unfold ZB at h;split at h
 ·rename_i a1 a2 n et cs kk j ar
  split at h
  ·split at h
   ·cases h
   ·split at h
    ·split at h
     ·split at h
      ·rename_i y hy
       simp [AV.inn,AV.inns_eq] at hx;refine ⟨_,y,?_,AV.le_refl _,.inr rfl,hx y (List.mem_of_getElem? hy),h⟩;simp_all [AV.cz,AV.czs_eq]
      grind
     grind
    ·split at h
     ·rename_i ds l E8 hl
      obtain ⟨h1,h2⟩:=aO h;simp at h1;obtain ⟨c,h3,h4⟩:=rO h1.2 0 l (by simp)
      simp at h3;obtain ⟨d,hd⟩:=l.av_cv (ds.getD j.toNat dC);refine ⟨.cv c,_,?_,?_,.inl (by rw [hd];rfl),by rw [hd];rfl,h2⟩
      ·simp_all [AV.cz,AV.czs_eq,fC]
      ·rw [hd,AV.cz_cv,<- hd]
       simp [h3];exact Lf.le h4
     grind
  grind
 grind
def aIC:Option AV->Option Int
 | none=>some 0
 | some (.cv (.val (.int _ n)))=>some n
 | _=>none
def aID (n:Nat):Option AV->Option Int
 | none=>some n
 | some (.cv (.val (.int _ n)))=>some n
 | _=>none
variable {lo:Option AV}
theorem aDJ {l:Int} (h:aIC lo=some l):(lo=none/\l=0)\/∃ k,lo=some (.cv (.val (.int k l))):=by
 have _:=G;unfold aIC at h;grind
theorem aDK {n:Nat} {l:Int} (h:aID n lo=some l):(lo=none/\l=n)\/∃ k,lo=some (.cv (.val (.int k l))):=by
 have _:=G;unfold aID at h;grind
def SH (P:Program) (T:TypeId) (x:AV) (lo hi:Option AV) (K:AV->Option Ou):Option Ou:=
 match cG P T with
 | some ⟨_,_,.slc _ k _⟩ =>
  if k=0 then none else
  match x with
  | .cv (.row k' es) =>
   if k'=k then
    match aIC lo,aID es.length hi with
    | some l,some h=>chk (decide (0<=l)&&decide (l<=h)&&decide (h<=es.length)) (K (.cv (.row k ((es.take h.toNat).drop l.toNat))))
    | _,_=>none
   else none
  | _=>none
 | some ⟨_,_,.arr n _ k⟩ =>
  match x,lo,hi with
  | .cv (.ref cs),none,none=>if k≠0/\n<=maxLen then chk (decide (n*k<=cs.length)) (K (.cv (.row k (aS k n (cs.take (n*k)))))) else none
  | _,_,_=>none
 | _=>none
theorem GQ {T:TypeId} {hi:Option AV} {K:AV->Option Ou} {r:Ou} (h:SH P T x lo hi K=some r) :
  ∃ c,rL P T (x.cz m) (lo.map (AV.cz m)) (hi.map (AV.cz m))=some (.cv c)/\K (.cv c)=some r:=by
 unfold SH at h;split at h
 ·rename_i a1 a2 a3 k a4 ar
  split at h
  ·cases h
  ·rename_i hk
   split at h
   ·split at h
    ·rename_i cq
     split at h
     ·rename_i l hh hl ot
      obtain ⟨h1,h2⟩:=aO h;simp at h1;refine ⟨_,?_,h2⟩;rcases aDJ hl with ⟨rfl,rfl⟩ | ⟨kl,rfl⟩ <;> rcases aDK ot with ⟨rfl,rfl⟩ | ⟨kh,rfl⟩
      all_goals
       simp only [Option.map_none,Option.map_some,AV.cz,rL,ar,if_neg hk,if_pos cq];rw [if_pos ⟨h1.1.1,h1.1.2,h1.2⟩]
     grind
    grind
   grind
 ·split at h
  ·split at h
   ·obtain ⟨h1,h2⟩:=aO h
    simp_all [AV.cz]
   grind
  grind
 grind
def SI (P:Program) (T:TypeId) (x:AV) (lo:Option AV) (hi mx:AV) (K:AV->Option Ou):Option Ou:=
 match hi,mx with
 | .cv (.val (.int k n)),.cv (.val (.int _ m))=>match x with
  | .cv (.row k' es)=>chk (decide (n=m)) (SH P T (.cv (.row k' es)) lo (some (.cv (.val (.int k n)))) K)
  | _=>none
 | _,_=>none
theorem SJ {T:TypeId} {hi mx:AV} {K:AV->Option Ou} {r:Ou} (h:SI P T x lo hi mx K=some r) :
  ∃ c,wY P T (x.cz m) (lo.map (AV.cz m)) (hi.cz m) (mx.cz m)=some (.cv c)/\K (.cv c)=some r:=by
 unfold SI at h;split at h
 ·split at h
  ·obtain ⟨h1,h2⟩:=aO h
   obtain ⟨c,h3,h4⟩:=GQ (m:=m) h2;simp_all [AV.cz,wY]
  grind
 grind
end
section
variable {P:Program} {m:Emb} {B B1:List Box} {V V1:List Vec}
variable {i:Nat}
theorem EmM.lt_b (h:EmM m B V B1 V1) (hi:i<B.length):m.fb i<B1.length:=by
 have _:=G;obtain ⟨h1,_⟩:=h.b i B[i] (by simp)
 grind
theorem EmM.lt_v (h:EmM m B V B1 V1) (hi:i<V.length):m.fv i<V1.length:=by
 have _:=G;exact h.vlt i hi
theorem Emb.fb_mem {m:Emb} (h:i<m.bm.length):m.fb i∈m.bm:=by
 have _:=G;grind [Emb.fb]
theorem Emb.fv_mem {m:Emb} (h:i<m.vm.length):m.fv i∈m.vm:=by
 have _:=G;grind [Emb.fv]
theorem EmM.mem_lt_v (h:EmM m B V B1 V1):∀ j∈m.vm,j<V1.length:=by
 intro j hj;obtain ⟨i,hi,rfl⟩:=List.mem_iff_getElem.1 hj;have:=h.lt_v (i:=i) (by rw [<- h.vl];exact hi)
 grind [Emb.fv,List.getD]
variable {b:Box}
theorem EmM.setB (h:EmM m B V B1 V1) (hi:i<B.length) (hb:AV.inns B.length V.length b.cs=true):EmM m (B.set i b) V (B1.set (m.fb i) (b.cz m)) V1:=by
 refine ⟨by simp [h.bl],h.vl,h.ol,fun j c hj=>?_,fun j v hv=>h.v j v hv,h.vlt,?_,?_⟩
 ·rw [List.getElem?_set] at hj
  split at hj
  ·rename_i gp
   subst gp;simp at hj;subst hj;exact ⟨by rw [List.getElem?_set_self (h.lt_b hi)],by grind⟩
  ·rename_i gp
   obtain ⟨h1,h2⟩:=h.b j c hj;have bu:=(List.getElem?_eq_some_iff.1 hj).1;refine ⟨?_,by grind⟩
   rw [List.getElem?_set_ne fun he=>gp (h.bi i j hi bu he)]
   exact h1
 ·intro j k hj hk;exact h.bi j k (by grind) (by grind)
 ·exact h.vi
theorem EmM.setV (h:EmM m B V B1 V1) {v:Vec} (hi:i<V.length):EmM m B (V.set i v) B1 (V1.set (m.fv i) (v.cz m i)):=by
 refine ⟨h.bl,by simp [h.vl],by simp [h.ol],fun j c hj=>by simpa using h.b j c hj,fun j c hj bz=>?_,fun j hj=>by simpa using h.vlt j (by grind),h.bi,?_⟩
 ·rw [List.getElem?_set] at hj
  split at hj
  ·rename_i gp
   subst gp;simp at hj;subst hj;rw [List.getElem?_set_self (h.lt_v hi)]
  ·rename_i gp
   have bu:=(List.getElem?_eq_some_iff.1 hj).1;rw [List.getElem?_set_ne fun he=>gp (h.vi i j hi bu he)]
   exact h.v j c hj bz
 ·intro j k hj hk;exact h.vi j k (by grind) (by grind)
def Emb.pushB (m:Emb) (k:Nat):Emb:=⟨m.bm++[k],m.vm,m.vb⟩
def Emb.pushV (m:Emb) (k:Nat):Emb:=⟨m.bm,m.vm++[k],m.vb++[0]⟩
theorem Emb.pushB_up (m:Emb) (k:Nat):m.Up (m.pushB k):=by
 have _:=G;refine ⟨by simp [Emb.pushB],fun i hi=>?_,Nat.le_refl _,fun _ _=>rfl⟩
 simp [Emb.pushB,Emb.fb,List.getElem?_append_left hi]
theorem Emb.pushV_up (m:Emb) (k:Nat):m.Up (m.pushV k):=by
 have _:=G;refine ⟨Nat.le_refl _,fun _ _=>rfl,by simp [Emb.pushV],fun i hi=>?_⟩
 simp [Emb.pushV,Emb.fv,List.getElem?_append_left hi]
theorem Emb.pushV_fo {m:Emb} (k:Nat) (h:m.vb.length=m.vm.length):∀ i,i<m.vm.length->(m.pushV k).fo i=m.fo i:=by
 have _:=G;grind [Emb.pushV,Emb.fo]
theorem Emb.pushB_new (m:Emb) (k:Nat):(m.pushB k).fb m.bm.length=k:=by have _:=G;simp [Emb.pushB,Emb.fb]
theorem Emb.pushV_new (m:Emb) (k:Nat):(m.pushV k).fv m.vm.length=k:=by have _:=G;simp [Emb.pushV,Emb.fv]
theorem Emb.pushV_new0 {m:Emb} (k:Nat) (h:m.vb.length=m.vm.length):(m.pushV k).fo m.vm.length=0:=by have _:=G;simp [Emb.pushV,Emb.fo,h]
theorem EmM.up_b (h:EmM m B V B1 V1) {m':Emb} (hu:m.Up m') (ho:∀ i,i<m.vm.length->m'.fo i=m.fo i) (hb:B[i]? = some b):b.cz m'=b.cz m:=by
 simp [Box.cz,AV.czs_up hu ho b.cs (by rw [h.bl,h.vl];exact (h.b i b hb).2)]
theorem EmM.up_b' (h:EmM m B V B1 V1) {m':Emb} (hu:m.Up m') (ho:∀ i,i<m.vm.length->m'.fo i=m.fo i) (hb:AV.inns B.length V.length b.cs=true):b.cz m'=b.cz m:=by
 simp [Box.cz,AV.czs_up hu ho b.cs (by rw [h.bl,h.vl];exact hb)]
theorem EmM.pushB (h:EmM m B V B1 V1) {b:Box} (hb:AV.inns B.length V.length b.cs=true):EmM (m.pushB B1.length) (B++[b]) V (B1++[b.cz (m.pushB B1.length)]) V1:=by
 have hu:=Emb.pushB_up m B1.length;refine ⟨by simp [Emb.pushB,h.bl],h.vl,h.ol,fun i c hi=>?_,fun i v hv=>?_,h.vlt,fun i j hi hj he=>?_,h.vi⟩
 ·by_cases aq:i<B.length
  ·rw [List.getElem?_append_left aq] at hi
   obtain ⟨h1,h2⟩:=h.b i c hi;rw [hu.b i (by rw [h.bl];omega),h.up_b hu (fun _ _=>rfl) hi,List.getElem?_append_left (h.lt_b aq)]
   refine ⟨h1,?_⟩;rw [AV.inns_eq,List.all_eq_true] at h2 ⊢;exact fun x hx=>AV.inn_mono (by simp) (Nat.le_refl _) x (h2 x hx)
  ·have zk:i - B.length=0:=by
    grind
   obtain rfl:i=B.length:=by omega
   simp at hi;subst hi;rw [<- h.bl,Emb.pushB_new];refine ⟨by simp,?_⟩
   rw [AV.inns_eq,List.all_eq_true] at hb ⊢;exact fun x hx=>AV.inn_mono (by simp) (Nat.le_refl _) x (hb x hx)
 ·have:=h.v i v hv
  exact this
 ·simp at hi hj
  by_cases h1:i<B.length <;> by_cases h2:j<B.length
  ·rw [hu.b i (by rw [h.bl];exact h1),hu.b j (by rw [h.bl];exact h2)] at he
   exact h.bi i j h1 h2 he
  ·obtain rfl:j=B.length:=by omega
   rw [hu.b i (by rw [h.bl];exact h1),<- h.bl,Emb.pushB_new] at he
   have:=h.lt_b h1;omega
  ·obtain rfl:i=B.length:=by omega
   rw [hu.b j (by rw [h.bl];exact h2),<- h.bl,Emb.pushB_new] at he
   have:=h.lt_b h2;omega
  ·omega
theorem EmM.pushV (h:EmM m B V B1 V1) {v:Vec}:EmM (m.pushV V1.length) B (V++[v]) B1 (V1++[⟨v.live,v.T,v.k,v.ver,v.es⟩]):=by
 have hu:=Emb.pushV_up m V1.length;have hl:m.vb.length=m.vm.length:=by rw [h.ol,h.vl]
 have ho:=Emb.pushV_fo (m:=m) V1.length hl;refine ⟨h.bl,by simp [Emb.pushV,h.vl],by simp [Emb.pushV,h.ol],fun i c hi=>?_,fun i c hi bz=>?_,fun i hi=>?_,h.bi,fun i j hi hj he=>?_⟩
 ·obtain ⟨h1,h2⟩:=h.b i c hi
  rw [h.up_b hu ho hi];refine ⟨h1,?_⟩;rw [AV.inns_eq,List.all_eq_true] at h2 ⊢;exact fun x hx=>AV.inn_mono (Nat.le_refl _) (by simp) x (h2 x hx)
 ·by_cases aq:i<V.length
  ·rw [List.getElem?_append_left aq] at hi
   have h1:=h.v i c hi bz;rw [hu.v i (by rw [h.vl];omega),List.getElem?_append_left (h.lt_v aq),h1]
   simp [Vec.cz,ho i (by rw [h.vl];omega)]
  ·have zk:i - V.length=0:=by
    grind
   obtain rfl:i=V.length:=by omega
   rw [<- h.vl,Emb.pushV_new];grind [Vec.cz,Emb.pushV_new0]
 ·simp at hi ⊢
  by_cases h1:i<V.length
  ·rw [hu.v i (by rw [h.vl];exact h1)];have:=h.vlt i h1;omega
  ·obtain rfl:i=V.length:=by omega
   rw [<- h.vl,Emb.pushV_new];omega
 ·simp at hi hj
  by_cases h1:i<V.length <;> by_cases h2:j<V.length
  ·rw [hu.v i (by rw [h.vl];exact h1),hu.v j (by rw [h.vl];exact h2)] at he
   exact h.vi i j h1 h2 he
  ·obtain rfl:j=V.length:=by omega
   rw [hu.v i (by rw [h.vl];exact h1),<- h.vl,Emb.pushV_new] at he
   have:=h.lt_v h1;omega
  ·obtain rfl:i=V.length:=by omega
   rw [hu.v j (by rw [h.vl];exact h2),<- h.vl,Emb.pushV_new] at he
   have:=h.lt_v h2;omega
  ·omega
theorem Stp.setB (h:EmM m B V B1 V1) (hi:i<B.length) (b:Box):Stp m B1 V1 m (B1.set (m.fb i) b) V1:=by
 refine ⟨Emb.Up.refl _,by simp,Nat.le_refl _,fun _ h=>.inl h,fun _ h=>.inl h,fun j hj hn=>?_,fun _ _ _=>rfl⟩
 rw [List.getElem?_set_ne];rintro rfl;exact hn (Emb.fb_mem (by rw [h.bl];exact hi))
theorem Stp.setV (h:EmM m B V B1 V1) (hi:i<V.length) (v:Vec):Stp m B1 V1 m B1 (V1.set (m.fv i) v):=by
 refine ⟨Emb.Up.refl _,Nat.le_refl _,by simp,fun _ h=>.inl h,fun _ h=>.inl h,fun _ _ _=>rfl,fun j hj hn=>?_⟩
 rw [List.getElem?_set_ne];rintro rfl;exact hn (Emb.fv_mem (by rw [h.vl];exact hi))
theorem Stp.pushB (b:Box):Stp m B1 V1 (m.pushB B1.length) (B1++[b]) V1:=by
 refine ⟨Emb.pushB_up _ _,by simp,Nat.le_refl _,fun j hj=>?_,fun _ h=>.inl h,fun j hj hn=>?_,fun _ _ _=>rfl⟩
 ·grind [Emb.pushB]
 grind
theorem Stp.pushV (v:Vec):Stp m B1 V1 (m.pushV V1.length) B1 (V1++[v]):=by
 refine ⟨Emb.pushV_up _ _,Nat.le_refl _,by simp,fun _ h=>.inl h,fun j hj=>?_,fun _ _ _=>rfl,fun j hj hn=>?_⟩
 ·grind [Emb.pushV]
 grind
end
def cJ (n k by_:Nat):Bool:=decide ((n+k)*by_<=140737488355328)&&decide (n+k<=maxLen)
def Lf.flatK:Lf->Bool
 | .int _=>true
 | .bool=>true
 | _=>false
def Lf.sel (l:Lf) (b:Bool) (c c':CV):CV:=
 match l with
 | .int k=>.val (.int k (if b then cI c else cI c'))
 | .bool=>.val (.bool (if b then cB c else cB c'))
 | _=>c'
def SK (l:Lf) (off:Nat) (c:CV):List CV->Nat->List CV
 | [],_=>[]
 | c'::cs,j=>(if l.ok c'=true then l.sel (decide (j=off)) c c' else c')::SK l off c cs (j+1)
theorem Lf.sel_eq {l:Lf} {b:Bool} {c c':CV} (hf:l.flatK=true) (hc:l.ok c=true) (gq:l.ok c'=true):l.sel b c c'=if b then c else c':=by
 have _:=G;cases l with
 | int k =>
  unfold Lf.ok at hc gq;grind [Lf.sel,cI]
 | bool =>
  unfold Lf.ok at hc gq;grind [Lf.sel,cB]
 | row k=>grind [Lf.flatK]
 | ref=>grind [Lf.flatK]
 | raw=>grind [Lf.flatK]
 | mp k=>grind [Lf.flatK]
theorem SL {l:Lf} {c:CV} (hf:l.flatK=true) (hc:l.ok c=true):∀ (cs:List CV) (j off:Nat),(∀ c',cs[off]? = some c'->l.ok c'=true)->SK l (j+off) c cs j=cs.set off c
 | [],j,off,_=>by rfl
 | c'::cs,j,off,h=>by
  simp [SK];cases off with
  | zero =>
   have d9:∀ (cs:List CV) (i:Nat),j<i->SK l j c cs i=cs:=by
    intro cs
    induction cs with
    | nil=>intro i _;rfl
    | cons d cs ih =>
     grind [SK,Lf.sel_eq]
   simp_all [Lf.sel_eq]
  | succ off =>
   have ih:=SL hf hc cs (j+1) off (fun d hd=>h d (by grind))
   grind [Lf.sel_eq]
def VJ:List Lf->Nat->List CV->List CV->List CV
 | l::ls,off,c::new,cs=>VJ ls (off+1) new (SK l off c cs 0)
 | _,_,_,cs=>cs
theorem aA5 {c:CV}:∀ {ls:List Lf} {cs:List CV} {o off:Nat},off<o->oks ls (cs.set off c) o=oks ls cs o
 | [],_,_,_,_=>have _:=G;rfl
 | l::ls,cs,o,off,h=>by
  simp only [oks];rw [List.getElem?_set_ne (by omega),aA5 (ls:=ls) (cs:=cs) (by omega)]
theorem VK:∀ {ls:List Lf} {off:Nat} {new cs:List CV},ls.all Lf.flatK=true->new.length=ls.length->((ls.zip new).all fun p=>p.1.ok p.2)=true->oks ls cs off=true->off+new.length<=cs.length ->
  VJ ls off new cs=cs.take off++new++cs.drop (off+new.length)
 | [],off,new,cs,_,hn,_,_,_=>by
  simp_all [VJ]
 | l::ls,off,[],cs,_,hn,_,_,_=>by grind
 | l::ls,off,c::new,cs,hf,hn,ho,hk,hl=>by
  simp only [List.all_cons,Bool.and_eq_true,List.zip_cons_cons,List.length_cons] at hf hn ho hl;obtain ⟨c0,h3,h4⟩:=rO hk 0 l (by simp)
  simp at h3
  have ss:SK l off c cs 0=cs.set off c:=by
   have:=SL hf.1 ho.1 cs 0 off (fun c' gq=>by grind)
   grind
  have nc:oks ls (cs.set off c) (off+1)=true:=by
   simp_all [aA5,oks]
  simp only [VJ,ss];rw [VK hf.2 (by omega) ho.2 nc (by simp;omega)]
  have h1:(cs.set off c).take (off+1)=cs.take off++[c]:=by
   rw [List.take_set,List.take_add_one,h3];have:(cs.take off).length=off:=by simp;omega
   simp_all
  grind [List.drop_set_of_lt]
section
variable {P:Program}
def KJ (P:Program) (lk:Lk) (B:List Box) (V:List Vec) (T:TypeId) (x y:AV) (K:List Box->List Vec->Option Ou):Option Ou:=
 match x with
 | .ptr i off=>if lk.b.contains i=true then none else match iE P ⟨[],B,V⟩ T (.ptr i off) y with
  | some (B',V')=>K B' V'
  | none=>none
 | .gd [] (.ptr i off)=>if lk.b.contains i=true then none else
  match cG P T,y,B[i]?,lfT P 20 T with
  | some ti,.cv c,some b,[l] =>
   if (b.live&&ti.size == 1&&l.flatK&&l.ok c)=true then
    match gC b.cs with
    | some cs=>chk (oks [l] cs off) (K (B.set i ⟨b.live,b.T,(SK l off c cs 0).map .cv⟩) V)
    | none=>none
   else none
  | some ti,.agg ys,some b,ls =>
   if (b.live&&ti.size == ls.length&&ti.size != 0&&ls.all Lf.flatK)=true then
    match gC ys,gC b.cs with
    | some new,some cs=>if (new.length == ls.length&&(ls.zip new).all fun p=>p.1.ok p.2)=true then chk (oks ls cs off) (K (B.set i ⟨b.live,b.T,(VJ ls off new cs).map .cv⟩) V) else none
    | _,_=>none
   else none
  | _,_,_,_=>none
 | _=>none
def CM (P:Program) (lk:Lk) (B:List Box) (V:List Vec) (T:TypeId) (s x:AV) (K:AV->List Box->List Vec->Option Ou):Option Ou:=
 match cG P T,s with
 | some ⟨_,_,.slc e k by_⟩,.own i u=>if lk.v.contains i=true then none else
  match cG P e,V[i]?,AE ⟨[],B,V⟩ k x with
  | some te,some v,some new =>
   if (v.sl&&v.ver == u&&v.k == k&&v.T == e)=true/\te.zero.length=k/\te.size=k/\k≠0 then
    chk (cJ v.es.length new.length by_) (K (.own i (v.ver+1)) B (V.set i ⟨v.live,v.T,v.k,v.ver+1,v.es++new⟩))
   else none
  | _,_,_=>none
 | _,_=>none
def ZC (x:AV):Option AV:=match x with
 | .gd [] (.ptr i o)=>some (.gd [] (.ptr i o))
 | x=>AF x
variable {x a:AV}
theorem aCa {m:Emb} (h:ZC x=some a):AF (x.cz m)=some (a.cz m)/\(∀ nb nv,AV.inn nb nv x=true->AV.inn nb nv a=true):=by
 unfold ZC at h;split at h
 ·grind [AV.cz,AF]
 ·exact aDF h
def isLit:Operand->Bool
 | .const _=>true
 | _=>false
def sOp (P:Program) (lk:Lk) (s:SS) (op:Op) (K:AV->List Box->List Vec->Option Ou):Option Ou:=
 match op with
 | .move x=>K (s.ev x) s.B s.V
 | .assign x=>K (s.ev x) s.B s.V
 | .pick c a b=>match s.ev c with
  | .cv (.val (.bool x))=>aA x (K (s.ev a) s.B s.V) (K (s.ev b) s.B s.V)
  | _=>none
 | .alloc T=>match pT P ⟨[],s.B,s.V⟩ T with
  | some (a,B,V)=>K a B V
  | none=>none
 | .box T x=>match JU ⟨[],s.B,s.V⟩ T (s.ev x) with
  | some (a,B,V)=>K a B V
  | none=>none
 | .build T parts=>match mD P T (parts.toList.map fun p=>(p.1,s.ev p.2)) with
  | some a=>K a s.B s.V
  | none=>none
 | .buildSlice T len parts=>match bU P ⟨[],s.B,s.V⟩ T len (parts.toList.map fun p=>(p.1,s.ev p.2)) with
  | some (a,B,V)=>K a B V
  | none=>none
 | .load T a=>aDI P s.B s.V T (s.ev a) fun x=>K x s.B s.V
 | .store T a x=>KJ P lk s.B s.V T (s.ev a) (s.ev x) fun B V=>K .any B V
 | .binOp op T x y _=>aIB P op T (s.ev x) (s.ev y) fun r=>K r s.B s.V
 | .unOp op _ x=>match RX op (s.ev x) with
  | some a=>K a s.B s.V
  | none=>none
 | .fieldAddr T x f=>match ZA P T (s.ev x) f with
  | some a=>K a s.B s.V
  | none=>none
 | .indexAddr T x i=>BC P s.V T (isLit i) (s.ev x) (s.ev i) fun r=>K r s.B s.V
 | .index T x i=>ZB P T (isLit i) (s.ev x) (s.ev i) fun r=>K r s.B s.V
 | .extract x i=>match kH (s.ev x) i with
  | some a=>K a s.B s.V
  | none=>none
 | .convert T T' x=>match AW P T T' (s.ev x) with
  | some a=>K a s.B s.V
  | none=>none
 | .field T x f=>match CF P T (s.ev x) f with
  | some a=>K a s.B s.V
  | none=>none
 | .nilCheck x=>match ZC (s.ev x) with
  | some a=>K a s.B s.V
  | none=>none
 | .makeFunc (.func f) first caps=>if vU (caps.toList.map s.ev)=true then none else
  if first.size=0 then K (.fn f (caps.toList.map s.ev)) s.B s.V else if caps.size=0/\first.size=1 then K (.fn f (.gd [false] .any::first.toList.map s.ev)) s.B s.V else none
 | .slice T x lo hi none=>SH P T (s.ev x) (lo.map s.ev) (hi.map s.ev) fun r=>K r s.B s.V
 | .slice T x none (some (.const (.int _ 0))) (some (.const (.int _ 0)))=>match qG P ⟨[],s.B,s.V⟩ T (s.ev x) with
  | some (a,B,V)=>K a B V
  | none=>none
 | .slice T x lo (some (.tmp p)) (some (.tmp q))=>SI P T (s.ev x) (lo.map s.ev) (s.ev (.tmp p)) (s.ev (.tmp q)) fun r=>K r s.B s.V
 | .call { callee:=.builtin .len,args,argTypes } =>
  match args.toList,argTypes.toList with
  | [x],[T]=>match tD P ⟨[],s.B,s.V⟩ T (s.ev x) with
   | some a=>K a s.B s.V
   | none=>none
  | _,_=>none
 | .call { callee:=.builtin .append,args,argTypes } =>
  match args.toList,argTypes.toList with
  | [a,x],[T,T']=>if T=T' then CM P lk s.B s.V T (s.ev a) (s.ev x) K else none
  | _,_=>none
 | .call { callee:=.builtin .max,args,.. }=>match JS true (args.toList.map s.ev) with
  | some a=>K a s.B s.V
  | none=>none
 | .call { callee:=.builtin .min,args,.. }=>match JS false (args.toList.map s.ev) with
  | some a=>K a s.B s.V
  | none=>none
 | _=>none
def OpOK (P:Program) (m:Emb) (lk:Lk) (s:SS) (st:St) (op:Op) (K:AV->List Box->List Vec->Option Ou) (r:Ou):Prop:=
 ∃ a x B V B' V' m',dB P st op=some (a,B',V')/\AV.le a (x.cz m')/\(x.clo=true\/a=x.cz m')/\K x B V=some r /\
  EmM m' B V B' V'/\Stp m st.B st.V m' B' V'/\(∀ i,i<m.vm.length->m'.fo i=m.fo i)/\AV.inn B.length V.length x=true/\s.B.length<=B.length/\s.V.length<=V.length /\
  (∀ i∈lk.b,i<s.B.length->B[i]? = s.B[i]?)/\(∀ i∈lk.v,i<s.V.length->V[i]? = s.V[i]?)
variable {m:Emb} {lk:Lk} {s:SS} {st:St} {K:AV->List Box->List Vec->Option Ou} {r:Ou}
variable {op:Op}
theorem OpOK.pure (hE:Em m s st) (h:dB P st op=some (a,st.B,st.V)) (bq:AV.le a (x.cz m)) (hc:x.clo=true\/a=x.cz m) (dc:AV.inn s.B.length s.V.length x=true) (hK:K x s.B s.V=some r) :
  OpOK P m lk s st op K r:=
 ⟨a,x,s.B,s.V,st.B,st.V,m,h,bq,hc,hK,hE.m,Stp.refl _ _ _,fun _ _=>rfl,dc,Nat.le_refl _,Nat.le_refl _,fun _ _ _=>rfl,fun _ _ _=>rfl⟩
theorem OpOK.pureE (hE:Em m s st) (h:dB P st op=some (x.cz m,st.B,st.V)) (dc:AV.inn s.B.length s.V.length x=true) (hK:K x s.B s.V=some r) :
  OpOK P m lk s st op K r:=OpOK.pure hE h (AV.le_refl _) (.inr rfl) dc hK
theorem PF (hE:Em m s st) (parts:List (Nat×Operand)):parts.map (fun p=>(p.1,st.ev p.2))=(parts.map fun p=>(p.1,s.ev p.2)).map fun p=>(p.1,p.2.cz m):=by
 simp only [List.map_map];exact List.map_congr_left fun p _=>by simp [-St.ev,hE.ev]
theorem PG {nb nv:Nat} {cs:List AV} (h:x.cells=some cs) (hx:AV.inn nb nv x=true):AV.inns nb nv cs=true:=by
 have _:=G;cases x <;> simp only [AV.cells,Option.some.injEq,reduceCtorEq] at h <;> subst h <;> simp_all [AV.inn,AV.inns]
theorem aDL (hE:Em m s st) {k:Nat} {es:List (List CV)} (h:AE ⟨[],s.B,s.V⟩ k x=some es):AE st k (x.cz m)=some es:=by
 have _:=G;unfold AE at h;split at h
 ·grind [AV.cz,AE]
 ·grind [AV.cz,AE]
 ·rename_i j u
  split at h
  ·rename_i v hv
   split at h
   ·rename_i hc
    simp at hc;obtain ⟨⟨c1,rfl⟩,c3⟩:=hc;have h1:=hE.m.v j v hv (.inl (Vec.sl_live c1));simp_all [AV.cz,Vec.cz,Vec.sl]
   grind
  grind
 grind
theorem aDM (hE:Em m s st) {T:TypeId} (h:tD P ⟨[],s.B,s.V⟩ T x=some a):tD P st T (x.cz m)=some a/\∃ c,a=.cv c:=by
 have _:=G;unfold tD at h;split at h
 ·split at h
  ·grind [AV.cz,tD]
  ·grind [AV.cz,tD]
  ·rename_i i u
   split at h
   ·rename_i v hv
    split at h
    ·rename_i hc
     simp at hc;obtain ⟨c1,rfl⟩:=hc;have h1:=hE.m.v i v hv (.inl (Vec.sl_live c1));grind [AV.cz,tD,Vec.cz,Vec.sl_mk]
    grind
   grind
  grind
 ·cases h;simp_all
 grind
theorem kS {l:List Nat} {A:Type} {i:Nat} {xs:List A} {y:A} (h:¬l.contains i=true):∀ j∈l,j<xs.length->(xs.set i y)[j]? = xs[j]?:=by
 have _:=G;grind
theorem ZD {cs:List CV} {off:Nat} {c:CV} (h:off<cs.length):splice (cs.map .cv) off [.cv c]=(cs.set off c).map .cv:=by
 have _:=G;grind [splice,List.set_eq_take_append_cons_drop,List.map_take,List.map_drop]
theorem nR:∀ (cs:List CV),gC (cs.map .cv)=some cs
 | []=>have _:=G;rfl
 | c::cs=>by simp [nR cs]
theorem oK (hE:Em m s st) (h:sOp P lk s op K=some r):OpOK P m lk s st op K r:=by
 have aw:=hE.ev;have dc:=hE.innEv;unfold sOp at h;split at h
 ·rename_i x
  exact OpOK.pureE hE (x:=s.ev x) (by simp_all) (dc x) h
 ·rename_i x
  exact OpOK.pureE hE (x:=s.ev x) (by simp_all) (dc x) h
 ·rename_i c a b
  split at h
  ·rename_i x hc
   cases x with
   | true =>
    refine OpOK.pureE hE (x:=s.ev a) ?_ (dc a) h;simp only [dB,aw,hc,AV.cz,EI];grind
   | false =>
    refine OpOK.pureE hE (x:=s.ev b) ?_ (dc b) h;simp only [dB,aw,hc,AV.cz,EI];grind
  ·cases h
 ·rename_i T
  split at h
  ·rename_i a B V ha
   unfold pT at ha;split at ha
   ·rename_i ti ar
    split at ha
    ·rename_i hz
     obtain ⟨rfl,rfl,rfl⟩:=ha;refine ⟨_,_,_,_,st.B++[⟨true,T,iG ti.zero⟩],st.V,m.pushB st.B.length,?_,AV.le_refl _,.inr rfl,h,?_,Stp.pushB _,fun _ _=>rfl,by simp [AV.inn],by simp,Nat.le_refl _,fun i _ hi=>by grind,fun _ _ _=>rfl⟩
     ·simp only [dB,pT,ar]
      rw [if_pos hz];simp only [AV.cz];rw [<- hE.m.bl,Emb.pushB_new]
     ·have:=hE.m.pushB (b:=⟨true,T,iG ti.zero⟩) (by rw [AV.inns_eq];exact BB _ _ _)
      grind [Box.cz,AV.czs_eq,zA]
    ·cases ha
   ·cases ha
  ·cases h
 ·rename_i T x
  split at h
  ·rename_i a B V ha
   unfold JU at ha;split at ha
   ·rename_i cs aT
    split at ha
    ·rename_i ho
     obtain ⟨rfl,rfl,rfl⟩:=ha;have Dl:=PG aT (dc x);have hu:=Emb.pushB_up m st.B.length;have ka:AV.czs (m.pushB st.B.length) cs=cs.map (AV.cz m):=by rw [AV.czs_up hu (fun _ _=>rfl) cs (by rw [hE.m.bl,hE.m.vl];exact Dl),AV.czs_eq]
     refine ⟨_,_,_,_,st.B++[⟨true,T,cs.map (AV.cz m)⟩],st.V,m.pushB st.B.length,?_,AV.le_refl _,.inr rfl,h,?_,Stp.pushB _,fun _ _=>rfl,by simp [AV.inn],by simp,Nat.le_refl _,fun i _ hi=>by grind,fun _ _ _=>rfl⟩
     ·simp only [dB,aw,JU,AV.cells_cz aT]
      rw [if_pos (IW ho)];simp only [AV.cz];rw [<- hE.m.bl,Emb.pushB_new]
     ·have:=hE.m.pushB (b:=⟨true,T,cs⟩) Dl
      grind [Box.cz]
    ·cases ha
   ·cases ha
  ·cases h
 ·split at h
  ·rename_i a ha
   refine OpOK.pureE hE (x:=a) ?_ (VG ha ?_) h
   ·simp only [dB,PF hE,YY ha,Option.map_some]
   grind
  ·cases h
 ·rename_i T len parts
  split at h
  ·rename_i a B V ha
   unfold bU at ha;split at ha
   ·rename_i a1 a2 e k a3 ar
    split at ha
    ·rename_i te fh
     split at ha
     ·rename_i hc
      split at ha
      ·rename_i out tw
       simp at ha;obtain ⟨cs,aT,rfl,rfl,rfl⟩:=ha;have hl:m.vb.length=m.vm.length:=by rw [hE.m.ol,hE.m.vl]
       refine ⟨_,_,_,_,st.B,st.V++[⟨true,e,k,0,aS k len cs⟩],m.pushV st.V.length,?_,AV.le_refl _,.inr rfl,h,?_,Stp.pushV _,Emb.pushV_fo _ hl,by simp [AV.inn],Nat.le_refl _,by simp,fun _ _ _=>rfl,fun i _ hi=>by grind⟩
       ·simp only [dB,bU,ar,fh]
        rw [if_pos hc];have:=yZ (m:=m) tw;rw [zA,<- PF hE] at this;simp only [this,fC aT,nR,Option.map_some,AV.cz];rw [<- hE.m.vl,Emb.pushV_new,Emb.pushV_new0 _ hl]
       ·exact hE.m.pushV (v:=⟨true,e,k,0,aS k len cs⟩)
      ·cases ha
     ·cases ha
    ·cases ha
   ·cases ha
  ·cases h
 ·rename_i T a
  obtain ⟨q,y,h1,h2,h3,h4,h5⟩:=YZ hE (dc a) h;exact OpOK.pure hE (by simp_all) h2 h3 h4 h5
 ·rename_i T a x
  unfold KJ at h;split at h
  ·rename_i i off hx
   split at h
   ·cases h
   ·rename_i cw
    split at h
    ·rename_i B' V' hs
     unfold iE at hs;split at hs
     ·rename_i ti i' off' new ar hp am
      injection hp with A5 A6
      subst A5;subst A6;split at hs
      ·rename_i b hb
       split at hs
       ·rename_i hc
        simp only [Bool.and_eq_true,beq_iff_eq,decide_eq_true_eq] at hc;obtain ⟨⟨⟨c1,c2⟩,c3⟩,c4⟩:=hc;have c3':=c3;rw [c2] at c3';obtain ⟨rfl,rfl⟩:=hs;have aq:=(List.getElem?_eq_some_iff.1 hb).1;obtain ⟨bv,jb⟩:=hE.m.b i b hb
        have ju:AV.inns s.B.length s.V.length (splice b.cs off new)=true:=by
         have hn:=PG am (dc x);grind [AV.inns_eq,splice]
        refine ⟨.any,.any,_,_,st.B.set (m.fb i) ((⟨b.live,b.T,splice b.cs off new⟩:Box).cz m),st.V,m,?_,AV.le_refl _,.inr (by simp [AV.cz]),h,hE.m.setB aq ju,Stp.setB hE.m aq _,fun _ _=>rfl,rfl,by simp,Nat.le_refl _,kS cw,fun _ _ _=>rfl⟩
        simp only [dB,aw,hx,AV.cz,iE,ar,AV.cells_cz am,bv,Box.cz,c1,c2,AV.czs_eq,List.length_map,aB7,IW c4,c3',decide_true,beq_self_eq_true,Bool.and_self,if_true,Option.map_some]
       ·cases hs
      ·cases hs
     ·cases hs
    ·cases h
  ·rename_i i off hx
   split at h
   ·cases h
   ·rename_i cw
    split at h
    ·rename_i ti c b l ar hy hb hl
     split at h
     ·rename_i hc
      simp at hc;obtain ⟨⟨⟨c1,c2⟩,c3⟩,c4⟩:=hc;split at h
      ·rename_i cs aT
       obtain ⟨h1,h2⟩:=aO h;obtain ⟨d,h3,h4⟩:=rO h1 0 l (by simp)
       simp at h3;have aq:=(List.getElem?_eq_some_iff.1 hb).1;have Es:=(List.getElem?_eq_some_iff.1 h3).1;obtain ⟨bv,jb⟩:=hE.m.b i b hb
       have ss:SK l off c cs 0=cs.set off c:=by
        have:=SL c3 c4 cs 0 off (fun c' gq=>by grind)
        grind
       rw [ss] at h2
       have ju:AV.inns s.B.length s.V.length ((cs.set off c).map .cv)=true:=by
        rw [AV.inns_eq,List.all_eq_true];intro y hy;obtain ⟨q,_,rfl⟩:=List.mem_map.1 hy;rfl
       refine ⟨.any,.any,_,_,st.B.set (m.fb i) ((⟨b.live,b.T,(cs.set off c).map .cv⟩:Box).cz m),st.V,m,?_,AV.le_refl _,.inr (by simp [AV.cz]),h2,hE.m.setB aq ju,Stp.setB hE.m aq _,fun _ _=>rfl,rfl,by simp,Nat.le_refl _,kS cw,fun _ _ _=>rfl⟩
       have E7:AV.czs m b.cs=cs.map .cv:=by rw [AV.czs_eq];exact fC aT
       have iF:∀ (l:List CV),AV.czs m (l.map .cv)=l.map .cv:=by intro l;simp [AV.czs_eq,AV.cz]
       simp only [dB,aw,hx,hy,AV.cz,iE,ar,AV.cells,bv,Box.cz,c1,E7,iF,ZD Es];rw [if_pos (by simp [AV.one];omega)]
       simp
      ·cases h
     ·cases h
    ·rename_i ti ys b ar hy hb
     split at h
     ·rename_i hc
      simp only [Bool.and_eq_true] at hc;obtain ⟨⟨⟨c1,c2⟩,cne⟩,c3⟩:=hc;split at h
      ·rename_i new cs am aT
       split at h
       ·rename_i i6
        simp only [Bool.and_eq_true,beq_iff_eq] at i6;obtain ⟨h1,h2⟩:=aO h;have aq:=(List.getElem?_eq_some_iff.1 hb).1;obtain ⟨bv,jb⟩:=hE.m.b i b hb
        by_cases ck:off+new.length<=cs.length
        case neg =>
         cases Dm:lfT P 20 T with
         | nil=>grind
         | cons l0 ls0 =>
          obtain ⟨c0,g1,g2⟩:=rO h1 ((l0::ls0).length - 1) ((l0::ls0).getLast (by simp)) (by grind)
          grind
        rw [VK c3 i6.1 i6.2 h1 ck] at h2
        have ju:AV.inns s.B.length s.V.length ((cs.take off++new++cs.drop (off+new.length)).map .cv)=true:=by
         rw [AV.inns_eq,List.all_eq_true];intro y hy;obtain ⟨q,_,rfl⟩:=List.mem_map.1 hy;rfl
        refine ⟨.any,.any,_,_,st.B.set (m.fb i) ((⟨b.live,b.T,(cs.take off++new++cs.drop (off+new.length)).map .cv⟩:Box).cz m),st.V,m,?_,AV.le_refl _,.inr (by simp [AV.cz]),h2,hE.m.setB aq ju,Stp.setB hE.m aq _,fun _ _=>rfl,rfl,by simp,Nat.le_refl _,kS cw,fun _ _ _=>rfl⟩
        have E7:AV.czs m b.cs=cs.map .cv:=by rw [AV.czs_eq];exact fC aT
        have Oy:AV.czs m ys=new.map .cv:=by rw [AV.czs_eq];exact fC am
        have iF:∀ (l:List CV),AV.czs m (l.map .cv)=l.map .cv:=by intro l;simp [AV.czs_eq,AV.cz]
        simp only [dB,aw,hx,hy,AV.cz,iE,ar,AV.cells,bv,Box.cz,iF];simp_all
       ·cases h
      ·cases h
     ·cases h
    ·cases h
  ·cases h
 ·obtain ⟨c,h1,h2⟩:=aB9 h m
  exact OpOK.pureE hE (x:=.cv c) (by grind [dB,AV.cz]) rfl h2
 ·split at h
  ·rename_i a ha
   obtain ⟨h1,c,rfl⟩:=aGG (m:=m) ha;exact OpOK.pureE hE (x:=.cv c) (by simp_all) rfl h
  ·cases h
 ·rename_i T x f
  split at h
  ·rename_i a ha
   obtain ⟨h1,h2⟩:=VH (m:=m) ha;exact OpOK.pureE hE (x:=a) (by simp_all) (h2 _ _ (dc x)) h
  ·cases h
 ·rename_i T x i
  obtain ⟨y,h1,h2,h3⟩:=HV hE (dc x) h;exact OpOK.pureE hE (x:=y) (by simp_all) h2 h3
 ·rename_i T x i
  obtain ⟨a,y,h1,h2,h3,h4,h5⟩:=VI (m:=m) (dc x) h;exact OpOK.pure hE (by simp_all) h2 h3 h4 h5
 ·rename_i x i
  split at h
  ·rename_i a ha
   obtain ⟨h1,h2⟩:=SG (m:=m) ha;exact OpOK.pureE hE (x:=a) (by simp_all) (h2 _ _ (dc x)) h
  ·cases h
 ·split at h
  ·rename_i a ha
   obtain ⟨h1,h2⟩:=aB8 (m:=m) ha;exact OpOK.pureE hE (x:=a) (by simp_all) (h2 _ _) h
  ·cases h
 ·rename_i T x f
  split at h
  ·rename_i a ha
   obtain ⟨h1,h2⟩:=aDG (m:=m) ha;exact OpOK.pureE hE (x:=a) (by simp_all) (h2 _ _ (dc x)) h
  ·cases h
 ·rename_i x
  split at h
  ·rename_i a ha
   obtain ⟨h1,h2⟩:=aCa (m:=m) ha;exact OpOK.pureE hE (x:=a) (by simp_all) (h2 _ _ (dc x)) h
  ·cases h
 ·rename_i f first caps
  split at h
  ·cases h
  rename_i jq;have ka:caps.toList.map st.ev=AV.czs m (caps.toList.map s.ev):=by simp_all [AV.czs_eq,List.map_map]
  have K3:sN (caps.toList.map st.ev)=false:=by rw [ka];exact KI m (eq_false_of_ne_true jq)
  split at h
  ·rename_i hf
   refine OpOK.pureE hE (x:=.fn f (caps.toList.map s.ev)) ?_ ?_ h
   ·simp_all [dB,AV.cz]
   grind [AV.inn,AV.inns_eq]
  ·rename_i hf
   split at h
   ·rename_i hc
    have K4:first.toList.map st.ev=AV.czs m (first.toList.map s.ev):=by simp_all [AV.czs_eq,List.map_map]
    refine OpOK.pureE hE (x:=.fn f (.gd [false] .any::first.toList.map s.ev)) ?_ ?_ h
    ·simp_all [AV.cz,AV.czs]
    ·simp [AV.inn,AV.inns_eq]
     grind
   ·cases h
 ·obtain ⟨c,h1,h2⟩:=GQ (m:=m) h
  refine OpOK.pureE hE (x:=.cv c) ?_ rfl h2;have e1:∀ (o:Option Operand),fO st o=(o.map s.ev).map (AV.cz m):=by intro o;cases o <;> simp only [fO,Option.map_some,Option.map_none,aw]
  grind [dB,AV.cz]
 ·split at h
  ·rename_i a B V ha
   unfold qG at ha;split at ha
   ·rename_i a1 a2 e k a3 ar
    split at ha
    ·cases ha
    ·rename_i hk
     split at ha
     ·rename_i k' es hx
      obtain ⟨rfl,rfl,rfl⟩:=ha;have hl:m.vb.length=m.vm.length:=by rw [hE.m.ol,hE.m.vl]
      refine ⟨_,_,_,_,st.B,st.V++[⟨true,e,k,0,[]⟩],m.pushV st.V.length,?_,AV.le_refl _,.inr rfl,h,?_,Stp.pushV _,Emb.pushV_fo _ hl,by simp [AV.inn],Nat.le_refl _,by simp,fun _ _ _=>rfl,fun i _ hi=>by grind⟩
      ·simp only [dB,qG,ar,if_neg hk,aw,hx,AV.cz]
       rw [<- hE.m.vl,Emb.pushV_new,Emb.pushV_new0 _ hl]
      ·exact hE.m.pushV (v:=⟨true,e,k,0,[]⟩)
     ·cases ha
   ·cases ha
  ·cases h
 ·obtain ⟨c,h1,h2⟩:=SJ (m:=m) h
  refine OpOK.pureE hE (x:=.cv c) ?_ rfl h2;have e1:∀ (o:Option Operand),fO st o=(o.map s.ev).map (AV.cz m):=by intro o;cases o <;> simp only [fO,Option.map_some,Option.map_none,aw]
  grind [dB,AV.cz]
 ·split at h
  ·split at h
   ·rename_i a ha
    obtain ⟨h3,c,rfl⟩:=aDM hE ha;exact OpOK.pureE hE (x:=.cv c) (by grind [dB,AV.cz]) rfl h
   ·cases h
  ·cases h
 ·split at h
  ·rename_i a x T T' h1 h2
   split at h
   ·rename_i hT
    subst hT;unfold CM at h;split at h
    ·rename_i a1 a2 e k by_ i u ar ha
     split at h
     ·cases h
     ·rename_i cw
      split at h
      ·rename_i te v new fh hv mh
       split at h
       ·rename_i hc
        simp at hc;obtain ⟨⟨⟨⟨c1,rfl⟩,c3⟩,c4⟩,c5⟩:=hc;obtain ⟨h4,h5⟩:=aO h;simp [cJ] at h4;have aq:=(List.getElem?_eq_some_iff.1 hv).1;have bt:=hE.m.v i v hv (.inl (Vec.sl_live c1));have na:(v.live&&decide (e<bQ))=true:=by rw [<- c4];exact c1
        refine ⟨_,_,_,_,st.B,st.V.set (m.fv i) ((⟨v.live,v.T,v.k,v.ver+1,v.es++new⟩:Vec).cz m i),m,?_,AV.le_refl _,.inr rfl,h5,hE.m.setV aq,Stp.setV hE.m aq _,fun _ _=>rfl,by simpa [AV.inn] using aq,Nat.le_refl _,by simp,fun _ _ _=>rfl,kS cw⟩
        simp only [dB,h1,h2,aw,ha,AV.cz,tE,ar,bt,aDL hE mh,Vec.cz,Vec.sl];grind
       ·cases h
      ·cases h
    ·cases h
   ·cases h
  ·cases h
 ·rename_i args ats
  split at h
  ·rename_i a ha
   obtain ⟨h3,c,rfl⟩:=aA3 (m:=m) ha;refine OpOK.pureE hE (x:=.cv c) ?_ rfl h;have:args.toList.map st.ev=(args.toList.map s.ev).map (AV.cz m):=by simp_all
   grind [dB]
  ·cases h
 ·rename_i args ats
  split at h
  ·rename_i a ha
   obtain ⟨h3,c,rfl⟩:=aA3 (m:=m) ha;refine OpOK.pureE hE (x:=.cv c) ?_ rfl h;have:args.toList.map st.ev=(args.toList.map s.ev).map (AV.cz m):=by simp_all
   grind [dB]
  ·cases h
 ·cases h
end
inductive Sc where
 | one (l:Lf)
 | agg (ls:List Lf)
 deriving DecidableEq
def Sc.n:Sc->Nat
 | .one _=>1
 | .agg ls=>ls.length
def Sc.av:Sc->List CV->Nat->AV
 | .one l,vs,k=>l.av (vs.getD k dC)
 | .agg ls,vs,k=>.agg (avs ls vs k)
def Sc.avs:List Sc->List CV->Nat->List AV
 | [],_,_=>[]
 | c::cs,vs,k=>c.av vs k::Sc.avs cs vs (k+c.n)
def Sc.res:List Sc->List CV->AV
 | [c],vs=>c.av vs 0
 | cs,vs=>.tup (Sc.avs cs vs 0)
def Lf.scalar:Lf->Bool
 | .int _=>true
 | .bool=>true
 | _=>false
def Sc.flat:Sc->Bool
 | .one l=>l.scalar
 | .agg ls=>ls.all Lf.scalar
structure Sig where
 ps:List Sc
 rs:List Sc
abbrev Den:=FuncId->List CV->Option (List CV)
def dY (sg:FuncId->Option Sig) (M:Den) (c:CV) (args:List CV) (ps rs:List Sc):Option (List CV):=
 match c with
 | .fn f caps=>match sg f with
  | some g=>if g.ps=ps++List.replicate caps.length (.one .ref)/\g.rs=rs/\caps.all (fun c=>Lf.ref.ok c)=true then M f (args++caps) else none
  | none=>none
 | _=>none
def aCb (B:List Box) (V:List Vec):AV->Option (CV×Bool)
 | .cv c=>some (c,false)
 | .own i g=>match iS V (.own i g) with
  | some c=>some (c,true)
  | none=>none
 | .ptr i 0=>match B[i]? with
  | some b=>match b.live,iH V b.cs with
   | true,some cs=>some (.ref cs,true)
   | _,_=>none
  | none=>none
 | _=>none
def GR (B:List Box) (V:List Vec):List AV->Option (List CV×Bool)
 | []=>some ([],false)
 | x::xs=>match aCb B V x,GR B V xs with
  | some (c,b),some (cs,b')=>some (c::cs,b || b')
  | _,_=>none
def lnd (B:List Box) (V:List Vec) (x:AV):Option (CV×Bool):=
 match x with
 | .fn f xs=>match GR B V xs with
  | some (cs,b)=>some (.fn f cs,b)
  | none=>none
 | x=>aCb B V x
def aGI (B:List Box) (V:List Vec) (c:Sc) (x:AV):Option (List CV×Bool):=
 match c,x with
 | .one l,x=>match lnd B V x with
  | some (c,b)=>if l.ok c=true then some ([c],b) else none
  | none=>none
 | .agg ls,.agg xs=>match GR B V xs with
  | some (cs,b)=>if (oks ls cs 0&&ls.length == cs.length)=true then some (cs,b) else none
  | none=>none
 | _,_=>none
def iB (B:List Box) (V:List Vec):List Sc->List AV->Option (List CV×Bool)
 | [],[]=>some ([],false)
 | c::cs,x::xs=>match aGI B V c x,iB B V cs xs with
  | some (l,b),some (l',b')=>some (l++l',b || b')
  | _,_=>none
 | _,_=>none
section
variable {P:Program} {m:Emb} {B:List Box} {V:List Vec} {B1:List Box} {V1:List Vec}
variable {x:AV} {c:CV}
theorem VL (hE:EmM m B V B1 V1) (h:iS V x=some c):iS V1 (x.cz m)=some c:=by
 have _:=G;unfold iS at h;split at h
 ·grind [AV.cz,iS]
 ·rename_i i g
  split at h
  ·rename_i v hv
   split at h
   ·rename_i hc
    simp at hc;obtain ⟨c1,rfl⟩:=hc;have h1:=hE.v i v hv (.inl c1);simp_all [AV.cz,iS,Vec.cz]
   grind
  grind
 grind
theorem ER (hE:EmM m B V B1 V1):∀ {xs:List AV} {cs:List CV},iH V xs=some cs->iH V1 (AV.czs m xs)=some cs
 | [],cs,h=>by grind [AV.czs,iH]
 | x::xs,cs,h=>by
  simp only [iH] at h;split at h
  ·rename_i c cs' h1 h2
   cases h;simp only [AV.czs,iH,VL hE h1,ER hE h2]
  ·cases h
variable {b:Bool}
theorem PH (hE:EmM m B V B1 V1) (h:aCb B V x=some (c,b)):AV.lend B1 V1 (x.cz m)=.cv c/\(b=false->x=.cv c):=by
 unfold aCb at h;split at h
 ·grind [AV.cz,AV.lend]
 ·split at h
  ·rename_i c' hc
   have:=VL hE hc;grind [AV.cz,AV.lend]
  grind
 ·rename_i i
  split at h
  ·rename_i b' hb
   split at h
   ·rename_i cs hl aT
    cases h;obtain ⟨h1,_⟩:=hE.b i b' hb;simp [AV.cz,h1,Box.cz,hl,ER hE aT]
   grind
  grind
 grind
theorem BD (hE:EmM m B V B1 V1):∀ {xs:List AV} {cs:List CV} {b:Bool},GR B V xs=some (cs,b)->AV.lends B1 V1 (AV.czs m xs)=cs.map .cv/\(b=false->xs=cs.map .cv)
 | [],cs,b,h=>by grind [GR,AV.czs,AV.lends]
 | x::xs,cs,b,h=>by
  simp [GR] at h;split at h
  ·rename_i c b1 cs' b2 h1 h2
   obtain ⟨p1,p2⟩:=PH hE h1;obtain ⟨q1,q2⟩:=BD hE h2;grind [AV.czs,AV.lends]
  grind
theorem BE:∀ (cs:List CV),AV.closeds (cs.map .cv)=true
 | []=>have _:=G;rfl
 | c::cs=>by simp [BE cs]
theorem aIc (f:FuncId) (cs:List CV):AV.le (.fn f (cs.map .cv)) (.cv (.fn f cs)):=by
 intro e w ks v hv;obtain ⟨vs,h1,h2⟩:=hv;exact ⟨vs,by rw [aGz] at h1;exact h1,lT h2⟩
variable {xs:List AV}
theorem aDN {p:List CV×Bool} (h:GR B V xs=some p):vU xs=false:=by
 have _:=G
 match xs with
 | []=>rfl
 | .gd _ _::_=>grind [GR,aCb]
 | .any::_=>rfl
 | .cv _::_=>rfl
 | .ptr _ _::_=>rfl
 | .own _ _::_=>rfl
 | .opt _ _ _ _::_=>rfl
 | .agg _::_=>rfl
 | .tup _::_=>rfl
 | .fn _ _::_=>rfl
theorem aDO (hE:EmM m B V B1 V1) (h:lnd B V x=some (c,b)):AV.le (AV.lend B1 V1 (x.cz m)) (.cv c)/\(b=false->AV.le (x.cz m) (.cv c)/\AV.closed (x.cz m)=true):=by
 unfold lnd at h;split at h
 ·rename_i f xs
  split at h
  ·rename_i cs b' h1
   cases h;obtain ⟨p1,p2⟩:=BD hE h1;have jq:=KI m (aDN h1);refine ⟨by simp [AV.cz,p1,jq];exact aIc f cs,fun hb=>?_⟩
   have:=p2 hb;subst this;have ka:AV.czs m (cs.map .cv)=cs.map .cv:=by simp [AV.czs_eq,AV.cz]
   refine ⟨by simp [AV.cz,ka];exact aIc f cs,?_⟩
   simp [AV.cz,ka];exact BE cs
  grind
 ·obtain ⟨p1,p2⟩:=PH hE h
  refine ⟨by rw [p1];exact AV.le_refl _,fun hb=>?_⟩
  rw [p2 hb];exact ⟨by exact AV.le_refl _,by rfl⟩
theorem avs_cut:∀ (ls:List Lf) (vs vs':List CV) (k k':Nat),(∀ j,j<ls.length->vs.getD (k+j) dC=vs'.getD (k'+j) dC)->avs ls vs k=avs ls vs' k'
 | [],_,_,_,_,_=>have _:=G;rfl
 | l::ls,vs,vs',k,k',h=>by
  simp only [avs];rw [avs_cut ls vs vs' (k+1) (k'+1) (fun j hj=>by have:=h (j+1) (by simp;omega);grind)]
  have:=h 0 (by simp)
  grind
theorem Sc.av_cut (c:Sc) (vs vs':List CV) (k k':Nat) (h:∀ j,j<c.n->vs.getD (k+j) dC=vs'.getD (k'+j) dC):c.av vs k=c.av vs' k':=by
 cases c with
 | one l=>simp_all [Sc.n,Sc.av]
 | agg ls=>simp [Sc.av];rw [avs_cut ls vs vs' k k' h]
theorem Sc.avs_cut:∀ (cs:List Sc) (vs vs':List CV) (k k':Nat),(∀ j,vs.getD (k+j) dC=vs'.getD (k'+j) dC)->Sc.avs cs vs k=Sc.avs cs vs' k'
 | [],_,_,_,_,_=>rfl
 | c::cs,vs,vs',k,k',h=>by
  simp only [Sc.avs];rw [Sc.av_cut c vs vs' k k' fun j _=>h j,Sc.avs_cut cs vs vs' (k+c.n) (k'+c.n) fun j=>by have:=h (c.n+j);rw [show k+c.n+j=k+(c.n+j) by omega,show k'+c.n+j=k'+(c.n+j) by omega];exact this]
theorem aCc (hE:EmM m B V B1 V1) {c:Sc} {l:List CV} (h:aGI B V c x=some (l,b)) :
  l.length=c.n/\AV.le (AV.lend B1 V1 (x.cz m)) (c.av l 0)/\(b=false->AV.le (x.cz m) (c.av l 0)/\AV.closed (x.cz m)=true):=by
 unfold aGI at h;split at h
 ·split at h
  ·rename_i c' b' h1
   split at h
   ·rename_i aa
    cases h;obtain ⟨p1,p2⟩:=aDO hE h1;have bq:=Lf.le aa;exact ⟨rfl,fun e w ks v hv=>bq _ _ _ _ (p1 _ _ _ _ hv),fun hb=>⟨fun e w ks v hv=>bq _ _ _ _ ((p2 hb).1 _ _ _ _ hv),(p2 hb).2⟩⟩
   grind
  grind
 ·split at h
  ·rename_i cs b' h1
   split at h
   ·rename_i aa
    cases h;simp at aa;obtain ⟨p1,p2⟩:=BD hE h1;have bq:=IX aa.1;simp [aa.2] at bq;refine ⟨by grind [Sc.n],?_,fun hb=>?_⟩
    ·simp [AV.cz,p1]
     exact AV.le_agg bq
    ·have:=p2 hb
     subst this;have ka:AV.czs m (l.map .cv)=l.map .cv:=by simp [AV.czs_eq,AV.cz]
     simp [AV.cz,ka];exact ⟨AV.le_agg bq,BE l⟩
   grind
  grind
 grind
theorem fS (hE:EmM m B V B1 V1):∀ {cs:List Sc} {xs:List AV} {l:List CV} {b:Bool},iB B V cs xs=some (l,b) ->
  AV.les (AV.lends B1 V1 (AV.czs m xs)) (Sc.avs cs l 0)/\(b=false->AV.les (AV.czs m xs) (Sc.avs cs l 0)/\AV.closeds (AV.czs m xs)=true)
 | [],[],l,b,h=>by
  exact ⟨.nil,fun _=>⟨.nil,rfl⟩⟩
 | c::cs,x::xs,l,b,h=>by
  simp [iB] at h;split at h
  ·rename_i l1 b1 l2 b2 h1 h2
   cases h;obtain ⟨p0,p1,p2⟩:=aCc hE h1;obtain ⟨q1,q2⟩:=fS hE h2;have e1:c.av (l1++l2) 0=c.av l1 0:=Sc.av_cut c _ _ 0 0 fun j hj=>by grind
   have e2:Sc.avs cs (l1++l2) (0+c.n)=Sc.avs cs l2 0:=Sc.avs_cut cs _ _ _ _ fun j=>by grind
   simp only [AV.czs,AV.lends,Sc.avs,e1,e2];refine ⟨.cons p1 q1,fun hb=>?_⟩
   simp at hb;exact ⟨.cons (p2 hb.1).1 (q2 hb.2).1,by simp_all⟩
  grind
 | [],_::_,_,_,h=>by grind [iB]
 | _::_,[],_,_,h=>by grind [iB]
variable {f:FuncId}
theorem CallP.args {as as':List AV} {B:List Box} {V:List Vec} {K:AV->List Box->List Vec->Prop} (h:CallP P f as' B V K) (bq:AV.les as as') (hs:AV.scos B.length (vers V) as'):CallP P f as B V K:=
 fun F n hF ba n0 w0 e w vs hm hv _=>h F n hF ba n0 w0 e w vs hm (bq.all hv) hs
theorem avs_closed:∀ (ls:List Lf) (vs:List CV) (k:Nat),AV.closeds (avs ls vs k)=true
 | [],_,_=>rfl
 | l::ls,vs,k=>by
  obtain ⟨d,hd⟩:=l.av_cv (vs.getD k dC);simp only [avs,AV.closeds,hd,AV.closed,avs_closed ls vs (k+1),Bool.and_self]
theorem Sc.av_closed (c:Sc) (vs:List CV) (k:Nat):AV.closed (c.av vs k)=true:=by
 cases c with
 | one l=>obtain ⟨d,hd⟩:=l.av_cv (vs.getD k dC);grind [Sc.av,AV.closed]
 | agg ls=>exact avs_closed ls vs k
theorem Sc.avs_closed:∀ (cs:List Sc) (vs:List CV) (k:Nat),AV.closeds (Sc.avs cs vs k)=true
 | [],_,_=>rfl
 | c::cs,vs,k=>by simp [Sc.avs,AV.closeds,Sc.av_closed,Sc.avs_closed cs vs (k+c.n)]
theorem Sc.res_closed (cs:List Sc) (vs:List CV):AV.closed (Sc.res cs vs)=true:=by
 unfold Sc.res;split
 ·exact Sc.av_closed _ _ _
 ·exact Sc.avs_closed _ _ _
theorem avs_pl (ls:List Lf) (vs:List CV):∀ (k:Nat) (m:Emb) (nb nv:Nat),AV.czs m (avs ls vs k)=avs ls vs k/\AV.inns nb nv (avs ls vs k)=true:=by
 induction ls with
 | nil=>intro k m nb nv;exact ⟨by rfl,rfl⟩
 | cons l ls ih =>
  intro k m nb nv;obtain ⟨d,hd⟩:=l.av_cv (vs.getD k dC);obtain ⟨h1,h2⟩:=ih (k+1) m nb nv;grind [avs,AV.czs,AV.cz,AV.inns,AV.inn]
theorem Sc.av_pl (c:Sc) (vs:List CV) (k:Nat) (m:Emb) (nb nv:Nat):(c.av vs k).cz m=c.av vs k/\AV.inn nb nv (c.av vs k)=true:=by
 cases c with
 | one l=>obtain ⟨d,hd⟩:=l.av_cv (vs.getD k dC);simp only [Sc.av,hd];exact ⟨by rfl,rfl⟩
 | agg ls =>
  obtain ⟨h1,h2⟩:=avs_pl ls vs k m nb nv;grind [Sc.av,AV.cz,AV.inn]
theorem Sc.avs_pl:∀ (cs:List Sc) (vs:List CV) (k:Nat) (m:Emb) (nb nv:Nat),AV.czs m (Sc.avs cs vs k)=Sc.avs cs vs k/\AV.inns nb nv (Sc.avs cs vs k)=true
 | [],vs,k,m,nb,nv=>⟨by rfl,rfl⟩
 | c::cs,vs,k,m,nb,nv=>by
  obtain ⟨h1,h2⟩:=Sc.av_pl c vs k m nb nv;obtain ⟨h3,h4⟩:=Sc.avs_pl cs vs (k+c.n) m nb nv;grind [Sc.avs,AV.czs,AV.inns]
theorem Sc.res_pl (cs:List Sc) (vs:List CV) (m:Emb) (nb nv:Nat):(Sc.res cs vs).cz m=Sc.res cs vs/\AV.inn nb nv (Sc.res cs vs)=true:=by
 unfold Sc.res;split
 ·exact Sc.av_pl _ _ _ _ _ _
 ·obtain ⟨h1,h2⟩:=Sc.avs_pl cs vs 0 m nb nv
  grind [AV.cz,AV.inn]
theorem PI:∀ (ls:List Lf) (vs:List CV) (k:Nat),ls.all Lf.scalar=true->AV.flats (avs ls vs k)=true
 | [],_,_,_=>have _:=G;rfl
 | l::ls,vs,k,h=>by
  simp only [List.all_cons,Bool.and_eq_true] at h;simp [avs,PI ls vs (k+1) h.2];cases l <;> simp [Lf.scalar] at h <;> simp [Lf.av,AV.flat,CV.flat]
theorem Sc.flat_av {c:Sc} (vs:List CV) (k:Nat) (h:c.flat=true):AV.flat (c.av vs k)=true:=by
 cases c with
 | one l=>cases l <;> simp [Sc.flat,Lf.scalar] at h <;> simp [Sc.av,Lf.av,AV.flat,CV.flat]
 | agg ls=>exact PI ls vs k h
theorem Sc.flat_avs:∀ (cs:List Sc) (vs:List CV) (k:Nat),cs.all Sc.flat=true->AV.flats (Sc.avs cs vs k)=true
 | [],_,_,_=>rfl
 | c::cs,vs,k,h=>by
  simp_all [List.all_cons,Bool.and_eq_true,Sc.avs,AV.flats,Sc.flat_av,Sc.flat_avs]
theorem Sc.flat_res {cs:List Sc} (vs:List CV) (h:cs.all Sc.flat=true):AV.flat (Sc.res cs vs)=true:=by
 unfold Sc.res;split
 ·simp at h;exact Sc.flat_av vs 0 h
 ·exact Sc.flat_avs _ vs 0 h
def Lf.avF (l:Lf) (c:CV):AV:=if l.scalar=true then l.av c else .any
def avsF:List Lf->List CV->Nat->List AV
 | [],_,_=>[]
 | l::ls,cs,o=>l.avF (cs.getD o dC)::avsF ls cs (o+1)
def Sc.avF:Sc->List CV->Nat->AV
 | .one l,vs,k=>l.avF (vs.getD k dC)
 | .agg ls,vs,k=>.agg (avsF ls vs k)
def Sc.avsF:List Sc->List CV->Nat->List AV
 | [],_,_=>[]
 | c::cs,vs,k=>c.avF vs k::Sc.avsF cs vs (k+c.n)
def Sc.resF:List Sc->List CV->AV
 | [c],vs=>c.avF vs 0
 | cs,vs=>.tup (Sc.avsF cs vs 0)
theorem Lf.avF_le (l:Lf) (c:CV):AV.le (l.av c) (l.avF c):=by
 unfold Lf.avF;split
 ·exact AV.le_refl _
 ·exact AV.le_any _
theorem Lf.avF_flat (l:Lf) (c:CV):AV.flat (l.avF c)=true/\AV.closed (l.avF c)=true/\(∀ m,(l.avF c).cz m=l.avF c)/\(∀ nb nv,AV.inn nb nv (l.avF c)=true):=by
 have _:=G;unfold Lf.avF;split
 ·rename_i h
  cases l <;> simp [Lf.scalar] at h <;> simp [Lf.av,AV.flat,CV.flat,AV.closed,AV.cz,AV.inn]
 ·simp [AV.cz,AV.inn]
theorem avsF_le:∀ (ls:List Lf) (cs:List CV) (o:Nat),AV.les (avs ls cs o) (avsF ls cs o)
 | [],_,_=>.nil
 | _::ls,cs,o=>.cons (Lf.avF_le _ _) (avsF_le ls cs (o+1))
theorem avsF_flat:∀ (ls:List Lf) (cs:List CV) (o:Nat),AV.flats (avsF ls cs o)=true/\AV.closeds (avsF ls cs o)=true/\(∀ m,AV.czs m (avsF ls cs o)=avsF ls cs o)/\(∀ nb nv,AV.inns nb nv (avsF ls cs o)=true)
 | [],_,_=>⟨rfl,rfl,fun _=>rfl,fun _ _=>rfl⟩
 | l::ls,cs,o=>by
  obtain ⟨h1,h2,h3,h4⟩:=Lf.avF_flat l (cs.getD o dC);obtain ⟨q1,q2,q3,q4⟩:=avsF_flat ls cs (o+1);simp_all [avsF,AV.czs,AV.inns]
theorem Sc.avF_le (c:Sc) (vs:List CV) (k:Nat):AV.le (c.av vs k) (c.avF vs k):=by
 cases c with
 | one l=>exact Lf.avF_le _ _
 | agg ls=>exact AV.le_agg (avsF_le ls vs k)
theorem Sc.avF_flat (c:Sc) (vs:List CV) (k:Nat):AV.flat (c.avF vs k)=true/\AV.closed (c.avF vs k)=true/\(∀ m,(c.avF vs k).cz m=c.avF vs k)/\(∀ nb nv,AV.inn nb nv (c.avF vs k)=true):=by
 cases c with
 | one l=>exact Lf.avF_flat _ _
 | agg ls =>
  obtain ⟨h1,h2,h3,h4⟩:=avsF_flat ls vs k;simp_all [Sc.avF,AV.cz,AV.inn]
theorem Sc.avsF_le:∀ (cs:List Sc) (vs:List CV) (k:Nat),AV.les (Sc.avs cs vs k) (Sc.avsF cs vs k)
 | [],_,_=>.nil
 | c::cs,vs,k=>.cons (Sc.avF_le c vs k) (Sc.avsF_le cs vs (k+c.n))
theorem Sc.avsF_flat:∀ (cs:List Sc) (vs:List CV) (k:Nat),AV.flats (Sc.avsF cs vs k)=true/\AV.closeds (Sc.avsF cs vs k)=true/\(∀ m,AV.czs m (Sc.avsF cs vs k)=Sc.avsF cs vs k)/\(∀ nb nv,AV.inns nb nv (Sc.avsF cs vs k)=true)
 | [],_,_=>⟨rfl,rfl,fun _=>rfl,fun _ _=>rfl⟩
 | c::cs,vs,k=>by
  obtain ⟨h1,h2,h3,h4⟩:=Sc.avF_flat c vs k;obtain ⟨q1,q2,q3,q4⟩:=Sc.avsF_flat cs vs (k+c.n);simp_all [Sc.avsF,AV.czs,AV.inns]
theorem AV.le_tup {ys:List AV} (h:AV.les xs ys):AV.le (.tup xs) (.tup ys):=by
 intro e w ks v hv;obtain ⟨vs,h1,h2⟩:=hv;exact ⟨vs,h1,h.all h2⟩
theorem Sc.resF_le (cs:List Sc) (vs:List CV):AV.le (Sc.res cs vs) (Sc.resF cs vs):=by
 match cs with
 | [c]=>exact Sc.avF_le c vs 0
 | []=>exact AV.le_tup (Sc.avsF_le _ vs 0)
 | _::_::_=>exact AV.le_tup (Sc.avsF_le _ vs 0)
theorem Sc.resF_flat (cs:List Sc) (vs:List CV):AV.flat (Sc.resF cs vs)=true/\AV.closed (Sc.resF cs vs)=true/\(∀ m,(Sc.resF cs vs).cz m=Sc.resF cs vs)/\(∀ nb nv,AV.inn nb nv (Sc.resF cs vs)=true):=by
 match cs with
 | [c]=>exact Sc.avF_flat c vs 0
 | []=>exact ⟨rfl,rfl,fun _=>by rfl,fun _ _=>rfl⟩
 | c1::c2::r =>
  obtain ⟨q1,q2,q3,q4⟩:=Sc.avsF_flat (c1::c2::r) vs 0;simp_all [Sc.resF,AV.cz,AV.inn]
theorem SpecR.weak {P:Program} {args:List AV} {r r':AV} (h:SpecR P f args r) (bq:AV.le r r') (hc:AV.closed r'=true):SpecR P f args r':=by
 intro F n hF ba n0 w0 e w vs hm hv hs;refine CallsIn.mono (h F n hF ba n0 w0 e w vs hm hv hs) ?_;rintro en w' ⟨e',B',V',r0,v,rfl,⟨rfl,rfl,rfl⟩,h1,h2,h3,h4⟩;exact ⟨e',[],[],r',v,rfl,⟨rfl,rfl,rfl⟩,h1,h2,bq _ _ _ _ h3,AV.sco_closed _ _ _ hc⟩
def PJ (P:Program) (f:FuncId) (args:List AV) (T:TypeId) (k:Nat) (es:List (List CV)):Prop:=
 CallPc P f args fun r _ V=>∃ i v,r=.own i v.ver/\V[i]? = some v/\v.live=true/\v.T=T/\v.k=k/\v.es=es
def aDP (P:Program) (f:FuncId) (T:TypeId) (k by_:Nat):Prop:=
 ∀ (B:List Box) (V:List Vec) (i:Nat) (v:Vec) (n:Int) (x:List CV),V[i]? = some v->v.sl=true->v.T=T->v.k=k->0<=n->n<=v.es.length->cJ v.es.length 1 by_=true->x.length=k ->
  CallP P f [.own i v.ver,.cv (.val (.int .i64 n)),.cv (.row k [x])] B V fun r B' V'=>r=.own i (v.ver+1)/\B'=B/\V'=V.set i ⟨v.live,v.T,v.k,v.ver+1,v.es.take n.toNat++x::v.es.drop n.toNat⟩
def OG (P:Program) (f:FuncId) (T:TypeId) (k:Nat) (cs:List CV) (es es':List (List CV)) (hdr:Bool):Prop:=
 ∀ (B:List Box) (V:List Vec) (i:Nat) (v:Vec),V[i]? = some v->v.sl=true->v.T=T->v.k=k->v.es=es ->
  CallP P f (.own i v.ver::cs.map .cv) B V fun r B' V'=>r=(if hdr then .own i (v.ver+1) else .tup [])/\B'=B/\V'=V.set i ⟨v.live,v.T,v.k,if hdr then v.ver+1 else v.ver,es'⟩
def HW (T:TypeId) (fs:List FuncId) (cs:List AV):Box:=⟨true,T,fs.map fun g=>.fn g [.gd [false] .any,.agg cs]⟩
def aCd (P:Program) (f:FuncId) (T:TypeId) (fs:List FuncId):Prop:=
 ∀ (a b c:AV) (B:List Box) (V:List Vec),[a,b,c].all AV.one=true->CallP P f [.agg [a,b,c]] B V fun r B' V'=>r=.slb fs.length B.length 0/\B'=B++[HW T fs [a,b,c]]/\V'=V
def KK:Nat:=1000000000
def tgB:List (Option (TypeId×Nat))->List CV
 | []=>[]
 | none::ts=>.val (.bool false)::tgB ts
 | some (T,k)::ts=>.fn T [.fn k []]::tgB ts
def SM:List (Option (TypeId×Nat))->List CV->Bool
 | [],[]=>true
 | none::ts,.val (.bool false)::l=>SM ts l
 | some (T,k)::ts,.fn T' [.fn k' []]::l=>T' == T&&(k' == k&&SM ts l)
 | _,_=>false
def BF (T:TypeId) (ts:List (Option (TypeId×Nat))):CV:=.fn T (tgB ts)
def iT (V:List Vec):List (Option (TypeId×Nat))->List AV->Bool
 | [],[]=>true
 | none::ts,.cv _::xs=>iT V ts xs
 | some (T,k)::ts,.own j u::xs=>(match V[j]? with
  | some v=>v.live&&(v.ver == u&&(v.T == T&&v.k == k))
  | none=>false)&&iT V ts xs
 | _,_=>false
def nF:List AV->List Nat
 | []=>[]
 | .own j _::xs=>j::nF xs
 | _::xs=>nF xs
def aDQ (T:TypeId) (ts:List (Option (TypeId×Nat))) (cs:List CV) (r:AV) (B:List Box) (V:List Vec):Prop:=
 ∃ i b,r=.ptr i 0/\B[i]? = some b/\b.live=true/\b.T=T/\iH V b.cs=some cs/\iT V ts b.cs=true/\(nF b.cs).Nodup
structure Fns (P:Program) (sg:FuncId->Option Sig) (M:Den):Prop where
 own:∀ f vs k es T,sg f=none->M f vs=some [.row k es,.fn T []]->iI P f=true/\PJ P f (vs.map .cv) T k es
 ins:∀ f k T by_,sg f=none->M f []=some [.row k [],.fn T [],.fn by_ []]->iI P f=true/\aDP P f T k by_
 mtt:∀ f T k cs es es' hdr,sg f=none->M f (.row k es::.fn T []::cs)=some [.row k es',.val (.bool hdr)]->iI P f=true/\OG P f T k cs es es' hdr
 way:∀ f T fs,sg f=none->M f (.fn T []::fs.map fun g=>.fn g [])=some [.fn 0 []]->iI P f=true/\aCd P f T fs
 ent:∀ f g,sg f=some g->iI P f=true
 box:∀ f g T ts vs cs,sg f=some g->sg (f+KK)=none->M (f+KK) vs=some [.ref cs,BF T ts]->CallPc P f (Sc.avs g.ps vs 0) (aDQ T ts cs)
 spec:∀ f g vs out,sg f=some g->M f vs=some out->SpecR P f (Sc.avs g.ps vs 0) (Sc.res g.rs out)
variable {sg:FuncId->Option Sig} {M:Den}
theorem PK (hM:Fns P sg M) (hE:EmM m B V B1 V1) {g:Sig} {l:List CV} {out:List CV} (hs:sg f=some g) (hl:iB B V g.ps xs=some (l,b)) (ho:M f l=some out)
  (pq:b=false\/g.rs.all Sc.flat=true):CallP P f (AV.czs m xs) B1 V1 fun r B' V'=>r=Sc.res g.rs out/\B'=B1/\V'=V1:=by
 have h:=hM.spec f g l out hs ho;obtain ⟨p1,p2⟩:=fS hE hl;have bz:=Sc.avs_closed g.ps l 0;have xj:=Sc.res_closed g.rs out;cases b with
 | false=>exact CallP.args (SpecR.frame h bz xj B1 V1) (p2 rfl).1 (AV.scos_closed _ _ _ bz)
 | true =>
  have E9:g.rs.all Sc.flat=true:=pq.elim (fun h=>by cases h) id
  have h2:SpecR P f (AV.lends B1 V1 (AV.czs m xs)) (Sc.res g.rs out):=CallP.args h p1 (AV.scos_closed _ _ _ bz);exact SpecR.lent h2 rfl xj (Sc.flat_res out E9)
end
open Classical in
noncomputable def eqO (a b:Option Ou):Option Ou:=if a=b then b else none
theorem VM {a b:Option Ou} {r:Ou} (h:eqO a b=some r):a=some r/\b=some r:=by
 have _:=G;unfold eqO at h;grind
noncomputable def aGJ (es:List (List CV)) (kt kf:Option Ou):Option Ou:=
 match es with
 | []=>eqO kt kf
 | _::_=>kf
theorem PL {es:List (List CV)} {kt kf:Option Ou} {r:Ou} (h:aGJ es kt kf=some r):kf=some r/\(es=[]->kt=some r):=by
 unfold aGJ at h;split at h
 ·exact ⟨(VM h).2,fun _=>(VM h).1⟩
 grind
def aB (x:Option (List CV)) (K:List CV->Option Ou):Option Ou:=match x with
 | some out=>K out
 | none=>none
theorem eA {x:Option (List CV)} {K:List CV->Option Ou} {r:Ou} (h:aB x K=some r):∃ out,x=some out/\K out=some r:=by
 have _:=G;cases x with
 | none=>cases h
 | some out=>exact ⟨out,rfl,h⟩
def scT (P:Program) (T:TypeId):Sc:=match P.underlying T with
 | some (.struct _)=>.agg (lfT P 20 T)
 | some (.array _ _)=>.agg (lfT P 20 T)
 | some (.slice e)=>.one (.row (P.cellsOf e))
 | some .bool=>.one .bool
 | some (.int k)=>.one (.int k)
 | some (.pointer _)=>.one .ref
 | _=>.one .raw
def rsT (P:Program) (T:TypeId):List Sc:=match P.underlying T with
 | some (.tuple ts)=>ts.toList.map (scT P)
 | _=>[scT P T]
def bX (lk:Lk) (d:Option Nat):Bool:=match d with
 | some d=>!lk.t.contains d
 | none=>true
def SS.set (s:SS) (d:Nat) (x:AV):SS:=⟨s.n,(d,x)::s.t,s.B,s.V⟩
def unA:AV:=.gd [false] .any
section
variable (P:Program) (sg:FuncId->Option Sig) (M:Den)
def IY (dr:Bool) (B:List Box) (V:List Vec) (f:FuncId) (as:List AV) (K:AV->Option Ou):Option Ou:=
 match sg f with
 | none=>none
 | some g=>match iB B V g.ps as with
  | none=>none
  | some (l,b)=>if (!b || (!dr&&g.rs.all Sc.flat))=true then aB (M f l) fun out=>K (Sc.res g.rs out) else if (!dr)=true then aB (M f l) fun out=>K (Sc.resF g.rs out) else none
def SN (dr:Bool) (s:SS) (x:Operand) (args:List Operand) (ats:List TypeId) (T:TypeId) (K:AV->Option Ou):Option Ou:=
 match x with
 | .func f=>IY sg M dr s.B s.V f (args.map s.ev) K
 | x=>match s.ev x with
  | .fn f caps=>if vU caps=true then none else IY sg M dr s.B s.V f (args.map s.ev++caps) K
  | .cv c=>match iB s.B s.V (ats.map (scT P)) (args.map s.ev) with
   | some (l,b)=>if (!b || (!dr&&(rsT P T).all Sc.flat))=true then aB (dY sg M c l (ats.map (scT P)) (rsT P T)) fun out=>K (Sc.res (rsT P T) out) else none
   | none=>none
  | _=>none
def aDR (s:SS) (T:TypeId) (x y:Operand):Option (List (List CV)):=
 match cG P T,s.ev y with
 | some ⟨_,_,.slc _ _ _⟩,.cv (.val (.slice none 0 0))=>match s.ev x with
  | .cv (.row _ es)=>some es
  | .own i g=>match s.V[i]? with
   | some v=>if (v.sl&&v.ver == g)=true then some v.es else none
   | none=>none
  | _=>none
 | _,_=>none
def aA6 (s:SS) (T:TypeId) (len:Nat) (parts:Array (Nat×Operand)):Option AV:=
 if (parts.toList.all fun p=>(s.ev p.2).clo)=true then
  match bU P ⟨[],[],[]⟩ T len (parts.toList.map fun p=>(p.1,s.ev p.2)) with
  | some (A,B,V)=>some (AV.lend B V A)
  | none=>none
 else none
def xG (vl:LK) (c:CV):CV:=match vl with
 | .int q=>.val (.int q (cI c))
 | .bool=>.val (.bool (cB c))
 | .fn=>c
def dX (kl:List LK) (vl:LK) (es:List (List CV)):Bool:=es.all fun e=>e.map kC == (kl++[vl]).map some
def isM (mi:MI) (T:TypeId) (g:Nat) (v:Vec) (cs:List CV):Bool:=v.live&&v.ver == g&&v.T == mi.tag T&&v.k == mi.kl.length+1&&dU mi cs
def HX (lk:Lk) (s:SS) (op:Op) (K:AV->List Box->List Vec->Option Ou):Option (Option Ou):=
 match op with
 | .store T a x=>match s.ev a with
  | .opt i g el off=>some (if lk.v.contains i=true then none else match s.V[i]?,cG P T,(s.ev x).cells with
   | some v,some ti,some new=>match gC new with
    | some cs=>if (v.sl&&v.ver == g&&cs.length == ti.size)=true then
      chk (decide (el<v.es.length)&&decide (off+cs.length<=v.k)) (K .any s.B (s.V.set i ⟨v.live,v.T,v.k,v.ver,v.es.set el (spl (v.es.getD el []) off cs)⟩))
     else none
    | none=>none
   | _,_,_=>none)
  | _=>none
 | .slice T x none (some h) none=>match s.ev x with
  | .own i g=>some (if lk.v.contains i=true then none else match s.V[i]?,cG P T,s.ev h with
   | some v,some ⟨_,_,.slc _ k _⟩,.cv (.val (.int _ n))=>if (v.sl&&v.ver == g&&k == v.k&&k != 0)=true then
     chk (decide (0<=n)&&decide (n<=v.es.length)) (K (.own i (v.ver+1)) s.B (s.V.set i ⟨v.live,v.T,v.k,v.ver+1,v.es.take n.toNat⟩))
    else none
   | _,_,_=>none)
  | _=>none
 | .makeMap T none=>match eO P T with
  | some mi=>some (K (.own s.V.length 0) s.B (s.V++[⟨true,mi.tag T,mi.kl.length+1,0,[]⟩]))
  | none=>none
 | .lookup T x k false=>match s.ev x with
  | .cv (.mp kn es)=>some (match eO P T with
   | some mi=>match fJ mi (s.ev k) with
    | some cs=>if (kn == mi.kl.length&&dU mi cs)=true then chk (dX mi.kl mi.vl es) (K (.cv (xG mi.vl (aH mi.kl.length cs mi.z es))) s.B s.V) else none
    | none=>none
   | none=>none)
  | .own i g=>some (match s.V[i]?,eO P T with
   | some v,some mi=>match fJ mi (s.ev k) with
    | some cs=>if isM mi T g v cs=true then chk (dX mi.kl mi.vl v.es) (K (.cv (xG mi.vl (aH mi.kl.length cs mi.z v.es))) s.B s.V) else none
    | none=>none
   | _,_=>none)
  | _=>none
 | .lookup T x k true=>match s.ev x with
  | .cv (.mp kn es)=>some (match eO P T with
   | some mi=>match fJ mi (s.ev k) with
    | some cs=>if (kn == mi.kl.length&&dU mi cs)=true then chk (dX mi.kl mi.vl es) (K (.tup [.cv (xG mi.vl (aH mi.kl.length cs mi.z es)),.cv (.val (.bool (decide (bN mi.kl.length cs es<es.length))))]) s.B s.V) else none
    | none=>none
   | none=>none)
  | .own i g=>some (match s.V[i]?,eO P T with
   | some v,some mi=>match fJ mi (s.ev k) with
    | some cs=>if isM mi T g v cs=true then chk (dX mi.kl mi.vl v.es) (K (.tup [.cv (xG mi.vl (aH mi.kl.length cs mi.z v.es)),.cv (.val (.bool (decide (bN mi.kl.length cs v.es<v.es.length))))]) s.B s.V) else none
    | none=>none
   | _,_=>none)
  | _=>none
 | .mapUpdate T x k y=>match s.ev x with
  | .own i g=>some (if lk.v.contains i=true then none else match s.V[i]?,eO P T,s.ev y with
   | some v,some mi,.cv d=>match fJ mi (s.ev k) with
    | some cs=>if (isM mi T g v cs&&kC d == some mi.vl)=true then chk (dX mi.kl mi.vl v.es) (K .any s.B (s.V.set i ⟨v.live,v.T,v.k,v.ver,bV mi.kl.length cs d v.es⟩)) else none
    | none=>none
   | _,_,_=>none)
  | _=>none
 | .insert T x k (.func f)=>match s.ev x with
  | .own i g=>some (if lk.v.contains i=true then none else match s.V[i]?,eO P T with
   | some v,some mi=>match fJ mi (s.ev k) with
    | some cs=>if (isM mi T g v cs&&decide (mi.vl=.fn))=true then chk (dX mi.kl mi.vl v.es) (K .any s.B (s.V.set i ⟨v.live,v.T,v.k,v.ver,bV mi.kl.length cs (fvC f) v.es⟩)) else none
    | none=>none
   | _,_=>none)
  | _=>none
 | .call { callee:=.builtin .delete,args:=⟨[x,k]⟩,argTypes:=⟨[T,_]⟩ }=>match s.ev x with
  | .own i g=>some (if lk.v.contains i=true then none else match s.V[i]?,eO P T with
   | some v,some mi=>match fJ mi (s.ev k) with
    | some cs=>if isM mi T g v cs=true then chk (dX mi.kl mi.vl v.es) (K .any s.B (s.V.set i ⟨v.live,v.T,v.k,v.ver,zQ mi.kl.length cs v.es⟩)) else none
    | none=>none
   | _,_=>none)
  | _=>none
 | .makeSlice T x y=>some (match cG P T,s.ev x,s.ev y with
  | some ⟨_,_,.slc e k by_⟩,.cv (.val (.int _ l)),.cv (.val (.int _ c))=>match cG P e with
   | some te=>if (k != 0&&te.zero.length == k&&te.zero.all Value.oneCell')=true then
     chk (decide (0<=l)&&decide (l<=c)&&cJ c.toNat 0 by_) (K (.own s.V.length 0) s.B (s.V++[⟨true,e,k,0,List.replicate l.toNat (te.zero.map .val)⟩]))
    else none
   | none=>none
  | _,_,_=>none)
 | .call { callee:=.builtin .copy,args:=⟨[x,y]⟩,argTypes:=⟨[T,_]⟩ }=>match s.ev x,s.ev y with
  | .own i g,.cv (.row k es)=>some (if lk.v.contains i=true then none else match s.V[i]?,cG P T with
   | some v,some ⟨_,_,.slc _ k' _⟩=>if (v.sl&&v.ver == g&&k' == v.k&&k == k'&&k' != 0)=true then
     chk (decide (es.length<=v.es.length)) (K (.cv (.val (.int .i64 es.length))) s.B (s.V.set i ⟨v.live,v.T,v.k,v.ver,es++v.es.drop es.length⟩)) else none
   | _,_=>none)
  | _,_=>none
 | _=>none
def aA7 (lk:Lk) (s:SS) (o o2:Oper) (next:SS->Option Ou):Option (Option Ou):=
 match o.op,o2.op with
 | .slice T x (some l) none none,.call { callee:=.builtin .clear,args,argTypes } =>
  match o.dst,s.ev x,s.ev l,args.toList,argTypes.toList with
  | some d,.own i g,.cv (.val (.int _ lo)),[.tmp d'],[T']=>some (
   match s.V[i]?,cG P T with
   | some v,some ⟨_,_,.slc e k _⟩=>match cG P e with
    | some te=>if (o.guard.isNone&&o2.guard.isNone&&o2.dst.isNone&&d' == d&&T' == T&&decide (d<s.n)&&!lk.t.contains d&&!lk.v.contains i&&v.sl&&v.ver == g&&k == v.k&&k != 0&&!te.zero.isEmpty&&te.zero.length == k&&te.zero.all Value.oneCell')=true then
      chk (decide (0<=lo)&&decide (lo<=v.es.length)) (next ⟨s.n,(d,.any)::s.t,s.B,s.V.set i ⟨v.live,v.T,v.k,v.ver,v.es.take lo.toNat++List.replicate (v.es.length - lo.toNat) (te.zero.map .val)⟩⟩)
     else none
    | none=>none
   | _,_=>none)
  | _,_,_,_,_=>none
 | _,_=>none
def aA8 (y:Operand) (d:Nat):Bool:=match y with
 | .tmp t=>t != d
 | _=>true
def aDS (lk:Lk) (s:SS) (o o2 o3:Oper) (next:SS->Option Ou):Option (Option Ou):=
 match o.op,o2.op,o3.op with
 | .mapEntry T (.tmp x) k,.extract (.tmp e1) 1,.entryStore T' (.tmp x') (.tmp e2) y =>
  match o.dst,o2.dst,s.ev (.tmp x),s.ev y with
  | some d1,some d2,.own i g,.cv d=>some (
   match s.V[i]?,eO P T with
   | some v,some mi=>match fJ mi (s.ev k) with
    | some cs=>if (o.guard.isNone&&o2.guard.isNone&&o3.guard.isNone&&o3.dst.isNone&&e1 == d1&&e2 == d2&&T' == T&&x' == x&&decide (d1<s.n)&&decide (d2<s.n)&&!lk.t.contains d1&&!lk.t.contains d2&&!lk.v.contains i&&x != d1&&x != d2&&aA8 y d1&&aA8 y d2&&isM mi T g v cs&&kC d == some mi.vl)=true then
      chk (dX mi.kl mi.vl v.es) (next ⟨s.n,(d2,.any)::(d1,.any)::s.t,s.B,s.V.set i ⟨v.live,v.T,v.k,v.ver,bV mi.kl.length cs d v.es⟩⟩)
     else none
    | none=>none
   | _,_=>none)
  | _,_,_,_=>none
 | _,_,_=>none
noncomputable def evO (lk:Lk) (dr:Bool) (b0:Nat) (s:SS) (o:Oper) (K:AV->List Box->List Vec->Option Ou):Option Ou:=
 match o.op with
 | .call { callee:=.value x,args,argTypes }=>SN P sg M dr s x args.toList argTypes.toList o.type fun r=>K r s.B s.V
 | .defer _=>none
 | op =>
  if dr=true then
   match op with
   | .buildSlice T len parts=>match aA6 P s T len parts with
    | some A=>K A s.B s.V
    | none=>none
   | .load _ a=>(match s.ev a with
    | .ptr i _=>if i<b0 then sOp P lk s op K else none
    | .gd [] (.ptr i _)=>if i<b0 then sOp P lk s op K else none
    | .cv _=>sOp P lk s op K
    | .opt _ _ _ _=>sOp P lk s op K
    | _=>none)
   | op=>if oJ op<=3 then sOp P lk s op K else none
  else
   match op with
   | .binOp .eql T x y _=>match aDR P s T x y with
    | some es=>aGJ es (K (.cv (.val (.bool true))) s.B s.V) (K (.cv (.val (.bool false))) s.B s.V)
    | none=>sOp P lk s op K
   | .binOp .neq T x y _=>match aDR P s T x y with
    | some es=>aGJ es (K (.cv (.val (.bool false))) s.B s.V) (K (.cv (.val (.bool true))) s.B s.V)
    | none=>sOp P lk s op K
   | op=>match HX P lk s op K with
    | some r=>r
    | none=>sOp P lk s op K
abbrev IN:=Lk->SS->Oper->(SS->Option Ou)->Option (Option Ou)
def aIE:IN:=fun _ _ _ _=>none
noncomputable def evW (inl:IN) (lk:Lk) (dr:Bool) (b0:Nat) (s:SS) (o:Oper) (next:SS->Option Ou):Option Ou:=
 match inl lk s o next with
 | some r=>r
 | none=>evO P sg M lk dr b0 s o fun x B V=>next (s.put o.dst x B V)
noncomputable def ES (inl:IN) (lk:Lk) (dr:Bool) (b0:Nat) (ops:List Oper) (o:Oper) (s:SS) (next:SS->Option Ou):Option Ou:=
 if bX lk o.dst=true then
  match o.guard with
  | none=>evW P sg M inl lk dr b0 s o next
  | some (j,want) =>
   match (ops[j]?).bind (·.dst) with
   | none=>none
   | some d =>
    if d<s.n then
     match s.get d with
     | .cv (.val (.bool c))=>if lk.t.contains d=true then none else
      aA c
       (match want with
        | true=>evW P sg M inl lk dr b0 (s.set d (.cv (.val (.bool true)))) o next
        | false=>next ((s.set d (.cv (.val (.bool true)))).put o.dst unA s.B s.V))
       (match want with
        | false=>evW P sg M inl lk dr b0 (s.set d (.cv (.val (.bool false)))) o next
        | true=>next ((s.set d (.cv (.val (.bool false)))).put o.dst unA s.B s.V))
     | .gd [false] _=>next (s.put o.dst unA s.B s.V)
     | _=>none
    else none
 else none
noncomputable def evR (inl:IN) (lk:Lk) (dr:Bool) (b0:Nat) (ops:List Oper):List Oper->SS->(SS->Option Ou)->Option Ou
 | [],s,K=>K s
 | [o],s,K=>ES P sg M inl lk dr b0 ops o s K
 | [o,o2],s,K =>
  match (match dr with | true=>none | false=>aA7 P lk s o o2 K) with
  | some r=>r
  | none=>ES P sg M inl lk dr b0 ops o s fun s'=>ES P sg M inl lk dr b0 ops o2 s' K
 | o::o2::o3::rest,s,K =>
  match (match dr with | true=>none | false=>aA7 P lk s o o2 fun s'=>evR inl lk dr b0 ops (o3::rest) s' K) with
  | some r=>r
  | none=>match (match dr with | true=>none | false=>aDS P lk s o o2 o3 fun s'=>evR inl lk dr b0 ops rest s' K) with
   | some r=>r
   | none=>ES P sg M inl lk dr b0 ops o s fun s'=>evR inl lk dr b0 ops (o2::o3::rest) s' K
end
structure Adv (lk:Lk) (m:Emb) (s:SS) (st:St) (m':Emb) (s':SS) (st':St):Prop where
 stp:Stp m st.B st.V m' st'.B st'.V
 n:s'.n=s.n
 bl:s.B.length<=s'.B.length
 vl:s.V.length<=s'.V.length
 t:∀ d∈lk.t,s'.get d=s.get d
 b:∀ i∈lk.b,i<s.B.length->s'.B[i]? = s.B[i]?
 v:∀ i∈lk.v,i<s.V.length->s'.V[i]? = s.V[i]?
 o:∀ i∈lk.o,i<s.V.length->m'.fo i=m.fo i
theorem Adv.refl (lk:Lk) (m:Emb) (s:SS) (st:St):Adv lk m s st m s st:=
 ⟨Stp.refl _ _ _,rfl,Nat.le_refl _,Nat.le_refl _,fun _ _=>rfl,fun _ _ _=>rfl,fun _ _ _=>rfl,fun _ _ _=>rfl⟩
theorem Adv.trans {lk:Lk} {m m' m'':Emb} {s s' s'':SS} {st st' st'':St} (h:Adv lk m s st m' s' st') (h':Adv lk m' s' st' m'' s'' st''):Adv lk m s st m'' s'' st'':=
 ⟨h.stp.trans h'.stp,h'.n.trans h.n,Nat.le_trans h.bl h'.bl,Nat.le_trans h.vl h'.vl,fun d hd=>(h'.t d hd).trans (h.t d hd),
  fun i hi hl=>(h'.b i hi (Nat.lt_of_lt_of_le hl h.bl)).trans (h.b i hi hl),fun i hi hl=>(h'.v i hi (Nat.lt_of_lt_of_le hl h.vl)).trans (h.v i hi hl),fun i hi hl=>(h'.o i hi (Nat.lt_of_lt_of_le hl h.vl)).trans (h.o i hi hl)⟩
theorem SS.put_get {s:SS} {lk:Lk} {d:Option Nat} {B:List Box} {V:List Vec} (h:bX lk d=true):∀ k∈lk.t,(s.put d x B V).get k=s.get k:=by
 have _:=G;intro k hk;cases d with
 | none=>rfl
 | some d =>
  simp [bX] at h;have:d≠k:=by grind
  simp_all [SS.get,SS.put]
theorem Em.set {m:Emb} {s:SS} {st:St} (h:Em m s st) {d:Nat} {x:AV} (hg:s.get d=x) (hd:d<s.n):Em m (s.set d x) st:=by
 have dc:AV.inn s.B.length s.V.length x=true:=by rw [<- hg];exact h.inn d
 refine ⟨?_,fun p hp=>?_,h.m⟩
 ·rw [h.t]
  simp [SS.set];refine List.map_congr_left fun k hk=>?_
  simp only [SD];split
  ·rename_i sr
   subst sr;rw [<- hg];simp [SS.get,hd];exact qJ (AV.cz m) (by rfl) s.t d
  ·rfl
 ·simp [SS.set] at hp
  rcases hp with rfl | hp
  ·exact dc
  ·exact h.ti p hp
theorem SS.set_get {s:SS} {d:Nat} (hg:s.get d=x):∀ k,(s.set d x).get k=s.get k:=by
 have _:=G;intro k;show (if k<s.n then lk ((d,x)::s.t) k else .any)=if k<s.n then lk s.t k else .any
 simp
 by_cases h1:k<s.n
 ·by_cases h2:d=k
  ·subst h2
   rw [if_pos rfl,<- hg];simp [SS.get,h1]
  grind
 grind
theorem Adv.set {lk:Lk} {m:Emb} {s:SS} {st:St} {d:Nat} {x:AV} (hg:s.get d=x):Adv lk m s st m (s.set d x) st:=
 ⟨Stp.refl _ _ _,rfl,Nat.le_refl _,Nat.le_refl _,fun k _=>SS.set_get hg k,fun _ _ _=>rfl,fun _ _ _=>rfl,fun _ _ _=>rfl⟩
section
variable {F:Fence} {n:Nat} {P:Program} {ops:List Oper}
variable {o:Oper} {rest:List Oper} {Q:St->Prop} {B':List Box} {V':List Vec}
theorem aGK (hF:Free F) {st:St} {av y:AV} (ae:dB P st o.op=some (av,B',V')) (bq:AV.le av y)
  (dz:∀ nb vs,AV.sco nb vs av->AV.sco nb vs y) (h:dQ F n P ops.toArray rest (st.put o.dst y B' V') Q):YO F n P ops.toArray o rest st Q:=by
 intro n0 w0 e a w Qr hr hk;obtain ⟨nx,v,w',e',h1,h2,h3,h4,h5,h6⟩:=uN ae n0 w0 e a w hr;refine ⟨fun f _=>hF.fn f,?_⟩
 rw [Oper.semAt_plain F _ _ (by grind [dB]),h1]
 have bo:=hr.put h3 h4 (bq _ _ _ _ h5) (dz _ _ h6) o.dst
 have l7:wpListIn F n P ops.toArray Qr rest (a.put o.dst v) w':=
  h n0 w0 e' _ w' Qr bo fun e'' st' a' w'' hq ah ac hx=>hk e'' st' a' w'' hq ah (by rw [ac];cases o.dst <;> rfl) (h4.trans hx)
 rcases h2 with rfl | ⟨rfl,rfl⟩
 ·exact l7
 ·exact l7
theorem iU (hF:Free F) {st:St} {av:AV} (df:∀ c,o.op≠.defer c) (ak:Step P o st av B' V')
  (h:dQ F n P ops.toArray rest (st.put o.dst av B' V') Q):YO F n P ops.toArray o rest st Q:=by
 intro n0 w0 e a w Qr hr hk;obtain ⟨nx,v,w',e',h1,h2,h3,h4,h5,h6⟩:=ak n0 w0 e a w hr;refine ⟨fun f _=>hF.fn f,?_⟩
 rw [Oper.semAt_plain F _ _ df,h1];have bo:=hr.put h3 h4 h5 h6 o.dst
 have l7:wpListIn F n P ops.toArray Qr rest (a.put o.dst v) w':=
  h n0 w0 e' _ w' Qr bo fun e'' st' a' w'' hq ah ac hx=>hk e'' st' a' w'' hq ah (by rw [ac];cases o.dst <;> rfl) (h4.trans hx)
 rcases h2 with rfl | ⟨rfl,rfl⟩
 ·exact l7
 ·exact l7
def Wants (lo:List Oper) (o:Oper) (s:St) (b:Bool):Prop:=
 ∀ s':St,(∀ d∈o.looksAt lo.toArray,s'.t[d]? = s.t[d]?)->∀ n0 w0 e a w,Rel n0 w0 e s' a w->Region.wanted o (yielded lo.toArray a.tmps)=b
theorem Wants.none {o:Oper} {s:St} (hg:o.guard=none):Wants ops o s true:=fun _ _ _ _ _ _ _ _=>by simp [Region.wanted,hg]
theorem Wants.known {s:St} {j d:Nat} {want c:Bool} (hg:o.guard=some (j,want)) (hd:(ops[j]?).bind (·.dst)=some d) (hs:s.t[d]? = some (.cv (.val (.bool c)))):Wants ops o s (c == want):=by
 intro s' ha n0 w0 e a w hr;have d8:(ops.toArray[j]?).bind (·.dst)=some d:=by grind
 have h1:s'.t[d]? = some (.cv (.val (.bool c))):=by
  grind [Oper.looksAt]
 simp only [Region.wanted,hg,yielded,d8,Option.bind_some,hr.slot h1];rfl
theorem Wants.undef {s:St} {j d:Nat} {want:Bool} {x:AV} (hg:o.guard=some (j,want)) (hd:(ops[j]?).bind (·.dst)=some d) (hs:s.t[d]? = some (.gd [false] x)):Wants ops o s false:=by
 intro s' ha n0 w0 e a w hr;have d8:(ops.toArray[j]?).bind (·.dst)=some d:=by grind
 have h1:s'.t[d]? = some (.gd [false] x):=by
  grind [Oper.looksAt]
 obtain ⟨v,h2,h3⟩:=hr.tm.get h1;have qn:a.tmps[d]? = some v:=by grind
 have hv:=h3.2 (by simp)
 subst hv;simp only [Region.wanted,hg,yielded,d8,Option.bind_some,qn];rfl
theorem dM {st:St} (hw:Wants ops o st true) (h:YO F n P ops.toArray o rest st Q):dQ F n P ops.toArray (o::rest) st Q:=by
 intro n0 w0 e a w Qr hr hk;simp [wpListIn,hw st (fun _ _=>rfl) _ _ _ _ _ hr]
 exact h n0 w0 e a w Qr hr hk
theorem ZE (hF:Free F) {st:St} (hw:Wants ops o st false) (h:dQ F n P ops.toArray rest (st.put o.dst (.gd [false] .any) st.B st.V) Q):dQ F n P ops.toArray (o::rest) st Q:=by
 intro n0 w0 e a w Qr hr hk;simp [wpListIn,hw st (fun _ _=>rfl) _ _ _ _ _ hr]
 refine ⟨fun f _=>hF.fn f,?_⟩
 have bo:=hr.put hr.mem (Ext.refl _ _ _ _ _) (x:=.gd [false] .any) (v:=undef) (by simp [AV.holds]) (by simp) o.dst
 exact h n0 w0 e _ w Qr bo fun e'' st' a' w'' hq ah ac hx=>hk e'' st' a' w'' hq ah (by rw [ac,put_defers]) hx
theorem aDT (hF:Free F) {st:St} {T yT:TypeId} {x y:Operand} {neg:Bool} {s e k by_:Nat} {z:List Value} {len:Nat}
  (ae:o.op=.binOp (if neg=true then .neq else .eql) T x y yT) (hx:∀ n0 w0 e a w,Rel n0 w0 e st a w->∃ ao cap,a.eval x=.slice ao len cap/\(ao.isNone=true->len=0))
  (hy:st.ev y=.cv (.val (.slice none 0 0))) (hT:cG P T=some ⟨s,z,.slc e k by_⟩)
  (h:∀ b:Bool,(b=true->len=0)->dQ F n P ops.toArray rest (st.put o.dst (.cv (.val (.bool (if neg=true then !b else b)))) st.B st.V) Q):YO F n P ops.toArray o rest st Q:=by
 intro n0 w0 e1 a w Qr hr hk;obtain ⟨ao,cap,hv,h1⟩:=hx _ _ _ _ _ hr;have jd:=(hr.ev y).1;rw [hy] at jd;obtain ⟨jd,_⟩:=jd;have ft:=run_equal_slice_nil w T e ao len cap (gH hT).1
 have ai:(execOp a.eval o).run P w=.ok (.value (.bool (if neg=true then !ao.isNone else ao.isNone))) w:=by
  cases neg with
  | true =>
   simp_all [execOp,eqGuard,binOp]
  | false =>
   simp_all [execOp,eqGuard,binOp]
 refine ⟨fun f _=>hF.fn f,?_⟩
 rw [Oper.semAt_plain F _ _ (by grind),ai]
 have bo:=hr.put hr.mem (Ext.refl _ _ _ _ _) (x:=.cv (.val (.bool (if neg=true then !ao.isNone else ao.isNone)))) (v:=.bool (if neg=true then !ao.isNone else ao.isNone)) (by simp [AV.holds,CV.holds]) (by simp) o.dst
 exact h ao.isNone h1 n0 w0 e1 _ w Qr bo fun e'' st' a' w'' hq ah ac bw=>hk e'' st' a' w'' hq ah (by rw [ac,put_defers]) bw
end
section
variable {F:Fence} {n:Nat} {P:Program} {ops:List Oper} {sg:FuncId->Option Sig} {M:Den}
theorem Adv.put {lk:Lk} {m m':Emb} {s:SS} {st:St} {d:Option Nat} {x:AV} {B:List Box} {V:List Vec} {y:AV} {B':List Box} {V':List Vec} (hd:bX lk d=true) (hs:Stp m st.B st.V m' B' V')
  (hB:s.B.length<=B.length) (hV:s.V.length<=V.length) (hb:∀ i∈lk.b,i<s.B.length->B[i]? = s.B[i]?) (hv:∀ i∈lk.v,i<s.V.length->V[i]? = s.V[i]?) (ho:∀ i,i<s.V.length->m'.fo i=m.fo i) :
  Adv lk m s st m' (s.put d x B V) (st.put d y B' V'):=
 ⟨hs,rfl,hB,hV,SS.put_get hd,hb,hv,fun i _ hi=>ho i hi⟩
theorem OpOK.sc {m':Emb} {x a:AV} (h:x.clo=true\/a=x.cz m'):∀ nb vs,AV.sco nb vs a->AV.sco nb vs (x.cz m'):=by
 rcases h with h | h
 ·obtain ⟨h1,_,h3⟩:=AV.clo_spec h
  grind
 grind
variable {o:Oper} {rest:List Oper}
theorem ET (hF:Free F) {m:Emb} {lk:Lk} {s:SS} {st:St} {K:AV->List Box->List Vec->Option Ou} {r:Ou} {Q:St->Prop} (hE:Em m s st) (hw:Wants ops o st true) (hd:bX lk o.dst=true)
  (h:OpOK P m lk s st o.op K r)
  (hk:∀ x B V m' B' V',K x B V=some r->Em m' (s.put o.dst x B V) (st.put o.dst (x.cz m') B' V')->Adv lk m s st m' (s.put o.dst x B V) (st.put o.dst (x.cz m') B' V')->dQ F n P ops.toArray rest (st.put o.dst (x.cz m') B' V') Q) :
  dQ F n P ops.toArray (o::rest) st Q:=by
 obtain ⟨a,x,B,V,B',V',m',h1,h2,h3,h4,h5,h6,h7,h8,h9,jj,n9,pv⟩:=h;refine dM hw (aGK hF h1 h2 (OpOK.sc h3) ?_);exact hk x B V m' B' V' h4 (hE.put h5 h6.up h7 h9 jj h8 o.dst) (Adv.put hd h6 h9 jj n9 pv fun i hi=>h7 i (by rw [hE.m.vl];exact hi))
theorem cC {m:Emb} {s:SS} {st:St} (hE:Em m s st) (args:List Operand):args.map st.ev=AV.czs m (args.map s.ev):=by
 rw [AV.czs_eq,List.map_map];exact List.map_congr_left fun x _=>hE.ev x
theorem CN (m:Emb) (xs ys:List AV):AV.czs m (xs++ys)=AV.czs m xs++AV.czs m ys:=by simp [AV.czs_eq]
theorem PM {B:List Box} {V:List Vec}:∀ {ps:List Sc} {xs:List AV} {l:List CV} {b:Bool} (caps:List CV),iB B V ps xs=some (l,b)->caps.all (fun c=>Lf.ref.ok c)=true ->
  iB B V (ps++List.replicate caps.length (.one .ref)) (xs++caps.map .cv)=some (l++caps,b)
 | [],[],l,b,caps,h,hc=>by
  have _:=G;obtain ⟨rfl,rfl⟩:=h
  induction caps with
  | nil=>rfl
  | cons c caps ih =>
   simp_all [List.replicate_succ,iB,aGI,lnd,aCb]
 | p::ps,x::xs,l,b,caps,h,hc=>by
  simp only [iB] at h;split at h
  ·rename_i l1 b1 l2 b2 h1 h2
   cases h;simp only [List.cons_append,iB,h1,PM caps h2 hc,List.append_assoc]
  ·cases h
 | [],_::_,_,_,_,h,_=>by grind [iB]
 | _::_,[],_,_,_,h,_=>by grind [iB]
structure ClA (m:Emb) (s:SS) (A:AV):Prop where
 cz:A.cz m=A
 inn:AV.inn s.B.length s.V.length A=true
 cl:AV.closed A=true
theorem ClA.res (m:Emb) (s:SS) (rs:List Sc) (out:List CV):ClA m s (Sc.res rs out):=by
 obtain ⟨p1,p2⟩:=Sc.res_pl rs out m s.B.length s.V.length;exact ⟨p1,p2,Sc.res_closed rs out⟩
theorem ClA.resF (m:Emb) (s:SS) (rs:List Sc) (out:List CV):ClA m s (Sc.resF rs out):=by
 obtain ⟨_,p1,p2,p3⟩:=Sc.resF_flat rs out;exact ⟨p2 m,p3 _ _,p1⟩
def aId (P:Program) (m:Emb) (s:SS) (st:St) (o:Oper) (K:AV->Option Ou) (r:Ou) (dr:Bool):Prop:=
 ∃ (x:Operand) (args:Array Operand) (ts:Array TypeId) (f:FuncId) (caps:List AV) (A:AV),o.op=.call { callee:=.value x,args,argTypes:=ts }/\eQ (st.ev x)=some (f,caps)/\iI P f=true /\
  K A=some r/\ClA m s A/\CallP P f (args.toList.map st.ev++caps) st.B st.V (fun r' B' V'=>r'=A/\B'=st.B/\V'=st.V) /\
  (dr=true->∃ as',AV.les (args.toList.map st.ev++caps) as'/\AV.closeds (args.toList.map st.ev++caps)=true/\AV.closeds as'=true/\SpecR P f as' A)
theorem ZF (hM:Fns P sg M) {m:Emb} {B B1:List Box} {V V1:List Vec} (hE:EmM m B V B1 V1) {f:FuncId} {g:Sig} {xs:List AV} {l:List CV} {b:Bool} {out:List CV} (hs:sg f=some g) (hl:iB B V g.ps xs=some (l,b)) (ho:M f l=some out) :
  CallP P f (AV.czs m xs) B1 V1 fun r B' V'=>r=Sc.resF g.rs out/\B'=B1/\V'=V1:=by
 have h:=hM.spec f g l out hs ho;obtain ⟨p1,p2⟩:=fS hE hl;have bz:=Sc.avs_closed g.ps l 0;obtain ⟨q1,q2,_,_⟩:=Sc.resF_flat g.rs out;have h2:SpecR P f (AV.lends B1 V1 (AV.czs m xs)) (Sc.resF g.rs out):=SpecR.weak (CallP.args h p1 (AV.scos_closed _ _ _ bz)) (Sc.resF_le _ _) q2;exact SpecR.lent h2 rfl q2 q1
theorem CO (hM:Fns P sg M) {m:Emb} {s:SS} {st:St} (hE:Em m s st) {dr:Bool} {f:FuncId} {xs:List AV} {K:AV->Option Ou} {r:Ou} (h:IY sg M dr s.B s.V f xs K=some r) :
  ∃ A,iI P f=true/\K A=some r/\ClA m s A/\CallP P f (AV.czs m xs) st.B st.V (fun r' B' V'=>r'=A/\B'=st.B/\V'=st.V) /\
   (dr=true->∃ as',AV.les (AV.czs m xs) as'/\AV.closeds (AV.czs m xs)=true/\AV.closeds as'=true/\SpecR P f as' A):=by
 unfold IY at h;split at h
 ·cases h
 ·rename_i g hg
  split at h
  ·cases h
  ·rename_i l b hl
   split at h
   ·obtain ⟨out,h1,h2⟩:=eA h
    refine ⟨_,hM.ent f g hg,h2,ClA.res m s g.rs out,PK hM hE.m hg hl h1 ?_,fun hdr=>?_⟩
    ·grind
    ·cases b
     ·obtain ⟨q1,q2⟩:=(fS hE.m hl).2 rfl
      exact ⟨_,q1,q2,Sc.avs_closed _ _ _,hM.spec f g l out hg h1⟩
     grind
   ·split at h
    ·obtain ⟨out,h1,h2⟩:=eA h
     exact ⟨_,hM.ent f g hg,h2,ClA.resF m s g.rs out,ZF hM hE.m hg hl h1,fun hd=>by grind⟩
    grind
theorem GS (hM:Fns P sg M) {m:Emb} {s:SS} {st:St} (hE:Em m s st) {dr:Bool} {x:Operand} {args:Array Operand} {ts:Array TypeId} (ae:o.op=.call { callee:=.value x,args,argTypes:=ts }) {K:AV->Option Ou} {r:Ou}
  (h:SN P sg M dr s x args.toList ts.toList o.type K=some r):aId P m s st o K r dr:=by
 unfold SN at h;split at h
 ·rename_i f
  obtain ⟨A,h1,h2,hA,h3,h4⟩:=CO hM hE h;refine ⟨_,args,ts,f,[],A,ae,by rfl,h1,h2,hA,?_,fun hdr=>?_⟩
  ·grind [cC]
  grind [cC]
 ·split at h
  ·rename_i f caps hx
   split at h
   ·cases h
   rename_i jq;obtain ⟨A,h1,h2,hA,h3,h4⟩:=CO hM hE h;rw [CN,<- cC hE] at h3 h4;exact ⟨_,args,ts,f,AV.czs m caps,A,ae,by rw [hE.ev,hx];simp [AV.cz,KI m (eq_false_of_ne_true jq)],h1,h2,hA,h3,h4⟩
  ·rename_i c hx
   split at h
   ·rename_i l b hl
    split at h
    ·rename_i hb
     obtain ⟨out,h1,h2⟩:=eA h;unfold dY at h1;split at h1
     ·rename_i f caps
      split at h1
      ·rename_i g hg
       split at h1
       ·rename_i nf
        obtain ⟨nf,Fa,hc⟩:=nf;rw [<- Fa] at h2 hb;have po:=PM caps hl hc;rw [<- nf] at po
        have h3:CallP P f (AV.czs m (args.toList.map s.ev++caps.map .cv)) st.B st.V _:=PK hM hE.m hg po h1 (by
         grind)
        have iF:AV.czs m (caps.map .cv)=caps.map .cv:=by simp [AV.czs_eq,AV.cz]
        rw [CN,<- cC hE,iF] at h3;refine ⟨_,args,ts,f,caps.map .cv,_,ae,by rw [hE.ev,hx];rfl,hM.ent f g hg,h2,ClA.res m s g.rs out,h3,fun hdr=>?_⟩
        cases b
        ·obtain ⟨q1,q2⟩:=(fS hE.m po).2 rfl
         rw [CN,<- cC hE,iF] at q1 q2;exact ⟨_,q1,q2,Sc.avs_closed _ _ _,hM.spec f g _ out hg h1⟩
        grind
       grind
      grind
     grind
    grind
   grind
  grind
theorem ZG (hF:Free F) {m:Emb} {lk:Lk} {s:SS} {st:St} {K:AV->Option Ou} {r:Ou} {Q:St->Prop} (hE:Em m s st) (hw:Wants ops o st true) (hd:bX lk o.dst=true)
  (h:aId P m s st o K r false)
  (hk:∀ x,K x=some r->Em m (s.put o.dst x s.B s.V) (st.put o.dst (x.cz m) st.B st.V)->Adv lk m s st m (s.put o.dst x s.B s.V) (st.put o.dst (x.cz m) st.B st.V)->dQ F n P ops.toArray rest (st.put o.dst (x.cz m) st.B st.V) Q) :
  dQ F n P ops.toArray (o::rest) st Q:=by
 obtain ⟨x,args,ts,f,caps,A,h1,h2,h3,h4,⟨p1,p2,_⟩,h5,_⟩:=h;refine dM hw (tF hF h1 h2 (enters h3) (CallP.mono h5 ?_));rintro r' B' V' ⟨rfl,rfl,rfl⟩;have:=hk _ h4 (hE.put hE.m (Emb.Up.refl _) (fun _ _=>rfl) (Nat.le_refl _) (Nat.le_refl _) p2 o.dst) (Adv.put hd (Stp.refl _ _ _) (Nat.le_refl _) (Nat.le_refl _) (fun _ _ _=>rfl) (fun _ _ _=>rfl) (fun _ _=>rfl))
 grind
end
end Go.Sx
