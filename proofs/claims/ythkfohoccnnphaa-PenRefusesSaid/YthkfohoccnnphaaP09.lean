/-
 The law PenRefuses of the pens of a pound holds at every input, without any condition.
-/
import Derived.KernelRfl
import Derived.OpenShut
import Derived.ProofKit
import Derived.SizedLaws
import Derived.Test.YthkfohoccnnphaaProg
import Derived.Test.YthkfohoccnnphaaP08
namespace Go.Sx
open Go
def plT (P:Program):Nat→TypeId→Bool
 | 0,_=>false
 | n+1,t=>match P.underlying t with
  | some .bool=>true
  | some (.int _)=>true
  | some (.slice e)=>decide (0<P.cellsOf e)&&plT P n e
  | some (.struct fs)=>fs.toList.all fun f=>plT P n f.type
  | some (.array _ e)=>plT P n e
  | _=>false
def PV (R:TypeId→List CV→Prop):List TypeId→List CV→Prop
 | [],cs=>cs=[]
 | t::ts,cs=>∃ a b,cs=a++b∧R t a∧PV R ts b
def Shp (P:Program):Nat→TypeId→List CV→Prop
 | 0,_,_=>False
 | n+1,t,cs=>match P.underlying t with
  | some .bool=>∃ b,cs=[cb b]
  | some (.int k)=>∃ m,cs=[.val (.int k m)]∧(Lit.int k m).wf=true
  | some (.slice e)=>∃ es,cs=[.row (P.cellsOf e) es]∧(∀ x∈es,Shp P n e x)∧es.length*P.bytesOf e≤reachBytes
  | some (.struct fs)=>PV (Shp P n) (fs.toList.map (·.type)) cs
  | some (.array m e)=>PV (Shp P n) (List.replicate m e) cs
  | _=>False
section
variable {P:Program} {w:World} {S:Nat→Prop}
theorem SJ {k b:Nat}:∀ (es:List (List CV)) (o:Nat),(∀ i (h:i<es.length),es[i].length=k∧CV.cells w S es[i] b (o+i*k))→CV.rows w S k es b o
 | [],o,_=>by simp [CV.rows]
 | e::es,o,h=>by
  simp only [CV.rows]
  have h0:=h 0 (by simp)
  refine ⟨by simpa using h0.1,by simpa using h0.2,SJ es (o+k) fun i hi=>?_⟩
  have:=h (i+1) (by simpa using hi)
  rw [show o+(i+1)*k=o+k+i*k by rw [Nat.add_mul];omega] at this
  simpa using this
theorem ZM {cs cs':List CV} {vs vs':List Value} (h:CV.vals w S cs vs) (h':CV.vals w S cs' vs'):CV.vals w S (cs++cs') (vs++vs'):=CV.vals.append h h'
theorem BK (R:TypeId→List CV→Prop):∀ (ts:List TypeId) (cs:List Value),cs.length=(ts.map P.cellsOf).sum →
  (∀ j t,ts[j]? = some t→∃ cvs,R t cvs∧CV.vals w S cvs ((cs.drop ((ts.take j).map P.cellsOf).sum).take (P.cellsOf t)))→∃ cvs,PV R ts cvs∧CV.vals w S cvs cs
 | [],cs,hl,_=>⟨[],rfl,by
  have:cs=[]:=List.length_eq_zero_iff.1 (by simpa using hl)
  subst this;simp [CV.vals]⟩
 | t::ts,cs,hl,h=>by
  simp only [List.map_cons,List.sum_cons] at hl
  obtain ⟨a,ha,hav⟩:=h 0 t rfl
  obtain ⟨b,hb,hbv⟩:=BK R ts (cs.drop (P.cellsOf t)) (by rw [List.length_drop];omega) fun j u hj=>by
   obtain ⟨c,hc,hcv⟩:=h (j+1) u (by simpa using hj)
   refine ⟨c,hc,?_⟩
   rw [List.drop_drop]
   simpa using hcv
  refine ⟨a++b,⟨a,b,rfl,ha,hb⟩,?_⟩
  have:=ZM hav hbv
  simpa using this
theorem weightsAll_mem {H:Type} {e:TypeId}:∀ {l:List (DataW H)} {d:DataW H},d∈l→∀ m∈d.weights P e,m∈DataW.weightsAll P e l
 | x::l,d,h,m,hm=>by
  simp only [DataW.weightsAll,List.mem_append]
  rcases List.mem_cons.1 h with rfl | h
  ·exact .inl hm
  ·exact .inr (weightsAll_mem h m hm)
end
section
variable {H:Type} {enc:TypeId×Value→H} {P:Program} {w:World} {T:TypeId→Prop} {spare:Nat→Bool} {held:Bool}
theorem aBA (K:Kids P T):∀ (n fuel:Nat) (t:TypeId) (cs:List Value) (x:DataW H×List MemPlace),T t→plT P n t=true→DataW.trod enc P w 0 spare held fuel t cs=some x→(∀ m∈x.1.weights P t,m≤reachBytes) →
  ∃ cvs,Shp P n t cvs∧CV.vals w (fun b=>b<w.heap.size) cvs cs:=by
 intro n
 induction n with
 | zero=>intro fuel t cs x _ hp;simp [plT] at hp
 | succ n ih =>
  intro fuel t cs x hT hp h hw
  simp only [plT] at hp
  simp only [Shp]
  cases hu:P.underlying t with
  | none=>rw [hu] at hp;cases hp
  | some U =>
   rw [hu] at hp
   cases U with
   | bool =>
    obtain ⟨b,rfl,_⟩:=DataW.trod_bool hu h
    exact ⟨[cb b],⟨b,rfl⟩,by simp [cb,CV.vals,CV.holds,Value.oneCell']⟩
   | int k =>
    obtain ⟨m,rfl,_,hm⟩:=DataW.trod_int hu h
    exact ⟨[.val (.int k m)],⟨m,rfl,hm⟩,by simp [CV.vals,CV.holds,Value.oneCell']⟩
   | struct fs =>
    obtain ⟨xs,m,rfl,rfl,hl,hxl,hx⟩:=DataW.trod_struct hu h
    obtain ⟨k1,k2,k3⟩:=K.struct hT hu
    simp only [List.all_eq_true] at hp
    refine BK (P:=P) (Shp P n) (fs.toList.map (·.type)) cs (by rw [hl,k2,List.map_map];rfl) fun j u hj=>?_
    rw [List.getElem?_map,Option.map_eq_some_iff] at hj
    obtain ⟨f,hf,rfl⟩:=hj
    have hfm:f∈fs.toList:=List.mem_of_getElem? hf
    have hfa:fs[j]? = some f:=by rw [← Array.getElem?_toList];exact hf
    have hxj:=hx j f hfa
    have hjl:j<xs.length:=by rw [hxl];exact (Array.getElem?_eq_some_iff.1 hfa).1
    rw [List.getElem?_eq_getElem hjl] at hxj
    rw [k3 j f hf] at hxj
    rw [← List.map_take,List.map_map]
    refine ih m f.type _ _ (k1 f hfm) (hp f hfm) hxj fun v hv=>hw v ?_
    simp only [DataW.weights,hu]
    exact DataW.weights_mem_each (j:=j) (t:=f.type) (d:=xs[j].1) (by rw [List.getElem?_map,hf];rfl) (by rw [List.getElem?_map,List.getElem?_eq_getElem hjl];rfl) v hv
   | array m e =>
    obtain ⟨xs,q,rfl,rfl,hl,hxl,hx⟩:=DataW.trod_array hu h
    obtain ⟨k1,k2⟩:=K.array hT hu
    refine BK (P:=P) (Shp P n) (List.replicate m e) cs (by rw [hl,k2];simp) fun j u hj=>?_
    obtain ⟨hjm,rfl⟩:=List.getElem?_eq_some_iff.1 hj
    rw [List.length_replicate] at hjm
    rw [List.getElem_replicate]
    have hxj:=hx j hjm
    rw [List.getElem?_eq_getElem (by omega)] at hxj
    have e1:((List.take j (List.replicate m e)).map P.cellsOf).sum=j*P.cellsOf e:=by
     rw [List.take_replicate,Nat.min_eq_left (by omega)];simp
    rw [e1]
    refine ih q e _ _ k1 hp hxj fun v hv=>hw v ?_
    simp only [DataW.weights,hu]
    exact weightsAll_mem (List.mem_map.2 ⟨xs[j],List.getElem_mem _,rfl⟩) v hv
   | slice e =>
    simp only [Bool.and_eq_true,decide_eq_true_eq] at hp
    rcases DataW.trod_slice hu h with ⟨rfl,_⟩ | ⟨a,len,cap,elems,rest,m,rfl,rfl,rfl,hb,hlc,hcm,hel,hx,_⟩
    ·refine ⟨[.row (P.cellsOf e) []],⟨[],rfl,by simp,by simp⟩,?_⟩
     simp only [CV.vals,CV.holds,and_true]
     exact ⟨none,0,rfl,Nat.le_refl _,Nat.zero_le _,.inl trivial⟩
    ·have hwe:∀ i (hi:i<elems.length),∀ v∈(elems[i].1).weights P e,v≤reachBytes:=fun i hi v hv=>hw v (by
      simp only [DataW.weights,hu,List.mem_cons,List.mem_append]
      exact .inr (.inl (weightsAll_mem (List.mem_map.2 ⟨elems[i],List.getElem_mem _,rfl⟩) v hv)))
     have hlen:(elems.length+rest.length)*P.bytesOf e≤reachBytes:=hw _ (by simp [DataW.weights,hu])
     have hone:∀ i,∃ cv:List CV,(i<len→∃ cells:List Value,w.cells? 0 (a.add (i*P.cellsOf e)) (P.cellsOf e)=some cells∧Shp P n e cv∧CV.vals w (fun b=>b<w.heap.size) cv cells):=by
      intro i
      by_cases hi:i<len
      ·have hxi:=hx i hi
       rw [List.getElem?_eq_getElem (by omega),Option.bind_eq_some_iff] at hxi
       obtain ⟨cells,h1,h2⟩:=hxi
       obtain ⟨cv,h3,h4⟩:=ih m e cells _ (K.slice hT hu) hp.2 h2 (hwe i (by omega))
       exact ⟨cv,fun _=>⟨cells,h1,h3,h4⟩⟩
      ·exact ⟨[],fun h=>absurd h hi⟩
     obtain ⟨g,hg⟩:=Classical.axiomOfChoice hone
     have hll:((List.range len).map g).length=len:=by simp
     refine ⟨[.row (P.cellsOf e) ((List.range len).map g)],⟨_,rfl,?_,?_⟩,?_⟩
     ·intro y hy
      obtain ⟨i,hi,rfl⟩:=List.mem_map.1 hy
      rw [List.mem_range] at hi
      obtain ⟨_,_,h3,_⟩:=hg i hi
      exact h3
     ·rw [hll]
      refine Nat.le_trans (Nat.mul_le_mul_right _ ?_) hlen
      omega
     ·simp only [CV.vals,CV.holds,and_true]
      refine ⟨some a,cap,by rw [hll],by rw [hll];exact hlc,hcm,?_⟩
      by_cases h0:len=0
      ·exact .inl (by simp [h0])
      ·right
       have hcell:∀ i,i<len→∀ j v (cells:List Value),w.cells? 0 (a.add (i*P.cellsOf e)) (P.cellsOf e)=some cells→cells[j]? = some v→w.cell? ((a.add (i*P.cellsOf e)).add j)=some v:=by
        intro i _ j v cells hc hj
        simp only [World.cells?,Nat.zero_le,if_true] at hc
        have hjl:=(List.getElem?_eq_some_iff.1 hj).1
        have hll:=mapM_some_length hc
        rw [List.length_range] at hll
        have hr:(List.range (P.cellsOf e))[j]? = some j:=List.getElem?_range (by omega)
        have:=mapM_some_get hc j j hr
        rw [this,hj]
       have hclen:∀ (b:Addr) (cells:List Value),w.cells? 0 b (P.cellsOf e)=some cells→cells.length=P.cellsOf e:=by
        intro b cells hc
        simp only [World.cells?,Nat.zero_le,if_true] at hc
        simpa using mapM_some_length hc
       obtain ⟨cells0,hc0,_,hv0⟩:=hg 0 (by omega)
       have hl0:cells0.length=P.cellsOf e:=hclen _ _ hc0
       have hpos:0<cells0.length:=by omega
       have hz:=hcell 0 (by omega) 0 cells0[0] cells0 hc0 (List.getElem?_eq_getElem hpos)
       have hz0:(a.add (0*P.cellsOf e)).add 0=a:=by simp [Addr.add]
       rw [hz0] at hz
       have hspot:a.spot=none∧a.block<w.heap.size:=by
        unfold World.cell? at hz
        split at hz
        ·rename_i c t fz hh
         split at hz
         ·cases hz
         ·rename_i hs
          refine ⟨by cases hsp:a.spot <;> simp [hsp] at hs ⊢,?_⟩
          by_cases hlt:a.block<w.heap.size
          ·exact hlt
          ·rw [Array.getElem?_eq_none (by omega)] at hh;cases hh
        ·cases hz
       obtain ⟨ab,ao,asp⟩:=a
       simp only at hspot
       obtain ⟨rfl,hbl⟩:=hspot
       refine ⟨ab,ao,rfl,hbl,?_⟩
       refine SJ _ _ fun i hi=>?_
       rw [hll] at hi
       simp only [List.getElem_map,List.getElem_range]
       obtain ⟨cells,hc,_,hv⟩:=hg i hi
       have hlc':cells.length=P.cellsOf e:=hclen _ _ hc
       refine ⟨by rw [← hlc'];exact (CV.vals.length hv).symm,CV.cells.of_vals hv fun j v hj=>?_⟩
       have:=hcell i hi j v cells hc hj
       have e0:∀ (b o m:Nat),(Addr.mk b o none).add m=⟨b,o+m,none⟩:=by
        intro b o m
        unfold Addr.add
        by_cases hm:m=0
        ·subst hm;rfl
        ·rw [if_neg hm]
       have e1:((Addr.mk ab ao none).add (i*P.cellsOf e)).add j=⟨ab,ao+i*P.cellsOf e+j,none⟩:=by rw [e0,e0]
       rw [e1] at this
       exact this
   | _=>cases hp
end
end Go.Sx
namespace Go.Sx
open Go Go.ChangeShapes Go.WideShapes Go.ChangeAt Go.RowKit
def isAgg (P:Program) (t:TypeId):Bool:=match P.underlying t with
 | some (.struct _)=>true
 | some (.array _ _)=>true
 | _=>false
def xL (P:Program):List TypeId→List (List CV)→List AV
 | t::ts,c::cs=>(if isAgg P t=true then .agg (c.map .cv) else .cv (c.headD dC))::xL P ts cs
 | _,_=>[]
def nI (P:Program) (n:Nat):List TypeId→List (List CV)→Prop
 | [],[]=>True
 | t::ts,c::cs=>Shp P n t c∧nI P n ts cs
 | _,_=>False
theorem tX (P:Program):∀ (ts:List TypeId) (cs:List (List CV)),AV.closeds (xL P ts cs)=true
 | [],[]=>rfl
 | [],_::_=>rfl
 | _::_,[]=>rfl
 | t::ts,c::cs=>by
  have hc:∀ (l:List CV),AV.closeds (l.map .cv)=true:=by
   intro l
   induction l with
   | nil=>rfl
   | cons x l ih=>simp [AV.closeds,AV.closed,ih]
  simp only [xL,AV.closeds,Bool.and_eq_true]
  refine ⟨?_,tX P ts cs⟩
  split
  ·simp only [AV.closed];exact hc c
  ·rfl
theorem xM {e:Env} {w:World} {ks:List Nat}:∀ {cs:List CV} {vs:List Value},CV.vals w e.S cs vs→AV.all e w ks (cs.map .cv) vs
 | [],[],_=>by simp [AV.all]
 | c::cs,v::vs,h=>by
  simp only [CV.vals] at h
  simp only [List.map_cons,AV.all,AV.holds]
  exact ⟨h.1,xM h.2⟩
 | [],_::_,h=>by simp [CV.vals] at h
 | _::_,[],h=>by simp [CV.vals] at h
section
variable {P:Program} {w:World}
theorem VL {base:Nat} {t:TypeId} {v:Value} {n:Nat} (hp:plT P n t=true) (ha:isAgg P t=false) (h:Value.okWide P w .any base t v):v.cells=#[v]:=by
 cases n with
 | zero=>simp [plT] at hp
 | succ n =>
  simp only [plT] at hp
  simp only [isAgg] at ha
  unfold Value.okWide at h
  cases hu:P.underlying t with
  | none=>rw [hu] at hp;cases hp
  | some U =>
   rw [hu] at hp ha h
   cases U with
   | bool=>simp only [Cell.okWide,hu,Cell.ok] at h;cases v <;> simp_all [Value.cells]
   | int k=>simp only [Cell.okWide,hu,Cell.ok] at h;cases v <;> simp_all [Value.cells]
   | slice e=>simp only [Cell.okWide,hu,Cell.ok] at h;cases v <;> simp_all [Value.cells]
   | struct fs=>cases ha
   | array m e=>cases ha
   | _=>cases hp
theorem aBB {base:Nat} {t:TypeId} {v:Value} (ha:isAgg P t=true) (h:Value.okWide P w .any base t v):∃ cs,v=.agg cs:=by
 simp only [isAgg] at ha
 unfold Value.okWide at h
 cases hu:P.underlying t with
 | none=>rw [hu] at ha;cases ha
 | some U =>
  rw [hu] at ha h
  cases U with
  | struct fs=>obtain ⟨cs,h,_⟩:=h;exact ⟨cs,h⟩
  | array m e=>obtain ⟨cs,h,_⟩:=h;exact ⟨cs,h⟩
  | _=>cases ha
variable {H:Type} {enc:TypeId×Value→H} {T:TypeId→Prop} {spare:Nat→Bool} {held:Bool}
theorem SK (K:Kids P T) {base:Nat} (n:Nat):∀ (ts:List TypeId) (vs:List Value) (ds:List (DataW H)) (ps:List MemPlace),(∀ t∈ts,T t)→ts.all (plT P n)=true →
  (∀ (j:Nat) t v,ts[j]? = some t→vs[j]? = some v→Value.okWide P w .any base t v)→DataW.TrodAll enc P w 0 spare held ts vs ds ps→(∀ m∈DataW.weightsEach P ts ds,m≤reachBytes) →
  ∃ css:List (List CV),nI P n ts css∧∀ (e:Env) (ks:List Nat),(e.S=fun b=>b<w.heap.size)→AV.all e w ks (xL P ts css) vs
 | [],vs,ds,ps,_,_,_,h,_=>by
  obtain ⟨rfl,_,_⟩:=trodAll_nil h
  exact ⟨[],trivial,fun e ks _=>by simp [xL,AV.all]⟩
 | t::ts,vs,ds,ps,hT,hp,hv,h,hw=>by
  obtain ⟨v,vs',d,ds',p,q,rfl,rfl,rfl,⟨fuel,h1⟩,h2⟩:=trodAll_cons h
  simp only [List.all_cons,Bool.and_eq_true] at hp
  simp only [DataW.weightsEach,List.mem_append] at hw
  obtain ⟨css,s1,s2⟩:=SK K n ts vs' ds' q (fun u hu=>hT u (by simp [hu])) hp.2 (fun j u x hj hx=>hv (j+1) u x (by simpa using hj) (by simpa using hx)) h2 (fun m hm=>hw m (.inr hm))
  obtain ⟨cvs,c1,c2⟩:=aBA K n fuel t v.cells.toList _ (hT t (by simp)) hp.1 h1 (fun m hm=>hw m (.inl hm))
  refine ⟨cvs::css,⟨c1,s1⟩,fun e ks he=>?_⟩
  have hv0:=hv 0 t v rfl rfl
  simp only [xL,AV.all]
  refine ⟨?_,s2 e ks he⟩
  cases ha:isAgg P t with
  | true =>
   obtain ⟨cs,rfl⟩:=aBB ha hv0
   simp only [if_true,AV.holds]
   exact ⟨cs,rfl,xM (by rw [he];exact c2)⟩
  | false =>
   have hc:=VL hp.1 ha hv0
   rw [hc] at c2
   simp only [Bool.false_eq_true,if_false,AV.holds]
   match cvs,c2 with
   | [c],c2 =>
    simp only [CV.vals,and_true] at c2
    rw [he];exact c2
   | [],c2=>simp [CV.vals] at c2
   | _::_::_,c2=>simp [CV.vals] at c2
end
theorem xN {H:Type} {enc:TypeId×Value→H} {P:Program} {W:World} {sp:Nat→Bool} {hd:Bool}:∀ {ts:List TypeId} {vs:List Value} {ds:List (DataW H)} {ps:List MemPlace},DataW.TrodAll enc P W 0 sp hd ts vs ds ps→ds.length=ts.length
 | [],vs,ds,ps,hA=>by obtain ⟨rfl,rfl,rfl⟩:=trodAll_nil hA;rfl
 | t::ts,vs,ds,ps,hA=>by
  obtain ⟨v,vs',d,ds',p1,p2,rfl,rfl,rfl,_,h2⟩:=trodAll_cons hA
  simp [xN h2]
theorem BL {H:Type} {enc:TypeId×Value→H} {P:Program} {W W':World} {sp:Nat→Bool} {hd:Bool} (hB:Below W.heap.size W W'):∀ {ts:List TypeId} {vs:List Value} {ds:List (DataW H)} {ps:List MemPlace},DataW.TrodAll enc P W 0 sp hd ts vs ds ps→DataW.TrodAll enc P W' 0 sp hd ts vs ds ps
 | [],vs,ds,ps,hA=>by obtain ⟨rfl,rfl,rfl⟩:=trodAll_nil hA;exact rfl
 | t::ts,vs,ds,ps,hA=>by
  obtain ⟨v,vs',d,ds',p1,p2,rfl,rfl,rfl,⟨fuel,h1⟩,h2⟩:=trodAll_cons hA
  exact ⟨p1,p2,⟨fuel,DataW.trod_carry fuel _ _ _ h1 fun x hx=>hB.same (DataW.trod_lt fuel _ _ _ h1 x hx)⟩,BL hB h2,rfl⟩
theorem ZN {C:Checked} {os:Os} {f:FuncId} {fn:Func} {s:ChangeSpec} {conds:List PathCond} {fresh handsOn:Bool} {H:Type} {enc:TypeId×Value→H} {tb:TypeId} (n:Nat)
  (own:ownKnob C.prog.godebug=none) (started:os.Started) (noInit:C.prog.inits.idxOf? f=none) (hfn:C.prog.funcs[f]? = some fn)
  (K:Kids C.prog (·<C.prog.types.size)) (hz:∀ t e,t<C.prog.types.size→C.prog.underlying t=some (.slice e)→0<C.prog.cellsOf e)
  (hts:∀ t∈fn.params.toList,t<C.prog.types.size) (hpl:fn.params.toList.all (plT C.prog n)=true) (hres:fn.resultTypes=#[tb]) (hb:C.prog.underlying tb=some .bool)
  (hvars:s.vars=[]) (hspec:∀ ds:List (DataW H),ds.length=fn.params.toList.length→s.fn H (ds++[])={ results:=[.lit (.bool true)],args:=ds })
  (witness:∃ (w:World) (tape:Tape) (i:Input),w.os=os∧(w.forCall tape i).Shaped C.prog∧i.vars=[]∧Input.okWide C.prog (w.forCall tape i) .any w.heap.size f i ∧
   s.pre6 enc C.prog fn conds false (w.forCall tape i).memory i.args∧({}:Assume).holds C.prog (lone (Frame.enter C.prog f i.args .normal) [] (w.forCall tape i)))
  (law:∀ css,nI C.prog n fn.params.toList css→SpecR C.prog f (xL C.prog fn.params.toList css) (.cv (cb true))) :
  ReturnsInHanded {} C os f .any (s.pre6 enc C.prog fn conds false) (s.post enc C.prog fn false fresh handsOn false):=by
 refine returnsInHanded_of_change_sized own started noInit hfn witness ?_
 intro W base args ds gs before hval hW hcnd hsz _
 have hW':=hW
 obtain ⟨p,q,hA,hV,rfl,hfz,hnd⟩:=hW
 rw [hvars] at hV
 obtain ⟨rfl,rfl⟩:=trodVars_none hV
 simp only [List.append_nil] at hW'
 have hwt:∀ m∈DataW.weightsEach C.prog fn.params.toList ds,m≤reachBytes:=by
  intro m hm
  have hh:∀ (ts us:List TypeId) (ds:List (DataW H)),m∈DataW.weightsEach C.prog ts ds→m∈DataW.weightsEach C.prog (ts++us) ds:=by
   intro ts
   induction ts with
   | nil=>intro us ds h;simp [DataW.weightsEach] at h
   | cons t ts ih =>
    intro us ds h
    cases ds with
    | nil=>simp [DataW.weightsEach] at h
    | cons d ds =>
     simp only [DataW.weightsEach,List.mem_append,List.cons_append] at h ⊢
     exact h.imp id (ih us ds)
  have:=List.all_eq_true.1 hsz m (by rw [List.append_nil];exact hh _ _ _ hm)
  simpa using this
 obtain ⟨css,s1,s2⟩:=SK K n fn.params.toList args.toList ds p hts hpl (fun j t v hj hv=>hval j t v (by rw [← Array.getElem?_toList];exact hj) (by rw [← Array.getElem?_toList];exact hv)) hA hwt
 let e0:Env:={ ρ:=fun _=>0,hdr:=fun _ _=>undef,S:=fun b=>b<W.heap.size,base:=W.heap.size,H:=fun _=>none,y:=false }
 have hm:Mem W.heap.size W e0 [] [] W:=Mem.nothing e0 W fun b hb=>hb
 have hc:=law css s1 Fence.wide 0 TM rfl W.heap.size W e0 W args hm (s2 e0 _ rfl) (AV.scos_closed _ _ _ (tX _ _ _))
 refine (CallsIn.calls hc (fun k=>by simp [Fence.room,Fence.wide])).mono ?_
 rintro en W' ⟨e',B',V',r,v,rfl,⟨rfl,rfl,rfl⟩,hmem,hex,hr,_⟩
 simp only [AV.holds,cb,CV.holds] at hr
 obtain ⟨rfl,_⟩:=hr
 have hB:Below W.heap.size W W':=by
  have:=hmem.below
  rwa [Env.nb_false (show e'.y=false from hex.ye)] at this
 have hdl:=xN hA
 refine ⟨_,rfl,ds,[],p,[],p,[],hW',?_,?_,?_,hB.frame _,fun h=>by cases h⟩
 ·rw [hspec ds hdl,hres]
  exact trodAll_mk1 (shut_bool hb true)
 ·rw [hspec ds hdl]
  have h1:=BL hB hA
  exact DataW.TrodAll.respare K hz hts h1 (fun x hx=>by simpa using DataW.TrodAll.lt hA x hx)
 ·rw [hspec ds hdl,hvars];rfl
end Go.Sx
namespace Go.Proofs.Ythkfohoccnnphaa
open Go Go.Sx
set_option maxRecDepth 100000
def fe3:FE:=⟨226,[.tmp 6],.two (.reg [] [1,3,5] none []) (.two (.two (.reg [] [1,3,5,33] none []) (.cond none (.two (.reg [] [6] none []) (.nil)) (.nil))) (.two (.reg [] [1,3,5,7] none []) (.two (.reg [] [1,3,5,7,8,9] none []) (.two (.reg [] [1,3,5,7,8,9,10,11] none []) (.two (.reg [] [1,3,5,8,9,10,11,12,13] none []) (.two (.two (.reg [] [] (some ⟨[1,3,5,8,10,12],[(70,.lf lb)],[],[]⟩) []) (.cond none (.two (.reg [] [6] none []) (.nil)) (.nil))) (.two (.reg [] [1,3,5,8,10,12,14] none []) (.two (.two (.reg [] [1,3,5,8,10,14,71,72,73] none []) (.blk ⟨[1,3,5,8,10],[(14,.lf li)],[],[]⟩ (.lp [] ⟨[1,3,5,8,10,71,72],[(14,.lf li),(73,.lf li)],[],[]⟩ (.two (.reg [] [1,3,5,8,10,14,71,72,73,74] none []) (.two (.cond none (.nil) (.nil)) (.two (.thru (.two (.reg [] [1,3,5,8,10,14,16,71,72,73] none []) (.two (.two (.reg [] [] (some ⟨[1,3,5,8,10,14,16,71,72,73],[(84,.lf lb)],[],[]⟩) []) (.cond none (.two (.reg [] [6] none []) (.nil)) (.nil))) (.two (.reg [] [1,3,5,8,10,14,16,71,72,73,86,87,88] none []) (.blk ⟨[1,3,5,8,10,71,72,73],[(14,.lf li)],[],[]⟩ (.lp [] ⟨[1,3,5,8,10,16,71,72,73,86,87],[(14,.lf li),(88,.lf li)],[],[]⟩ (.two (.reg [] [1,3,5,8,10,14,16,71,72,73,86,87,88,89] none []) (.two (.cond none (.nil) (.nil)) (.two (.thru (.two (.reg [] [1,3,5,8,10,14,16,18,71,72,73,86,87,88] none []) (.two (.reg [] [1,3,5,8,10,14,16,18,71,72,73,86,87,88,99] none []) (.cond (some ⟨[1,3,5,8,10,16,71,72,73,86,87,88],[(14,.lf li)],[],[]⟩) (.reg [] [1,3,5,8,10,14,16,71,72,73,86,87,88] none []) (.nil))))) (.reg [] [1,3,5,8,10,14,16,71,72,73,86,87,88] none [])))))))))) (.reg [] [1,3,5,8,10,14,71,72,73] none []))))))) (.two (.two (.reg [] [1,3,5,110] none []) (.cond none (.two (.reg [] [6] none []) (.nil)) (.nil))) (.two (.reg [] [1,3,5,19] none []) (.two (.reg [] [1,3,5,19,20,21] none []) (.two (.two (.reg [] [1,3,5,19,20,21,122] none []) (.cond (some ⟨[1,3,5],[],[],[]⟩) (.two (.reg [] [1,3,5,19,20,22,23] none []) (.two (.reg [] [1,3,5,19,20,22,23,24,25] none []) (.two (.reg [] [] (some ⟨[1,3,5],[(157,.lf lb)],[],[]⟩) []) (.cond none (.two (.reg [] [6] none []) (.nil)) (.nil))))) (.two (.reg [] [1,3,5,19,21,26,27] none []) (.two (.reg [] [] (some ⟨[1,3,5],[(174,.lf lb)],[],[]⟩) []) (.cond none (.two (.reg [] [6] none []) (.nil)) (.nil)))))) (.two (.reg [] [1,3,5,28,29] none []) (.two (.two (.reg [] [1,3,5,28,29,182] none []) (.cond none (.two (.reg [] [6] none []) (.nil)) (.nil))) (.two (.reg [] [6] none []) (.nil)))))))))))))))),⟨[.agg [Lf.row 1,Lf.row 4],.one (Lf.row 3),.agg [li,li,li]],[.one lb]⟩⟩
def aDo:FE:=⟨80,[.tmp 6],.two (.reg [] [1,3,5] none []) (.two (.reg [] [1,3,5,7,8] none []) (.two (.reg [] [1,3,5,7,8,9,10] none []) (.two (.reg [] [1,3,5,7,8,9,10,11,12] none []) (.two (.reg [] [1,3,5,7,8,9,10,11,12,13,14] none []) (.two (.reg [] [6] none []) (.nil)))))),⟨[.agg [Lf.row 1,Lf.row 4],.one (Lf.row 1),.agg [li,Lf.row 1]],[.one lb]⟩⟩
def aEa:FE:=⟨53,[.tmp 4],.two (.reg [] [1,2] none []) (.two (.two (.reg [] [1,2,5] none []) (.two (.reg [] [1,2,5,13] none []) (.cond none (.two (.reg [] [4] none []) (.nil)) (.nil)))) (.two (.two (.reg [] [1,2,17] none []) (.cond none (.two (.reg [] [4] none []) (.nil)) (.nil))) (.two (.two (.reg [] [2,18,19,20] none []) (.blk ⟨[],[],[],[]⟩ (.lp [] ⟨[2,18,19],[(20,.lf li)],[],[]⟩ (.two (.reg [] [2,18,19,20,21] none []) (.two (.cond none (.nil) (.nil)) (.two (.thru (.two (.reg [] [2,7,18,19,20] none []) (.two (.reg [] [2,7,9,18,19,20] none []) (.two (.reg [] [] (some ⟨[2,18,19,20],[(51,.lf lb)],[],[]⟩) []) (.cond none (.two (.reg [] [4] none []) (.nil)) (.nil)))))) (.reg [] [2,18,19,20] none []))))))) (.two (.reg [] [4] none []) (.nil))))),⟨[.agg [Lf.row 1,Lf.row 4],.one (Lf.row 3)],[.one li]⟩⟩
def aEb:FE:=⟨216,[.tmp 0],.two (.reg [] [] none []) (.two (.reg [] [1] none []) (.two (.reg [] [1,2,3] none [(some 31,⟨[],[],[],[]⟩,.rt [.fz 0])]) (.two (.reg [] [1,2,3,4,5] none []) (.two (.reg [] [1,2,3,4,5,6,7] none [(some 44,⟨[],[],[],[]⟩,.rt [.fz 2])]) (.two (.reg [] [1,2,3,4,5,6,7,8,9] none []) (.two (.reg [] [1,2,3,4,5,6,7,8,9,10,11] none [(some 57,⟨[],[],[],[]⟩,.rt [.fz 4])]) (.two (.reg [] [1,2,3,4,5,6,7,8,9,10,11,12,13] none [(some 63,⟨[],[],[],[]⟩,.rt [.fz 5])]) (.two (.reg [] [1,2,3,4,5,6,7,8,9,10,11,12,13,14,15] none [(some 69,⟨[],[],[],[]⟩,.rt [.fz 6])]) (.two (.reg [] [1,2,3,4,5,6,7,8,9,10,11,12,13,14,15,16,17] none [(some 75,⟨[],[],[],[]⟩,.rt [.fz 7])]) (.two (.reg [] [1,2,3,4,5,6,7,8,9,10,11,12,13,14,15,16,17,18] none []) (.two (.reg [] [1,2,3,4,5,6,7,8,9,10,11,12,13,14,15,16,17,18,19,20] none []) (.two (.reg [] [1,2,3,4,5,6,7,8,9,10,11,12,13,14,15,16,17,18,19,20,21,22] none []) (.two (.reg [] [2,3,4,5,6,7,8,9,10,11,12,13,14,15,16,17,19,20,21,22,23,24] none []) (.two (.reg [] [] (some ⟨[2,4,6,8,10,12,14,16,19,21,23],[(25,.lf lb)],[],[]⟩) []) (.two (.reg [] [2,4,6,8,10,12,14,16,19,21,23,25,26] none []) (.two (.reg [] [0] none []) (.nil))))))))))))))))),⟨[],[.one lb]⟩⟩
def aEc:FE:=⟨12,[.tmp 4],.two (.reg [] [0,1] none []) (.two (.reg [] [4] none []) (.nil)),⟨[.one li,.one li],[.one li]⟩⟩
def aEd:FE:=⟨26,[.tmp 6,.tmp 7],.two (.reg [] [1,2,3] none []) (.two (.reg [] [1,2,8,9] none []) (.two (.two (.reg [] [1,2,8,9,17] none []) (.cond none (.two (.reg [] [6,7] none []) (.nil)) (.nil))) (.two (.two (.reg [] [1,2,8,21] none []) (.cond none (.two (.reg [] [6,7] none []) (.nil)) (.nil))) (.two (.reg [] [6,7] none [(some 22,⟨[],[],[],[]⟩,.rf (some 8))]) (.nil))))),⟨[.agg [Lf.row 1,Lf.row 4],.one (Lf.row 3),.one li],[.one li,.one li]⟩⟩
def aEe:FE:=⟨25,[.tmp 6,.tmp 7],.two (.reg [] [1,2,3] none []) (.two (.two (.reg [] [1,2,9] none []) (.two (.reg [] [1,2,9,17] none []) (.cond none (.two (.reg [] [6,7] none []) (.nil)) (.nil)))) (.two (.two (.reg [] [1,2,21] none []) (.cond none (.two (.reg [] [6,7] none []) (.nil)) (.nil))) (.two (.reg [] [6,7] none []) (.nil)))),⟨[.agg [Lf.row 1,Lf.row 4],.one (Lf.row 3),.one li],[.one (Lf.row 1),.one li]⟩⟩
def aEf:FE:=⟨51,[.tmp 6,.tmp 7],.two (.reg [] [1,2,3] none []) (.two (.reg [] [1,2,8,9] none []) (.two (.thru (.two (.reg [] [1,2,8,9,19] none []) (.cond none (.two (.reg [] [6,7] none []) (.nil)) (.two (.reg [] [1,2,8,23] none []) (.cond none (.two (.reg [] [6,7] none []) (.nil)) (.two (.reg [] [1,2,8,27] none [(some 28,⟨[],[],[],[]⟩,.rf (some 8))]) (.cond none (.two (.reg [] [6,7] none []) (.nil)) (.nil)))))))) (.two (.reg [] [1,2,8,10,11] none []) (.two (.blk ⟨[],[(10,.lf li)],[],[]⟩ (.lp [] ⟨[1,2,8],[(10,.lf li),(11,.lf li)],[],[]⟩ (.two (.two (.reg [] [1,2,8,10,11,35] none []) (.cond none (.nil) (.nil))) (.thru (.two (.reg [] [1,2,8,10,11,12] none []) (.two (.reg [] [1,2,8,10,11,12,46] none []) (.cond (some ⟨[1,2,8],[(10,.lf li),(11,.lf li)],[],[]⟩) (.reg [] [1,2,8,10,11] none []) (.reg [] [1,2,8,10,11] none [])))))))) (.two (.reg [] [6,7] none []) (.nil)))))),⟨[.agg [Lf.row 1,Lf.row 4],.one (Lf.row 3),.one li],[.one li,.one li]⟩⟩
def aEg:FE:=⟨84,[.tmp 4,.tmp 5],.two (.reg [] [1,2] none []) (.two (.reg [] [1,6,7] none []) (.two (.two (.reg [] [1,6,7,24] none []) (.cond none (.two (.reg [] [4,5] none []) (.nil)) (.nil))) (.two (.reg [] [1,6,8] none []) (.two (.two (.reg [] [1,6,8,26,27,28] none []) (.blk ⟨[1,6],[(8,.own 0)],[],[(0,3,1,none)]⟩ (.lp [.mk 8 3 1] ⟨[1,6,26,27],[(8,.own 0),(28,.lf li)],[],[(0,3,1,none)]⟩ (.two (.reg [] [1,6,8,26,27,28,29] none []) (.two (.cond none (.nil) (.nil)) (.two (.thru (.two (.reg [] [1,6,8,10,26,27,28] none []) (.two (.reg [] [1,6,8,10,26,27,28] none []) (.two (.reg [] [1,6,8,10,26,27,28,39] none []) (.cond (some ⟨[1,6,26,27,28],[(8,.own 0)],[],[(0,3,1,none)]⟩) (.reg [] [1,6,8,26,27,28] none []) (.nil)))))) (.reg [] [1,6,8,26,27,28] none []))))))) (.two (.reg [] [1,6,8] none [(some 47,⟨[],[],[],[]⟩,.mt false)]) (.two (.reg [] [1,6,8,11] none []) (.two (.two (.reg [] [1,6,11,49,50,51] none []) (.blk ⟨[],[],[],[(1,11534425,11,some 0)]⟩ (.lp [] ⟨[1,6,11,49,50],[(51,.lf li)],[],[(1,11534425,11,some 0)]⟩ (.two (.reg [] [1,6,11,49,50,51,52] none []) (.two (.cond none (.nil) (.nil)) (.two (.thru (.two (.reg [] [1,6,11,13,49,50,51] none []) (.two (.reg [] [1,6,11,13,14,49,50,51] none []) (.two (.two (.reg [] [1,6,11,13,14,49,50,51,57,58,59] none []) (.blk ⟨[1,6,11,13,49,50,51],[(14,.own 2)],[],[(2,3,1,none)]⟩ (.lp [.mk 14 3 1] ⟨[1,6,11,13,49,50,51,57,58],[(14,.own 2),(59,.lf li)],[],[(2,3,1,none)]⟩ (.two (.reg [] [1,6,11,13,14,49,50,51,57,58,59,60] none []) (.two (.cond none (.nil) (.nil)) (.two (.thru (.two (.reg [] [1,6,11,13,14,16,49,50,51,57,58,59] none []) (.reg [] [1,6,11,13,14,49,50,51,57,58,59] none []))) (.reg [] [1,6,11,13,14,49,50,51,57,58,59] none []))))))) (.two (.reg [.fz 2] [] (some ⟨[1,6,11,13,49,50,51],[(81,.lf lb)],[],[(1,11534425,11,some 0)]⟩) [(some 79,⟨[1,6,11,13,49,50,51,75],[(79,.lf lb)],[],[(1,11534425,11,some 0)]⟩,.two (.reg [] [0,1,2] none []) (.two (.reg [] [0,1,2,7] none []) (.two (.two (.reg [] [0,1,2,7,12,13,14] none []) (.blk ⟨[0,1,2,7],[],[(1,142,[.lf li,.lf li,.lf li,.lf li,.lf li,.lf li,.lf li,.lf li,.lf li,.lf li])],[]⟩ (.lp [] ⟨[0,1,2,7,12,13],[(14,.lf li)],[(1,142,[.lf li,.lf li,.lf li,.lf li,.lf li,.lf li,.lf li,.lf li,.lf li,.lf li])],[]⟩ (.two (.reg [] [0,1,2,7,12,13,14,15] none []) (.two (.cond none (.nil) (.nil)) (.two (.thru (.two (.reg [] [0,1,2,7,9,12,13,14] none []) (.reg [] [0,1,2,7,12,13,14] none []))) (.reg [] [0,1,2,7,12,13,14] none []))))))) (.two (.reg [] [0,1,2,7,10,11] none []) (.two (.two (.reg [] [0,1,2,7,10,31] none []) (.cond (some ⟨[],[(10,.lf lb)],[],[(1,11534425,11,some 0)]⟩) (.two (.reg [] [2,7,10] none [(some 33,⟨[],[],[],[]⟩,.rf (some 0))]) (.reg [] [10] none [])) (.nil))) (.two (.reg [] [6] none []) (.nil)))))))]) (.cond none (.two (.reg [] [4,5] none []) (.nil)) (.nil))))))) (.reg [] [1,6,11,49,50,51] none []))))))) (.two (.reg [] [4,5] none []) (.nil))))))))),⟨[.agg [Lf.row 1,Lf.row 4],.one (Lf.row 3)],[.one li,.one li]⟩⟩
def aEh:FE:=⟨56,[.tmp 6],.two (.reg [] [1,2,3] none []) (.two (.reg [] [1,3,7] none []) (.two (.reg [] [1,3,7,9] none []) (.two (.two (.reg [] [1,3,9,21,22,23] none []) (.blk ⟨[3],[(9,.own 0)],[],[(0,3,1,none)]⟩ (.lp [.mk 9 3 1] ⟨[1,3,21,22],[(9,.own 0),(23,.lf li)],[],[(0,3,1,none)]⟩ (.two (.reg [] [1,3,9,21,22,23,24] none []) (.two (.cond none (.nil) (.nil)) (.two (.thru (.two (.reg [] [1,3,9,11,21,22,23] none []) (.two (.reg [] [] (some ⟨[1,3,9,11,21,22,23],[(34,.lf lb)],[],[]⟩) []) (.cond (some ⟨[1,3,21,22,23],[(9,.own 0)],[],[(0,3,1,none)]⟩) (.reg [] [1,3,9,21,22,23] none []) (.nil))))) (.reg [] [1,3,9,21,22,23] none []))))))) (.two (.reg [] [13] none [(some 47,⟨[],[],[],[]⟩,.rt [.fz 0])]) (.two (.reg [] [6] none []) (.nil)))))),⟨[.agg [Lf.row 1,Lf.row 4],.one (Lf.row 3),.one li],[.one lb]⟩⟩
def aEi:FE:=⟨27,[.tmp 4,.tmp 5],.two (.reg [] [1,2] none []) (.two (.reg [] [1,6,7] none []) (.two (.two (.reg [] [1,6,7,16] none []) (.cond none (.two (.reg [] [4,5] none []) (.nil)) (.nil))) (.two (.reg [] [1,6,8] none []) (.two (.nil) (.two (.two (.reg [] [8,20] none [(some 18,⟨[],[],[],[]⟩,.rf (some 6))]) (.rg (.lent 3 1) ⟨[8,20],[],[(1,3,[.lf li])],[]⟩ (.nil) (.thru (.two (.reg [] [8] none []) (.two (.reg [] [8,25] none []) (.cond none (.nil) (.nil))))))) (.two (.reg [] [4,5] none []) (.nil))))))),⟨[.agg [Lf.row 1,Lf.row 4],.one (Lf.row 1)],[.one li,.one li]⟩⟩
def aEj:FE:=⟨28,[.tmp 4,.tmp 5],.two (.reg [] [1,2] none []) (.two (.reg [] [1,6,7] none []) (.two (.two (.reg [] [1,6,7,17] none []) (.cond none (.two (.reg [] [4,5] none []) (.nil)) (.nil))) (.two (.reg [] [8,9] none [(some 20,⟨[],[],[],[]⟩,.rf (some 6))]) (.two (.two (.reg [] [8,26] none []) (.cond none (.two (.reg [] [4,5] none []) (.nil)) (.nil))) (.two (.reg [] [4,5] none []) (.nil)))))),⟨[.agg [Lf.row 1,Lf.row 4],.one (Lf.row 1)],[.one (Lf.row 1),.one li]⟩⟩
def aEk:FE:=⟨75,[.tmp 4,.tmp 5],.two (.reg [] [1,2] none []) (.two (.reg [] [1,6,7] none []) (.two (.two (.reg [] [1,6,7,23] none []) (.cond none (.two (.reg [] [4,5] none []) (.nil)) (.nil))) (.two (.reg [] [1,6,8] none []) (.two (.reg [] [1,6,8,9] none [(some 25,⟨[],[],[],[]⟩,.rf (some 6))]) (.two (.reg [] [1,6,8,9,10] none []) (.two (.two (.reg [] [6,8,9,10,35] none []) (.rg (.lent 3 1) ⟨[6,8,9,10,35],[],[(1,22,[.lf (Lf.row 1)]),(2,3,[.lf li])],[(0,6291559,6,some 0)]⟩ (.reg [] [6,8,9,10,11] none []) (.thru (.two (.reg [] [8,9,10,11,12] none []) (.two (.reg [] [8,9,10,11,12,13] none []) (.two (.two (.reg [] [8,9,10,11,12,13,37,38,39] none []) (.blk ⟨[8,9,10,11,12],[(13,.lf li)],[(4,104,[.lf lb,.lf lb,.lf lb,.lf lb,.lf lb])],[]⟩ (.lp [] ⟨[8,9,10,11,12,37,38],[(13,.lf li),(39,.lf li)],[(4,104,[.lf lb,.lf lb,.lf lb,.lf lb,.lf lb])],[]⟩ (.two (.reg [] [8,9,10,11,12,13,37,38,39,40] none []) (.two (.cond none (.nil) (.nil)) (.two (.thru (.two (.reg [] [8,9,10,11,12,13,15,37,38,39] none []) (.two (.reg [] [8,9,10,11,12,13,15,37,38,39,46] none []) (.cond (some ⟨[8,9,10,11,12,37,38,39],[(13,.lf li)],[(4,104,[.lf lb,.lf lb,.lf lb,.lf lb,.lf lb])],[]⟩) (.two (.reg [] [8,9,10,11,12,13,37,38,39] none []) (.reg [] [8,9,10,11,12,13,37,38,39] none [])) (.nil))))) (.reg [] [8,9,10,11,12,13,37,38,39] none []))))))) (.two (.two (.reg [] [] (some ⟨[8,9,10,11,12,13],[(60,.lf lb)],[],[]⟩) []) (.cond (some ⟨[10,12],[],[(1,22,[.lf (Lf.row 1)]),(2,3,[.lf li])],[]⟩) (.reg [] [10,12] none [(some 62,⟨[8,9,10,12,13],[(62,.own 2)],[],[(2,3,1,none)]⟩,.two (.reg [] [0] none []) (.two (.two (.reg [] [0,4] none []) (.cond none (.two (.reg [] [2] none []) (.rt [.mk 2 3 1])) (.nil))) (.two (.reg [] [2] none []) (.nil)))),(some 63,⟨[],[],[],[]⟩,.rt [.fz 2])]) (.nil))) (.reg [] [] none [])))))))) (.two (.two (.reg [] [8,73] none []) (.cond none (.two (.reg [] [4,5] none []) (.nil)) (.nil))) (.two (.reg [] [4,5] none []) (.nil))))))))),⟨[.agg [Lf.row 1,Lf.row 4],.one (Lf.row 1)],[.one (Lf.row 1),.one li]⟩⟩
def aEl:FE:=⟨34,[.tmp 2],.two (.reg [] [0] none []) (.two (.reg [] [0,3] none []) (.two (.two (.reg [] [0,3,8,9] none []) (.blk ⟨[],[(3,.lf li)],[],[]⟩ (.lp [] ⟨[0,8],[(3,.lf li),(9,.lf li)],[],[]⟩ (.two (.reg [] [0,3,8,9,10] none []) (.two (.cond none (.nil) (.nil)) (.two (.thru (.two (.reg [] [0,3,4,8,9] none []) (.two (.reg [] [0,3,4,5,8,9] none []) (.two (.two (.reg [] [0,3,4,5,6,8,9] none []) (.blk ⟨[0,3,8,9],[(5,.lf lb)],[],[]⟩ (.lp [] ⟨[0,3,4,8,9],[(5,.lf lb),(6,.lf li)],[],[]⟩ (.two (.two (.reg [] [0,3,4,5,6,8,9,14] none []) (.cond none (.nil) (.nil))) (.two (.thru (.reg [] [] (some ⟨[0,3,4,6,8,9],[(5,.lf lb)],[],[]⟩) [])) (.reg [] [0,3,4,5,6,8,9] none [])))))) (.two (.reg [] [0,3,8,9,29] none []) (.cond (some ⟨[0,8,9],[(3,.lf li)],[],[]⟩) (.reg [] [0,3,8,9] none []) (.nil))))))) (.reg [] [0,3,8,9] none []))))))) (.two (.reg [] [2] none []) (.nil)))),⟨[.one (Lf.row 1)],[.one li]⟩⟩
def aEm:FE:=⟨26,[.tmp 4],.two (.reg [] [0,1] none []) (.two (.two (.reg [] [0,1,10] none []) (.cond none (.two (.reg [] [4] none []) (.nil)) (.nil))) (.two (.two (.reg [] [0,1,12,13] none []) (.blk ⟨[],[],[],[]⟩ (.lp [] ⟨[0,1,12],[(13,.lf li)],[],[]⟩ (.two (.reg [] [0,1,12,13,14] none []) (.two (.cond none (.nil) (.nil)) (.two (.thru (.two (.reg [] [0,1,5,12,13] none []) (.two (.reg [] [0,1,12,13,24] none []) (.cond none (.two (.reg [] [4] none []) (.nil)) (.nil))))) (.reg [] [0,1,12,13] none []))))))) (.two (.reg [] [4] none []) (.nil)))),⟨[.one (Lf.row 1),.one (Lf.row 1)],[.one lb]⟩⟩
def aEn:FE:=⟨51,[.tmp 8,.tmp 9],.two (.reg [] [1,2,3,4] none []) (.two (.reg [] [1,3,10,11,12] none []) (.two (.thru (.two (.reg [] [1,3,10,11,12,22] none []) (.cond none (.two (.reg [] [8,9] none []) (.nil)) (.two (.reg [] [1,3,10,11,26] none [(some 27,⟨[],[],[],[]⟩,.rf (some 10))]) (.cond none (.two (.reg [] [8,9] none []) (.nil)) (.two (.reg [] [3,10,11,31] none []) (.cond none (.two (.reg [] [8,9] none []) (.nil)) (.nil)))))))) (.two (.two (.reg [] [3,10,11,40,41] none []) (.blk ⟨[],[],[],[]⟩ (.lp [] ⟨[3,10,11,40],[(41,.lf li)],[],[]⟩ (.two (.reg [] [3,10,11,40,41,42] none []) (.two (.cond none (.nil) (.nil)) (.two (.thru (.two (.reg [] [3,10,11,13,40,41] none []) (.two (.reg [] [3,10,11,13,40,41,48] none [(some 45,⟨[],[],[],[]⟩,.rf (some 11))]) (.cond none (.two (.reg [] [8,9] none []) (.nil)) (.nil))))) (.reg [] [3,10,11,40,41] none []))))))) (.two (.reg [] [8,9] none []) (.nil))))),⟨[.agg [Lf.row 1,Lf.row 4],.one (Lf.row 1),.one (Lf.row 1),.one li],[.one li,.one li]⟩⟩
def aEo:FE:=⟨42,[.tmp 2],.two (.reg [] [1] none []) (.two (.two (.reg [] [] (some ⟨[1],[(13,.lf lb)],[],[]⟩) []) (.cond none (.two (.reg [] [2] none []) (.nil)) (.nil))) (.two (.two (.reg [] [1,15,16,17] none []) (.blk ⟨[],[],[],[]⟩ (.lp [] ⟨[1,15,16],[(17,.lf li)],[],[]⟩ (.two (.reg [] [1,15,16,17,18] none []) (.two (.cond none (.nil) (.nil)) (.two (.thru (.two (.reg [] [1,3,4,15,16,17] none []) (.two (.reg [] [] (some ⟨[1,15,16,17],[(40,.lf lb)],[],[]⟩) []) (.cond none (.two (.reg [] [2] none []) (.nil)) (.nil))))) (.reg [] [1,15,16,17] none []))))))) (.two (.reg [] [2] none []) (.nil)))),⟨[.agg [Lf.row 1,Lf.row 4]],[.one li]⟩⟩
def aEp:FE:=⟨75,[.tmp 2],.two (.reg [] [1] none []) (.two (.two (.reg [] [1,10] none []) (.cond none (.two (.reg [] [2] none []) (.nil)) (.nil))) (.two (.two (.reg [] [1,12,13,14] none []) (.blk ⟨[1],[],[],[]⟩ (.lp [] ⟨[1,12,13],[(14,.lf li)],[],[]⟩ (.two (.reg [] [1,12,13,14,15] none []) (.two (.cond none (.nil) (.nil)) (.two (.thru (.two (.reg [] [1,4,12,13,14] none []) (.two (.reg [] [1,12,13,14,20] none []) (.cond none (.two (.reg [] [2] none []) (.nil)) (.nil))))) (.reg [] [1,12,13,14] none []))))))) (.two (.two (.reg [] [1,23,24,25] none []) (.blk ⟨[],[],[],[]⟩ (.lp [] ⟨[1,23,24],[(25,.lf li)],[],[]⟩ (.two (.reg [] [1,23,24,25,26] none []) (.two (.cond none (.nil) (.nil)) (.two (.thru (.two (.reg [] [1,5,6,23,24,25] none []) (.two (.reg [] [] (some ⟨[1,23,24,25],[(73,.lf lb)],[],[]⟩) []) (.cond none (.two (.reg [] [2] none []) (.nil)) (.nil))))) (.reg [] [1,23,24,25] none []))))))) (.two (.reg [] [2] none []) (.nil))))),⟨[.agg [Lf.row 1,Lf.row 4]],[.one li]⟩⟩
def aEq:FE:=⟨33,[.tmp 4],.two (.reg [] [1,2] none []) (.two (.two (.reg [] [1,2,5] none []) (.two (.reg [] [1,2,5,13] none []) (.cond none (.two (.reg [] [4] none []) (.nil)) (.nil)))) (.two (.two (.reg [] [1,2,17] none []) (.cond none (.two (.reg [] [4] none []) (.nil)) (.nil))) (.two (.two (.reg [] [2,18,19,20] none []) (.blk ⟨[],[],[],[]⟩ (.lp [] ⟨[2,18,19],[(20,.lf li)],[],[]⟩ (.two (.reg [] [2,18,19,20,21] none []) (.two (.cond none (.nil) (.nil)) (.two (.thru (.two (.reg [] [2,7,18,19,20] none []) (.two (.reg [] [2,9,18,19,20] none []) (.two (.reg [] [2,18,19,20,31] none []) (.cond none (.two (.reg [] [4] none []) (.nil)) (.nil)))))) (.reg [] [2,18,19,20] none []))))))) (.two (.reg [] [4] none []) (.nil))))),⟨[.agg [Lf.row 1,Lf.row 4],.one (Lf.row 1)],[.one li]⟩⟩
def aEr:FE:=⟨82,[.cell 4 67,.cell 5 28],.two (.reg [] [1,2,4,5] none []) (.two (.reg [] [1,4,5,6,7] none []) (.two (.two (.reg [] [1,4,5,6,7,20] none []) (.cond none (.two (.reg [] [4,5] none []) (.nil)) (.nil))) (.two (.reg [] [1,4,5,6,8] none [(some 23,⟨[],[],[],[]⟩,.rf (some 6))]) (.two (.two (.reg [] [1,4,5,6,8,32] none [(some 32,⟨[1,4,5,6,8],[(32,.lf lb)],[],[(0,11534425,11,some 0)]⟩,.two (.reg [] [0,1,2] none []) (.two (.reg [] [0,1,2,7] none []) (.two (.two (.reg [] [0,1,2,7,12,13,14] none []) (.blk ⟨[0,1,2,7],[],[(4,142,[.lf li,.lf li,.lf li,.lf li,.lf li,.lf li,.lf li,.lf li,.lf li,.lf li])],[]⟩ (.lp [] ⟨[0,1,2,7,12,13],[(14,.lf li)],[(4,142,[.lf li,.lf li,.lf li,.lf li,.lf li,.lf li,.lf li,.lf li,.lf li,.lf li])],[]⟩ (.two (.reg [] [0,1,2,7,12,13,14,15] none []) (.two (.cond none (.nil) (.nil)) (.two (.thru (.two (.reg [] [0,1,2,7,9,12,13,14] none []) (.reg [] [0,1,2,7,12,13,14] none []))) (.reg [] [0,1,2,7,12,13,14] none []))))))) (.two (.reg [] [0,1,2,7,10,11] none []) (.two (.two (.reg [] [0,1,2,7,10,31] none []) (.cond (some ⟨[],[(10,.lf lb)],[],[(0,11534425,11,some 0)]⟩) (.two (.reg [] [2,7,10] none []) (.reg [] [10] none [])) (.nil))) (.two (.reg [] [6] none []) (.nil)))))))]) (.cond none (.two (.reg [] [4,5] none []) (.nil)) (.nil))) (.two (.two (.reg [] [1,4,5,6,8,36] none []) (.rg (.clo [.one (Lf.row 1)]) ⟨[1,4,5,6,8,36],[],[(1,67,[.lf li,.lf (Lf.row 1)]),(2,28,[.lf li])],[]⟩ (.reg [] [1,4,5,6,8,9] none []) (.thru (.two (.reg [] [4,5,9,40] none [(some 40,⟨[4,5,9],[(40,.lf lb)],[],[]⟩,.two (.reg [] [2,3] none []) (.two (.reg [] [4] none [(some 16,⟨[8],[(16,.lf lb)],[],[]⟩,.two (.reg [] [0,1] none []) (.two (.reg [] [4] none [(some 7,⟨[],[(7,.lf li)],[],[]⟩,.two (.reg [] [0,1] none []) (.two (.two (.reg [] [0,1,7,8] none []) (.blk ⟨[],[],[],[]⟩ (.lp [] ⟨[0,1,7],[(8,.lf li)],[],[]⟩ (.two (.reg [] [0,1,7,8,9] none []) (.two (.cond none (.nil) (.nil)) (.two (.thru (.two (.reg [] [0,1,5,7,8] none []) (.two (.reg [] [0,1,5,7,8,16] none [(some 16,⟨[0,1,5,7,8],[(16,.lf lb)],[],[]⟩,.two (.reg [] [0,1,2] none []) (.two (.reg [] [4] none []) (.nil)))]) (.cond none (.two (.reg [] [4] none []) (.nil)) (.nil))))) (.reg [] [0,1,7,8] none []))))))) (.two (.reg [] [4] none []) (.nil))))]) (.nil)))]) (.nil)))]) (.cond none (.two (.reg [] [4,5] none []) (.nil)) (.nil)))))) (.two (.reg [] [1,4,5,6,8,10] none []) (.two (.two (.reg [] [1,4,5,6,8,10,44,45] none []) (.blk ⟨[1,4,5,6,8],[(10,.own 1)],[],[(1,3,1,none)]⟩ (.lp [.mk 10 3 1] ⟨[1,4,5,6,8,44],[(10,.own 1),(45,.lf li)],[],[(1,3,1,none)]⟩ (.two (.reg [] [1,4,5,6,8,10,44,45,46] none []) (.two (.cond none (.nil) (.nil)) (.two (.thru (.two (.reg [] [1,4,5,6,8,10,11,44,45] none []) (.reg [] [1,4,5,6,8,10,44,45] none []))) (.reg [] [1,4,5,6,8,10,44,45] none []))))))) (.two (.two (.reg [.fz 1] [1,4,5,6,8,10,55] none [(some 55,⟨[1,4,5,6,8,10],[(55,.lf lb)],[],[]⟩,.two (.reg [] [1,2] none []) (.two (.reg [] [1,2,5] none []) (.two (.two (.reg [] [1,2,5,13,14,15] none []) (.blk ⟨[1,2],[(5,.lf li)],[],[]⟩ (.lp [] ⟨[1,2,13,14],[(5,.lf li),(15,.lf li)],[],[]⟩ (.two (.reg [] [1,2,5,13,14,15,16] none []) (.two (.cond none (.nil) (.nil)) (.two (.thru (.two (.reg [] [1,2,5,7,13,14,15] none []) (.reg [] [1,2,5,13,14,15] none []))) (.reg [] [1,2,5,13,14,15] none []))))))) (.two (.reg [] [4] none []) (.nil)))))]) (.cond none (.two (.reg [] [4,5] none [(some 59,⟨[4,5],[(59,.lf (Lf.row 1))],[],[]⟩,.two (.reg [] [0,1] none []) (.two (.two (.reg [] [0,1,5] none []) (.blk ⟨[],[(0,.lf (Lf.row 1))],[],[]⟩ (.lp [] ⟨[1],[(0,.lf (Lf.row 1)),(5,.lf li)],[],[]⟩ (.two (.two (.reg [] [0,1,5,11] none []) (.cond none (.nil) (.nil))) (.two (.thru (.two (.reg [] [0,1,5,6] none [(some 15,⟨[0,1,5],[(15,.own 2)],[],[(2,3,1,none)]⟩,.two (.reg [] [0] none []) (.two (.two (.reg [] [0,4] none []) (.cond none (.two (.reg [] [2] none []) (.rt [.mk 2 3 1])) (.nil))) (.two (.reg [] [2] none []) (.nil)))),(some 19,⟨[],[],[],[]⟩,.mt true)]) (.two (.reg [.fz 2] [0,1,5,6,22] none [(some 22,⟨[0,1,5,6],[(22,.lf lb)],[],[]⟩,.two (.reg [] [1,2] none []) (.two (.reg [] [1,2,5] none []) (.two (.two (.reg [] [1,2,5,13,14,15] none []) (.blk ⟨[1,2],[(5,.lf li)],[],[]⟩ (.lp [] ⟨[1,2,13,14],[(5,.lf li),(15,.lf li)],[],[]⟩ (.two (.reg [] [1,2,5,13,14,15,16] none []) (.two (.cond none (.nil) (.nil)) (.two (.thru (.two (.reg [] [1,2,5,7,13,14,15] none []) (.reg [] [1,2,5,13,14,15] none []))) (.reg [] [1,2,5,13,14,15] none []))))))) (.two (.reg [] [4] none []) (.nil)))))]) (.cond (some ⟨[1,5],[(0,.lf (Lf.row 1))],[],[]⟩) (.reg [] [0,1,5] none []) (.nil))))) (.reg [] [0,1,5] none [])))))) (.two (.reg [] [4] none []) (.nil))))]) (.nil)) (.nil))) (.two (.two (.reg [] [4,5,8,10,70] none []) (.rg (.clo [.one (Lf.row 1)]) ⟨[4,5,8,10,70],[],[(1,67,[.lf li,.lf (Lf.row 1)]),(2,28,[.lf li])],[]⟩ (.reg [] [4,5,8,10,12] none []) (.thru (.two (.reg [] [4,5,12,74] none [(some 74,⟨[4,5,12],[(74,.lf lb)],[],[]⟩,.two (.reg [] [1,2] none []) (.two (.two (.reg [] [1,2,9,10,11] none []) (.blk ⟨[1,2],[],[],[]⟩ (.lp [] ⟨[1,2,9,10],[(11,.lf li)],[],[]⟩ (.two (.reg [] [1,2,9,10,11,12] none []) (.two (.cond none (.nil) (.nil)) (.two (.thru (.two (.reg [] [1,2,5,6,9,10,11] none []) (.two (.reg [] [1,2,6,9,10,11,18,19,20] none []) (.blk ⟨[1,2,9,10,11],[],[],[]⟩ (.lp [] ⟨[1,2,6,9,10,11,18,19],[(20,.lf li)],[],[]⟩ (.two (.reg [] [1,2,6,9,10,11,18,19,20,21] none []) (.two (.cond none (.nil) (.nil)) (.two (.thru (.two (.reg [] [1,2,6,8,9,10,11,18,19,20] none []) (.two (.reg [] [1,2,6,9,10,11,18,19,20,37] none []) (.cond none (.two (.reg [] [4] none []) (.nil)) (.nil))))) (.reg [] [1,2,6,9,10,11,18,19,20] none []))))))))) (.reg [] [1,2,9,10,11] none []))))))) (.two (.reg [] [4] none []) (.nil))))]) (.cond none (.two (.reg [] [4,5] none []) (.nil)) (.nil)))))) (.two (.reg [] [4,5] none [(some 80,⟨[4,5],[(80,.lf (Lf.row 1))],[],[(0,11534425,11,some 0)]⟩,.two (.reg [] [0,1] none []) (.two (.two (.reg [] [0,1,5] none []) (.blk ⟨[],[(0,.lf (Lf.row 1))],[],[(0,11534425,11,some 0)]⟩ (.lp [] ⟨[1],[(0,.lf (Lf.row 1)),(5,.lf li)],[],[(0,11534425,11,some 0)]⟩ (.two (.two (.reg [] [0,1,5,11] none []) (.cond none (.nil) (.nil))) (.two (.thru (.two (.reg [] [0,1,5,6] none [(some 15,⟨[0,1,5],[(15,.own 2)],[],[(2,3,1,none)]⟩,.two (.reg [] [0] none []) (.two (.two (.reg [] [0,4] none []) (.cond none (.two (.reg [] [2] none []) (.rt [.mk 2 3 1])) (.nil))) (.two (.reg [] [2] none []) (.nil)))),(some 19,⟨[],[],[],[]⟩,.mt true)]) (.two (.reg [.fz 2] [0,1,5,6,22] none [(some 22,⟨[0,1,5,6],[(22,.lf lb)],[],[(0,11534425,11,some 0)]⟩,.two (.reg [] [1,2] none []) (.two (.reg [] [4] none [(some 12,⟨[],[(12,.lf lb)],[],[(0,11534425,11,some 0)]⟩,.two (.reg [] [0,1,2] none []) (.two (.reg [] [0,1,2,7] none []) (.two (.two (.reg [] [0,1,2,7,12,13,14] none []) (.blk ⟨[0,1,2,7],[],[(5,142,[.lf li,.lf li,.lf li,.lf li,.lf li,.lf li,.lf li,.lf li,.lf li,.lf li])],[]⟩ (.lp [] ⟨[0,1,2,7,12,13],[(14,.lf li)],[(5,142,[.lf li,.lf li,.lf li,.lf li,.lf li,.lf li,.lf li,.lf li,.lf li,.lf li])],[]⟩ (.two (.reg [] [0,1,2,7,12,13,14,15] none []) (.two (.cond none (.nil) (.nil)) (.two (.thru (.two (.reg [] [0,1,2,7,9,12,13,14] none []) (.reg [] [0,1,2,7,12,13,14] none []))) (.reg [] [0,1,2,7,12,13,14] none []))))))) (.two (.reg [] [0,1,2,7,10,11] none []) (.two (.two (.reg [] [0,1,2,7,10,31] none []) (.cond (some ⟨[],[(10,.lf lb)],[],[(0,11534425,11,some 0)]⟩) (.two (.reg [] [2,7,10] none []) (.reg [] [10] none [])) (.nil))) (.two (.reg [] [6] none []) (.nil)))))))]) (.nil)))]) (.cond (some ⟨[1,5],[(0,.lf (Lf.row 1))],[],[]⟩) (.reg [] [0,1,5] none []) (.nil))))) (.reg [] [0,1,5] none [])))))) (.two (.reg [] [4] none []) (.nil))))]) (.nil))))))))))),⟨[.agg [Lf.row 1,Lf.row 4],.one (Lf.row 1)],[.agg [li,Lf.row 1],.one li]⟩⟩
def aEs:FE:=⟨58,[.cell 4 67,.tmp 5],.two (.reg [] [1,2,4] none []) (.two (.two (.reg [] [1,2,4,6] none []) (.two (.reg [] [1,2,4,6,14] none []) (.cond none (.two (.reg [] [4,5] none []) (.nil)) (.nil)))) (.two (.two (.reg [] [1,2,4,17,18,19] none []) (.blk ⟨[1,2,4],[],[(1,67,[.lf li,.lf (Lf.row 1)])],[]⟩ (.lp [] ⟨[1,2,4,17,18],[(19,.lf li)],[(1,67,[.lf li,.lf (Lf.row 1)])],[]⟩ (.two (.reg [] [1,2,4,17,18,19,20] none []) (.two (.cond none (.nil) (.nil)) (.two (.thru (.two (.reg [] [1,2,4,7,8,17,18,19] none []) (.two (.reg [] [1,2,4,7,17,18,19,26] none []) (.cond none (.two (.reg [] [4,5] none []) (.nil)) (.nil))))) (.reg [] [1,2,4,17,18,19] none []))))))) (.two (.two (.reg [] [1,2,4,33] none []) (.cond none (.two (.reg [] [4,5] none []) (.nil)) (.nil))) (.two (.two (.reg [] [1,2,4,9] none []) (.two (.reg [] [1,2,4,9,47] none []) (.cond none (.two (.reg [] [4,5] none []) (.nil)) (.nil)))) (.two (.two (.reg [] [1,2,4,52] none []) (.cond none (.two (.reg [] [4,5] none []) (.nil)) (.nil))) (.two (.reg [] [4,5] none []) (.nil))))))),⟨[.agg [Lf.row 1,Lf.row 4],.one (Lf.row 1)],[.agg [li,Lf.row 1],.one li]⟩⟩
def aEt:FE:=⟨32,[.tmp 4,.tmp 5],.two (.reg [] [1,2] none []) (.two (.two (.reg [] [1,2,6] none []) (.two (.reg [] [1,2,6,14] none []) (.cond none (.two (.reg [] [4,5] none []) (.nil)) (.nil)))) (.two (.two (.reg [] [1,2,7] none []) (.blk ⟨[],[],[],[]⟩ (.lp [] ⟨[1,2],[(7,.lf li)],[],[]⟩ (.two (.two (.reg [] [1,2,7,20] none []) (.cond none (.nil) (.nil))) (.two (.thru (.two (.reg [] [1,2,7,8,9] none []) (.two (.reg [] [1,2,7,8,30] none []) (.cond none (.two (.reg [] [4,5] none []) (.nil)) (.nil))))) (.reg [] [1,2,7] none [])))))) (.two (.reg [] [4,5] none []) (.nil)))),⟨[.agg [Lf.row 1,Lf.row 4],.one (Lf.row 1)],[.one (Lf.row 1),.one li]⟩⟩
def aEu:FE:=⟨108,[.tmp 6],.two (.reg [] [1,3,5] none []) (.two (.reg [] [1,5,7,8] none []) (.two (.two (.reg [] [1,5,7,8,20] none []) (.cond none (.two (.reg [] [6] none []) (.nil)) (.nil))) (.two (.reg [] [1,5,9] none [(some 22,⟨[],[],[],[]⟩,.rf (some 7))]) (.two (.two (.reg [] [1,5,9,27,28,29] none []) (.blk ⟨[5,9],[],[],[]⟩ (.lp [] ⟨[1,5,9,27,28],[(29,.lf li)],[],[]⟩ (.two (.reg [] [1,5,9,27,28,29,30] none []) (.two (.cond none (.nil) (.nil)) (.two (.thru (.two (.reg [] [1,5,9,10,11,27,28,29] none []) (.two (.reg [] [] (some ⟨[1,5,9,27,28,29],[(53,.lf lb)],[],[]⟩) []) (.cond none (.two (.reg [] [6] none []) (.nil)) (.nil))))) (.reg [] [1,5,9,27,28,29] none []))))))) (.two (.two (.reg [] [] (some ⟨[5,9],[(77,.lf lb)],[],[(0,11534425,11,some 0)]⟩) [(some 75,⟨[5,9,65],[(75,.lf lb)],[],[(0,11534425,11,some 0)]⟩,.alt 94 (.two (.reg [] [2,3] none []) (.two (.reg [] [4] none [(some 16,⟨[8],[(16,.lf lb)],[],[]⟩,.two (.reg [] [0,1] none []) (.two (.reg [] [4] none [(some 7,⟨[],[(7,.lf li)],[],[]⟩,.two (.reg [] [0,1] none []) (.two (.two (.reg [] [0,1,7,8] none []) (.blk ⟨[],[],[],[]⟩ (.lp [] ⟨[0,1,7],[(8,.lf li)],[],[]⟩ (.two (.reg [] [0,1,7,8,9] none []) (.two (.cond none (.nil) (.nil)) (.two (.thru (.two (.reg [] [0,1,5,7,8] none []) (.two (.reg [] [0,1,5,7,8,16] none [(some 16,⟨[0,1,5,7,8],[(16,.lf lb)],[],[]⟩,.two (.reg [] [0,1,2] none []) (.two (.reg [] [4] none []) (.nil)))]) (.cond none (.two (.reg [] [4] none []) (.nil)) (.nil))))) (.reg [] [0,1,7,8] none []))))))) (.two (.reg [] [4] none []) (.nil))))]) (.nil)))]) (.nil))) (.alt 95 (.two (.reg [] [1,2] none []) (.two (.reg [] [1,2,5] none []) (.two (.two (.reg [] [1,2,5,13,14,15] none []) (.blk ⟨[1,2],[(5,.lf li)],[],[]⟩ (.lp [] ⟨[1,2,13,14],[(5,.lf li),(15,.lf li)],[],[]⟩ (.two (.reg [] [1,2,5,13,14,15,16] none []) (.two (.cond none (.nil) (.nil)) (.two (.thru (.two (.reg [] [1,2,5,7,13,14,15] none []) (.reg [] [1,2,5,13,14,15] none []))) (.reg [] [1,2,5,13,14,15] none []))))))) (.two (.reg [] [4] none []) (.nil))))) (.alt 97 (.two (.reg [] [1,2] none []) (.two (.two (.reg [] [1,2,9,10,11] none []) (.blk ⟨[1,2],[],[],[]⟩ (.lp [] ⟨[1,2,9,10],[(11,.lf li)],[],[]⟩ (.two (.reg [] [1,2,9,10,11,12] none []) (.two (.cond none (.nil) (.nil)) (.two (.thru (.two (.reg [] [1,2,5,6,9,10,11] none []) (.two (.reg [] [1,2,6,9,10,11,18,19,20] none []) (.blk ⟨[1,2,9,10,11],[],[],[]⟩ (.lp [] ⟨[1,2,6,9,10,11,18,19],[(20,.lf li)],[],[]⟩ (.two (.reg [] [1,2,6,9,10,11,18,19,20,21] none []) (.two (.cond none (.nil) (.nil)) (.two (.thru (.two (.reg [] [1,2,6,8,9,10,11,18,19,20] none []) (.two (.reg [] [1,2,6,9,10,11,18,19,20,37] none []) (.cond none (.two (.reg [] [4] none []) (.nil)) (.nil))))) (.reg [] [1,2,6,9,10,11,18,19,20] none []))))))))) (.reg [] [1,2,9,10,11] none []))))))) (.two (.reg [] [4] none []) (.nil)))) (.two (.reg [] [1,2] none []) (.two (.reg [] [4] none [(some 12,⟨[],[(12,.lf lb)],[],[(0,11534425,11,some 0)]⟩,.two (.reg [] [0,1,2] none []) (.two (.reg [] [0,1,2,7] none []) (.two (.two (.reg [] [0,1,2,7,12,13,14] none []) (.blk ⟨[0,1,2,7],[],[(5,142,[.lf li,.lf li,.lf li,.lf li,.lf li,.lf li,.lf li,.lf li,.lf li,.lf li])],[]⟩ (.lp [] ⟨[0,1,2,7,12,13],[(14,.lf li)],[(5,142,[.lf li,.lf li,.lf li,.lf li,.lf li,.lf li,.lf li,.lf li,.lf li,.lf li])],[]⟩ (.two (.reg [] [0,1,2,7,12,13,14,15] none []) (.two (.cond none (.nil) (.nil)) (.two (.thru (.two (.reg [] [0,1,2,7,9,12,13,14] none []) (.reg [] [0,1,2,7,12,13,14] none []))) (.reg [] [0,1,2,7,12,13,14] none []))))))) (.two (.reg [] [0,1,2,7,10,11] none []) (.two (.two (.reg [] [0,1,2,7,10,31] none []) (.cond (some ⟨[],[(10,.lf lb)],[],[(0,11534425,11,some 0)]⟩) (.two (.reg [] [2,7,10] none []) (.reg [] [10] none [])) (.nil))) (.two (.reg [] [6] none []) (.nil)))))))]) (.nil))))))]) (.cond none (.two (.reg [] [6] none []) (.nil)) (.nil))) (.two (.two (.reg [] [] (some ⟨[5,9],[(85,.lf lb)],[],[]⟩) []) (.cond (some ⟨[],[],[],[(0,11534425,11,some 0)]⟩) (.two (.reg [] [5,9,88,89] none []) (.blk ⟨[],[],[],[(0,11534425,11,some 0)]⟩ (.lp [] ⟨[5,9,88],[(89,.lf li)],[],[(0,11534425,11,some 0)]⟩ (.two (.reg [] [5,9,88,89,90] none []) (.two (.cond none (.nil) (.nil)) (.two (.thru (.two (.reg [] [5,9,12,88,89] none []) (.two (.reg [] [5,9,88,89,106] none [(some 106,⟨[5,9,88,89],[(106,.lf lb)],[],[(0,11534425,11,some 0)]⟩,.pre [.fz 1] (.alt 94 (.two (.reg [] [2,3] none []) (.two (.reg [] [4] none [(some 16,⟨[8],[(16,.lf lb)],[],[]⟩,.two (.reg [] [0,1] none []) (.two (.reg [] [4] none [(some 7,⟨[],[(7,.lf li)],[],[]⟩,.two (.reg [] [0,1] none []) (.two (.two (.reg [] [0,1,7,8] none []) (.blk ⟨[],[],[],[]⟩ (.lp [] ⟨[0,1,7],[(8,.lf li)],[],[]⟩ (.two (.reg [] [0,1,7,8,9] none []) (.two (.cond none (.nil) (.nil)) (.two (.thru (.two (.reg [] [0,1,5,7,8] none []) (.two (.reg [] [0,1,5,7,8,16] none [(some 16,⟨[0,1,5,7,8],[(16,.lf lb)],[],[]⟩,.two (.reg [] [0,1,2] none []) (.two (.reg [] [4] none []) (.nil)))]) (.cond none (.two (.reg [] [4] none []) (.nil)) (.nil))))) (.reg [] [0,1,7,8] none []))))))) (.two (.reg [] [4] none []) (.nil))))]) (.nil)))]) (.nil))) (.alt 95 (.two (.reg [] [1,2] none []) (.two (.reg [] [1,2,5] none []) (.two (.two (.reg [] [1,2,5,13,14,15] none []) (.blk ⟨[1,2],[(5,.lf li)],[],[]⟩ (.lp [] ⟨[1,2,13,14],[(5,.lf li),(15,.lf li)],[],[]⟩ (.two (.reg [] [1,2,5,13,14,15,16] none []) (.two (.cond none (.nil) (.nil)) (.two (.thru (.two (.reg [] [1,2,5,7,13,14,15] none []) (.reg [] [1,2,5,13,14,15] none []))) (.reg [] [1,2,5,13,14,15] none []))))))) (.two (.reg [] [4] none []) (.nil))))) (.alt 97 (.two (.reg [] [1,2] none []) (.two (.two (.reg [] [1,2,9,10,11] none []) (.blk ⟨[1,2],[],[],[]⟩ (.lp [] ⟨[1,2,9,10],[(11,.lf li)],[],[]⟩ (.two (.reg [] [1,2,9,10,11,12] none []) (.two (.cond none (.nil) (.nil)) (.two (.thru (.two (.reg [] [1,2,5,6,9,10,11] none []) (.two (.reg [] [1,2,6,9,10,11,18,19,20] none []) (.blk ⟨[1,2,9,10,11],[],[],[]⟩ (.lp [] ⟨[1,2,6,9,10,11,18,19],[(20,.lf li)],[],[]⟩ (.two (.reg [] [1,2,6,9,10,11,18,19,20,21] none []) (.two (.cond none (.nil) (.nil)) (.two (.thru (.two (.reg [] [1,2,6,8,9,10,11,18,19,20] none []) (.two (.reg [] [1,2,6,9,10,11,18,19,20,37] none []) (.cond none (.two (.reg [] [4] none []) (.nil)) (.nil))))) (.reg [] [1,2,6,9,10,11,18,19,20] none []))))))))) (.reg [] [1,2,9,10,11] none []))))))) (.two (.reg [] [4] none []) (.nil)))) (.two (.reg [] [1,2] none []) (.two (.reg [] [4] none [(some 12,⟨[],[(12,.lf lb)],[],[(0,11534425,11,some 0)]⟩,.two (.reg [] [0,1,2] none []) (.two (.reg [] [0,1,2,7] none []) (.two (.two (.reg [] [0,1,2,7,12,13,14] none []) (.blk ⟨[0,1,2,7],[],[(5,142,[.lf li,.lf li,.lf li,.lf li,.lf li,.lf li,.lf li,.lf li,.lf li,.lf li])],[]⟩ (.lp [] ⟨[0,1,2,7,12,13],[(14,.lf li)],[(5,142,[.lf li,.lf li,.lf li,.lf li,.lf li,.lf li,.lf li,.lf li,.lf li,.lf li])],[]⟩ (.two (.reg [] [0,1,2,7,12,13,14,15] none []) (.two (.cond none (.nil) (.nil)) (.two (.thru (.two (.reg [] [0,1,2,7,9,12,13,14] none []) (.reg [] [0,1,2,7,12,13,14] none []))) (.reg [] [0,1,2,7,12,13,14] none []))))))) (.two (.reg [] [0,1,2,7,10,11] none []) (.two (.two (.reg [] [0,1,2,7,10,31] none []) (.cond (some ⟨[],[(10,.lf lb)],[],[(0,11534425,11,some 0)]⟩) (.two (.reg [] [2,7,10] none []) (.reg [] [10] none [])) (.nil))) (.two (.reg [] [6] none []) (.nil)))))))]) (.nil)))))))]) (.cond none (.two (.reg [] [6] none []) (.nil)) (.nil))))) (.reg [] [5,9,88,89] none []))))))) (.nil))) (.two (.reg [] [6] none []) (.nil)))))))),⟨[.agg [Lf.row 1,Lf.row 4],.one (Lf.row 1),.agg [li,Lf.row 1]],[.one li]⟩⟩
def aEv:FE:=⟨19,[.tmp 6],.two (.reg [] [1,3,5] none []) (.two (.two (.reg [] [1,3,5,7] none []) (.two (.reg [] [1,3,5,7,12] none []) (.cond none (.two (.reg [] [6] none []) (.nil)) (.nil)))) (.two (.two (.reg [] [18] none []) (.cond none (.two (.reg [] [6] none []) (.nil)) (.nil))) (.two (.reg [] [6] none []) (.nil)))),⟨[.agg [Lf.row 1,Lf.row 4],.one (Lf.row 1),.agg [li,Lf.row 1]],[.one li]⟩⟩
def aEw:FE:=⟨26,[.tmp 6,.tmp 7],.two (.reg [] [1,2,3] none []) (.two (.reg [] [9,10] none []) (.two (.two (.reg [] [9,10,20] none []) (.cond none (.two (.reg [] [6,7] none []) (.nil)) (.nil))) (.two (.reg [] [6,7] none [(some 22,⟨[],[],[],[]⟩,.rf (some 9))]) (.nil)))),⟨[.agg [Lf.row 1,Lf.row 4],.one (Lf.row 1),.one (Lf.row 1)],[.one (Lf.row 1),.one li]⟩⟩
def aEx:FE:=⟨22,[.cell 4 37,.tmp 5],.two (.reg [] [1,2,4] none []) (.two (.two (.reg [] [1,4,9,10,11] none []) (.blk ⟨[4],[],[(1,37,[.lf li,.lf li,.lf li,.lf li])],[]⟩ (.lp [] ⟨[1,4,9,10],[(11,.lf li)],[(1,37,[.lf li,.lf li,.lf li,.lf li])],[]⟩ (.two (.reg [] [1,4,9,10,11,12] none []) (.two (.cond none (.nil) (.nil)) (.two (.thru (.two (.reg [] [1,4,7,9,10,11] none []) (.two (.reg [] [1,4,7,9,10,11,18] none []) (.cond none (.two (.reg [] [4,5] none []) (.nil)) (.nil))))) (.reg [] [1,4,9,10,11] none []))))))) (.two (.reg [] [4,5] none []) (.nil))),⟨[.agg [Lf.row 1,Lf.row 4],.one li],[.agg [li,li,li,li],.one lb]⟩⟩
def aEy:FE:=⟨15,[.tmp 6],.two (.reg [] [0,1,2] none []) (.two (.reg [] [6] none []) (.nil)),⟨[.one li,.one li,.one li],[.one lb]⟩⟩
def aEz:FE:=⟨8,[.cell 0 25],.two (.reg [] [0] none []) (.two (.reg [] [0] none []) (.nil)),⟨[],[.agg [Lf.row 1,Lf.row 4]]⟩⟩
def aEA:FE:=⟨24,[.tmp 4,.tmp 5],.two (.reg [] [1,2] none []) (.two (.two (.reg [] [1,2,6] none []) (.two (.reg [] [1,2,6,11] none []) (.cond none (.two (.reg [] [4,5] none []) (.nil)) (.nil)))) (.two (.reg [] [1,7] none []) (.two (.two (.reg [] [] (some ⟨[7],[(22,.lf lb)],[],[]⟩) []) (.cond none (.two (.reg [] [4,5] none []) (.nil)) (.nil))) (.two (.reg [] [4,5] none []) (.nil))))),⟨[.agg [Lf.row 1,Lf.row 4],.one (Lf.row 3)],[.one Lf.raw,.one li]⟩⟩
def aEB:FE:=⟨15,[.tmp 6],.two (.reg [] [0,1,2] none []) (.two (.reg [] [6] none []) (.nil)),⟨[.one li,.one li,.one li],[.one lb]⟩⟩
def aEC:FE:=⟨45,[.tmp 6],.two (.reg [] [0,1,2] none []) (.two (.reg [] [0,1,2,7] none []) (.two (.two (.reg [] [0,2,7,11,12,13] none []) (.blk ⟨[],[(7,.lf li)],[],[]⟩ (.lp [] ⟨[0,2,11,12],[(7,.lf li),(13,.lf li)],[],[]⟩ (.two (.reg [] [0,2,7,11,12,13,14] none []) (.two (.cond none (.nil) (.nil)) (.two (.thru (.two (.reg [] [0,2,7,9,11,12,13] none []) (.two (.reg [] [0,2,7,9,10,11,12,13] none []) (.two (.two (.reg [] [0,2,7,9,10,11,12,13,20] none []) (.cond (some ⟨[0,2,7,9,11,12,13],[(10,.lf li)],[],[]⟩) (.reg [] [0,2,7,9,10,11,12,13] none []) (.nil))) (.reg [] [0,2,7,11,12,13] none []))))) (.reg [] [0,2,7,11,12,13] none []))))))) (.two (.reg [] [6] none []) (.nil)))),⟨[.one Lf.ref,.one (Lf.row 3),.one li],[.one li]⟩⟩
def aED:FE:=⟨36,[.tmp 4],.two (.reg [] [0,1] none []) (.two (.reg [] [0,1,5] none []) (.two (.two (.reg [] [1,5,8,9,10] none []) (.blk ⟨[],[(5,.own 0)],[],[(0,3,1,none)]⟩ (.lp [.mk 5 3 1] ⟨[1,8,9],[(5,.own 0),(10,.lf li)],[],[(0,3,1,none)]⟩ (.two (.reg [] [1,5,8,9,10,11] none []) (.two (.cond none (.nil) (.nil)) (.two (.thru (.two (.reg [] [1,5,6,7,8,9,10] none []) (.two (.reg [] [] (some ⟨[1,5,6,8,9,10],[(29,.lf lb)],[],[]⟩) []) (.cond (some ⟨[1,8,9,10],[(5,.own 0)],[],[(0,3,1,none)]⟩) (.reg [] [1,5,8,9,10] none []) (.nil))))) (.reg [] [1,5,8,9,10] none []))))))) (.two (.reg [] [4] none []) (.nil)))),⟨[.one (Lf.row 3),.one li],[.one (Lf.row 1)]⟩⟩
def aEE:FE:=⟨20,[.tmp 4,.tmp 5],.two (.reg [] [1,2] none []) (.two (.two (.reg [] [1,2,6] none []) (.two (.reg [] [1,2,6,11] none []) (.cond none (.two (.reg [] [4,5] none []) (.nil)) (.nil)))) (.two (.reg [] [1,7] none []) (.two (.two (.reg [] [7,18] none []) (.cond none (.two (.reg [] [4,5] none []) (.nil)) (.nil))) (.two (.reg [] [4,5] none []) (.nil))))),⟨[.agg [Lf.row 1,Lf.row 4],.one (Lf.row 1)],[.one Lf.raw,.one li]⟩⟩
def aEF:FE:=⟨6,[.tmp 4],.two (.reg [] [2,3] none []) (.two (.reg [] [4] none []) (.nil)),⟨[.one Lf.ref,.one (Lf.row 1)],[.one Lf.raw]⟩⟩
def aEG:FE:=⟨19,[.cell 6 22,.cell 7 4],.two (.reg [] [0,1,5,6,7] none []) (.two (.two (.reg [] [5,6,7,11] none []) (.rg (.lent 3 1) ⟨[5,6,7,11],[],[(0,3,[.lf li]),(1,22,[.lf (Lf.row 1)]),(2,4,[.lf lb])],[]⟩ (.reg [] [5,6,7,8] none []) (.thru (.two (.two (.reg [] [5,6,7,8,14] none []) (.cond none (.two (.reg [] [6,7] none [(some 16,⟨[6,7],[(16,.own 1)],[],[(1,3,1,none)]⟩,.two (.reg [] [0] none []) (.two (.two (.reg [] [0,4] none []) (.cond none (.two (.reg [] [2] none []) (.rt [.mk 2 3 1])) (.nil))) (.two (.reg [] [2] none []) (.nil))))]) (.nil)) (.nil))) (.reg [] [] none []))))) (.two (.reg [] [6,7] none []) (.nil))),⟨[.one Lf.ref,.one (Lf.row 1),.one li],[.one (Lf.row 1),.one lb]⟩⟩
def aEH:FE:=⟨81,[.tmp 6,.tmp 7],.two (.reg [] [0,1,2] none []) (.two (.reg [] [0,1,2,8] none [(some 12,⟨[0,1,2],[(12,.ptr 0 0)],[(0,133,[.own 0,.own 1])],[(0,3,1,none),(1,3,1,none)]⟩,.two (.reg [] [0] none []) (.two (.reg [] [0,3] none []) (.two (.reg [] [0,3] none []) (.two (.reg [] [2] none []) (.nil)))))]) (.two (.two (.reg [] [0,1,2,8,17] none []) (.cond none (.two (.reg [] [6,7] none []) (.nil)) (.nil))) (.two (.two (.reg [] [0,1,8,18,19,20] none []) (.blk ⟨[8],[],[],[(0,3,1,some 0),(1,3,1,some 0)]⟩ (.lp [] ⟨[0,1,8,18,19],[(20,.lf li)],[],[(0,3,1,some 0),(1,3,1,some 0)]⟩ (.two (.reg [] [0,1,8,18,19,20,21] none []) (.two (.cond none (.nil) (.nil)) (.two (.thru (.two (.reg [] [0,1,8,9,10,18,19,20] none []) (.two (.two (.reg [] [] (some ⟨[0,1,8,9,10,18,19,20],[(45,.lf lb)],[],[]⟩) [(some 43,⟨[0,1,8,9,10,18,19,20,35],[(43,.lf lb)],[],[]⟩,.two (.reg [] [0,1,2,3] none []) (.two (.reg [] [8] none []) (.nil)))]) (.cond none (.two (.reg [] [6,7] none []) (.nil)) (.nil))) (.two (.reg [] [0,1,8,9,10,18,19,20] none []) (.reg [] [0,1,8,18,19,20] none []))))) (.reg [] [0,1,8,18,19,20] none []))))))) (.two (.reg [] [6,7] none []) (.rt [.fz 0,.fz 1,.fb 0]))))),⟨[.one Lf.ref,.one (Lf.row 1),.one (Lf.row 1)],[.one Lf.raw,.one lb]⟩⟩
def aDp:FE:=⟨58,[.tmp 8],.two (.reg [] [1,2,3,4] none []) (.two (.two (.reg [] [1,2,3,4,16] none []) (.cond none (.two (.reg [] [8] none [(some 20,⟨[],[],[],[]⟩,.rt [.fz 0])]) (.nil)) (.nil))) (.two (.reg [] [1,2,3,4,9] none []) (.two (.two (.reg [] [1,2,3,4,9,23,24] none []) (.blk ⟨[],[(9,.own 0)],[],[(0,22,1,none)]⟩ (.lp [.mk 9 22 1] ⟨[1,2,3,4,23],[(9,.own 0),(24,.lf li)],[],[(0,22,1,none)]⟩ (.two (.reg [] [1,2,3,4,9,23,24,25] none []) (.two (.cond none (.nil) (.nil)) (.two (.blk ⟨[1,2,3,4,23,24],[(9,.own 0)],[],[(0,22,1,none)]⟩ (.two (.reg [] [1,2,3,4,9,10,23,24] none []) (.two (.two (.reg [] [1,2,3,4,9,10,23,24,34] none []) (.cond none (.nil) (.nil))) (.two (.reg [] [1,2,3,4,9,11,23,24] none []) (.two (.reg [] [1,2,3,4,9,23,24] none []) (.two (.reg [] [1,2,3,4,9,23,24,54] none []) (.cond none (.two (.reg [] [8] none []) (.nil)) (.nil)))))))) (.reg [] [1,2,3,4,9,23,24] none []))))))) (.two (.reg [] [8] none []) (.nil))))),⟨[.agg [Lf.row 1,Lf.row 4],.one (Lf.row 1),.one (Lf.row 1),.one li],[.one (Lf.row 1)]⟩⟩
def aEI:FE:=⟨33,[.tmp 6,.tmp 7,.tmp 8],.two (.reg [] [1,2,3] none []) (.two (.reg [] [1,2,9,10] none []) (.two (.two (.reg [] [1,2,9,10,20] none []) (.cond none (.two (.reg [] [6,7,8] none []) (.nil)) (.nil))) (.two (.reg [] [9,11,12] none [(some 23,⟨[],[],[],[]⟩,.rf (some 9))]) (.two (.two (.reg [] [9,11,30] none []) (.cond none (.two (.reg [] [6,7,8] none []) (.nil)) (.nil))) (.two (.reg [] [6,7,8] none [(some 32,⟨[],[],[],[]⟩,.rf (some 11))]) (.nil)))))),⟨[.agg [Lf.row 1,Lf.row 4],.one (Lf.row 1),.one (Lf.row 1)],[.one Lf.raw,.one Lf.raw,.one li]⟩⟩
def aEJ:FE:=⟨18,[.tmp 4],.two (.reg [] [0,1] none []) (.two (.reg [] [4] none []) (.nil)),⟨[.one Lf.ref,.one li],[.one lb]⟩⟩
def aEK:FE:=⟨41,[.tmp 8],.two (.reg [] [0,1,2,3] none []) (.two (.reg [] [8] none []) (.nil)),⟨[.one Lf.ref,.one Lf.ref,.one li,.one li],[.one lb]⟩⟩
def aEL:FE:=⟨25,[.tmp 4],.two (.reg [] [0,1] none []) (.two (.reg [] [0,1,5] none []) (.two (.two (.reg [] [0,5,8,9,10] none []) (.blk ⟨[],[(5,.lf li)],[],[]⟩ (.lp [] ⟨[0,8,9],[(5,.lf li),(10,.lf li)],[],[]⟩ (.two (.reg [] [0,5,8,9,10,11] none []) (.two (.cond none (.nil) (.nil)) (.two (.thru (.two (.reg [] [0,5,7,8,9,10] none []) (.reg [] [0,5,8,9,10] none []))) (.reg [] [0,5,8,9,10] none []))))))) (.two (.reg [] [4] none []) (.nil)))),⟨[.one Lf.ref,.one (Lf.row 1)],[.one li]⟩⟩
def aEM:FE:=⟨21,[.tmp 4],.two (.reg [] [1,2] none []) (.two (.reg [] [1,2,5] none []) (.two (.two (.reg [] [2,5,8,9,10] none []) (.blk ⟨[],[(5,.lf li)],[],[]⟩ (.lp [] ⟨[2,8,9],[(5,.lf li),(10,.lf li)],[],[]⟩ (.two (.reg [] [2,5,8,9,10,11] none []) (.two (.cond none (.nil) (.nil)) (.two (.thru (.two (.reg [] [2,5,7,8,9,10] none []) (.reg [] [2,5,8,9,10] none []))) (.reg [] [2,5,8,9,10] none []))))))) (.two (.reg [] [4] none []) (.nil)))),⟨[.agg [Lf.row 1,Lf.row 4],.one (Lf.row 1)],[.one li]⟩⟩
def aEN:FE:=⟨62,[.tmp 2],.two (.reg [] [1] none []) (.two (.reg [] [1,3] none []) (.two (.two (.reg [] [3,11,12,13] none []) (.blk ⟨[3],[],[(1,102,[.lf (Lf.row 1),.lf (Lf.row 4),.lf li,.lf li,.lf li,.lf li,.lf li,.lf li,.lf li,.lf li,.lf li,.lf li,.lf li,.lf li,.lf li,.lf li,.lf li,.lf li,.lf li,.lf li,.lf li,.lf li,.lf li,.lf li,.lf li,.lf li,.lf li,.lf li,.lf li,.lf li,.lf li,.lf li,.lf li,.lf li,.lf li,.lf li,.lf li,.lf li,.lf li,.lf li,.lf li,.lf li,.lf li,.lf li,.lf li,.lf li,.lf li,.lf li,.lf li,.lf li,.lf li,.lf li])],[]⟩ (.lp [] ⟨[3,11,12],[(13,.lf li)],[(1,102,[.lf (Lf.row 1),.lf (Lf.row 4),.lf li,.lf li,.lf li,.lf li,.lf li,.lf li,.lf li,.lf li,.lf li,.lf li,.lf li,.lf li,.lf li,.lf li,.lf li,.lf li,.lf li,.lf li,.lf li,.lf li,.lf li,.lf li,.lf li,.lf li,.lf li,.lf li,.lf li,.lf li,.lf li,.lf li,.lf li,.lf li,.lf li,.lf li,.lf li,.lf li,.lf li,.lf li,.lf li,.lf li,.lf li,.lf li,.lf li,.lf li,.lf li,.lf li,.lf li,.lf li,.lf li,.lf li])],[]⟩ (.two (.reg [] [3,11,12,13,14] none []) (.two (.cond none (.nil) (.nil)) (.two (.thru (.two (.reg [] [3,5,11,12,13] none []) (.two (.reg [] [] (some ⟨[3,5,11,12,13],[],[(1,102,[.lf (Lf.row 1),.lf (Lf.row 4),.lf li,.lf li,.lf li,.lf li,.lf li,.lf li,.lf li,.lf li,.lf li,.lf li,.lf li,.lf li,.lf li,.lf li,.lf li,.lf li,.lf li,.lf li,.lf li,.lf li,.lf li,.lf li,.lf li,.lf li,.lf li,.lf li,.lf li,.lf li,.lf li,.lf li,.lf li,.lf li,.lf li,.lf li,.lf li,.lf li,.lf li,.lf li,.lf li,.lf li,.lf li,.lf li,.lf li,.lf li,.lf li,.lf li,.lf li,.lf li,.lf li,.lf li])],[]⟩) []) (.two (.reg [] [3,5,11,12,13,24] none []) (.blk ⟨[3,11,12,13],[],[(1,102,[.lf (Lf.row 1),.lf (Lf.row 4),.lf li,.lf li,.lf li,.lf li,.lf li,.lf li,.lf li,.lf li,.lf li,.lf li,.lf li,.lf li,.lf li,.lf li,.lf li,.lf li,.lf li,.lf li,.lf li,.lf li,.lf li,.lf li,.lf li,.lf li,.lf li,.lf li,.lf li,.lf li,.lf li,.lf li,.lf li,.lf li,.lf li,.lf li,.lf li,.lf li,.lf li,.lf li,.lf li,.lf li,.lf li,.lf li,.lf li,.lf li,.lf li,.lf li,.lf li,.lf li,.lf li,.lf li])],[]⟩ (.lp [] ⟨[3,5,11,12,13],[(24,.lf li)],[(1,102,[.lf (Lf.row 1),.lf (Lf.row 4),.lf li,.lf li,.lf li,.lf li,.lf li,.lf li,.lf li,.lf li,.lf li,.lf li,.lf li,.lf li,.lf li,.lf li,.lf li,.lf li,.lf li,.lf li,.lf li,.lf li,.lf li,.lf li,.lf li,.lf li,.lf li,.lf li,.lf li,.lf li,.lf li,.lf li,.lf li,.lf li,.lf li,.lf li,.lf li,.lf li,.lf li,.lf li,.lf li,.lf li,.lf li,.lf li,.lf li,.lf li,.lf li,.lf li,.lf li,.lf li,.lf li,.lf li])],[]⟩ (.two (.reg [] [3,5,11,12,13,24,25] none []) (.two (.cond none (.nil) (.nil)) (.two (.thru (.two (.reg [] [3,5,6,11,12,13,24] none []) (.two (.reg [] [3,5,6,11,12,13,24,32] none []) (.cond (some ⟨[3,5,11,12,13,24],[],[(1,102,[.lf (Lf.row 1),.lf (Lf.row 4),.lf li,.lf li,.lf li,.lf li,.lf li,.lf li,.lf li,.lf li,.lf li,.lf li,.lf li,.lf li,.lf li,.lf li,.lf li,.lf li,.lf li,.lf li,.lf li,.lf li,.lf li,.lf li,.lf li,.lf li,.lf li,.lf li,.lf li,.lf li,.lf li,.lf li,.lf li,.lf li,.lf li,.lf li,.lf li,.lf li,.lf li,.lf li,.lf li,.lf li,.lf li,.lf li,.lf li,.lf li,.lf li,.lf li,.lf li,.lf li,.lf li,.lf li])],[]⟩) (.two (.reg [] [] (some ⟨[3,5,6,11,12,13,24],[],[(1,102,[.lf (Lf.row 1),.lf (Lf.row 4),.lf li,.lf li,.lf li,.lf li,.lf li,.lf li,.lf li,.lf li,.lf li,.lf li,.lf li,.lf li,.lf li,.lf li,.lf li,.lf li,.lf li,.lf li,.lf li,.lf li,.lf li,.lf li,.lf li,.lf li,.lf li,.lf li,.lf li,.lf li,.lf li,.lf li,.lf li,.lf li,.lf li,.lf li,.lf li,.lf li,.lf li,.lf li,.lf li,.lf li,.lf li,.lf li,.lf li,.lf li,.lf li,.lf li,.lf li,.lf li,.lf li,.lf li])],[]⟩) []) (.reg [] [] (some ⟨[3,5,11,12,13,24],[],[(1,102,[.lf (Lf.row 1),.lf (Lf.row 4),.lf li,.lf li,.lf li,.lf li,.lf li,.lf li,.lf li,.lf li,.lf li,.lf li,.lf li,.lf li,.lf li,.lf li,.lf li,.lf li,.lf li,.lf li,.lf li,.lf li,.lf li,.lf li,.lf li,.lf li,.lf li,.lf li,.lf li,.lf li,.lf li,.lf li,.lf li,.lf li,.lf li,.lf li,.lf li,.lf li,.lf li,.lf li,.lf li,.lf li,.lf li,.lf li,.lf li,.lf li,.lf li,.lf li,.lf li,.lf li,.lf li,.lf li])],[]⟩) [])) (.nil))))) (.reg [] [3,5,11,12,13,24] none [])))))))))) (.reg [] [3,11,12,13] none []))))))) (.two (.reg [] [2] none []) (.nil)))),⟨[.agg [Lf.row 1,Lf.row 4]],[.one Lf.ref]⟩⟩
def aEO:FE:=⟨17,[.tmp 6],.two (.reg [] [0,1,2] none []) (.two (.reg [] [6] none []) (.nil)),⟨[.one Lf.ref,.one li,.one li],[.one lb]⟩⟩
def aEP:FE:=⟨37,[.tmp 6],.two (.reg [] [1,2,3] none []) (.two (.reg [] [1,2,3,7] none []) (.two (.reg [] [1,2,7,9] none []) (.two (.reg [] [6] none []) (.nil)))),⟨[.agg [Lf.row 1,Lf.row 4],.one li,.one li],[.one lb]⟩⟩
def aEQ:FE:=⟨9,[.tmp 4],.two (.reg [] [0,1] none []) (.two (.reg [] [4] none []) (.nil)),⟨[.one (Lf.row 1),.one Lf.raw],[.one lb]⟩⟩
def aER:FE:=⟨6,[.tmp 2],.two (.reg [] [0] none []) (.two (.reg [] [2] none []) (.nil)),⟨[.one li],[.one lb]⟩⟩
def aES:FE:=⟨27,[.tmp 2],.two (.reg [] [1] none []) (.two (.reg [] [2] none []) (.nil)),⟨[.agg [li,li,li,li]],[.one lb]⟩⟩
def aET:FE:=⟨6,[.tmp 4],.two (.reg [] [2,3] none []) (.two (.reg [] [4] none []) (.nil)),⟨[.one li,.one li],[.one Lf.raw]⟩⟩
def aEU:FE:=⟨20,[.tmp 4],.two (.reg [] [1,2] none []) (.two (.two (.reg [] [1,2,8,9,10] none []) (.blk ⟨[],[],[],[]⟩ (.lp [] ⟨[1,2,8,9],[(10,.lf li)],[],[]⟩ (.two (.reg [] [1,2,8,9,10,11] none []) (.two (.cond none (.nil) (.nil)) (.two (.thru (.two (.reg [] [1,2,6,8,9,10] none []) (.two (.reg [] [1,2,8,9,10,18] none []) (.cond none (.two (.reg [] [4] none []) (.nil)) (.nil))))) (.reg [] [1,2,8,9,10] none []))))))) (.two (.reg [] [4] none []) (.nil))),⟨[.agg [Lf.row 1,Lf.row 4],.one li],[.one lb]⟩⟩
def aCp:FE:=⟨19,[.tmp 6],.two (.reg [] [1,2,3] none []) (.two (.two (.reg [] [1,3,8] none []) (.cond none (.two (.reg [] [6] none []) (.nil)) (.nil))) (.two (.reg [] [6] none []) (.nil))),⟨[.agg [Lf.row 1,Lf.row 4],.one (Lf.row 1),.one li],[.one lb]⟩⟩
def aCq:FE:=⟨39,[.tmp 6],.two (.reg [] [1,2,3] none []) (.two (.reg [] [1,2,3,7] none []) (.two (.two (.reg [] [1,2,3,7,12,13] none []) (.blk ⟨[1,2,3],[(7,.own 0)],[],[(0,3,1,none)]⟩ (.lp [.mk 7 3 1] ⟨[1,2,3,12],[(7,.own 0),(13,.lf li)],[],[(0,3,1,none)]⟩ (.two (.reg [] [1,2,3,7,12,13,14] none []) (.two (.cond none (.nil) (.nil)) (.two (.thru (.two (.reg [] [1,2,3,7,8,12,13] none []) (.reg [] [1,2,3,7,12,13] none []))) (.reg [] [1,2,3,7,12,13] none []))))))) (.two (.two (.reg [.fz 0] [1,2,3,7,9] none []) (.blk ⟨[],[(7,.lf (Lf.row 1))],[],[]⟩ (.lp [] ⟨[1,2,3],[(7,.lf (Lf.row 1)),(9,.lf li)],[],[]⟩ (.two (.two (.reg [] [1,2,3,7,9,25] none []) (.cond none (.nil) (.nil))) (.two (.thru (.two (.reg [] [1,2,3,7,9,10] none []) (.two (.reg [] [1,2,3,7,9,10,36] none []) (.cond (some ⟨[1,2,3,9],[(7,.lf (Lf.row 1))],[],[]⟩) (.reg [] [1,2,3,7,9] none []) (.nil))))) (.reg [] [1,2,3,7,9] none [])))))) (.two (.reg [] [6] none []) (.nil))))),⟨[.agg [Lf.row 1,Lf.row 4],.one (Lf.row 1),.one li],[.one (Lf.row 1)]⟩⟩
def ZO:FE:=⟨55,[.tmp 8],.two (.reg [] [1,2,3,4] none []) (.two (.two (.reg [] [1,2,3,4,14] none []) (.cond none (.two (.reg [] [8] none []) (.nil)) (.nil))) (.two (.reg [] [1,2,3,4,9] none []) (.two (.two (.reg [] [1,2,3,4,9,18] none []) (.cond (some ⟨[1,2,3,4],[(9,.lf li)],[],[]⟩) (.reg [] [1,2,3,4,9] none []) (.nil))) (.two (.two (.reg [] [1,2,3,4,10] none []) (.blk ⟨[],[],[],[]⟩ (.lp [] ⟨[1,2,3,4],[(10,.lf li)],[],[]⟩ (.two (.two (.reg [] [1,2,3,4,10,30] none []) (.cond none (.nil) (.nil))) (.two (.blk ⟨[1,2,3,4,10],[],[],[]⟩ (.two (.reg [] [1,2,3,4,10,11] none []) (.two (.two (.reg [.fz 0] [1,2,3,4,10,11,44] none []) (.cond none (.nil) (.nil))) (.two (.reg [] [1,2,3,4,10,12] none []) (.two (.reg [] [1,2,3,4,10,12,53] none []) (.cond none (.two (.reg [] [8] none []) (.nil)) (.nil))))))) (.reg [] [1,2,3,4,10] none [])))))) (.two (.reg [] [8] none []) (.nil)))))),⟨[.agg [Lf.row 1,Lf.row 4],.one (Lf.row 1),.one (Lf.row 1),.one li],[.one (Lf.row 1)]⟩⟩
def ZP:FE:=⟨53,[.tmp 8,.tmp 9],.two (.reg [] [1,2,3,4] none []) (.two (.two (.reg [] [1,2,3,4,16] none []) (.cond none (.two (.reg [] [8,9] none []) (.nil)) (.nil))) (.two (.two (.reg [] [1,2,3,4,21] none []) (.cond none (.two (.reg [] [8,9] none []) (.nil)) (.nil))) (.two (.two (.reg [] [1,2,3,4,25,26] none []) (.blk ⟨[],[],[],[]⟩ (.lp [] ⟨[1,2,3,4,25],[(26,.lf li)],[],[]⟩ (.two (.reg [] [1,2,3,4,25,26,27] none []) (.two (.cond none (.nil) (.nil)) (.two (.blk ⟨[1,2,3,4,25,26],[],[],[]⟩ (.two (.reg [] [1,2,3,4,10,25,26] none []) (.two (.two (.reg [] [1,2,3,4,10,25,26,36] none []) (.cond none (.nil) (.nil))) (.two (.reg [] [1,2,3,4,11,12,25,26] none []) (.two (.reg [] [1,2,3,4,11,25,26,50] none []) (.cond none (.two (.reg [] [8,9] none []) (.nil)) (.nil))))))) (.reg [] [1,2,3,4,25,26] none []))))))) (.two (.reg [] [8,9] none []) (.nil))))),⟨[.agg [Lf.row 1,Lf.row 4],.one (Lf.row 1),.one (Lf.row 1),.one li],[.one (Lf.row 1),.one lb]⟩⟩
def aCr:FE:=⟨98,[.tmp 6],.two (.reg [] [1,3,5] none []) (.two (.two (.reg [] [1,3,5,14] none []) (.cond none (.two (.reg [] [6] none []) (.nil)) (.nil))) (.two (.two (.reg [] [1,3,5,16,17,18] none []) (.blk ⟨[1,3,5],[],[],[]⟩ (.lp [] ⟨[1,3,5,16,17],[(18,.lf li)],[],[]⟩ (.two (.reg [] [1,3,5,16,17,18,19] none []) (.two (.cond none (.nil) (.nil)) (.two (.thru (.two (.reg [] [1,3,5,7,8,16,17,18] none []) (.two (.reg [] [] (some ⟨[1,3,5,16,17,18],[(42,.lf lb)],[],[]⟩) []) (.cond none (.two (.reg [] [6] none []) (.nil)) (.nil))))) (.reg [] [1,3,5,16,17,18] none []))))))) (.two (.reg [] [3,5,9] none []) (.two (.two (.reg [] [3,5,9,49] none []) (.thru (.two (.reg [] [3,5,9,49,50] none []) (.cond none (.two (.reg [] [6] none []) (.nil)) (.two (.reg [] [3,5,9,49,62] none []) (.cond none (.two (.reg [] [6] none []) (.nil)) (.two (.two (.reg [] [3,5,9,49,76] none []) (.cond (some ⟨[3,5,9],[(76,.lf lb)],[],[]⟩) (.nil) (.reg [] [3,5,9,76] none []))) (.cond none (.two (.two (.reg [] [3,5,9,84] none []) (.cond none (.two (.reg [] [6] none []) (.nil)) (.nil))) (.two (.two (.reg [] [3,5,9,86,87] none []) (.blk ⟨[],[],[],[]⟩ (.lp [] ⟨[3,5,9,86],[(87,.lf li)],[],[]⟩ (.two (.reg [] [3,5,9,86,87,88] none []) (.two (.cond none (.nil) (.nil)) (.two (.thru (.two (.reg [] [3,5,9,10,86,87] none []) (.two (.reg [] [3,5,9,86,87,96] none []) (.cond none (.two (.reg [] [6] none []) (.nil)) (.nil))))) (.reg [] [3,5,9,86,87] none []))))))) (.two (.reg [] [6] none []) (.nil)))) (.nil))))))))) (.two (.reg [] [6] none []) (.nil)))))),⟨[.agg [Lf.row 1,Lf.row 4],.one (Lf.row 1),.agg [li,Lf.row 1]],[.one lb]⟩⟩
def aCs:FE:=⟨15,[.tmp 4],.two (.reg [] [1,2] none []) (.two (.reg [] [5] none []) (.two (.reg [] [4] none []) (.nil))),⟨[.agg [Lf.row 1,Lf.row 4],.one li],[.one li]⟩⟩
def aCt:FE:=⟨61,[.tmp 10],.two (.reg [] [1,2,3,4,5] none []) (.two (.reg [] [1,2,3,4,5,11] none []) (.two (.two (.reg [] [1,2,3,4,5,11,20,21] none []) (.blk ⟨[4,5],[(11,.lf li)],[],[]⟩ (.lp [] ⟨[1,2,3,4,5,20],[(11,.lf li),(21,.lf li)],[],[]⟩ (.two (.reg [] [1,2,3,4,5,11,20,21,22] none []) (.two (.cond none (.nil) (.nil)) (.two (.blk ⟨[1,2,3,4,5,20,21],[(11,.lf li)],[],[]⟩ (.two (.reg [] [1,2,3,4,5,11,12,20,21] none []) (.two (.two (.reg [] [] (some ⟨[1,2,3,4,5,11,12,20,21],[(34,.lf lb)],[],[]⟩) []) (.cond none (.nil) (.nil))) (.two (.two (.reg [] [1,2,3,4,5,11,12,20,21,44] none []) (.cond none (.two (.reg [] [10] none []) (.nil)) (.nil))) (.reg [] [1,2,3,4,5,11,20,21] none []))))) (.reg [] [1,2,3,4,5,11,20,21] none []))))))) (.two (.reg [] [10] none []) (.nil)))),⟨[.agg [Lf.row 1,Lf.row 4],.one (Lf.row 1),.one (Lf.row 1),.one li,.one li],[.one lb]⟩⟩
def aCu:FE:=⟨15,[.tmp 4],.two (.reg [] [0,1] none []) (.two (.reg [] [4] none []) (.nil)),⟨[.one (Lf.row 1),.one li],[.one (Lf.row 1)]⟩⟩
def aCv:FE:=⟨9,[.tmp 4],.two (.reg [] [0,1] none []) (.two (.reg [] [4] none []) (.nil)),⟨[.one (Lf.row 3),.one Lf.raw],[.one lb]⟩⟩
def aCw:FE:=⟨8,[.tmp 3],.two (.reg [] [1,2] none []) (.two (.reg [] [3] none [(some 4,⟨[],[],[],[]⟩,.rf none)]) (.nil)),⟨[.agg [li,li,li],.one Lf.ref],[.one lb]⟩⟩
def aCx:FE:=⟨26,[.tmp 4],.two (.reg [] [0,3] none []) (.two (.reg [] [4] none []) (.nil)),⟨[.one Lf.ref,.agg [li,li,li]],[.one lb]⟩⟩
def aCy:FE:=⟨14,[.tmp 4],.two (.reg [] [1,2] none []) (.two (.reg [] [4] none []) (.nil)),⟨[.one Lf.ref,.one (Lf.row 1)],[.one lb]⟩⟩
def aCz:FE:=⟨10,[.tmp 4],.two (.reg [] [1,2] none []) (.two (.reg [] [4] none []) (.nil)),⟨[.agg [Lf.row 1,Lf.row 4],.one (Lf.row 1)],[.one lb]⟩⟩
def aCA:FE:=⟨19,[.tmp 4],.two (.reg [] [0,1] none []) (.two (.two (.reg [] [0,1,7,8] none []) (.blk ⟨[],[],[],[]⟩ (.lp [] ⟨[0,1,7],[(8,.lf li)],[],[]⟩ (.two (.reg [] [0,1,7,8,9] none []) (.two (.cond none (.nil) (.nil)) (.two (.thru (.two (.reg [] [0,1,5,7,8] none []) (.two (.reg [] [0,1,5,7,8,16] none []) (.cond none (.two (.reg [] [4] none []) (.nil)) (.nil))))) (.reg [] [0,1,7,8] none []))))))) (.two (.reg [] [4] none []) (.nil))),⟨[.one (Lf.row 1),.one Lf.raw],[.one li]⟩⟩
def aCB:FE:=⟨24,[.tmp 4],.two (.reg [] [1,2] none []) (.two (.reg [] [1,2,5] none []) (.two (.two (.reg [] [2,5,8,9,10] none []) (.blk ⟨[],[(5,.own 0)],[],[(0,3,1,none)]⟩ (.lp [.mk 5 3 1] ⟨[2,8,9],[(5,.own 0),(10,.lf li)],[],[(0,3,1,none)]⟩ (.two (.reg [] [2,5,8,9,10,11] none []) (.two (.cond none (.nil) (.nil)) (.two (.thru (.two (.reg [] [2,5,7,8,9,10] none []) (.reg [] [2,5,8,9,10] none []))) (.reg [] [2,5,8,9,10] none []))))))) (.two (.reg [] [4] none []) (.nil)))),⟨[.agg [Lf.raw,Lf.row 1,Lf.raw],.one (Lf.row 1)],[.one (Lf.row 1)]⟩⟩
def aCC:FE:=⟨18,[.tmp 2],.two (.reg [] [1] none []) (.two (.reg [] [1,3] none []) (.two (.two (.reg [] [3,7,8,9] none []) (.blk ⟨[],[(3,.lf li)],[],[]⟩ (.lp [] ⟨[7,8],[(3,.lf li),(9,.lf li)],[],[]⟩ (.two (.reg [] [3,7,8,9,10] none []) (.two (.cond none (.nil) (.nil)) (.two (.thru (.two (.reg [] [3,5,7,8,9] none []) (.reg [] [3,7,8,9] none []))) (.reg [] [3,7,8,9] none []))))))) (.two (.reg [] [2] none []) (.nil)))),⟨[.agg [Lf.row 1,Lf.row 4]],[.one li]⟩⟩
def aCD:FE:=⟨23,[.tmp 4],.two (.reg [] [0,1] none []) (.two (.reg [] [0,1,5] none []) (.two (.two (.reg [] [0,5,8,9,10] none []) (.blk ⟨[],[(5,.own 0)],[],[(0,3,1,none)]⟩ (.lp [.mk 5 3 1] ⟨[0,8,9],[(5,.own 0),(10,.lf li)],[],[(0,3,1,none)]⟩ (.two (.reg [] [0,5,8,9,10,11] none []) (.two (.cond none (.nil) (.nil)) (.two (.thru (.two (.reg [] [0,5,7,8,9,10] none []) (.reg [] [0,5,8,9,10] none []))) (.reg [] [0,5,8,9,10] none []))))))) (.two (.reg [] [4] none []) (.nil)))),⟨[.one (Lf.row 1),.one (Lf.row 1)],[.one (Lf.row 1)]⟩⟩
def aCE:FE:=⟨29,[.tmp 4],.two (.reg [] [1,2] none []) (.two (.two (.reg [] [1,2,8,9] none []) (.blk ⟨[],[],[],[]⟩ (.lp [] ⟨[1,2,8],[(9,.lf li)],[],[]⟩ (.two (.reg [] [1,2,8,9,10] none []) (.two (.cond none (.nil) (.nil)) (.two (.thru (.two (.reg [] [1,2,5,8,9] none []) (.two (.reg [] [1,2,5,6,8,9] none []) (.blk ⟨[1,2,8,9],[],[],[]⟩ (.lp [] ⟨[1,2,5,8,9],[(6,.lf li)],[],[]⟩ (.two (.two (.reg [] [1,2,5,6,8,9,14] none []) (.cond none (.nil) (.nil))) (.two (.thru (.two (.reg [] [1,2,5,6,8,9,27] none []) (.cond none (.two (.reg [] [4] none []) (.nil)) (.nil)))) (.reg [] [1,2,5,6,8,9] none [])))))))) (.reg [] [1,2,8,9] none []))))))) (.two (.reg [] [4] none []) (.nil))),⟨[.agg [Lf.row 1,Lf.row 4],.one (Lf.row 1)],[.one lb]⟩⟩
def aCF:FE:=⟨19,[.tmp 4],.two (.reg [] [0,1] none []) (.two (.two (.reg [] [0,1,7,8] none []) (.blk ⟨[],[],[],[]⟩ (.lp [] ⟨[0,1,7],[(8,.lf li)],[],[]⟩ (.two (.reg [] [0,1,7,8,9] none []) (.two (.cond none (.nil) (.nil)) (.two (.thru (.two (.reg [] [0,1,5,7,8] none []) (.two (.reg [] [0,1,5,7,8,16] none []) (.cond none (.two (.reg [] [4] none []) (.nil)) (.nil))))) (.reg [] [0,1,7,8] none []))))))) (.two (.reg [] [4] none []) (.nil))),⟨[.one (Lf.row 3),.one Lf.raw],[.one li]⟩⟩
def aCG:FE:=⟨8,[.tmp 3],.two (.reg [] [0,1] none []) (.two (.reg [] [3] none [(some 4,⟨[],[],[],[]⟩,.rf none)]) (.nil)),⟨[.one li,.one Lf.ref],[.one lb]⟩⟩
def aDq:FE:=⟨8,[.tmp 2],.two (.reg [] [0] none []) (.two (.two (.reg [] [0,4] none []) (.cond none (.two (.reg [] [2] none []) (.rt [.mk 2 3 1])) (.nil))) (.two (.reg [] [2] none []) (.nil))),⟨[.one (Lf.row 1)],[.one (Lf.row 1)]⟩⟩
noncomputable def tb:List (Nat×FE×Code):=[(3,fe3,aA Try.f3),(11,aDo,aA Try.f11),(14,aEa,aA Try.f14),(15,aEb,aA Try.f15),(16,aEc,aA Try.f16),(17,aEd,aA Try.f17),(18,aEe,aA Try.f18),(19,aEf,aA Try.f19),(20,aEg,aA Try.f20),(21,aEh,aA Try.f21),(23,aEi,aA Try.f23),(24,aEj,aA Try.f24),(26,aEk,aA Try.f26),(27,aEl,aA Try.f27),(33,aEm,aA Try.f33),(40,aEn,aA Try.f40),(45,aEo,aA Try.f45),(46,aEp,aA Try.f46),(48,aEq,aA Try.f48),(49,aEr,aA Try.f49),(50,aEs,aA Try.f50),(51,aEt,aA Try.f51),(52,aEu,aA Try.f52),(53,aEv,aA Try.f53),(54,aEw,aA Try.f54),(63,aEx,aA Try.f63),(64,aEy,aA Try.f64),(65,aEz,aA Try.f65),(66,aEA,aA Try.f66),(67,aEB,aA Try.f67),(68,aEC,aA Try.f68),(69,aED,aA Try.f69),(72,aEE,aA Try.f72),(73,aEF,aA Try.f73),(74,aEG,aA Try.f74),(75,aEH,aA Try.f75),(80,aDp,aA Try.f80),(81,aEI,aA Try.f81),(83,aEJ,aA Try.f83),(84,aEK,aA Try.f84),(85,aEL,aA Try.f85),(86,aEM,aA Try.f86),(87,aEN,aA Try.f87),(88,aEO,aA Try.f88),(89,aEP,aA Try.f89),(90,aEQ,aA Try.f90),(91,aER,aA Try.f91),(92,aES,aA Try.f92),(93,aET,aA Try.f93),(99,aEU,aA Try.f99),(100,aCp,aA Try.f100),(101,aCq,aA Try.f101),(102,ZO,aA Try.f102),(103,ZP,aA Try.f103),(105,aCr,aA Try.f105),(106,aCs,aA Try.f106),(107,aCt,aA Try.f107),(109,aCu,aA Try.f109),(110,aCv,aA Try.f110),(111,aCw,aA Try.f111),(112,aCx,aA Try.f112),(115,aCy,aA Try.f115),(119,aCz,aA Try.f119),(120,aCA,aA Try.f120),(124,aCB,aA Try.f124),(125,aCC,aA Try.f125),(126,aCD,aA Try.f126),(127,aCE,aA Try.f127),(128,aCF,aA Try.f128),(140,aCG,aA Try.f140)]
noncomputable abbrev sg:FuncId→Option Sig:=vS tb
end Go.Proofs.Ythkfohoccnnphaa
namespace Go.Proofs.Ythkfohoccnnphaa
open Go Go.Sx
abbrev kX:Nat:=11
abbrev jV:Nat:=15
abbrev pD:Nat:=17
abbrev pE:Nat:=19
abbrev sF:Nat:=20
abbrev pF:Nat:=23
abbrev pG:Nat:=24
abbrev hU:Nat:=26
abbrev sG:Nat:=27
abbrev dE:Nat:=33
abbrev wG:Nat:=40
abbrev fY:Nat:=45
abbrev jM:Nat:=46
abbrev dT:Nat:=48
abbrev eF:Nat:=49
abbrev jW:Nat:=50
abbrev jX:Nat:=51
abbrev gE:Nat:=52
abbrev gF:Nat:=53
abbrev sH:Nat:=54
abbrev iO:Nat:=63
abbrev cU:Nat:=64
abbrev nJ:Nat:=65
abbrev iX:Nat:=66
abbrev dU:Nat:=67
abbrev cN:Nat:=68
abbrev xO:Nat:=69
abbrev jF:Nat:=72
abbrev eG:Nat:=73
abbrev eI:Nat:=74
abbrev fN:Nat:=75
abbrev cV:Nat:=80
abbrev jY:Nat:=81
abbrev dF:Nat:=83
abbrev fC:Nat:=84
abbrev jP:Nat:=85
abbrev pH:Nat:=86
abbrev hZ:Nat:=87
abbrev jG:Nat:=88
abbrev jH:Nat:=89
abbrev cC:Nat:=90
abbrev cH:Nat:=91
abbrev nK:Nat:=92
abbrev xP:Nat:=93
abbrev lS:Nat:=99
abbrev gP:Nat:=100
abbrev lT:Nat:=101
abbrev eJ:Nat:=102
abbrev cX:Nat:=103
abbrev kY:Nat:=105
abbrev iP:Nat:=106
abbrev kZ:Nat:=107
abbrev fX:Nat:=109
abbrev dG:Nat:=110
abbrev dA:Nat:=111
abbrev eR:Nat:=112
abbrev dV:Nat:=115
abbrev oG:Nat:=116
abbrev wH:Nat:=119
abbrev eK:Nat:=120
abbrev BM:Nat:=121
abbrev oB:Nat:=124
abbrev wI:Nat:=125
abbrev iQ:Nat:=126
abbrev lU:Nat:=127
abbrev dW:Nat:=128
abbrev aZ:Nat:=140
end Go.Proofs.Ythkfohoccnnphaa
namespace Go.Proofs.Ythkfohoccnnphaa
open Go Go.Sx
abbrev ITS:=List (Nat×(List CV→Option (List CV)))
noncomputable def D (its:ITS) (n:Nat):Den:=den Try.prog tb its n
end Go.Proofs.Ythkfohoccnnphaa
namespace Go.Proofs.Ythkfohoccnnphaa
open Go Go.Sx
set_option maxRecDepth 100000
section
theorem aBC {t:List AV} {B:List Box} {V:List Vec} {a b c:AV}:bU Try.prog ⟨t,B++[Box.mk true 122 [a,b,c]],V⟩ 122 (.ptr B.length 0)=some (.agg [a,b,c]):=by
 have h:(bH Try.prog 122).map (fun t=>(t.size,t.kind))=some (3,.strct [(0,1),(1,1),(2,1)]):=by kernel_rfl
 cases ht:bH Try.prog 122 with
 | none=>rw [ht] at h;cases h
 | some ti =>
  rw [ht] at h
  simp only [Option.map_some,Option.some.injEq,Prod.mk.injEq] at h
  unfold bU
  rw [ht]
  simp [h.1,h.2,TK.agg]
variable [G:Ghost]
def bm (g:FuncId) (x:AV):AV:=.fn g [.gd [false] .any,x]
theorem aDr:OM Try.prog 104 124 [94,95,97,98]:=by
 intro a b c B V ho
 refine CallP.drop1 (b0:=⟨true,122,[a,b,c]⟩) (fun nB vs h=>?_) ?_
 ·simp only [AV.scos,AV.sco,and_true] at h
  simp only [tI,List.map_cons,List.map_nil,AV.scos,AV.sco,true_and,and_true]
  exact ⟨h,h,h,h⟩
 refine wZ (fn:=Try.f104) (c:=aA Try.f104) (by kernel_rfl) (by kernel_rfl) fun F n hF=>?_
 generalize hX:AV.agg [a,b,c]=X
 have hbox:∀ t,qT ⟨t,B,V⟩ 122 X=some (.ptr B.length 0,B++[Box.mk true 122 [a,b,c]],V):=by
  intro t
  subst hX
  unfold qT
  simp only [AV.cells]
  rw [if_pos ho]
 have hld:∀ t,bU Try.prog ⟨t,B++[Box.mk true 122 [a,b,c]],V⟩ 122 (.ptr B.length 0)=some X:=by
  intro t;subst hX;exact aBC
 have hbb:∀ t,kS Try.prog ⟨t,B++[Box.mk true 122 [a,b,c]],V⟩ 130 4 [(0,bm 94 X),(1,bm 95 X),(2,bm 97 X),(3,bm 98 X)]=some (.slb 4 (B++[Box.mk true 122 [a,b,c]]).length 0,B++[Box.mk true 122 [a,b,c]]++[Box.mk true 124 [bm 94 X,bm 95 X,bm 97 X,bm 98 X]],V):=by
  intro t;kernel_rfl
 generalize hB1:B++[Box.mk true 122 [a,b,c]]=B1 at *
 refine QZ (AA ?_)
 change cD F n Try.prog _ _ ⟨[X,.any,.any,.any,.any,.any,.any,.any,.any,.any,.any,.any],B,V⟩ _
 refine stepW (av:=.ptr B.length 0) (B':=B1) (V':=V) (st':=⟨[X,.ptr B.length 0,.any,.any,.any,.any,.any,.any,.any,.any,.any,.any],B1,V⟩) hF rfl ?_ rfl ?_
 ·show (qT _ _ _)=_;exact hbox _
 refine stepW (av:=.cv (.val (.slice none 0 0))) (B':=B1) (V':=V) (st':=⟨[X,.ptr B.length 0,.cv (.val (.slice none 0 0)),.any,.any,.any,.any,.any,.any,.any,.any,.any],B1,V⟩) hF rfl ?_ rfl ?_
 ·rfl
 refine tA (QZ (AA ?_))
 refine stepW (av:=X) (B':=B1) (V':=V) (st':=⟨[X,.ptr B.length 0,.cv (.val (.slice none 0 0)),X,.any,.any,.any,.any,.any,.any,.any,.any],B1,V⟩) hF rfl ?_ rfl ?_
 ·show Option.map _ (bU Try.prog ⟨[X,.ptr B.length 0,.cv (.val (.slice none 0 0)),.any,.any,.any,.any,.any,.any,.any,.any,.any],B1,V⟩ 122 (.ptr B.length 0))=_;rw [hld];rfl
 refine stepW (av:=bm 94 X) (B':=B1) (V':=V) (st':=⟨[X,.ptr B.length 0,.cv (.val (.slice none 0 0)),X,bm 94 X,.any,.any,.any,.any,.any,.any,.any],B1,V⟩) hF rfl ?_ rfl ?_
 ·kernel_rfl
 refine stepW (av:=X) (B':=B1) (V':=V) (st':=⟨[X,.ptr B.length 0,.cv (.val (.slice none 0 0)),X,bm 94 X,X,.any,.any,.any,.any,.any,.any],B1,V⟩) hF rfl ?_ rfl ?_
 ·show Option.map _ (bU Try.prog ⟨[X,.ptr B.length 0,.cv (.val (.slice none 0 0)),X,bm 94 X,.any,.any,.any,.any,.any,.any,.any],B1,V⟩ 122 (.ptr B.length 0))=_;rw [hld];rfl
 refine stepW (av:=bm 95 X) (B':=B1) (V':=V) (st':=⟨[X,.ptr B.length 0,.cv (.val (.slice none 0 0)),X,bm 94 X,X,bm 95 X,.any,.any,.any,.any,.any],B1,V⟩) hF rfl ?_ rfl ?_
 ·kernel_rfl
 refine stepW (av:=X) (B':=B1) (V':=V) (st':=⟨[X,.ptr B.length 0,.cv (.val (.slice none 0 0)),X,bm 94 X,X,bm 95 X,X,.any,.any,.any,.any],B1,V⟩) hF rfl ?_ rfl ?_
 ·show Option.map _ (bU Try.prog ⟨[X,.ptr B.length 0,.cv (.val (.slice none 0 0)),X,bm 94 X,X,bm 95 X,.any,.any,.any,.any,.any],B1,V⟩ 122 (.ptr B.length 0))=_;rw [hld];rfl
 refine stepW (av:=bm 97 X) (B':=B1) (V':=V) (st':=⟨[X,.ptr B.length 0,.cv (.val (.slice none 0 0)),X,bm 94 X,X,bm 95 X,X,bm 97 X,.any,.any,.any],B1,V⟩) hF rfl ?_ rfl ?_
 ·kernel_rfl
 refine stepW (av:=X) (B':=B1) (V':=V) (st':=⟨[X,.ptr B.length 0,.cv (.val (.slice none 0 0)),X,bm 94 X,X,bm 95 X,X,bm 97 X,X,.any,.any],B1,V⟩) hF rfl ?_ rfl ?_
 ·show Option.map _ (bU Try.prog ⟨[X,.ptr B.length 0,.cv (.val (.slice none 0 0)),X,bm 94 X,X,bm 95 X,X,bm 97 X,.any,.any,.any],B1,V⟩ 122 (.ptr B.length 0))=_;rw [hld];rfl
 refine stepW (av:=bm 98 X) (B':=B1) (V':=V) (st':=⟨[X,.ptr B.length 0,.cv (.val (.slice none 0 0)),X,bm 94 X,X,bm 95 X,X,bm 97 X,X,bm 98 X,.any],B1,V⟩) hF rfl ?_ rfl ?_
 ·kernel_rfl
 refine aD6 (av:=(.slb 4 B1.length 0)) (B':=(B1++[Box.mk true 124 [bm 94 X,bm 95 X,bm 97 X,bm 98 X]])) (V':=V) (st':=⟨[X,.ptr B.length 0,.cv (.val (.slice none 0 0)),X,bm 94 X,X,bm 95 X,X,bm 97 X,X,bm 98 X,(.slb 4 B1.length 0)],(B1++[Box.mk true 124 [bm 94 X,bm 95 X,bm 97 X,bm 98 X]]),V⟩) hF rfl rfl ?_ rfl ?_
 ·exact hbb _
 refine stepW (av:=(.slb 4 B1.length 0)) (B':=(B1++[Box.mk true 124 [bm 94 X,bm 95 X,bm 97 X,bm 98 X]])) (V':=V) (st':=⟨[X,.ptr B.length 0,(.slb 4 B1.length 0),X,bm 94 X,X,bm 95 X,X,bm 97 X,X,bm 98 X,(.slb 4 B1.length 0)],(B1++[Box.mk true 124 [bm 94 X,bm 95 X,bm 97 X,bm 98 X]]),V⟩) hF rfl rfl rfl ?_
 refine tA (WR ⟨.inr rfl,_,rfl,?_⟩)
 subst hB1 hX
 exact ⟨by simp [AV.slb],by simp [tI,bm],rfl⟩
end
end Go.Proofs.Ythkfohoccnnphaa
namespace Go.Proofs.Ythkfohoccnnphaa
open Go Go.Sx
set_option maxRecDepth 100000
set_option maxHeartbeats 0
noncomputable section
def jQ (M:Den) (a0:List CV) (a1 a2:List (List CV)):Option Ou :=  eW (chk (oks [.row 1] (List.drop 0 (List.drop 0 a0)) 0)<|chk (((decide (0≤(il (gr (List.drop 0 (List.drop 0 a0)) 0))))&&(decide ((il (gr (List.drop 0 (List.drop 0 a0)) 0))≤(il (gr (List.drop 0 (List.drop 0 a0)) 0)))))&&(bJ (Int.toNat (il (gr (List.drop 0 (List.drop 0 a0)) 0))) 0 8))<|chk (oks [.row 1] (List.drop 0 (List.drop 0 a0)) 0)<|chk (decide ((List.length (gr (List.drop 0 (List.drop 0 a0)) 0))≤(List.length (List.replicate (Int.toNat (il (gr (List.drop 0 (List.drop 0 a0)) 0))) [ci 0]))))<|chk (oks [.row 1] (List.drop 0 (List.drop 0 a0)) 0)<|chk (((decide (0≤(il (gr (List.drop 0 (List.drop 0 a0)) 0))))&&(decide ((il (gr (List.drop 0 (List.drop 0 a0)) 0))≤(il (gr (List.drop 0 (List.drop 0 a0)) 0)))))&&(bJ (Int.toNat (il (gr (List.drop 0 (List.drop 0 a0)) 0))) 0 8))<|some (.ret ([CV.row 1 ((gr (List.drop 0 (List.drop 0 a0)) 0)++(List.drop (List.length (gr (List.drop 0 (List.drop 0 a0)) 0)) (List.replicate (Int.toNat (il (gr (List.drop 0 (List.drop 0 a0)) 0))) [ci 0]))),CV.row 1 (List.replicate (Int.toNat (il (gr (List.drop 0 (List.drop 0 a0)) 0))) [ci 0])]))) fun v0=>aB ((il a1) != (il a2)) (some (.ret [CV.val (Value.pointer none),cb false])) (bO 0 (aJ (fun v1=>aB (decide ((gi v1 0)<(il a2))) (chk (inb (gi v1 0) a2)<|chk (oks [li] (el a2 (gi v1 0)) 0)<|bN (chk (oks [.row 1] (List.drop 0 (List.drop 0 a0)) 0)<|aE (M dU [ci (gi (el a2 (gi v1 0)) 0),ci 0,ci (wr ((il (gr (List.drop 0 (List.drop 0 a0)) 0)) - 1))]) fun v2=>aB (!(gb v2 0)) (some (.nx [cb true])) (chk (inb (gi v1 0) a1)<|chk (oks [li] (el a1 (gi v1 0)) 0)<|eW (chk ((decide (0≤(gi (el a1 (gi v1 0)) 0)))&&(decide ((gi (el a1 (gi v1 0)) 0)<(Int.ofNat 10))))<|chk (oks [li] (List.drop 1 (List.drop ((Int.toNat (gi (el a1 (gi v1 0)) 0))*4) (List.drop 2 a0))) 0)<|chk (inb (gi (el a2 (gi v1 0)) 0) (gr v1 1))<|chk (decide ((Int.toNat (gi (el a2 (gi v1 0)) 0))<(List.length (gr v1 1))))<|chk (oks [li] (el (gr v1 1) (gi (el a2 (gi v1 0)) 0)) 0)<|aB (decide ((gi (List.drop 1 (List.drop ((Int.toNat (gi (el a1 (gi v1 0)) 0))*4) (List.drop 2 a0))) 0)≤(gi (el (gr v1 1) (gi (el a2 (gi v1 0)) 0)) 0))) (chk ((decide (0≤(gi (el a1 (gi v1 0)) 0)))&&(decide ((gi (el a1 (gi v1 0)) 0)<(Int.ofNat 10))))<|chk (oks [li] (List.drop ((Int.toNat (gi (el a1 (gi v1 0)) 0))*1) (List.drop 42 a0)) 0)<|chk (inb (gi (el a2 (gi v1 0)) 0) (gr v1 2))<|chk (decide ((Int.toNat (gi (el a2 (gi v1 0)) 0))<(List.length (gr v1 2))))<|chk (oks [li] (el (gr v1 2) (gi (el a2 (gi v1 0)) 0)) 0)<|some (.ret [cb ((wr (Int.ofNat (bAN (gi (List.drop ((Int.toNat (gi (el a1 (gi v1 0)) 0))*1) (List.drop 42 a0)) 0) (gi (el (gr v1 2) (gi (el a2 (gi v1 0)) 0)) 0)))) == 0)])) (some (.ret [cb false]))) fun v3=>some (.nx [cb (!(gb v3 0))]))) fun v2=>aB (gb v2 0) (some (.ret [CV.val (Value.pointer none),cb false])) (chk (inb (gi (el a2 (gi v1 0)) 0) (gr v1 1))<|chk (decide ((Int.toNat (gi (el a2 (gi v1 0)) 0))<(List.length (gr v1 1))))<|chk (oks [li] (el (gr v1 1) (gi (el a2 (gi v1 0)) 0)) 0)<|chk (inb (gi v1 0) a1)<|chk (oks [li] (el a1 (gi v1 0)) 0)<|chk ((decide (0≤(gi (el a1 (gi v1 0)) 0)))&&(decide ((gi (el a1 (gi v1 0)) 0)<(Int.ofNat 10))))<|chk (oks [li] (List.drop 1 (List.drop ((Int.toNat (gi (el a1 (gi v1 0)) 0))*4) (List.drop 2 a0))) 0)<|chk (inb (gi (el a2 (gi v1 0)) 0) (gr v1 1))<|chk ((decide ((Int.toNat (gi (el a2 (gi v1 0)) 0))<(List.length (gr v1 1))))&&(decide (1≤1)))<|chk (inb (gi (el a2 (gi v1 0)) 0) (gr v1 2))<|chk (decide ((Int.toNat (gi (el a2 (gi v1 0)) 0))<(List.length (gr v1 2))))<|chk (oks [li] (el (gr v1 2) (gi (el a2 (gi v1 0)) 0)) 0)<|chk (inb (gi v1 0) a1)<|chk (oks [li] (el a1 (gi v1 0)) 0)<|chk (decide (0≤(gi (el a1 (gi v1 0)) 0)))<|chk (inb (gi (el a2 (gi v1 0)) 0) (gr v1 2))<|chk ((decide ((Int.toNat (gi (el a2 (gi v1 0)) 0))<(List.length (gr v1 2))))&&(decide (1≤1)))<|some (.nx ([ci (wr ((gi v1 0)+1)),CV.row 1 (List.set (gr v1 1) (Int.toNat (gi (el a2 (gi v1 0)) 0)) (spl (el (gr v1 1) (gi (el a2 (gi v1 0)) 0)) 0 [ci (wr ((gi (el (gr v1 1) (gi (el a2 (gi v1 0)) 0)) 0) - (gi (List.drop 1 (List.drop ((Int.toNat (gi (el a1 (gi v1 0)) 0))*4) (List.drop 2 a0))) 0)))])),CV.row 1 (List.set (gr v1 2) (Int.toNat (gi (el a2 (gi v1 0)) 0)) (spl (el (gr v1 2) (gi (el a2 (gi v1 0)) 0)) 0 [ci (wr (Int.ofNat (bON (gi (el (gr v1 2) (gi (el a2 (gi v1 0)) 0)) 0) (wr (1*((2:Int) ^ (min (Int.toNat (gi (el a1 (gi v1 0)) 0)) 64)))))))]))])))) (some (.br 0 [CV.row 1 (gr v1 1),CV.row 1 (gr v1 2)]))) [ci 0,CV.row 1 (gr v0 0),CV.row 1 (gr v0 1)]) fun v1=>some (.ret ([CV.ref [CV.row 1 (gr v1 0),CV.row 1 (gr v1 1)],cb true])))
theorem qM (its:ITS) (n:Nat) (a0:List CV) (a1 a2:List (List CV)):D its (n+1) fN [(.ref a0),(.row 1 a1),(.row 1 a2)]=bC (jQ (D its n) a0 a1 a2):=by kernel_rfl
def oC (M:Den) (a0_0 a0_1:List (List CV)):Option Ou :=  bN (aB (decide ((il a0_0) > 5)) (some (.nx [cb true])) (aE (M cC ([CV.row 1 a0_0,CV.fn cH []])) fun v0=>some (.nx [cb (gb v0 0)]))) fun v0=>aB (gb v0 0) (some (.ret [ci 50])) (bO 0 (aJ (fun v1=>aB (decide ((gi v1 0)<(il a0_1))) (chk (inb (gi v1 0) a0_1)<|chk (oks (List.replicate 4 li) (el a0_1 (gi v1 0)) 0)<|bN (aE (M nK (cis (el a0_1 (gi v1 0)) 0 4)) fun v2=>aB (!(gb v2 0)) (some (.nx [cb true])) (aB (decide ((gi v1 0) > 0)) (chk (inb (wr ((gi v1 0) - 1)) a0_1)<|chk (oks [li] (List.drop 0 (el a0_1 (wr ((gi v1 0) - 1)))) 0)<|some (.nx [cb (decide ((gi (List.drop 0 (el a0_1 (wr ((gi v1 0) - 1)))) 0)≥(gi (el a0_1 (gi v1 0)) 0)))])) (some (.nx [cb false])))) fun v2=>aB (gb v2 0) (some (.ret [ci 50])) (some (.nx [ci (wr ((gi v1 0)+1))]))) (some (.br 0 []))) [ci 0]) fun v1=>some (.ret [ci 0]))
theorem yR (its:ITS) (n:Nat) (a0_0 a0_1:List (List CV)):D its (n+1) fY [(.row 1 a0_0),(.row 4 a0_1)]=bC (oC (D its n) a0_0 a0_1):=by kernel_rfl
def jI (M:Den) (a0:List CV) (a1:List (List CV)) (a2:Int):Option Ou :=  bO 0 (aJ (fun v0=>aB (decide ((gi v0 1)<(il a1))) (chk (inb (gi v0 1) a1)<|chk (oks [li,li,li] (el a1 (gi v0 1)) 0)<|bN (aB ((gi (el a1 (gi v0 1)) 2) != (-1)) (some (.nx [ci (if (wr ((gi (el a1 (gi v0 1)) 2) - 1))<a2 then wr ((gi (el a1 (gi v0 1)) 2) - 1) else a2)])) (some (.nx [ci a2]))) fun v1=>chk ((decide (0≤(gi (el a1 (gi v0 1)) 0)))&&(decide ((gi (el a1 (gi v0 1)) 0)<(Int.ofNat 10))))<|chk (oks [li] (List.drop 2 (List.drop ((Int.toNat (gi (el a1 (gi v0 1)) 0))*4) (List.drop 2 a0))) 0)<|some (.nx [ci (wr ((gi v0 0)+(wr ((if 0 > (wr ((wr ((gi v1 0) - (gi (el a1 (gi v0 1)) 1)))+1)) then 0 else wr ((wr ((gi v1 0) - (gi (el a1 (gi v0 1)) 1)))+1))*(gi (List.drop 2 (List.drop ((Int.toNat (gi (el a1 (gi v0 1)) 0))*4) (List.drop 2 a0))) 0))))),ci (wr ((gi v0 1)+1))])) (some (.br 0 [ci (gi v0 0)]))) [ci 0,ci 0]) fun v0=>some (.ret [ci (gi v0 0)])
theorem pI (its:ITS) (n:Nat) (a0:List CV) (a1:List (List CV)) (a2:Int):D its (n+1) cN [(.ref a0),(.row 3 a1),(ci a2)]=bC (jI (D its n) a0 a1 a2):=by kernel_rfl
def xQ (M:Den) (a0_0 a0_1 a1:List (List CV)):Option Ou :=  bO 0 (aJ (fun v0=>aB (decide ((gi v0 0)<(il a1))) (bO 2 (aJ (fun v1=>aB (decide ((gi v1 0)<(gi v0 0))) (chk (inb (gi v0 0) a1)<|chk (oks [li] (el a1 (gi v0 0)) 0)<|chk (inb (gi v1 0) a1)<|chk (oks [li] (el a1 (gi v1 0)) 0)<|aE (M jH [CV.row 1 a0_0,CV.row 4 a0_1,ci (gi (el a1 (gi v0 0)) 0),ci (gi (el a1 (gi v1 0)) 0)]) fun v2=>aB (!(gb v2 0)) (some (.ret [cb false])) (some (.nx [ci (wr ((gi v1 0)+1))]))) (some (.br 2 []))) [ci 0]) fun v1=>some (.nx [ci (wr ((gi v0 0)+1))])) (some (.br 0 []))) [ci 0]) fun v0=>some (.ret [cb true])
theorem LQ (its:ITS) (n:Nat) (a0_0 a0_1 a1:List (List CV)):D its (n+1) lU [(.row 1 a0_0),(.row 4 a0_1),(.row 1 a1)]=bC (xQ (D its n) a0_0 a0_1 a1):=by kernel_rfl
def lA (M:Den) (a0:List CV) (a1:List (List CV)) (a2:Int):Option Ou :=  aE (M eG [CV.ref a0,CV.row 1 a1]) fun v0=>bN (brO (eU (vR sg M (List.getD v0 0 dC) (.lent 3 1)) (fun x1 v1=>aB ((gi v1 0) == 0) (eW (vC (gr x1 0) (some (.ret ([CV.row 1 []]))) (chk (bJ 0 (List.length (gr x1 0)) 8)<|some (.ret [CV.row 1 (gr x1 0)]))) fun v2=>some (.ret [CV.row 1 (gr v2 0),cb true])) (some (.nx [ci (wr ((gi v1 0) - 1)),CV.row 1 (gr v1 1),cb (gb v1 2)]))) [ci a2,CV.val (Value.slice none 0 0),cb false])) fun v1=>some (.ret ([CV.row 1 [],cb false]))
theorem sI (its:ITS) (n:Nat) (a0:List CV) (a1:List (List CV)) (a2:Int):D its (n+1) eI [(.ref a0),(.row 1 a1),(ci a2)]=bC (lA (D its n) a0 a1 a2):=by kernel_rfl
def BN (M:Den) (a0 a1:List (List CV)):Option Ou :=  bO 0 (aJ (fun v0=>aB (decide ((gi v0 0)<(il a1))) (chk (inb (gi v0 0) a1)<|chk (oks [li] (el a1 (gi v0 0)) 0)<|chk (inb (gi (el a1 (gi v0 0)) 0) a0)<|chk (oks [li] (el a0 (gi (el a1 (gi v0 0)) 0)) 0)<|chk (bJ (List.length (gr v0 1)) 1 8)<|some (.nx ([ci (wr ((gi v0 0)+1)),CV.row 1 ((gr v0 1)++(aN 1 1 [ci (gi (el a0 (gi (el a1 (gi v0 0)) 0)) 0)]))]))) (some (.br 0 [CV.row 1 (gr v0 1)]))) ([ci 0,CV.row 1 []])) fun v0=>some (.ret [CV.row 1 (gr v0 0)])
theorem PW (its:ITS) (n:Nat) (a0 a1:List (List CV)):D its (n+1) iQ [(.row 1 a0),(.row 1 a1)]=bC (BN (D its n) a0 a1):=by kernel_rfl
def nL (M:Den) (a0_0 a0_1 a0_2 a0_3:Int):Option Ou :=  aE (M dU [ci a0_0,ci 1,ci 9]) fun v0=>aB (gb v0 0) (aE (M dU [ci a0_1,ci 1,ci 1000]) fun v1=>aB (gb v1 0) (aE (M dU [ci a0_2,ci 0,ci 1000]) fun v2=>aB (gb v2 0) (aE (M dU [ci a0_3,ci 0,ci 1023]) fun v3=>aB (gb v3 0) (some (.ret [cb ((wr (Int.ofNat (bAN a0_3 1))) == 0)])) (some (.ret [cb false]))) (some (.ret [cb false]))) (some (.ret [cb false]))) (some (.ret [cb false]))
theorem HQ (its:ITS) (n:Nat) (a0_0 a0_1 a0_2 a0_3:Int):D its (n+1) nK [(ci a0_0),(ci a0_1),(ci a0_2),(ci a0_3)]=bC (nL (D its n) a0_0 a0_1 a0_2 a0_3):=by kernel_rfl
def xR (M:Den) (a0_0 a0_1:List (List CV)) (a1:Int):Option Ou :=  bO 0 (aJ (fun v0=>aB (decide ((gi v0 0)<(il a0_0))) (chk (inb (gi v0 0) a0_0)<|chk (oks [li] (el a0_0 (gi v0 0)) 0)<|aE (M iP [CV.row 1 a0_0,CV.row 4 a0_1,ci a1]) fun v1=>aB (decide ((gi v1 0)≤(gi (el a0_0 (gi v0 0)) 0))) (some (.ret [cb false])) (some (.nx [ci (wr ((gi v0 0)+1))]))) (some (.br 0 []))) [ci 0]) fun v0=>some (.ret [cb true])
theorem LR (its:ITS) (n:Nat) (a0_0 a0_1:List (List CV)) (a1:Int):D its (n+1) lS [(.row 1 a0_0),(.row 4 a0_1),(ci a1)]=bC (xR (D its n) a0_0 a0_1 a1):=by kernel_rfl
def xS (M:Den) (a0_0 a0_1 a1:List (List CV)) (a2:Int):Option Ou :=  aE (M iX [CV.row 1 a0_0,CV.row 4 a0_1,CV.row 3 a1]) fun v0=>aB ((gi v0 1) != 0) (some (.ret [ci 0,ci (gi v0 1)])) (aE (M dU [ci a2,ci 0,ci 100000]) fun v1=>aB (!(gb v1 0)) (some (.ret [ci 0,ci 6])) (chk (dS (List.getD v0 0 dC))<|aE (M cN [CV.ref (cF (List.getD v0 0 dC)),CV.row 3 a1,ci a2]) fun v2=>some (.ret [ci (gi v2 0),ci 0])))
theorem LS (its:ITS) (n:Nat) (a0_0 a0_1 a1:List (List CV)) (a2:Int):D its (n+1) pD [(.row 1 a0_0),(.row 4 a0_1),(.row 3 a1),(ci a2)]=bC (xS (D its n) a0_0 a0_1 a1 a2):=by kernel_rfl
def FB (M:Den) (a0_0 a0_1:List (List CV)):Option Ou :=  bO 0 (aJ (fun v0=>aB (decide ((gi v0 1)<(il a0_0))) (chk (inb (gi v0 1) a0_0)<|chk (oks [li] (el a0_0 (gi v0 1)) 0)<|some (.nx [ci (wr ((gi v0 0)+(gi (el a0_0 (gi v0 1)) 0))),ci (wr ((gi v0 1)+1))])) (some (.br 0 [ci (gi v0 0)]))) [ci 0,ci 0]) fun v0=>some (.ret [ci (gi v0 0)])
theorem VM (its:ITS) (n:Nat) (a0_0 a0_1:List (List CV)):D its (n+1) wI [(.row 1 a0_0),(.row 4 a0_1)]=bC (FB (D its n) a0_0 a0_1):=by kernel_rfl
def FC (M:Den) (a0_0 a0_1 a1:List (List CV)) (a2:Int):Option Ou :=  aB (a2 == 2) (aE (M pH [CV.row 1 a0_0,CV.row 4 a0_1,CV.row 1 a1]) fun v0=>aE (M wI [CV.row 1 a0_0,CV.row 4 a0_1]) fun v1=>some (.ret [cb (decide ((gi v0 0) > (gi v1 0)))])) (aE (M wH [CV.row 1 a0_0,CV.row 4 a0_1,CV.row 1 a1]) fun v0=>some (.ret [cb (!(gb v0 0))]))
theorem VN (its:ITS) (n:Nat) (a0_0 a0_1 a1:List (List CV)) (a2:Int):D its (n+1) gP [(.row 1 a0_0),(.row 4 a0_1),(.row 1 a1),(ci a2)]=bC (FC (D its n) a0_0 a0_1 a1 a2):=by kernel_rfl
def gQ (M:Den) (a0:List CV) (a1:List (List CV)):Option Ou :=  aB (decide ((il a1)≤8)) (aE (M cC ([CV.row 1 a1,CV.fn aZ ([CV.ref [CV.ref a0]])])) fun v0=>some (.ret [cb (!(gb v0 0))])) (some (.ret [cb false]))
theorem mP (its:ITS) (n:Nat) (a0:List CV) (a1:List (List CV)):D its (n+1) dV [(.ref a0),(.row 1 a1)]=bC (gQ (D its n) a0 a1):=by kernel_rfl
def BO (M:Den) (a0_0 a0_1:List (List CV)) (a1:Int):Option Ou :=  aE (M iO [CV.row 1 a0_0,CV.row 4 a0_1,ci a1]) fun v0=>some (.ret [ci (gi v0 1)])
theorem PX (its:ITS) (n:Nat) (a0_0 a0_1:List (List CV)) (a1:Int):D its (n+1) iP [(.row 1 a0_0),(.row 4 a0_1),(ci a1)]=bC (BO (D its n) a0_0 a0_1 a1):=by kernel_rfl
def sJ (M:Den) (a0:List CV) (a1:List (List CV)):Option Ou :=  some (.ret ([CV.fn oG ([CV.ref [CV.row 1 a1],CV.ref [CV.ref a0]])]))
theorem sK (its:ITS) (n:Nat) (a0:List CV) (a1:List (List CV)):D its (n+1) eG [(.ref a0),(.row 1 a1)]=bC (sJ (D its n) a0 a1):=by kernel_rfl
end
end Go.Proofs.Ythkfohoccnnphaa
namespace Go.Proofs.Ythkfohoccnnphaa
open Go Go.Sx
set_option maxRecDepth 100000
set_option maxHeartbeats 0
noncomputable section
def xT (M:Den) (a0_0 a0_1 a1:List (List CV)) (a2:Int):Option Ou :=  aE (M iX [CV.row 1 a0_0,CV.row 4 a0_1,CV.row 3 a1]) fun v0=>aB ((gi v0 1) != 0) (some (.ret [ci 0,ci (gi v0 1)])) (aE (M dU [ci a2,ci 0,ci 1000000000000]) fun v1=>aB (!(gb v1 0)) (some (.ret [ci 0,ci 1])) (chk (dS (List.getD v0 0 dC))<|aE (M cN [CV.ref (cF (List.getD v0 0 dC)),CV.row 3 a1,ci 0]) fun v2=>aB (decide ((gi v2 0) > a2)) (some (.ret [ci 0,ci 3])) (bO 1 (aJ (fun v3=>aB (decide ((gi v3 0)<(gi v3 1))) (aE (M cN [CV.ref (cF (List.getD v0 0 dC)),CV.row 3 a1,ci (wr (Int.tdiv (wr ((wr ((gi v3 0)+(gi v3 1)))+1)) 2))]) fun v4=>bN (aB (decide ((gi v4 0)≤a2)) (some (.nx [ci (wr (Int.tdiv (wr ((wr ((gi v3 0)+(gi v3 1)))+1)) 2)),ci (gi v3 1)])) (some (.nx [ci (gi v3 0),ci (wr ((wr (Int.tdiv (wr ((wr ((gi v3 0)+(gi v3 1)))+1)) 2)) - 1))]))) fun v5=>some (.nx [ci (gi v5 0),ci (gi v5 1)])) (some (.br 1 [ci (gi v3 0)]))) [ci 0,ci 100000]) fun v3=>some (.ret [ci (gi v3 0),ci 0]))))
theorem LT (its:ITS) (n:Nat) (a0_0 a0_1 a1:List (List CV)) (a2:Int):D its (n+1) pE [(.row 1 a0_0),(.row 4 a0_1),(.row 3 a1),(ci a2)]=bC (xT (D its n) a0_0 a0_1 a1 a2):=by kernel_rfl
def pJ (M:Den) (a0_0 a0_1 a1 a2:List (List CV)) (a3:Int):Option Ou :=  aE (M sG [CV.row 1 a2]) fun v0=>aB (decide ((gi v0 0) > a3)) (some (.ret ([CV.row 1 [],cb false]))) (aB ((il a2) == (il a1)) (some (.ret [CV.row 1 a2,cb true])) (bO 0 (aJ (fun v1=>aB (decide ((gi v1 0)<(il a0_0))) (bO 1 (aE (M kZ [CV.row 1 a0_0,CV.row 4 a0_1,CV.row 1 a1,CV.row 1 a2,ci (il a2),ci (gi v1 0)]) fun v2=>aB (!(gb v2 0)) (some (.br 1 [])) (chk (bJ 0 (List.length a2) 8)<|chk (bJ (List.length a2) 1 8)<|aE (M cX ([CV.row 1 a0_0,CV.row 4 a0_1,CV.row 1 a1,CV.row 1 (a2++(aN 1 1 [ci (gi v1 0)])),ci a3])) fun v3=>aB (gb v3 1) (some (.ret [CV.row 1 (gr v3 0),cb true])) (some (.br 1 [])))) fun v2=>some (.nx [ci (wr ((gi v1 0)+1))])) (some (.br 0 []))) [ci 0]) fun v1=>some (.ret ([CV.row 1 [],cb false]))))
theorem xU (its:ITS) (n:Nat) (a0_0 a0_1 a1 a2:List (List CV)) (a3:Int):D its (n+1) cX [(.row 1 a0_0),(.row 4 a0_1),(.row 1 a1),(.row 1 a2),(ci a3)]=bC (pJ (D its n) a0_0 a0_1 a1 a2 a3):=by kernel_rfl
def xV (M:Den) (a0_0 a0_1 a1:List (List CV)) (a2:Int):Option Ou :=  bO 0 (aJ (fun v0=>aB (decide ((gi v0 0)<(il a1))) (chk (bJ (List.length (gr v0 1)) 1 8)<|some (.nx ([ci (wr ((gi v0 0)+1)),CV.row 1 ((gr v0 1)++(aN 1 1 [ci (gi v0 0)]))]))) (some (.br 0 [CV.row 1 (gr v0 1)]))) ([ci 0,CV.row 1 []])) fun v0=>bO 2 (aJ (fun v1=>aB (decide ((gi v1 1)≥0)) (aE (M fX [CV.row 1 (gr v1 0),ci (gi v1 1)]) fun v2=>aE (M iQ [CV.row 1 a1,CV.row 1 (gr v2 0)]) fun v3=>aE (M gP [CV.row 1 a0_0,CV.row 4 a0_1,CV.row 1 (gr v3 0),ci a2]) fun v4=>bN (aB (gb v4 0) (some (.nx [CV.row 1 (gr v2 0)])) (some (.nx [CV.row 1 (gr v1 0)]))) fun v5=>some (.nx [CV.row 1 (gr v5 0),ci (wr ((gi v1 1) - 1))])) (some (.br 2 [CV.row 1 (gr v1 0)]))) [CV.row 1 (gr v0 0),ci (wr ((il a1) - 1))]) fun v1=>some (.ret [CV.row 1 (gr v1 0)])
theorem LU (its:ITS) (n:Nat) (a0_0 a0_1 a1:List (List CV)) (a2:Int):D its (n+1) lT [(.row 1 a0_0),(.row 4 a0_1),(.row 1 a1),(ci a2)]=bC (xV (D its n) a0_0 a0_1 a1 a2):=by kernel_rfl
def mQ (M:Den) (a0_0 a0_1 a1:List (List CV)):Option Ou :=  aE (M jM [CV.row 1 a0_0,CV.row 4 a0_1]) fun v0=>aB ((gi v0 0) != 0) (some (.ret [ci (gi v0 0)])) (aB (decide ((il a1) > 8)) (some (.ret [ci 51])) (bO 0 (aJ (fun v1=>aB (decide ((gi v1 0)<(il a1))) (chk (inb (gi v1 0) a1)<|chk (oks [li] (el a1 (gi v1 0)) 0)<|aE (M iO [CV.row 1 a0_0,CV.row 4 a0_1,ci (gi (el a1 (gi v1 0)) 0)]) fun v2=>aB (!(gb v2 4)) (some (.ret [ci 51])) (some (.nx [ci (wr ((gi v1 0)+1))]))) (some (.br 0 []))) [ci 0]) fun v1=>some (.ret [ci 0])))
theorem wJ (its:ITS) (n:Nat) (a0_0 a0_1 a1:List (List CV)):D its (n+1) dT [(.row 1 a0_0),(.row 4 a0_1),(.row 1 a1)]=bC (mQ (D its n) a0_0 a0_1 a1):=by kernel_rfl
def tY (M:Den) (a0_0 a0_1 a1:List (List CV)):Option Ou :=  aE (M dT [CV.row 1 a0_0,CV.row 4 a0_1,CV.row 1 a1]) fun v0=>aB ((gi v0 0) != 0) (some (.ret ([CV.row 1 [],ci (gi v0 0)]))) (bO 0 (aJ (fun v1=>aB (decide ((gi v1 0)≤(il a0_0))) (aE (M cX [CV.row 1 a0_0,CV.row 4 a0_1,CV.row 1 a1,CV.val (Value.slice none 0 0),ci (gi v1 0)]) fun v2=>aB (gb v2 1) (some (.ret [CV.row 1 (gr v2 0),ci 0])) (some (.nx [ci (wr ((gi v1 0)+1))]))) (some (.br 0 []))) [ci 0]) fun v1=>some (.ret ([CV.row 1 [],ci 53])))
theorem HR (its:ITS) (n:Nat) (a0_0 a0_1 a1:List (List CV)):D its (n+1) jX [(.row 1 a0_0),(.row 4 a0_1),(.row 1 a1)]=bC (tY (D its n) a0_0 a0_1 a1):=by kernel_rfl
def tZ (M:Den) (a0_0 a0_1 a1 a2:List (List CV)):Option Ou :=  aE (M jF [CV.row 1 a0_0,CV.row 4 a0_1,CV.row 1 a1]) fun v0=>aB ((gi v0 1) != 0) (some (.ret [CV.val (Value.pointer none),CV.val (Value.pointer none),ci (gi v0 1)])) (chk (dS (List.getD v0 0 dC))<|aE (M fN [CV.ref (cF (List.getD v0 0 dC)),CV.row 1 a1,CV.row 1 a2]) fun v1=>aB (!(gb v1 1)) (some (.ret [CV.val (Value.pointer none),CV.val (Value.pointer none),ci 52])) (chk (dS (List.getD v1 0 dC))<|some (.ret [CV.ref (cF (List.getD v0 0 dC)),CV.ref (cF (List.getD v1 0 dC)),ci 0])))
theorem HS (its:ITS) (n:Nat) (a0_0 a0_1 a1 a2:List (List CV)):D its (n+1) jY [(.row 1 a0_0),(.row 4 a0_1),(.row 1 a1),(.row 1 a2)]=bC (tZ (D its n) a0_0 a0_1 a1 a2):=by kernel_rfl
def gR (M:Den) (a0:List (List CV)) (a1:CV):Option Ou :=  bO 0 (aJ (fun v0=>aB (decide ((gi v0 0)<(il a0))) (chk (inb (gi v0 0) a0)<|chk (oks [li,li,li] (el a0 (gi v0 0)) 0)<|aE (mE sg M a1 [ci (gi (el a0 (gi v0 0)) 0),ci (gi (el a0 (gi v0 0)) 1),ci (gi (el a0 (gi v0 0)) 2)] [.agg [li,li,li]] [.one lb]) fun v1=>aB (gb v1 0) (some (.ret [ci (gi v0 0)])) (some (.nx [ci (wr ((gi v0 0)+1))]))) (some (.br 0 []))) [ci 0]) fun v0=>some (.ret [ci (-1)])
theorem mS (its:ITS) (n:Nat) (a0:List (List CV)) (a1:CV):D its (n+1) dW [(.row 3 a0),a1]=bC (gR (D its n) a0 a1):=by kernel_rfl
def xW (M:Den) (a0_0 a0_1 a1:List (List CV)):Option Ou :=  aE (M fY [CV.row 1 a0_0,CV.row 4 a0_1]) fun v0=>aB ((gi v0 0) != 0) (some (.ret [CV.val (Value.pointer none),ci (gi v0 0)])) (aE (M hZ [CV.row 1 a0_0,CV.row 4 a0_1]) fun v1=>aE (M dV [CV.ref (cF (List.getD v1 0 dC)),CV.row 1 a1]) fun v2=>aB (!(gb v2 0)) (some (.ret [CV.val (Value.pointer none),ci 51])) (some (.ret [CV.ref (cF (List.getD v1 0 dC)),ci 0])))
theorem LV (its:ITS) (n:Nat) (a0_0 a0_1 a1:List (List CV)):D its (n+1) jF [(.row 1 a0_0),(.row 4 a0_1),(.row 1 a1)]=bC (xW (D its n) a0_0 a0_1 a1):=by kernel_rfl
def xX (M:Den) (a0_0 a0_1 a1:List (List CV)):Option Ou :=  aE (M jF [CV.row 1 a0_0,CV.row 4 a0_1,CV.row 1 a1]) fun v0=>aB ((gi v0 1) != 0) (some (.ret ([CV.row 1 [],ci (gi v0 1)]))) (chk (dS (List.getD v0 0 dC))<|aE (M eI [CV.ref (cF (List.getD v0 0 dC)),CV.row 1 a1,ci 0]) fun v1=>aB (!(gb v1 1)) (some (.ret ([CV.row 1 [],ci 53]))) (some (.ret [CV.row 1 (gr v1 0),ci 0])))
theorem LW (its:ITS) (n:Nat) (a0_0 a0_1 a1:List (List CV)):D its (n+1) pG [(.row 1 a0_0),(.row 4 a0_1),(.row 1 a1)]=bC (xX (D its n) a0_0 a0_1 a1):=by kernel_rfl
def lB (M:Den) (a0:List CV) (a1:Int):Option Ou :=  aE (M dU [ci a1,ci 1,ci 9]) fun v0=>aB (gb v0 0) (chk ((decide (0≤a1))&&(decide (a1<(Int.ofNat 10))))<|chk (oks [li] (List.drop 0 (List.drop ((Int.toNat a1)*4) (List.drop 2 a0))) 0)<|some (.ret [cb ((gi (List.drop 0 (List.drop ((Int.toNat a1)*4) (List.drop 2 a0))) 0) == a1)])) (some (.ret [cb false]))
theorem sL (its:ITS) (n:Nat) (a0:List CV) (a1:Int):D its (n+1) dF [(.ref a0),(ci a1)]=bC (lB (D its n) a0 a1):=by kernel_rfl
def lC (M:Den) (a0_0 a0_1 a1:List (List CV)) (a2_0:Int) (a2_1:List (List CV)):Option Ou :=  aE (M dT [CV.row 1 a0_0,CV.row 4 a0_1,CV.row 1 a1]) fun v0=>aB ((gi v0 0) != 0) (some (.ret [ci (gi v0 0)])) (aE (M kY [CV.row 1 a0_0,CV.row 4 a0_1,CV.row 1 a1,ci a2_0,CV.row 1 a2_1]) fun v1=>aB (!(gb v1 0)) (some (.ret [ci 54])) (some (.ret [ci 0])))
theorem sM (its:ITS) (n:Nat) (a0_0 a0_1 a1:List (List CV)) (a2_0:Int) (a2_1:List (List CV)):D its (n+1) gF [(.row 1 a0_0),(.row 4 a0_1),(.row 1 a1),(ci a2_0),(.row 1 a2_1)]=bC (lC (D its n) a0_0 a0_1 a1 a2_0 a2_1):=by kernel_rfl
def HU (M:Den)  : Option Ou :=  some (.ret ([CV.row 1 (aN 1 3 [ci 10,ci 6,ci 4]),CV.row 4 (aN 4 4 [ci 1,ci 5,ci 8,ci 0,ci 2,ci 4,ci 6,ci 2,ci 3,ci 1,ci 1,ci 0,ci 4,ci 2,ci 3,ci 16])]))
theorem HV (its:ITS) (n:Nat)  : D its (n+1) nJ []=bC (HU (D its n) ):=by kernel_rfl
def LX (M:Den) (a0 a1 a2:Int):Option Ou :=  aB (decide (a0≥a1)) (some (.ret [cb (decide (a0≤a2))])) (some (.ret [cb false]))
theorem ZQ (its:ITS) (n:Nat) (a0 a1 a2:Int):D its (n+1) dU [(ci a0),(ci a1),(ci a2)]=bC (LX (D its n) a0 a1 a2):=by kernel_rfl
def lD (M:Den) (a0:Int):Option Ou :=  aE (M dU [ci a0,ci 0,ci 1000]) fun v0=>some (.ret [cb (!(gb v0 0))])
theorem sN (its:ITS) (n:Nat) (a0:Int):D its (n+1) cH [(ci a0)]=bC (lD (D its n) a0):=by kernel_rfl
end
end Go.Proofs.Ythkfohoccnnphaa
namespace Go.Proofs.Ythkfohoccnnphaa
open Go Go.Sx
set_option maxRecDepth 100000
set_option maxHeartbeats 0
noncomputable section
def uA (M:Den)  : Option Ou :=  aE (M nJ []) fun v0=>aE (M pG ([CV.row 1 (gr v0 0),CV.row 4 (gr v0 1),CV.row 1 (aN 1 3 [ci 1,ci 1,ci 2])])) fun v1=>aE (M pF ([CV.row 1 (gr v0 0),CV.row 4 (gr v0 1),CV.row 1 (aN 1 3 [ci 1,ci 1,ci 2])])) fun v2=>aE (M sH ([CV.row 1 (gr v0 0),CV.row 4 (gr v0 1),CV.row 1 (aN 1 3 [ci 1,ci 1,ci 2]),CV.row 1 (gr v1 0)])) fun v3=>aE (M wG ([CV.row 1 (gr v0 0),CV.row 4 (gr v0 1),CV.row 1 (aN 1 3 [ci 1,ci 1,ci 2]),CV.row 1 (gr v1 0),ci 3])) fun v4=>aE (M eF ([CV.row 1 (gr v0 0),CV.row 4 (gr v0 1),CV.row 1 (aN 1 4 [ci 1,ci 1,ci 1,ci 1])])) fun v5=>aE (M eF ([CV.row 1 (gr v0 0),CV.row 4 (gr v0 1),CV.row 1 (aN 1 4 [ci 4,ci 4,ci 4,ci 4])])) fun v6=>aE (M eF ([CV.row 1 (gr v0 0),CV.row 4 (gr v0 1),CV.row 1 (aN 1 5 [ci 1,ci 1,ci 1,ci 2,ci 2])])) fun v7=>aE (M hU ([CV.row 1 (gr v0 0),CV.row 4 (gr v0 1),CV.row 1 (aN 1 3 [ci 1,ci 4,ci 4])])) fun v8=>aE (M pD ([CV.row 1 (gr v0 0),CV.row 4 (gr v0 1),CV.row 3 (aN 3 2 [ci 1,ci 3,ci 6,ci 2,ci 4,ci (-1)]),ci 5])) fun v9=>aE (M pE ([CV.row 1 (gr v0 0),CV.row 4 (gr v0 1),CV.row 3 (aN 3 2 [ci 1,ci 3,ci 6,ci 2,ci 4,ci (-1)]),ci 41])) fun v10=>aE (M sF ([CV.row 1 (gr v0 0),CV.row 4 (gr v0 1),CV.row 3 ([[ci 1,ci 3,ci 6],[ci 2,ci 4,ci (-1)],[ci 1,ci 5,ci 9],[ci 1,ci 5,ci 9],[ci 4,ci 5,ci 6]])])) fun v11=>bN (aB ((gi v1 1) == 0) (aB ((gi v2 1) == 0) (aB ((gi v3 1) == 0) (aB ((gi v4 1) == 0) (aB ((gi v5 2) == 0) (aB ((gi v6 2) == 0) (aB ((gi v7 2) == 0) (aB ((gi v8 1) == 0) (aB ((gi v9 1) == 0) (aB ((gi v10 1) == 0) (some (.nx [cb ((gi v11 1) == 0)])) (some (.nx [cb false]))) (some (.nx [cb false]))) (some (.nx [cb false]))) (some (.nx [cb false]))) (some (.nx [cb false]))) (some (.nx [cb false]))) (some (.nx [cb false]))) (some (.nx [cb false]))) (some (.nx [cb false]))) (some (.nx [cb false]))) fun v12=>aB (gb v12 0) (aE (M dE ([CV.row 1 (gr v1 0),CV.row 1 (aN 1 3 [ci 0,ci 0,ci 1])])) fun v13=>aB (gb v13 0) (aB ((gi v2 0) == 4) (aE (M dE ([CV.row 1 (gr v3 0),CV.row 1 (aN 1 3 [ci 0,ci 2,ci 4])])) fun v14=>aB (gb v14 0) (aB ((gi v4 0) == 1) (aB ((gi v5 0) == 4) (aE (M dE ([CV.row 1 (gr v5 1),CV.row 1 (aN 1 4 [ci 0,ci 1,ci 2,ci 3])])) fun v15=>aB (gb v15 0) (aB ((gi v6 0) == 3) (aE (M dE ([CV.row 1 (gr v6 1),CV.row 1 (aN 1 4 [ci 0,ci 1,ci 2,ci 3])])) fun v16=>aB (gb v16 0) (aB ((gi v7 0) == 2) (aE (M dE ([CV.row 1 (gr v7 1),CV.row 1 (aN 1 5 [ci 0,ci 1,ci 2,ci 3,ci 4])])) fun v17=>aB (gb v17 0) (aE (M dE ([CV.row 1 (gr v8 0),CV.row 1 (aN 1 3 [ci 0,ci 0,ci 1])])) fun v18=>aB (gb v18 0) (aB ((gi v9 0) == 36) (aB ((gi v10 0) == 5) (some (.ret [cb ((gi v11 0) == 5)])) (some (.ret [cb false]))) (some (.ret [cb false]))) (some (.ret [cb false]))) (some (.ret [cb false]))) (some (.ret [cb false]))) (some (.ret [cb false]))) (some (.ret [cb false]))) (some (.ret [cb false]))) (some (.ret [cb false]))) (some (.ret [cb false]))) (some (.ret [cb false]))) (some (.ret [cb false]))) (some (.ret [cb false]))) (some (.ret [cb false]))
theorem HW (its:ITS) (n:Nat)  : D its (n+1) jV []=bC (uA (D its n) ):=by kernel_rfl
def uB (M:Den) (a0_0 a0_1 a1:List (List CV)):Option Ou :=  aE (M dT [CV.row 1 a0_0,CV.row 4 a0_1,CV.row 1 a1]) fun v0=>aB ((gi v0 0) != 0) (some (.ret ([ci 0,CV.row 1 [],ci (gi v0 0)]))) (bO 0 (aJ (fun v1=>aB (decide ((gi v1 0)<(il a1))) (chk (inb (gi v1 0) a1)<|chk (oks [li] (el a1 (gi v1 0)) 0)<|aE (M lS [CV.row 1 a0_0,CV.row 4 a0_1,ci (gi (el a1 (gi v1 0)) 0)]) fun v2=>aB (gb v2 0) (some (.ret ([ci 1,CV.row 1 (aN 1 1 [ci (gi v1 0)]),ci 0]))) (some (.nx [ci (wr ((gi v1 0)+1)),ci (gi v1 1),CV.row 1 (gr v1 2)]))) (some (.br 0 [ci (gi v1 1),CV.row 1 (gr v1 2)]))) [ci 0,ci 0,CV.val (Value.slice none 0 0)]) fun v1=>aE (M gP [CV.row 1 a0_0,CV.row 4 a0_1,CV.row 1 a1,ci 2]) fun v2=>aB (gb v2 0) (aE (M lT [CV.row 1 a0_0,CV.row 4 a0_1,CV.row 1 a1,ci 2]) fun v3=>some (.ret [ci 2,CV.row 1 (gr v3 0),ci 0])) (aE (M eJ [CV.row 1 a0_0,CV.row 4 a0_1,CV.row 1 a1,CV.val (Value.slice none 0 0),ci (wr ((il a0_0)+1))]) fun v3=>aB (decide ((il (gr v3 0)) > 0)) (some (.ret [ci 3,CV.row 1 (gr v3 0),ci 0])) (aE (M gP [CV.row 1 a0_0,CV.row 4 a0_1,CV.row 1 a1,ci 4]) fun v4=>aB (gb v4 0) (aE (M lT [CV.row 1 a0_0,CV.row 4 a0_1,CV.row 1 a1,ci 4]) fun v5=>some (.ret [ci 4,CV.row 1 (gr v5 0),ci 0])) (some (.ret ([ci 0,CV.row 1 [],ci 3]))))))
theorem HX (its:ITS) (n:Nat) (a0_0 a0_1 a1:List (List CV)):D its (n+1) jW [(.row 1 a0_0),(.row 4 a0_1),(.row 1 a1)]=bC (uB (D its n) a0_0 a0_1 a1):=by kernel_rfl
def sO (M:Den) (a0_0 a0_1 a1 a2:List (List CV)) (a3:Int):Option Ou :=  aB (a3 == 0) (some (.ret [CV.row 1 a2])) (bN (aB (decide ((il a2) > 0)) (chk (inb (wr ((il a2) - 1)) a2)<|chk (oks [li] (el a2 (wr ((il a2) - 1))) 0)<|some (.nx [ci (wr ((gi (el a2 (wr ((il a2) - 1))) 0)+1))])) (some (.nx [ci 0]))) fun v0=>bO 0 (aJ (fun v1=>aB (decide ((gi v1 0)<(il a1))) (bO 1 (chk (bJ 0 (List.length a2) 8)<|chk (bJ (List.length a2) 1 8)<|aE (M iQ ([CV.row 1 a1,CV.row 1 (a2++(aN 1 1 [ci (gi v1 0)]))])) fun v2=>aE (M lU [CV.row 1 a0_0,CV.row 4 a0_1,CV.row 1 (gr v2 0)]) fun v3=>aB (!(gb v3 0)) (some (.br 1 [])) (aE (M eJ ([CV.row 1 a0_0,CV.row 4 a0_1,CV.row 1 a1,CV.row 1 (a2++(aN 1 1 [ci (gi v1 0)])),ci (wr (a3 - 1))])) fun v4=>aB (decide ((il (gr v4 0)) > 0)) (some (.ret [CV.row 1 (gr v4 0)])) (some (.br 1 [])))) fun v2=>some (.nx [ci (wr ((gi v1 0)+1))])) (some (.br 0 []))) [ci (gi v0 0)]) fun v1=>some (.ret ([CV.row 1 []])))
theorem BQ (its:ITS) (n:Nat) (a0_0 a0_1 a1 a2:List (List CV)) (a3:Int):D its (n+1) eJ [(.row 1 a0_0),(.row 4 a0_1),(.row 1 a1),(.row 1 a2),(ci a3)]=bC (sO (D its n) a0_0 a0_1 a1 a2 a3):=by kernel_rfl
def lE (M:Den) (a0_0 a0_1 a1:List (List CV)) (a2_0:Int) (a2_1:List (List CV)):Option Ou :=  aE (M eF [CV.row 1 a0_0,CV.row 4 a0_1,CV.row 1 a1]) fun v0=>aE (M jW [CV.row 1 a0_0,CV.row 4 a0_1,CV.row 1 a1]) fun v1=>aE (M hU [CV.row 1 a0_0,CV.row 4 a0_1,CV.row 1 a1]) fun v2=>aE (M jX [CV.row 1 a0_0,CV.row 4 a0_1,CV.row 1 a1]) fun v3=>aB ((gi v0 0) == (gi v1 0)) (aE (M dE [CV.row 1 (gr v0 1),CV.row 1 (gr v1 1)]) fun v4=>aB (gb v4 0) (aB ((gi v0 2) == (gi v1 2)) (aE (M dE [CV.row 1 (gr v2 0),CV.row 1 (gr v3 0)]) fun v5=>aB (gb v5 0) (aB ((gi v2 1) == (gi v3 1)) (aE (M gE [CV.row 1 a0_0,CV.row 4 a0_1,CV.row 1 a1,ci a2_0,CV.row 1 a2_1]) fun v6=>aE (M gF [CV.row 1 a0_0,CV.row 4 a0_1,CV.row 1 a1,ci a2_0,CV.row 1 a2_1]) fun v7=>aB ((gi v6 0) == (gi v7 0)) (aE (M jV []) fun v8=>some (.ret [cb (gb v8 0)])) (some (.ret [cb false]))) (some (.ret [cb false]))) (some (.ret [cb false]))) (some (.ret [cb false]))) (some (.ret [cb false]))) (some (.ret [cb false]))
theorem sP (its:ITS) (n:Nat) (a0_0 a0_1 a1:List (List CV)) (a2_0:Int) (a2_1:List (List CV)):D its (n+1) kX [(.row 1 a0_0),(.row 4 a0_1),(.row 1 a1),(ci a2_0),(.row 1 a2_1)]=bC (lE (D its n) a0_0 a0_1 a1 a2_0 a2_1):=by kernel_rfl
def BR (M:Den) (a0:List (List CV)):Option Ou :=  bO 0 (aJ (fun v0=>aB (decide ((gi v0 1)<(il a0))) (bO 2 (aJ (fun v1=>aB (decide ((gi v1 1)<(gi v0 1))) (bN (aB (gb v1 0) (chk (inb (gi v1 1) a0)<|chk (oks [li] (el a0 (gi v1 1)) 0)<|chk (inb (gi v0 1) a0)<|chk (oks [li] (el a0 (gi v0 1)) 0)<|some (.nx [cb ((gi (el a0 (gi v1 1)) 0) != (gi (el a0 (gi v0 1)) 0))])) (some (.nx [cb false]))) fun v2=>some (.nx [cb (gb v2 0),ci (wr ((gi v1 1)+1))])) (some (.br 2 [cb (gb v1 0)]))) [cb true,ci 0]) fun v1=>bN (aB (gb v1 0) (some (.nx [ci (wr ((gi v0 0)+1))])) (some (.nx [ci (gi v0 0)]))) fun v2=>some (.nx [ci (gi v2 0),ci (wr ((gi v0 1)+1))])) (some (.br 0 [ci (gi v0 0)]))) [ci 0,ci 0]) fun v0=>some (.ret [ci (gi v0 0)])
theorem PY (its:ITS) (n:Nat) (a0:List (List CV)):D its (n+1) sG [(.row 1 a0)]=bC (BR (D its n) a0):=by kernel_rfl
def xY (M:Den) (a0:List (List CV)) (a1:Int):Option Ou :=  bO 0 (aJ (fun v0=>aB (decide ((gi v0 0)<(il a0))) (chk (inb (gi v0 0) a0)<|chk (oks [li,li,li] (el a0 (gi v0 0)) 0)<|bN (aB (decide ((gi (el a0 (gi v0 0)) 1)≤a1)) (aB ((gi (el a0 (gi v0 0)) 2) == (-1)) (some (.nx [cb true])) (some (.nx [cb (decide (a1<(gi (el a0 (gi v0 0)) 2)))]))) (some (.nx [cb false]))) fun v1=>bN (aB (gb v1 0) (chk (bJ (List.length (gr v0 1)) 1 8)<|some (.nx ([CV.row 1 ((gr v0 1)++(aN 1 1 [ci (gi v0 0)]))]))) (some (.nx [CV.row 1 (gr v0 1)]))) fun v2=>some (.nx [ci (wr ((gi v0 0)+1)),CV.row 1 (gr v2 0)])) (some (.br 0 [CV.row 1 (gr v0 1)]))) ([ci 0,CV.row 1 []])) fun v0=>some (.ret [CV.row 1 (gr v0 0)])
theorem LY (its:ITS) (n:Nat) (a0:List (List CV)) (a1:Int):D its (n+1) xO [(.row 3 a0),(ci a1)]=bC (xY (D its n) a0 a1):=by kernel_rfl
def rB (M:Den) (a0_0 a0_1 a1:List (List CV)):Option Ou :=  aE (M fY [CV.row 1 a0_0,CV.row 4 a0_1]) fun v0=>aB ((gi v0 0) != 0) (some (.ret [CV.val (Value.pointer none),ci (gi v0 0)])) (aE (M hZ [CV.row 1 a0_0,CV.row 4 a0_1]) fun v1=>bN (aB (decide ((il a1) > 40)) (some (.nx [cb true])) (aE (M dG ([CV.row 3 a1,CV.fn dA ([CV.ref [CV.ref (cF (List.getD v1 0 dC))]])])) fun v2=>some (.nx [cb (gb v2 0)]))) fun v2=>aB (gb v2 0) (some (.ret [CV.val (Value.pointer none),ci 55])) (some (.ret [CV.ref (cF (List.getD v1 0 dC)),ci 0])))
theorem DL (its:ITS) (n:Nat) (a0_0 a0_1 a1:List (List CV)):D its (n+1) iX [(.row 1 a0_0),(.row 4 a0_1),(.row 3 a1)]=bC (rB (D its n) a0_0 a0_1 a1):=by kernel_rfl
def BS (M:Den) (a0 a1:List (List CV)):Option Ou :=  aB ((il a0) != (il a1)) (some (.ret [cb false])) (bO 0 (aJ (fun v0=>aB (decide ((gi v0 0)<(il a0))) (chk (inb (gi v0 0) a0)<|chk (oks [li] (el a0 (gi v0 0)) 0)<|chk (inb (gi v0 0) a1)<|chk (oks [li] (el a1 (gi v0 0)) 0)<|aB ((gi (el a0 (gi v0 0)) 0) != (gi (el a1 (gi v0 0)) 0)) (some (.ret [cb false])) (some (.nx [ci (wr ((gi v0 0)+1))]))) (some (.br 0 []))) [ci 0]) fun v0=>some (.ret [cb true]))
theorem PZ (its:ITS) (n:Nat) (a0 a1:List (List CV)):D its (n+1) dE [(.row 1 a0),(.row 1 a1)]=bC (BS (D its n) a0 a1):=by kernel_rfl
def xZ (M:Den) (a0_0 a0_1 a1:List (List CV)):Option Ou :=  aE (M jF [CV.row 1 a0_0,CV.row 4 a0_1,CV.row 1 a1]) fun v0=>aB ((gi v0 1) != 0) (some (.ret [ci 0,ci (gi v0 1)])) (chk (dS (List.getD v0 0 dC))<|aE (M eG [CV.ref (cF (List.getD v0 0 dC)),CV.row 1 a1]) fun v1=>bN (brO (eU (vR sg M (List.getD v1 0 dC) (.lent 3 1)) (fun x2 v2=>aB ((wr ((gi v2 0)+1)) == 1000) (some (.br 0 [ci (wr ((gi v2 0)+1))])) (some (.nx [ci (wr ((gi v2 0)+1))]))) [ci 0])) fun v2=>some (.ret [ci (gi v2 0),ci 0]))
theorem LZ (its:ITS) (n:Nat) (a0_0 a0_1 a1:List (List CV)):D its (n+1) pF [(.row 1 a0_0),(.row 4 a0_1),(.row 1 a1)]=bC (xZ (D its n) a0_0 a0_1 a1):=by kernel_rfl
def iA (M:Den) (a0:List (List CV)) (a1:CV):Option Ou :=  bO 0 (aJ (fun v0=>aB (decide ((gi v0 0)<(il a0))) (chk (inb (gi v0 0) a0)<|chk (oks [li] (el a0 (gi v0 0)) 0)<|aE (mE sg M a1 [ci (gi (el a0 (gi v0 0)) 0)] [.one li] [.one lb]) fun v1=>aB (gb v1 0) (some (.ret [ci (gi v0 0)])) (some (.nx [ci (wr ((gi v0 0)+1))]))) (some (.br 0 []))) [ci 0]) fun v0=>some (.ret [ci (-1)])
theorem nM (its:ITS) (n:Nat) (a0:List (List CV)) (a1:CV):D its (n+1) eK [(.row 1 a0),a1]=bC (iA (D its n) a0 a1):=by kernel_rfl
def yA (M:Den) (a0_0 a0_1 a1:List (List CV)):Option Ou :=  bO 0 (aJ (fun v0=>aB (decide ((gi v0 1)<(il a1))) (chk (inb (gi v0 1) a1)<|chk (oks [li] (el a1 (gi v0 1)) 0)<|aE (M iP [CV.row 1 a0_0,CV.row 4 a0_1,ci (gi (el a1 (gi v0 1)) 0)]) fun v1=>some (.nx [ci (wr ((gi v0 0)+(gi v1 0))),ci (wr ((gi v0 1)+1))])) (some (.br 0 [ci (gi v0 0)]))) [ci 0,ci 0]) fun v0=>some (.ret [ci (gi v0 0)])
theorem MB (its:ITS) (n:Nat) (a0_0 a0_1 a1:List (List CV)):D its (n+1) pH [(.row 1 a0_0),(.row 4 a0_1),(.row 1 a1)]=bC (yA (D its n) a0_0 a0_1 a1):=by kernel_rfl
def jJ (M:Den) (a0:List CV) (a1 a2:Int):Option Ou :=  chk ((decide (0≤a1))&&(decide (a1<(Int.ofNat 10))))<|chk (oks [li] (List.drop ((Int.toNat a1)*1) (List.drop 42 a0)) 0)<|chk (decide (0≤a2))<|some (.ret [cb ((wr (Int.ofNat (bAN (Int.fdiv (gi (List.drop ((Int.toNat a1)*1) (List.drop 42 a0)) 0) ((2:Int) ^ (min (Int.toNat a2) 64))) 1))) == 1)])
theorem pK (its:ITS) (n:Nat) (a0:List CV) (a1 a2:Int):D its (n+1) jG [(.ref a0),(ci a1),(ci a2)]=bC (jJ (D its n) a0 a1 a2):=by kernel_rfl
def fD (M:Den) (a0:Int) (a1:List CV):Option Ou :=  chk (oks [.raw] a1 0)<|chk (dS (List.getD a1 0 dC))<|aE (M dF [CV.ref (cF (List.getD a1 0 dC)),ci a0]) fun v0=>some (.ret [cb (!(gb v0 0))])
theorem lF (its:ITS) (n:Nat) (a0:Int) (a1:List CV):D its (n+1) aZ [(ci a0),(.ref a1)]=bC (fD (D its n) a0 a1):=by kernel_rfl
def uC (M:Den) (a0 a1 a2:Int):Option Ou :=  aB (decide (a1≤a0)) (some (.ret [cb (decide (a0≤a2))])) (some (.ret [cb false]))
theorem HY (its:ITS) (n:Nat) (a0 a1 a2:Int):D its (n+1) cU [(ci a0),(ci a1),(ci a2)]=bC (uC (D its n) a0 a1 a2):=by kernel_rfl
def fK (M:Den) (a0:List (List CV)) (a1:CV):Option Ou :=  aE (M eK [CV.row 1 a0,a1]) fun v0=>some (.ret [cb (decide ((gi v0 0)≥0))])
theorem lL (its:ITS) (n:Nat) (a0:List (List CV)) (a1:CV):D its (n+1) cC [(.row 1 a0),a1]=bC (fK (D its n) a0 a1):=by kernel_rfl
def MC (M:Den) (a0 a1:Int):Option Ou :=  some (.ret ([CV.fn BM ([CV.ref [ci a1],CV.ref [ci a0]])]))
theorem MD (its:ITS) (n:Nat) (a0 a1:Int):D its (n+1) xP [(ci a0),(ci a1)]=bC (MC (D its n) a0 a1):=by kernel_rfl
end
end Go.Proofs.Ythkfohoccnnphaa
namespace Go.Proofs.Ythkfohoccnnphaa
open Go Go.Sx
set_option maxRecDepth 100000
set_option maxHeartbeats 0
noncomputable section
def pL (M:Den) (a0_0 a0_1 a1:List (List CV)) (a2_0:Int) (a2_1:List (List CV)):Option Ou :=  aB ((il a2_1) == 0) (some (.ret [cb false])) (bO 0 (aJ (fun v0=>aB (decide ((gi v0 0)<(il a2_1))) (chk (inb (gi v0 0) a2_1)<|chk (oks [li] (el a2_1 (gi v0 0)) 0)<|bN (aE (M cU [ci (gi (el a2_1 (gi v0 0)) 0),ci 0,ci (wr ((il a1) - 1))]) fun v1=>aB (!(gb v1 0)) (some (.nx [cb true])) (aB (decide ((gi v0 0) > 0)) (chk (inb (wr ((gi v0 0) - 1)) a2_1)<|chk (oks [li] (el a2_1 (wr ((gi v0 0) - 1))) 0)<|some (.nx [cb (decide ((gi (el a2_1 (wr ((gi v0 0) - 1))) 0)≥(gi (el a2_1 (gi v0 0)) 0)))])) (some (.nx [cb false])))) fun v1=>aB (gb v1 0) (some (.ret [cb false])) (some (.nx [ci (wr ((gi v0 0)+1))]))) (some (.br 0 []))) [ci 0]) fun v0=>aE (M iQ [CV.row 1 a1,CV.row 1 a2_1]) fun v1=>aB (a2_0 == 1) (aB ((il (gr v1 0)) == 1) (chk (inb 0 (gr v1 0))<|chk (oks [li] (List.getD (gr v1 0) 0 []) 0)<|aE (M lS ([CV.row 1 a0_0,CV.row 4 a0_1,ci (gi (List.getD (gr v1 0) 0 []) 0)])) fun v2=>some (.ret [cb (gb v2 0)])) (some (.ret [cb false]))) (aB (a2_0 == 3) (aB ((il (gr v1 0)) == (wr ((il a0_0)+1))) (aE (M lU [CV.row 1 a0_0,CV.row 4 a0_1,CV.row 1 (gr v1 0)]) fun v2=>some (.ret [cb (gb v2 0)])) (some (.ret [cb false]))) (bN (aB (a2_0 == 2) (some (.nx [cb (a2_0 == 2)])) (some (.nx [cb (a2_0 == 4)]))) fun v2=>aB (gb v2 0) (aE (M gP [CV.row 1 a0_0,CV.row 4 a0_1,CV.row 1 (gr v1 0),ci a2_0]) fun v3=>aB (!(gb v3 0)) (some (.ret [cb false])) (bO 3 (aJ (fun v4=>aB (decide ((gi v4 0)<(il (gr v1 0)))) (aE (M fX [CV.row 1 (gr v1 0),ci (gi v4 0)]) fun v5=>aE (M gP [CV.row 1 a0_0,CV.row 4 a0_1,CV.row 1 (gr v5 0),ci a2_0]) fun v6=>aB (gb v6 0) (some (.ret [cb false])) (some (.nx [ci (wr ((gi v4 0)+1))]))) (some (.br 3 []))) [ci 0]) fun v4=>some (.ret [cb true]))) (some (.ret [cb false])))))
theorem BT (its:ITS) (n:Nat) (a0_0 a0_1 a1:List (List CV)) (a2_0:Int) (a2_1:List (List CV)):D its (n+1) kY [(.row 1 a0_0),(.row 4 a0_1),(.row 1 a1),(ci a2_0),(.row 1 a2_1)]=bC (pL (D its n) a0_0 a0_1 a1 a2_0 a2_1):=by kernel_rfl
def oE (M:Den) (a0_0 a0_1:List (List CV)):Option Ou :=  aB (decide ((il a0_0) > 5)) (some (.ret [ci 50])) (bO 0 (aJ (fun v0=>aB (decide ((gi v0 0)<(il a0_0))) (chk (inb (gi v0 0) a0_0)<|chk (oks [li] (el a0_0 (gi v0 0)) 0)<|aE (M cU [ci (gi (el a0_0 (gi v0 0)) 0),ci 0,ci 1000]) fun v1=>aB (!(gb v1 0)) (some (.ret [ci 50])) (some (.nx [ci (wr ((gi v0 0)+1))]))) (some (.br 0 []))) [ci 0]) fun v0=>bO 2 (aJ (fun v1=>aB (decide ((gi v1 0)<(il a0_1))) (chk (inb (gi v1 0) a0_1)<|chk (oks (List.replicate 4 li) (el a0_1 (gi v1 0)) 0)<|bN (aE (M cU [ci (gi (el a0_1 (gi v1 0)) 0),ci 1,ci 9]) fun v2=>aB (!(gb v2 0)) (some (.nx [cb true])) (aE (M cU [ci (gi (el a0_1 (gi v1 0)) 1),ci 1,ci 1000]) fun v3=>aB (!(gb v3 0)) (some (.nx [cb true])) (aE (M cU [ci (gi (el a0_1 (gi v1 0)) 2),ci 0,ci 1000]) fun v4=>aB (!(gb v4 0)) (some (.nx [cb true])) (aE (M cU [ci (gi (el a0_1 (gi v1 0)) 3),ci 0,ci 1023]) fun v5=>aB (!(gb v5 0)) (some (.nx [cb true])) (aB ((Int.tmod (gi (el a0_1 (gi v1 0)) 3) 2) != 0) (some (.nx [cb true])) (aB (decide ((gi v1 0) > 0)) (chk (inb (wr ((gi v1 0) - 1)) a0_1)<|chk (oks [li] (List.drop 0 (el a0_1 (wr ((gi v1 0) - 1)))) 0)<|some (.nx [cb (decide ((gi (List.drop 0 (el a0_1 (wr ((gi v1 0) - 1)))) 0)≥(gi (el a0_1 (gi v1 0)) 0)))])) (some (.nx [cb false])))))))) fun v2=>aB (gb v2 0) (some (.ret [ci 50])) (some (.nx [ci (wr ((gi v1 0)+1))]))) (some (.br 2 []))) [ci 0]) fun v1=>some (.ret [ci 0]))
theorem yS (its:ITS) (n:Nat) (a0_0 a0_1:List (List CV)):D its (n+1) jM [(.row 1 a0_0),(.row 4 a0_1)]=bC (oE (D its n) a0_0 a0_1):=by kernel_rfl
def BU (M:Den) (a0_0 a0_1 a1 a2:List (List CV)) (a3 a4:Int):Option Ou :=  chk (inb a3 a1)<|chk (oks [li] (el a1 a3) 0)<|aE (M iP [CV.row 1 a0_0,CV.row 4 a0_1,ci (gi (el a1 a3) 0)]) fun v0=>bO 0 (aJ (fun v1=>aB (decide ((gi v1 1)<(il a2))) (bO 1 (bN (chk (inb (gi v1 1) a2)<|chk (oks [li] (el a2 (gi v1 1)) 0)<|aB ((gi (el a2 (gi v1 1)) 0) != a4) (some (.nx [cb true])) (some (.nx [cb ((gi v1 1) == a3)]))) fun v2=>aB (gb v2 0) (some (.br 1 [ci (gi v1 0)])) (chk (inb (gi v1 1) a1)<|chk (oks [li] (el a1 (gi v1 1)) 0)<|chk (inb a3 a1)<|chk (oks [li] (el a1 a3) 0)<|aE (M jH [CV.row 1 a0_0,CV.row 4 a0_1,ci (gi (el a1 (gi v1 1)) 0),ci (gi (el a1 a3) 0)]) fun v3=>aB (gb v3 0) (some (.ret [cb false])) (chk (inb (gi v1 1) a1)<|chk (oks [li] (el a1 (gi v1 1)) 0)<|aE (M iP [CV.row 1 a0_0,CV.row 4 a0_1,ci (gi (el a1 (gi v1 1)) 0)]) fun v4=>some (.br 1 [ci (wr ((gi v1 0)+(gi v4 0)))])))) fun v2=>some (.nx [ci (gi v2 0),ci (wr ((gi v1 1)+1))])) (some (.br 0 [ci (gi v1 0)]))) [ci (gi v0 0),ci 0]) fun v1=>chk (inb a4 a0_0)<|chk (oks [li] (el a0_0 a4) 0)<|some (.ret [cb (decide ((gi v1 0)≤(gi (el a0_0 a4) 0)))])
theorem QA (its:ITS) (n:Nat) (a0_0 a0_1 a1 a2:List (List CV)) (a3 a4:Int):D its (n+1) kZ [(.row 1 a0_0),(.row 4 a0_1),(.row 1 a1),(.row 1 a2),(ci a3),(ci a4)]=bC (BU (D its n) a0_0 a0_1 a1 a2 a3 a4):=by kernel_rfl
def nN (M:Den) (a0_0 a0_1 a1 a2:List (List CV)) (a3:Int):Option Ou :=  aB ((il a2) == (il a1)) (chk (bJ 0 (List.length a2) 8)<|some (.ret ([CV.row 1 (aN 1 1 [CV.row 1 a2])]))) (bO 0 (aJ (fun v0=>aB (decide ((gi v0 0)<(il a0_0))) (bO 1 (aE (M kZ [CV.row 1 a0_0,CV.row 4 a0_1,CV.row 1 a1,CV.row 1 a2,ci (il a2),ci (gi v0 0)]) fun v1=>aB (!(gb v1 0)) (some (.br 1 [CV.row 1 (gr v0 1)])) (chk (bJ 0 (List.length a2) 8)<|chk (bJ (List.length a2) 1 8)<|aE (M cV ([CV.row 1 a0_0,CV.row 4 a0_1,CV.row 1 a1,CV.row 1 (a2++(aN 1 1 [ci (gi v0 0)])),ci (wr (a3 - (il (gr v0 1))))])) fun v2=>chk (bJ (List.length (gr v0 1)) (List.length (gr v2 0)) 24)<|aB (decide ((il ((gr v0 1)++(gr v2 0)))≥a3)) (some (.ret [CV.row 1 ((gr v0 1)++(gr v2 0))])) (some (.br 1 [CV.row 1 ((gr v0 1)++(gr v2 0))])))) fun v1=>some (.nx [ci (wr ((gi v0 0)+1)),CV.row 1 (gr v1 0)])) (some (.br 0 [CV.row 1 (gr v0 1)]))) ([ci 0,CV.row 1 []])) fun v0=>some (.ret [CV.row 1 (gr v0 0)]))
theorem uD (its:ITS) (n:Nat) (a0_0 a0_1 a1 a2:List (List CV)) (a3:Int):D its (n+1) cV [(.row 1 a0_0),(.row 4 a0_1),(.row 1 a1),(.row 1 a2),(ci a3)]=bC (nN (D its n) a0_0 a0_1 a1 a2 a3):=by kernel_rfl
def FD (M:Den) (a0_0 a0_1 a1 a2:List (List CV)) (a3:Int):Option Ou :=  aE (M jY [CV.row 1 a0_0,CV.row 4 a0_1,CV.row 1 a1,CV.row 1 a2]) fun v0=>aB ((gi v0 2) != 0) (some (.ret [ci 0,ci (gi v0 2)])) (chk (dS (List.getD v0 0 dC))<|aE (M dF [CV.ref (cF (List.getD v0 0 dC)),ci a3]) fun v1=>aB (!(gb v1 0)) (some (.ret [ci 0,ci 51])) (aB ((il a1) == 8) (some (.ret [ci 0,ci 2])) (chk (oks [.row 1] (List.drop 0 (List.drop 0 (cF (List.getD v0 0 dC)))) 0)<|bO 1 (aJ (fun v2=>aB (decide ((gi v2 0)<(il (gr (List.drop 0 (List.drop 0 (cF (List.getD v0 0 dC)))) 0)))) (chk (dS (List.getD v0 1 dC))<|aE (M fC [CV.ref (cF (List.getD v0 0 dC)),CV.ref (cF (List.getD v0 1 dC)),ci (gi v2 0),ci a3]) fun v3=>aB (gb v3 0) (some (.ret [ci (gi v2 0),ci 0])) (some (.nx [ci (wr ((gi v2 0)+1))]))) (some (.br 1 []))) [ci 0]) fun v2=>some (.ret [ci 0,ci 53]))))
theorem VO (its:ITS) (n:Nat) (a0_0 a0_1 a1 a2:List (List CV)) (a3:Int):D its (n+1) wG [(.row 1 a0_0),(.row 4 a0_1),(.row 1 a1),(.row 1 a2),(ci a3)]=bC (FD (D its n) a0_0 a0_1 a1 a2 a3):=by kernel_rfl
def jK (M:Den) (a0 a1:List CV) (a2 a3:Int):Option Ou :=  chk ((decide (0≤a3))&&(decide (a3<(Int.ofNat 10))))<|chk (oks [li] (List.drop 1 (List.drop ((Int.toNat a3)*4) (List.drop 2 a0))) 0)<|chk (oks [.row 1] (List.drop 0 a1) 0)<|chk (inb a2 (gr (List.drop 0 a1) 0))<|chk (oks [li] (el (gr (List.drop 0 a1) 0) a2) 0)<|aB (decide ((gi (List.drop 1 (List.drop ((Int.toNat a3)*4) (List.drop 2 a0))) 0)≤(gi (el (gr (List.drop 0 a1) 0) a2) 0))) (chk ((decide (0≤a3))&&(decide (a3<(Int.ofNat 10))))<|chk (oks [li] (List.drop ((Int.toNat a3)*1) (List.drop 42 a0)) 0)<|chk (oks [.row 1] (List.drop 1 a1) 0)<|chk (inb a2 (gr (List.drop 1 a1) 0))<|chk (oks [li] (el (gr (List.drop 1 a1) 0) a2) 0)<|some (.ret [cb ((wr (Int.ofNat (bAN (gi (List.drop ((Int.toNat a3)*1) (List.drop 42 a0)) 0) (gi (el (gr (List.drop 1 a1) 0) a2) 0)))) == 0)])) (some (.ret [cb false]))
theorem pM (its:ITS) (n:Nat) (a0 a1:List CV) (a2 a3:Int):D its (n+1) fC [(.ref a0),(.ref a1),(ci a2),(ci a3)]=bC (jK (D its n) a0 a1 a2 a3):=by kernel_rfl
def jR (M:Den) (a0:List CV) (a1:List (List CV)):Option Ou :=  bO 0 (aJ (fun v0=>aB (decide ((gi v0 1)<(il a1))) (chk (inb (gi v0 1) a1)<|chk (oks [li] (el a1 (gi v0 1)) 0)<|chk ((decide (0≤(gi (el a1 (gi v0 1)) 0)))&&(decide ((gi (el a1 (gi v0 1)) 0)<(Int.ofNat 10))))<|chk (oks [li] (List.drop 1 (List.drop ((Int.toNat (gi (el a1 (gi v0 1)) 0))*4) (List.drop 2 a0))) 0)<|some (.nx [ci (wr ((gi v0 0)+(gi (List.drop 1 (List.drop ((Int.toNat (gi (el a1 (gi v0 1)) 0))*4) (List.drop 2 a0))) 0))),ci (wr ((gi v0 1)+1))])) (some (.br 0 [ci (gi v0 0)]))) [ci 0,ci 0]) fun v0=>some (.ret [ci (gi v0 0)])
theorem qN (its:ITS) (n:Nat) (a0:List CV) (a1:List (List CV)):D its (n+1) jP [(.ref a0),(.row 1 a1)]=bC (jR (D its n) a0 a1):=by kernel_rfl
def oF (M:Den) (a0_0:CV) (a0_1:List (List CV)) (a0_2:CV) (a1:List (List CV)):Option Ou :=  bO 0 (aJ (fun v0=>aB (decide ((gi v0 0)<(il a1))) (chk (inb (gi v0 0) a1)<|chk (oks [li] (el a1 (gi v0 0)) 0)<|chk (inb (gi (el a1 (gi v0 0)) 0) a0_1)<|chk (oks [li] (el a0_1 (gi (el a1 (gi v0 0)) 0)) 0)<|chk (bJ (List.length (gr v0 1)) 1 8)<|some (.nx ([ci (wr ((gi v0 0)+1)),CV.row 1 ((gr v0 1)++(aN 1 1 [ci (gi (el a0_1 (gi (el a1 (gi v0 0)) 0)) 0)]))]))) (some (.br 0 [CV.row 1 (gr v0 1)]))) ([ci 0,CV.row 1 []])) fun v0=>some (.ret [CV.row 1 (gr v0 0)])
theorem yU (its:ITS) (n:Nat) (a0_0:CV) (a0_1:List (List CV)) (a0_2:CV) (a1:List (List CV)):D its (n+1) oB [a0_0,(.row 1 a0_1),a0_2,(.row 1 a1)]=bC (oF (D its n) a0_0 a0_1 a0_2 a1):=by kernel_rfl
def rC (M:Den) (a0:List (List CV)) (a1:Int):Option Ou :=  chk (((decide (0≤0))&&(decide (0≤a1)))&&(decide (a1≤(il a0))))<|chk (bJ 0 (List.length (List.drop 0 (List.take (Int.toNat a1) a0))) 8)<|chk (((decide (0≤(wr (a1+1))))&&(decide ((wr (a1+1))≤(il a0))))&&(decide ((il a0)≤(il a0))))<|chk (bJ (List.length (List.drop 0 (List.take (Int.toNat a1) a0))) (List.length (List.drop (Int.toNat (wr (a1+1))) (List.take (Int.toNat (il a0)) a0))) 8)<|some (.ret [CV.row 1 ((List.drop 0 (List.take (Int.toNat a1) a0))++(List.drop (Int.toNat (wr (a1+1))) (List.take (Int.toNat (il a0)) a0)))])
theorem DM (its:ITS) (n:Nat) (a0:List (List CV)) (a1:Int):D its (n+1) fX [(.row 1 a0),(ci a1)]=bC (rC (D its n) a0 a1):=by kernel_rfl
def BV (M:Den) (a0_0 a0_1:List (List CV)) (a1:Int):Option Ou :=  bO 0 (aJ (fun v0=>aB (decide ((gi v0 0)<(il a0_1))) (chk (inb (gi v0 0) a0_1)<|chk (oks (List.replicate 4 li) (el a0_1 (gi v0 0)) 0)<|aB ((gi (el a0_1 (gi v0 0)) 0) == a1) (some (.ret (cat [cis (el a0_1 (gi v0 0)) 0 4,[cb true]]))) (some (.nx (cat [[ci (wr ((gi v0 0)+1))],cis v0 1 4])))) (some (.br 0 (cis v0 1 4)))) [ci 0,ci 0,ci 0,ci 0,ci 0]) fun v0=>some (.ret [ci 0,ci 0,ci 0,ci 0,cb false])
theorem QB (its:ITS) (n:Nat) (a0_0 a0_1:List (List CV)) (a1:Int):D its (n+1) iO [(.row 1 a0_0),(.row 4 a0_1),(ci a1)]=bC (BV (D its n) a0_0 a0_1 a1):=by kernel_rfl
def yB (M:Den) (a0_0 a0_1:List (List CV)) (a1 a2:Int):Option Ou :=  aE (M iO [CV.row 1 a0_0,CV.row 4 a0_1,ci a1]) fun v0=>aE (M iO [CV.row 1 a0_0,CV.row 4 a0_1,ci a2]) fun v1=>chk (decide (0≤a2))<|aB ((wr (Int.ofNat (bAN (Int.fdiv (gi v0 3) ((2:Int) ^ (min (Int.toNat a2) 64))) 1))) == 1) (some (.ret [cb true])) (chk (decide (0≤a1))<|some (.ret [cb ((wr (Int.ofNat (bAN (Int.fdiv (gi v1 3) ((2:Int) ^ (min (Int.toNat a1) 64))) 1))) == 1)]))
theorem ME (its:ITS) (n:Nat) (a0_0 a0_1:List (List CV)) (a1 a2:Int):D its (n+1) jH [(.row 1 a0_0),(.row 4 a0_1),(ci a1),(ci a2)]=bC (yB (D its n) a0_0 a0_1 a1 a2):=by kernel_rfl
def iH (M:Den) (a0:List CV) (a1_0 a1_1 a1_2:Int):Option Ou :=  aE (M dF [CV.ref a0,ci a1_0]) fun v0=>aB (gb v0 0) (aE (M dU [ci a1_1,ci 0,ci 100000]) fun v1=>aB (gb v1 0) (aB (a1_2 == (-1)) (some (.ret [cb true])) (aE (M dU [ci a1_2,ci a1_1,ci 100000]) fun v2=>some (.ret [cb (gb v2 0)]))) (some (.ret [cb false]))) (some (.ret [cb false]))
theorem oH (its:ITS) (n:Nat) (a0:List CV) (a1_0 a1_1 a1_2:Int):D its (n+1) eR [(.ref a0),(ci a1_0),(ci a1_1),(ci a1_2)]=bC (iH (D its n) a0 a1_0 a1_1 a1_2):=by kernel_rfl
def BW (M:Den) (a0_0 a0_1 a1 a2:List (List CV)):Option Ou :=  aE (M jY [CV.row 1 a0_0,CV.row 4 a0_1,CV.row 1 a1,CV.row 1 a2]) fun v0=>aB ((gi v0 2) != 0) (some (.ret ([CV.row 1 [],ci (gi v0 2)]))) (chk (dS (List.getD v0 1 dC))<|chk (oks [.row 1] (List.drop 0 (cF (List.getD v0 1 dC))) 0)<|some (.ret [CV.row 1 (gr (List.drop 0 (cF (List.getD v0 1 dC))) 0),ci 0]))
theorem QC (its:ITS) (n:Nat) (a0_0 a0_1 a1 a2:List (List CV)):D its (n+1) sH [(.row 1 a0_0),(.row 4 a0_1),(.row 1 a1),(.row 1 a2)]=bC (BW (D its n) a0_0 a0_1 a1 a2):=by kernel_rfl
def mT (M:Den) (a0_0 a0_1 a0_2:Int) (a1:List CV):Option Ou :=  chk (oks [.raw] a1 0)<|chk (dS (List.getD a1 0 dC))<|aE (M eR [CV.ref (cF (List.getD a1 0 dC)),ci a0_0,ci a0_1,ci a0_2]) fun v0=>some (.ret [cb (!(gb v0 0))])
theorem wK (its:ITS) (n:Nat) (a0_0 a0_1 a0_2:Int) (a1:List CV):D its (n+1) dA [(ci a0_0),(ci a0_1),(ci a0_2),(.ref a1)]=bC (mT (D its n) a0_0 a0_1 a0_2 a1):=by kernel_rfl
def FF (M:Den) (a0_0 a0_1 a1:List (List CV)):Option Ou :=  aE (M cV [CV.row 1 a0_0,CV.row 4 a0_1,CV.row 1 a1,CV.val (Value.slice none 0 0),ci 1]) fun v0=>some (.ret [cb (decide ((il (gr v0 0)) > 0))])
theorem VP (its:ITS) (n:Nat) (a0_0 a0_1 a1:List (List CV)):D its (n+1) wH [(.row 1 a0_0),(.row 4 a0_1),(.row 1 a1)]=bC (FF (D its n) a0_0 a0_1 a1):=by kernel_rfl
def fE (M:Den) (a0:List (List CV)) (a1:CV):Option Ou :=  aE (M dW [CV.row 3 a0,a1]) fun v0=>some (.ret [cb (decide ((gi v0 0)≥0))])
theorem lG (its:ITS) (n:Nat) (a0:List (List CV)) (a1:CV):D its (n+1) dG [(.row 3 a0),a1]=bC (fE (D its n) a0 a1):=by kernel_rfl
end
end Go.Proofs.Ythkfohoccnnphaa
namespace Go.Proofs.Ythkfohoccnnphaa
open Go Go.Sx
set_option maxRecDepth 100000
set_option maxHeartbeats 0
noncomputable section
def upA (e:List CV) (v0:List CV):List CV:=CV.row 1 (gr v0 1)::CV.row 4 (gr v0 2)::(List.range 50).map fun j=>ci (if decide (j+2=(((2+(Int.toNat (gi e 0)*4))+1)+1)+1)=true then gi e 3 else if decide (j+2=((2+(Int.toNat (gi e 0)*4))+1)+1)=true then gi e 2 else if decide (j+2=(2+(Int.toNat (gi e 0)*4))+1)=true then gi e 1 else if decide (j+2=2+(Int.toNat (gi e 0)*4))=true then gi e 0 else gi v0 (j+3))
def upB (e:List CV) (v2:List CV):List CV:=CV.row 1 (gr v2 1)::CV.row 4 (gr v2 2)::(List.range 50).map fun j=>ci (if decide (j+2=42+(Int.toNat (gi e 0)*1))=true then wr (Int.ofNat (bON (gi (cat [[CV.row 1 (gr v2 1),CV.row 4 (gr v2 2)],cis v2 3 50]) (42+(Int.toNat (gi e 0)*1))) (wr (1*((2:Int) ^ (min (Int.toNat (gi v2 0)) 64)))))) else gi v2 (j+3))
def upC (e:List CV) (v2 v3:List CV):List CV:=CV.row 1 (gr v3 0)::CV.row 4 (gr v3 1)::(List.range 50).map fun j=>ci (if decide (j+2=42+(Int.toNat (gi v2 0)*1))=true then wr (Int.ofNat (bON (gi (cat [[CV.row 1 (gr v3 0),CV.row 4 (gr v3 1)],cis v3 2 50]) (42+(Int.toNat (gi v2 0)*1))) (wr (1*((2:Int) ^ (min (Int.toNat (gi e 0)) 64)))))) else gi v3 (j+2))
def VQ (e:List CV):List CV→Option Ou:=fun v2=>aB (decide ((gi v2 0)<10)) (chk (decide (0≤(gi v2 0)))<|bN (aB ((wr (Int.ofNat (bAN (Int.fdiv (gi e 3) ((2:Int) ^ (min (Int.toNat (gi v2 0)) 64))) 1))) == 1) (bN (chk ((decide (0≤(gi e 0)))&&(decide ((gi e 0)<(Int.ofNat 10))))<|chk (oks [li] (cat [[CV.row 1 (gr v2 1),CV.row 4 (gr v2 2)],cis v2 3 50]) (42+((Int.toNat (gi e 0))*1)))<|chk (decide (0≤(gi v2 0)))<|chk ((decide (0≤(gi e 0)))&&(decide ((gi e 0)<(Int.ofNat 10))))<|chk (oks [li] (cat [[CV.row 1 (gr v2 1),CV.row 4 (gr v2 2)],cis v2 3 50]) (42+((Int.toNat (gi e 0))*1)))<|some (.nx ((upB e v2)))) fun v3=>bN (chk ((decide (0≤(gi v2 0)))&&(decide ((gi v2 0)<(Int.ofNat 10))))<|chk (oks [li] (cat [[CV.row 1 (gr v3 0),CV.row 4 (gr v3 1)],cis v3 2 50]) (42+((Int.toNat (gi v2 0))*1)))<|chk (decide (0≤(gi e 0)))<|chk ((decide (0≤(gi v2 0)))&&(decide ((gi v2 0)<(Int.ofNat 10))))<|chk (oks [li] (cat [[CV.row 1 (gr v3 0),CV.row 4 (gr v3 1)],cis v3 2 50]) (42+((Int.toNat (gi v2 0))*1)))<|some (.nx ((upC e v2 v3)))) fun v4=>some (.nx (cat [[CV.row 1 (gr v4 0),CV.row 4 (gr v4 1)],cis v4 2 50]))) (some (.nx (cat [[CV.row 1 (gr v2 1),CV.row 4 (gr v2 2)],cis v2 3 50])))) fun v3=>some (.nx (cat [[ci (wr ((gi v2 0)+1)),CV.row 1 (gr v3 0),CV.row 4 (gr v3 1)],cis v3 2 50]))) (some (.br 2 (cat [[CV.row 1 (gr v2 1),CV.row 4 (gr v2 2)],cis v2 3 50])))
def MF (a0_1:List (List CV)):List CV→Option Ou:=fun v0=>aB (decide ((gi v0 0)<(il a0_1))) (chk (inb (gi v0 0) a0_1)<|chk (oks (List.replicate 4 li) (el a0_1 (gi v0 0)) 0)<|bN (chk ((decide (0≤(gi (el a0_1 (gi v0 0)) 0)))&&(decide ((gi (el a0_1 (gi v0 0)) 0)<(Int.ofNat 10))))<|chk (oks (List.replicate 4 li) (cat [[CV.row 1 (gr v0 1),CV.row 4 (gr v0 2)],cis v0 3 50]) (2+((Int.toNat (gi (el a0_1 (gi v0 0)) 0))*4)))<|some (.nx (upA (el a0_1 (gi v0 0)) v0))) fun v1=>bO 2 (aJ (VQ (el a0_1 (gi v0 0))) (cat [[ci 0,CV.row 1 (gr v1 0),CV.row 4 (gr v1 1)],cis v1 2 50])) fun v2=>some (.nx (cat [[ci (wr ((gi v0 0)+1)),CV.row 1 (gr v2 0),CV.row 4 (gr v2 1)],cis v2 2 50]))) (some (.br 0 (cat [[CV.row 1 (gr v0 1),CV.row 4 (gr v0 2)],cis v0 3 50])))
def npR (a0_0 a0_1:List (List CV)):Option Ou:=bO 0 (aJ (MF a0_1) (ci 0::CV.row 1 a0_0::CV.row 4 a0_1::List.replicate 50 (ci 0))) fun v0=>some (.ret ([CV.ref (cat [[CV.row 1 (gr v0 0),CV.row 4 (gr v0 1)],cis v0 2 50])]))
theorem BX (its:ITS) (n:Nat) (a0_0 a0_1:List (List CV)):D its (n+1) hZ [(.row 1 a0_0),(.row 4 a0_1)]=bC (npR a0_0 a0_1):=by kernel_rfl
end
end Go.Proofs.Ythkfohoccnnphaa
