/-
 The law PenEither of the pens of a pound holds at every input, without any condition.
-/
import Derived.KernelRfl
import Derived.OpenShut
import Derived.ProofKit
import Derived.SizedLaws
import Derived.Test.YthkfohoccnnphaaProg
import Derived.Test.YthkfohoccnnphaaP08
namespace Go.Sx
open Go
def plT (P:Program):Nat→TypeId→Bool
 | 0,_=>false
 | n+1,t=>match P.underlying t with
  | some .bool=>true
  | some (.int _)=>true
  | some (.slice e)=>decide (0<P.cellsOf e)&&plT P n e
  | some (.struct fs)=>fs.toList.all fun f=>plT P n f.type
  | some (.array _ e)=>plT P n e
  | _=>false
def II (R:TypeId→List CV→Prop):List TypeId→List CV→Prop
 | [],cs=>cs=[]
 | t::ts,cs=>∃ a b,cs=a++b∧R t a∧II R ts b
def Shp (P:Program):Nat→TypeId→List CV→Prop
 | 0,_,_=>False
 | n+1,t,cs=>match P.underlying t with
  | some .bool=>∃ b,cs=[cb b]
  | some (.int k)=>∃ m,cs=[.val (.int k m)]∧(Lit.int k m).wf=true
  | some (.slice e)=>∃ es,cs=[.row (P.cellsOf e) es]∧(∀ x∈es,Shp P n e x)∧es.length*P.bytesOf e≤reachBytes
  | some (.struct fs)=>II (Shp P n) (fs.toList.map (·.type)) cs
  | some (.array m e)=>II (Shp P n) (List.replicate m e) cs
  | _=>False
section
variable {P:Program} {w:World} {S:Nat→Prop}
theorem OQ {k b:Nat}:∀ (es:List (List CV)) (o:Nat),(∀ i (h:i<es.length),es[i].length=k∧CV.cells w S es[i] b (o+i*k))→CV.rows w S k es b o
 | [],o,_=>by simp [CV.rows]
 | e::es,o,h=>by
  simp only [CV.rows]
  have h0:=h 0 (by simp)
  refine ⟨by simpa using h0.1,by simpa using h0.2,OQ es (o+k) fun i hi=>?_⟩
  have:=h (i+1) (by simpa using hi)
  rw [show o+(i+1)*k=o+k+i*k by rw [Nat.add_mul];omega] at this
  simpa using this
theorem VL {cs cs':List CV} {vs vs':List Value} (h:CV.vals w S cs vs) (h':CV.vals w S cs' vs'):CV.vals w S (cs++cs') (vs++vs'):=CV.vals.append h h'
theorem zD (R:TypeId→List CV→Prop):∀ (ts:List TypeId) (cs:List Value),cs.length=(ts.map P.cellsOf).sum →
  (∀ j t,ts[j]? = some t→∃ cvs,R t cvs∧CV.vals w S cvs ((cs.drop ((ts.take j).map P.cellsOf).sum).take (P.cellsOf t)))→∃ cvs,II R ts cvs∧CV.vals w S cvs cs
 | [],cs,hl,_=>⟨[],rfl,by
  have:cs=[]:=List.length_eq_zero_iff.1 (by simpa using hl)
  subst this;simp [CV.vals]⟩
 | t::ts,cs,hl,h=>by
  simp only [List.map_cons,List.sum_cons] at hl
  obtain ⟨a,ha,hav⟩:=h 0 t rfl
  obtain ⟨b,hb,hbv⟩:=zD R ts (cs.drop (P.cellsOf t)) (by rw [List.length_drop];omega) fun j u hj=>by
   obtain ⟨c,hc,hcv⟩:=h (j+1) u (by simpa using hj)
   refine ⟨c,hc,?_⟩
   rw [List.drop_drop]
   simpa using hcv
  refine ⟨a++b,⟨a,b,rfl,ha,hb⟩,?_⟩
  have:=VL hav hbv
  simpa using this
theorem weightsAll_mem {H:Type} {e:TypeId}:∀ {l:List (DataW H)} {d:DataW H},d∈l→∀ m∈d.weights P e,m∈DataW.weightsAll P e l
 | x::l,d,h,m,hm=>by
  simp only [DataW.weightsAll,List.mem_append]
  rcases List.mem_cons.1 h with rfl | h
  ·exact .inl hm
  ·exact .inr (weightsAll_mem h m hm)
end
section
variable {H:Type} {enc:TypeId×Value→H} {P:Program} {w:World} {T:TypeId→Prop} {spare:Nat→Bool} {held:Bool}
theorem ZB (K:Kids P T):∀ (n fuel:Nat) (t:TypeId) (cs:List Value) (x:DataW H×List MemPlace),T t→plT P n t=true→DataW.trod enc P w 0 spare held fuel t cs=some x→(∀ m∈x.1.weights P t,m≤reachBytes) →
  ∃ cvs,Shp P n t cvs∧CV.vals w (fun b=>b<w.heap.size) cvs cs:=by
 intro n
 induction n with
 | zero=>intro fuel t cs x _ hp;simp [plT] at hp
 | succ n ih =>
  intro fuel t cs x hT hp h hw
  simp only [plT] at hp
  simp only [Shp]
  cases hu:P.underlying t with
  | none=>rw [hu] at hp;cases hp
  | some U =>
   rw [hu] at hp
   cases U with
   | bool =>
    obtain ⟨b,rfl,_⟩:=DataW.trod_bool hu h
    exact ⟨[cb b],⟨b,rfl⟩,by simp [cb,CV.vals,CV.holds,Value.oneCell']⟩
   | int k =>
    obtain ⟨m,rfl,_,hm⟩:=DataW.trod_int hu h
    exact ⟨[.val (.int k m)],⟨m,rfl,hm⟩,by simp [CV.vals,CV.holds,Value.oneCell']⟩
   | struct fs =>
    obtain ⟨xs,m,rfl,rfl,hl,hxl,hx⟩:=DataW.trod_struct hu h
    obtain ⟨k1,k2,k3⟩:=K.struct hT hu
    simp only [List.all_eq_true] at hp
    refine zD (P:=P) (Shp P n) (fs.toList.map (·.type)) cs (by rw [hl,k2,List.map_map];rfl) fun j u hj=>?_
    rw [List.getElem?_map,Option.map_eq_some_iff] at hj
    obtain ⟨f,hf,rfl⟩:=hj
    have hfm:f∈fs.toList:=List.mem_of_getElem? hf
    have hfa:fs[j]? = some f:=by rw [← Array.getElem?_toList];exact hf
    have hxj:=hx j f hfa
    have hjl:j<xs.length:=by rw [hxl];exact (Array.getElem?_eq_some_iff.1 hfa).1
    rw [List.getElem?_eq_getElem hjl] at hxj
    rw [k3 j f hf] at hxj
    rw [← List.map_take,List.map_map]
    refine ih m f.type _ _ (k1 f hfm) (hp f hfm) hxj fun v hv=>hw v ?_
    simp only [DataW.weights,hu]
    exact DataW.weights_mem_each (j:=j) (t:=f.type) (d:=xs[j].1) (by rw [List.getElem?_map,hf];rfl) (by rw [List.getElem?_map,List.getElem?_eq_getElem hjl];rfl) v hv
   | array m e =>
    obtain ⟨xs,q,rfl,rfl,hl,hxl,hx⟩:=DataW.trod_array hu h
    obtain ⟨k1,k2⟩:=K.array hT hu
    refine zD (P:=P) (Shp P n) (List.replicate m e) cs (by rw [hl,k2];simp) fun j u hj=>?_
    obtain ⟨hjm,rfl⟩:=List.getElem?_eq_some_iff.1 hj
    rw [List.length_replicate] at hjm
    rw [List.getElem_replicate]
    have hxj:=hx j hjm
    rw [List.getElem?_eq_getElem (by omega)] at hxj
    have e1:((List.take j (List.replicate m e)).map P.cellsOf).sum=j*P.cellsOf e:=by
     rw [List.take_replicate,Nat.min_eq_left (by omega)];simp
    rw [e1]
    refine ih q e _ _ k1 hp hxj fun v hv=>hw v ?_
    simp only [DataW.weights,hu]
    exact weightsAll_mem (List.mem_map.2 ⟨xs[j],List.getElem_mem _,rfl⟩) v hv
   | slice e =>
    simp only [Bool.and_eq_true,decide_eq_true_eq] at hp
    rcases DataW.trod_slice hu h with ⟨rfl,_⟩ | ⟨a,len,cap,elems,rest,m,rfl,rfl,rfl,hb,hlc,hcm,hel,hx,_⟩
    ·refine ⟨[.row (P.cellsOf e) []],⟨[],rfl,by simp,by simp⟩,?_⟩
     simp only [CV.vals,CV.holds,and_true]
     exact ⟨none,0,rfl,Nat.le_refl _,Nat.zero_le _,.inl trivial⟩
    ·have hwe:∀ i (hi:i<elems.length),∀ v∈(elems[i].1).weights P e,v≤reachBytes:=fun i hi v hv=>hw v (by
      simp only [DataW.weights,hu,List.mem_cons,List.mem_append]
      exact .inr (.inl (weightsAll_mem (List.mem_map.2 ⟨elems[i],List.getElem_mem _,rfl⟩) v hv)))
     have hlen:(elems.length+rest.length)*P.bytesOf e≤reachBytes:=hw _ (by simp [DataW.weights,hu])
     have hone:∀ i,∃ cv:List CV,(i<len→∃ cells:List Value,w.cells? 0 (a.add (i*P.cellsOf e)) (P.cellsOf e)=some cells∧Shp P n e cv∧CV.vals w (fun b=>b<w.heap.size) cv cells):=by
      intro i
      by_cases hi:i<len
      ·have hxi:=hx i hi
       rw [List.getElem?_eq_getElem (by omega),Option.bind_eq_some_iff] at hxi
       obtain ⟨cells,h1,h2⟩:=hxi
       obtain ⟨cv,h3,h4⟩:=ih m e cells _ (K.slice hT hu) hp.2 h2 (hwe i (by omega))
       exact ⟨cv,fun _=>⟨cells,h1,h3,h4⟩⟩
      ·exact ⟨[],fun h=>absurd h hi⟩
     obtain ⟨g,hg⟩:=Classical.axiomOfChoice hone
     have hll:((List.range len).map g).length=len:=by simp
     refine ⟨[.row (P.cellsOf e) ((List.range len).map g)],⟨_,rfl,?_,?_⟩,?_⟩
     ·intro y hy
      obtain ⟨i,hi,rfl⟩:=List.mem_map.1 hy
      rw [List.mem_range] at hi
      obtain ⟨_,_,h3,_⟩:=hg i hi
      exact h3
     ·rw [hll]
      refine Nat.le_trans (Nat.mul_le_mul_right _ ?_) hlen
      omega
     ·simp only [CV.vals,CV.holds,and_true]
      refine ⟨some a,cap,by rw [hll],by rw [hll];exact hlc,hcm,?_⟩
      by_cases h0:len=0
      ·exact .inl (by simp [h0])
      ·right
       have hcell:∀ i,i<len→∀ j v (cells:List Value),w.cells? 0 (a.add (i*P.cellsOf e)) (P.cellsOf e)=some cells→cells[j]? = some v→w.cell? ((a.add (i*P.cellsOf e)).add j)=some v:=by
        intro i _ j v cells hc hj
        simp only [World.cells?,Nat.zero_le,if_true] at hc
        have hjl:=(List.getElem?_eq_some_iff.1 hj).1
        have hll:=mapM_some_length hc
        rw [List.length_range] at hll
        have hr:(List.range (P.cellsOf e))[j]? = some j:=List.getElem?_range (by omega)
        have:=mapM_some_get hc j j hr
        rw [this,hj]
       have hclen:∀ (b:Addr) (cells:List Value),w.cells? 0 b (P.cellsOf e)=some cells→cells.length=P.cellsOf e:=by
        intro b cells hc
        simp only [World.cells?,Nat.zero_le,if_true] at hc
        simpa using mapM_some_length hc
       obtain ⟨cells0,hc0,_,hv0⟩:=hg 0 (by omega)
       have hl0:cells0.length=P.cellsOf e:=hclen _ _ hc0
       have hpos:0<cells0.length:=by omega
       have hz:=hcell 0 (by omega) 0 cells0[0] cells0 hc0 (List.getElem?_eq_getElem hpos)
       have hz0:(a.add (0*P.cellsOf e)).add 0=a:=by simp [Addr.add]
       rw [hz0] at hz
       have hspot:a.spot=none∧a.block<w.heap.size:=by
        unfold World.cell? at hz
        split at hz
        ·rename_i c t fz hh
         split at hz
         ·cases hz
         ·rename_i hs
          refine ⟨by cases hsp:a.spot <;> simp [hsp] at hs ⊢,?_⟩
          by_cases hlt:a.block<w.heap.size
          ·exact hlt
          ·rw [Array.getElem?_eq_none (by omega)] at hh;cases hh
        ·cases hz
       obtain ⟨ab,ao,asp⟩:=a
       simp only at hspot
       obtain ⟨rfl,hbl⟩:=hspot
       refine ⟨ab,ao,rfl,hbl,?_⟩
       refine OQ _ _ fun i hi=>?_
       rw [hll] at hi
       simp only [List.getElem_map,List.getElem_range]
       obtain ⟨cells,hc,_,hv⟩:=hg i hi
       have hlc':cells.length=P.cellsOf e:=hclen _ _ hc
       refine ⟨by rw [← hlc'];exact (CV.vals.length hv).symm,CV.cells.of_vals hv fun j v hj=>?_⟩
       have:=hcell i hi j v cells hc hj
       have e0:∀ (b o m:Nat),(Addr.mk b o none).add m=⟨b,o+m,none⟩:=by
        intro b o m
        unfold Addr.add
        by_cases hm:m=0
        ·subst hm;rfl
        ·rw [if_neg hm]
       have e1:((Addr.mk ab ao none).add (i*P.cellsOf e)).add j=⟨ab,ao+i*P.cellsOf e+j,none⟩:=by rw [e0,e0]
       rw [e1] at this
       exact this
   | _=>cases hp
end
end Go.Sx
namespace Go.Sx
open Go Go.ChangeShapes Go.WideShapes Go.ChangeAt Go.RowKit
def isAgg (P:Program) (t:TypeId):Bool:=match P.underlying t with
 | some (.struct _)=>true
 | some (.array _ _)=>true
 | _=>false
def vG (P:Program):List TypeId→List (List CV)→List AV
 | t::ts,c::cs=>(if isAgg P t=true then .agg (c.map .cv) else .cv (c.headD dC))::vG P ts cs
 | _,_=>[]
def lV (P:Program) (n:Nat):List TypeId→List (List CV)→Prop
 | [],[]=>True
 | t::ts,c::cs=>Shp P n t c∧lV P n ts cs
 | _,_=>False
theorem rY (P:Program):∀ (ts:List TypeId) (cs:List (List CV)),AV.closeds (vG P ts cs)=true
 | [],[]=>rfl
 | [],_::_=>rfl
 | _::_,[]=>rfl
 | t::ts,c::cs=>by
  have hc:∀ (l:List CV),AV.closeds (l.map .cv)=true:=by
   intro l
   induction l with
   | nil=>rfl
   | cons x l ih=>simp [AV.closeds,AV.closed,ih]
  simp only [vG,AV.closeds,Bool.and_eq_true]
  refine ⟨?_,rY P ts cs⟩
  split
  ·simp only [AV.closed];exact hc c
  ·rfl
theorem vH {e:Env} {w:World} {ks:List Nat}:∀ {cs:List CV} {vs:List Value},CV.vals w e.S cs vs→AV.all e w ks (cs.map .cv) vs
 | [],[],_=>by simp [AV.all]
 | c::cs,v::vs,h=>by
  simp only [CV.vals] at h
  simp only [List.map_cons,AV.all,AV.holds]
  exact ⟨h.1,vH h.2⟩
 | [],_::_,h=>by simp [CV.vals] at h
 | _::_,[],h=>by simp [CV.vals] at h
section
variable {P:Program} {w:World}
theorem RM {base:Nat} {t:TypeId} {v:Value} {n:Nat} (hp:plT P n t=true) (ha:isAgg P t=false) (h:Value.okWide P w .any base t v):v.cells=#[v]:=by
 cases n with
 | zero=>simp [plT] at hp
 | succ n =>
  simp only [plT] at hp
  simp only [isAgg] at ha
  unfold Value.okWide at h
  cases hu:P.underlying t with
  | none=>rw [hu] at hp;cases hp
  | some U =>
   rw [hu] at hp ha h
   cases U with
   | bool=>simp only [Cell.okWide,hu,Cell.ok] at h;cases v <;> simp_all [Value.cells]
   | int k=>simp only [Cell.okWide,hu,Cell.ok] at h;cases v <;> simp_all [Value.cells]
   | slice e=>simp only [Cell.okWide,hu,Cell.ok] at h;cases v <;> simp_all [Value.cells]
   | struct fs=>cases ha
   | array m e=>cases ha
   | _=>cases hp
theorem ZC {base:Nat} {t:TypeId} {v:Value} (ha:isAgg P t=true) (h:Value.okWide P w .any base t v):∃ cs,v=.agg cs:=by
 simp only [isAgg] at ha
 unfold Value.okWide at h
 cases hu:P.underlying t with
 | none=>rw [hu] at ha;cases ha
 | some U =>
  rw [hu] at ha h
  cases U with
  | struct fs=>obtain ⟨cs,h,_⟩:=h;exact ⟨cs,h⟩
  | array m e=>obtain ⟨cs,h,_⟩:=h;exact ⟨cs,h⟩
  | _=>cases ha
variable {H:Type} {enc:TypeId×Value→H} {T:TypeId→Prop} {spare:Nat→Bool} {held:Bool}
theorem OR (K:Kids P T) {base:Nat} (n:Nat):∀ (ts:List TypeId) (vs:List Value) (ds:List (DataW H)) (ps:List MemPlace),(∀ t∈ts,T t)→ts.all (plT P n)=true →
  (∀ (j:Nat) t v,ts[j]? = some t→vs[j]? = some v→Value.okWide P w .any base t v)→DataW.TrodAll enc P w 0 spare held ts vs ds ps→(∀ m∈DataW.weightsEach P ts ds,m≤reachBytes) →
  ∃ css:List (List CV),lV P n ts css∧∀ (e:Env) (ks:List Nat),(e.S=fun b=>b<w.heap.size)→AV.all e w ks (vG P ts css) vs
 | [],vs,ds,ps,_,_,_,h,_=>by
  obtain ⟨rfl,_,_⟩:=trodAll_nil h
  exact ⟨[],trivial,fun e ks _=>by simp [vG,AV.all]⟩
 | t::ts,vs,ds,ps,hT,hp,hv,h,hw=>by
  obtain ⟨v,vs',d,ds',p,q,rfl,rfl,rfl,⟨fuel,h1⟩,h2⟩:=trodAll_cons h
  simp only [List.all_cons,Bool.and_eq_true] at hp
  simp only [DataW.weightsEach,List.mem_append] at hw
  obtain ⟨css,s1,s2⟩:=OR K n ts vs' ds' q (fun u hu=>hT u (by simp [hu])) hp.2 (fun j u x hj hx=>hv (j+1) u x (by simpa using hj) (by simpa using hx)) h2 (fun m hm=>hw m (.inr hm))
  obtain ⟨cvs,c1,c2⟩:=ZB K n fuel t v.cells.toList _ (hT t (by simp)) hp.1 h1 (fun m hm=>hw m (.inl hm))
  refine ⟨cvs::css,⟨c1,s1⟩,fun e ks he=>?_⟩
  have hv0:=hv 0 t v rfl rfl
  simp only [vG,AV.all]
  refine ⟨?_,s2 e ks he⟩
  cases ha:isAgg P t with
  | true =>
   obtain ⟨cs,rfl⟩:=ZC ha hv0
   simp only [if_true,AV.holds]
   exact ⟨cs,rfl,vH (by rw [he];exact c2)⟩
  | false =>
   have hc:=RM hp.1 ha hv0
   rw [hc] at c2
   simp only [Bool.false_eq_true,if_false,AV.holds]
   match cvs,c2 with
   | [c],c2 =>
    simp only [CV.vals,and_true] at c2
    rw [he];exact c2
   | [],c2=>simp [CV.vals] at c2
   | _::_::_,c2=>simp [CV.vals] at c2
end
theorem vI {H:Type} {enc:TypeId×Value→H} {P:Program} {W:World} {sp:Nat→Bool} {hd:Bool}:∀ {ts:List TypeId} {vs:List Value} {ds:List (DataW H)} {ps:List MemPlace},DataW.TrodAll enc P W 0 sp hd ts vs ds ps→ds.length=ts.length
 | [],vs,ds,ps,hA=>by obtain ⟨rfl,rfl,rfl⟩:=trodAll_nil hA;rfl
 | t::ts,vs,ds,ps,hA=>by
  obtain ⟨v,vs',d,ds',p1,p2,rfl,rfl,rfl,_,h2⟩:=trodAll_cons hA
  simp [vI h2]
theorem zE {H:Type} {enc:TypeId×Value→H} {P:Program} {W W':World} {sp:Nat→Bool} {hd:Bool} (hB:Below W.heap.size W W'):∀ {ts:List TypeId} {vs:List Value} {ds:List (DataW H)} {ps:List MemPlace},DataW.TrodAll enc P W 0 sp hd ts vs ds ps→DataW.TrodAll enc P W' 0 sp hd ts vs ds ps
 | [],vs,ds,ps,hA=>by obtain ⟨rfl,rfl,rfl⟩:=trodAll_nil hA;exact rfl
 | t::ts,vs,ds,ps,hA=>by
  obtain ⟨v,vs',d,ds',p1,p2,rfl,rfl,rfl,⟨fuel,h1⟩,h2⟩:=trodAll_cons hA
  exact ⟨p1,p2,⟨fuel,DataW.trod_carry fuel _ _ _ h1 fun x hx=>hB.same (DataW.trod_lt fuel _ _ _ h1 x hx)⟩,zE hB h2,rfl⟩
theorem VM {C:Checked} {os:Os} {f:FuncId} {fn:Func} {s:ChangeSpec} {conds:List PathCond} {fresh handsOn:Bool} {H:Type} {enc:TypeId×Value→H} {tb:TypeId} (n:Nat)
  (own:ownKnob C.prog.godebug=none) (started:os.Started) (noInit:C.prog.inits.idxOf? f=none) (hfn:C.prog.funcs[f]? = some fn)
  (K:Kids C.prog (·<C.prog.types.size)) (hz:∀ t e,t<C.prog.types.size→C.prog.underlying t=some (.slice e)→0<C.prog.cellsOf e)
  (hts:∀ t∈fn.params.toList,t<C.prog.types.size) (hpl:fn.params.toList.all (plT C.prog n)=true) (hres:fn.resultTypes=#[tb]) (hb:C.prog.underlying tb=some .bool)
  (hvars:s.vars=[]) (hspec:∀ ds:List (DataW H),ds.length=fn.params.toList.length→s.fn H (ds++[])={ results:=[.lit (.bool true)],args:=ds })
  (witness:∃ (w:World) (tape:Tape) (i:Input),w.os=os∧(w.forCall tape i).Shaped C.prog∧i.vars=[]∧Input.okWide C.prog (w.forCall tape i) .any w.heap.size f i ∧
   s.pre6 enc C.prog fn conds false (w.forCall tape i).memory i.args∧({}:Assume).holds C.prog (lone (Frame.enter C.prog f i.args .normal) [] (w.forCall tape i)))
  (law:∀ css,lV C.prog n fn.params.toList css→SpecR C.prog f (vG C.prog fn.params.toList css) (.cv (cb true))) :
  ReturnsInHanded {} C os f .any (s.pre6 enc C.prog fn conds false) (s.post enc C.prog fn false fresh handsOn false):=by
 refine returnsInHanded_of_change_sized own started noInit hfn witness ?_
 intro W base args ds gs before hval hW hcnd hsz _
 have hW':=hW
 obtain ⟨p,q,hA,hV,rfl,hfz,hnd⟩:=hW
 rw [hvars] at hV
 obtain ⟨rfl,rfl⟩:=trodVars_none hV
 simp only [List.append_nil] at hW'
 have hwt:∀ m∈DataW.weightsEach C.prog fn.params.toList ds,m≤reachBytes:=by
  intro m hm
  have hh:∀ (ts us:List TypeId) (ds:List (DataW H)),m∈DataW.weightsEach C.prog ts ds→m∈DataW.weightsEach C.prog (ts++us) ds:=by
   intro ts
   induction ts with
   | nil=>intro us ds h;simp [DataW.weightsEach] at h
   | cons t ts ih =>
    intro us ds h
    cases ds with
    | nil=>simp [DataW.weightsEach] at h
    | cons d ds =>
     simp only [DataW.weightsEach,List.mem_append,List.cons_append] at h ⊢
     exact h.imp id (ih us ds)
  have:=List.all_eq_true.1 hsz m (by rw [List.append_nil];exact hh _ _ _ hm)
  simpa using this
 obtain ⟨css,s1,s2⟩:=OR K n fn.params.toList args.toList ds p hts hpl (fun j t v hj hv=>hval j t v (by rw [← Array.getElem?_toList];exact hj) (by rw [← Array.getElem?_toList];exact hv)) hA hwt
 let e0:Env:={ ρ:=fun _=>0,hdr:=fun _ _=>undef,S:=fun b=>b<W.heap.size,base:=W.heap.size,H:=fun _=>none,y:=false }
 have hm:Mem W.heap.size W e0 [] [] W:=Mem.nothing e0 W fun b hb=>hb
 have hc:=law css s1 Fence.wide 0 PO rfl W.heap.size W e0 W args hm (s2 e0 _ rfl) (AV.scos_closed _ _ _ (rY _ _ _))
 refine (CallsIn.calls hc (fun k=>by simp [Fence.room,Fence.wide])).mono ?_
 rintro en W' ⟨e',B',V',r,v,rfl,⟨rfl,rfl,rfl⟩,hmem,hex,hr,_⟩
 simp only [AV.holds,cb,CV.holds] at hr
 obtain ⟨rfl,_⟩:=hr
 have hB:Below W.heap.size W W':=by
  have:=hmem.below
  rwa [Env.nb_false (show e'.y=false from hex.ye)] at this
 have hdl:=vI hA
 refine ⟨_,rfl,ds,[],p,[],p,[],hW',?_,?_,?_,hB.frame _,fun h=>by cases h⟩
 ·rw [hspec ds hdl,hres]
  exact trodAll_mk1 (shut_bool hb true)
 ·rw [hspec ds hdl]
  have h1:=zE hB hA
  exact DataW.TrodAll.respare K hz hts h1 (fun x hx=>by simpa using DataW.TrodAll.lt hA x hx)
 ·rw [hspec ds hdl,hvars];rfl
end Go.Sx
namespace Go.Proofs.Ythkfohoccnnphaa
open Go Go.Sx
set_option maxRecDepth 100000
def fe3:FE:=⟨226,[.tmp 6],.two (.reg [] [1,3,5] none []) (.two (.two (.reg [] [1,3,5,33] none []) (.cond none (.two (.reg [] [6] none []) (.nil)) (.nil))) (.two (.reg [] [1,3,5,7] none []) (.two (.reg [] [1,3,5,7,8,9] none []) (.two (.reg [] [1,3,5,7,8,9,10,11] none []) (.two (.reg [] [1,3,5,8,9,10,11,12,13] none []) (.two (.two (.reg [] [] (some ⟨[1,3,5,8,10,12],[(70,.lf lb)],[],[]⟩) []) (.cond none (.two (.reg [] [6] none []) (.nil)) (.nil))) (.two (.reg [] [1,3,5,8,10,12,14] none []) (.two (.two (.reg [] [1,3,5,8,10,14,71,72,73] none []) (.blk ⟨[1,3,5,8,10],[(14,.lf li)],[],[]⟩ (.lp [] ⟨[1,3,5,8,10,71,72],[(14,.lf li),(73,.lf li)],[],[]⟩ (.two (.reg [] [1,3,5,8,10,14,71,72,73,74] none []) (.two (.cond none (.nil) (.nil)) (.two (.thru (.two (.reg [] [1,3,5,8,10,14,16,71,72,73] none []) (.two (.two (.reg [] [] (some ⟨[1,3,5,8,10,14,16,71,72,73],[(84,.lf lb)],[],[]⟩) []) (.cond none (.two (.reg [] [6] none []) (.nil)) (.nil))) (.two (.reg [] [1,3,5,8,10,14,16,71,72,73,86,87,88] none []) (.blk ⟨[1,3,5,8,10,71,72,73],[(14,.lf li)],[],[]⟩ (.lp [] ⟨[1,3,5,8,10,16,71,72,73,86,87],[(14,.lf li),(88,.lf li)],[],[]⟩ (.two (.reg [] [1,3,5,8,10,14,16,71,72,73,86,87,88,89] none []) (.two (.cond none (.nil) (.nil)) (.two (.thru (.two (.reg [] [1,3,5,8,10,14,16,18,71,72,73,86,87,88] none []) (.two (.reg [] [1,3,5,8,10,14,16,18,71,72,73,86,87,88,99] none []) (.cond (some ⟨[1,3,5,8,10,16,71,72,73,86,87,88],[(14,.lf li)],[],[]⟩) (.reg [] [1,3,5,8,10,14,16,71,72,73,86,87,88] none []) (.nil))))) (.reg [] [1,3,5,8,10,14,16,71,72,73,86,87,88] none [])))))))))) (.reg [] [1,3,5,8,10,14,71,72,73] none []))))))) (.two (.two (.reg [] [1,3,5,110] none []) (.cond none (.two (.reg [] [6] none []) (.nil)) (.nil))) (.two (.reg [] [1,3,5,19] none []) (.two (.reg [] [1,3,5,19,20,21] none []) (.two (.two (.reg [] [1,3,5,19,20,21,122] none []) (.cond (some ⟨[1,3,5],[],[],[]⟩) (.two (.reg [] [1,3,5,19,20,22,23] none []) (.two (.reg [] [1,3,5,19,20,22,23,24,25] none []) (.two (.reg [] [] (some ⟨[1,3,5],[(157,.lf lb)],[],[]⟩) []) (.cond none (.two (.reg [] [6] none []) (.nil)) (.nil))))) (.two (.reg [] [1,3,5,19,21,26,27] none []) (.two (.reg [] [] (some ⟨[1,3,5],[(174,.lf lb)],[],[]⟩) []) (.cond none (.two (.reg [] [6] none []) (.nil)) (.nil)))))) (.two (.reg [] [1,3,5,28,29] none []) (.two (.two (.reg [] [1,3,5,28,29,182] none []) (.cond none (.two (.reg [] [6] none []) (.nil)) (.nil))) (.two (.reg [] [6] none []) (.nil)))))))))))))))),⟨[.agg [Lf.row 1,Lf.row 4],.one (Lf.row 3),.agg [li,li,li]],[.one lb]⟩⟩
def aBk:FE:=⟨84,[.tmp 6],.two (.reg [] [1,3,5] none []) (.two (.two (.reg [] [1,3,5,16] none []) (.cond none (.two (.reg [] [6] none []) (.nil)) (.nil))) (.two (.reg [] [1,3,5,7,8] none []) (.two (.reg [] [1,3,5,7,8,9,10] none []) (.two (.reg [] [1,3,5,7,8,9,10,11] none []) (.two (.reg [] [1,3,7,8,9,10,11,12] none []) (.two (.two (.reg [] [] (some ⟨[1,3,7,8,9,10,11,12],[(45,.lf lb)],[],[]⟩) []) (.cond none (.two (.reg [] [6] none []) (.nil)) (.nil))) (.two (.two (.reg [] [1,3,7,8,9,10,11,12,47] none []) (.cond none (.two (.reg [] [6] none []) (.nil)) (.nil))) (.two (.reg [] [6] none []) (.nil))))))))),⟨[.agg [Lf.row 1,Lf.row 4],.one (Lf.row 1),.agg [Lf.row 1,li,Lf.row 1]],[.one lb]⟩⟩
def aB0:FE:=⟨53,[.tmp 4],.two (.reg [] [1,2] none []) (.two (.two (.reg [] [1,2,5] none []) (.two (.reg [] [1,2,5,13] none []) (.cond none (.two (.reg [] [4] none []) (.nil)) (.nil)))) (.two (.two (.reg [] [1,2,17] none []) (.cond none (.two (.reg [] [4] none []) (.nil)) (.nil))) (.two (.two (.reg [] [2,18,19,20] none []) (.blk ⟨[],[],[],[]⟩ (.lp [] ⟨[2,18,19],[(20,.lf li)],[],[]⟩ (.two (.reg [] [2,18,19,20,21] none []) (.two (.cond none (.nil) (.nil)) (.two (.thru (.two (.reg [] [2,7,18,19,20] none []) (.two (.reg [] [2,7,9,18,19,20] none []) (.two (.reg [] [] (some ⟨[2,18,19,20],[(51,.lf lb)],[],[]⟩) []) (.cond none (.two (.reg [] [4] none []) (.nil)) (.nil)))))) (.reg [] [2,18,19,20] none []))))))) (.two (.reg [] [4] none []) (.nil))))),⟨[.agg [Lf.row 1,Lf.row 4],.one (Lf.row 3)],[.one li]⟩⟩
def aB1:FE:=⟨216,[.tmp 0],.two (.reg [] [] none []) (.two (.reg [] [1] none []) (.two (.reg [] [1,2,3] none [(some 31,⟨[],[],[],[]⟩,.rt [.fz 0])]) (.two (.reg [] [1,2,3,4,5] none []) (.two (.reg [] [1,2,3,4,5,6,7] none [(some 44,⟨[],[],[],[]⟩,.rt [.fz 2])]) (.two (.reg [] [1,2,3,4,5,6,7,8,9] none []) (.two (.reg [] [1,2,3,4,5,6,7,8,9,10,11] none [(some 57,⟨[],[],[],[]⟩,.rt [.fz 4])]) (.two (.reg [] [1,2,3,4,5,6,7,8,9,10,11,12,13] none [(some 63,⟨[],[],[],[]⟩,.rt [.fz 5])]) (.two (.reg [] [1,2,3,4,5,6,7,8,9,10,11,12,13,14,15] none [(some 69,⟨[],[],[],[]⟩,.rt [.fz 6])]) (.two (.reg [] [1,2,3,4,5,6,7,8,9,10,11,12,13,14,15,16,17] none [(some 75,⟨[],[],[],[]⟩,.rt [.fz 7])]) (.two (.reg [] [1,2,3,4,5,6,7,8,9,10,11,12,13,14,15,16,17,18] none []) (.two (.reg [] [1,2,3,4,5,6,7,8,9,10,11,12,13,14,15,16,17,18,19,20] none []) (.two (.reg [] [1,2,3,4,5,6,7,8,9,10,11,12,13,14,15,16,17,18,19,20,21,22] none []) (.two (.reg [] [2,3,4,5,6,7,8,9,10,11,12,13,14,15,16,17,19,20,21,22,23,24] none []) (.two (.reg [] [] (some ⟨[2,4,6,8,10,12,14,16,19,21,23],[(25,.lf lb)],[],[]⟩) []) (.two (.reg [] [2,4,6,8,10,12,14,16,19,21,23,25,26] none []) (.two (.reg [] [0] none []) (.nil))))))))))))))))),⟨[],[.one lb]⟩⟩
def aB2:FE:=⟨12,[.tmp 4],.two (.reg [] [0,1] none []) (.two (.reg [] [4] none []) (.nil)),⟨[.one li,.one li],[.one li]⟩⟩
def aB3:FE:=⟨26,[.tmp 6,.tmp 7],.two (.reg [] [1,2,3] none []) (.two (.reg [] [1,2,8,9] none []) (.two (.two (.reg [] [1,2,8,9,17] none []) (.cond none (.two (.reg [] [6,7] none []) (.nil)) (.nil))) (.two (.two (.reg [] [1,2,8,21] none []) (.cond none (.two (.reg [] [6,7] none []) (.nil)) (.nil))) (.two (.reg [] [6,7] none [(some 22,⟨[],[],[],[]⟩,.rf (some 8))]) (.nil))))),⟨[.agg [Lf.row 1,Lf.row 4],.one (Lf.row 3),.one li],[.one li,.one li]⟩⟩
def aB4:FE:=⟨25,[.tmp 6,.tmp 7],.two (.reg [] [1,2,3] none []) (.two (.two (.reg [] [1,2,9] none []) (.two (.reg [] [1,2,9,17] none []) (.cond none (.two (.reg [] [6,7] none []) (.nil)) (.nil)))) (.two (.two (.reg [] [1,2,21] none []) (.cond none (.two (.reg [] [6,7] none []) (.nil)) (.nil))) (.two (.reg [] [6,7] none []) (.nil)))),⟨[.agg [Lf.row 1,Lf.row 4],.one (Lf.row 3),.one li],[.one (Lf.row 1),.one li]⟩⟩
def aB5:FE:=⟨51,[.tmp 6,.tmp 7],.two (.reg [] [1,2,3] none []) (.two (.reg [] [1,2,8,9] none []) (.two (.thru (.two (.reg [] [1,2,8,9,19] none []) (.cond none (.two (.reg [] [6,7] none []) (.nil)) (.two (.reg [] [1,2,8,23] none []) (.cond none (.two (.reg [] [6,7] none []) (.nil)) (.two (.reg [] [1,2,8,27] none [(some 28,⟨[],[],[],[]⟩,.rf (some 8))]) (.cond none (.two (.reg [] [6,7] none []) (.nil)) (.nil)))))))) (.two (.reg [] [1,2,8,10,11] none []) (.two (.blk ⟨[],[(10,.lf li)],[],[]⟩ (.lp [] ⟨[1,2,8],[(10,.lf li),(11,.lf li)],[],[]⟩ (.two (.two (.reg [] [1,2,8,10,11,35] none []) (.cond none (.nil) (.nil))) (.thru (.two (.reg [] [1,2,8,10,11,12] none []) (.two (.reg [] [1,2,8,10,11,12,46] none []) (.cond (some ⟨[1,2,8],[(10,.lf li),(11,.lf li)],[],[]⟩) (.reg [] [1,2,8,10,11] none []) (.reg [] [1,2,8,10,11] none [])))))))) (.two (.reg [] [6,7] none []) (.nil)))))),⟨[.agg [Lf.row 1,Lf.row 4],.one (Lf.row 3),.one li],[.one li,.one li]⟩⟩
def aB6:FE:=⟨84,[.tmp 4,.tmp 5],.two (.reg [] [1,2] none []) (.two (.reg [] [1,6,7] none []) (.two (.two (.reg [] [1,6,7,24] none []) (.cond none (.two (.reg [] [4,5] none []) (.nil)) (.nil))) (.two (.reg [] [1,6,8] none []) (.two (.two (.reg [] [1,6,8,26,27,28] none []) (.blk ⟨[1,6],[(8,.own 0)],[],[(0,3,1,none)]⟩ (.lp [.mk 8 3 1] ⟨[1,6,26,27],[(8,.own 0),(28,.lf li)],[],[(0,3,1,none)]⟩ (.two (.reg [] [1,6,8,26,27,28,29] none []) (.two (.cond none (.nil) (.nil)) (.two (.thru (.two (.reg [] [1,6,8,10,26,27,28] none []) (.two (.reg [] [1,6,8,10,26,27,28] none []) (.two (.reg [] [1,6,8,10,26,27,28,39] none []) (.cond (some ⟨[1,6,26,27,28],[(8,.own 0)],[],[(0,3,1,none)]⟩) (.reg [] [1,6,8,26,27,28] none []) (.nil)))))) (.reg [] [1,6,8,26,27,28] none []))))))) (.two (.reg [] [1,6,8] none [(some 47,⟨[],[],[],[]⟩,.mt false)]) (.two (.reg [] [1,6,8,11] none []) (.two (.two (.reg [] [1,6,11,49,50,51] none []) (.blk ⟨[],[],[],[(1,11534425,11,some 0)]⟩ (.lp [] ⟨[1,6,11,49,50],[(51,.lf li)],[],[(1,11534425,11,some 0)]⟩ (.two (.reg [] [1,6,11,49,50,51,52] none []) (.two (.cond none (.nil) (.nil)) (.two (.thru (.two (.reg [] [1,6,11,13,49,50,51] none []) (.two (.reg [] [1,6,11,13,14,49,50,51] none []) (.two (.two (.reg [] [1,6,11,13,14,49,50,51,57,58,59] none []) (.blk ⟨[1,6,11,13,49,50,51],[(14,.own 2)],[],[(2,3,1,none)]⟩ (.lp [.mk 14 3 1] ⟨[1,6,11,13,49,50,51,57,58],[(14,.own 2),(59,.lf li)],[],[(2,3,1,none)]⟩ (.two (.reg [] [1,6,11,13,14,49,50,51,57,58,59,60] none []) (.two (.cond none (.nil) (.nil)) (.two (.thru (.two (.reg [] [1,6,11,13,14,16,49,50,51,57,58,59] none []) (.reg [] [1,6,11,13,14,49,50,51,57,58,59] none []))) (.reg [] [1,6,11,13,14,49,50,51,57,58,59] none []))))))) (.two (.reg [.fz 2] [] (some ⟨[1,6,11,13,49,50,51],[(81,.lf lb)],[],[(1,11534425,11,some 0)]⟩) [(some 79,⟨[1,6,11,13,49,50,51,75],[(79,.lf lb)],[],[(1,11534425,11,some 0)]⟩,.two (.reg [] [0,1,2] none []) (.two (.reg [] [0,1,2,7] none []) (.two (.two (.reg [] [0,1,2,7,12,13,14] none []) (.blk ⟨[0,1,2,7],[],[(1,142,[.lf li,.lf li,.lf li,.lf li,.lf li,.lf li,.lf li,.lf li,.lf li,.lf li])],[]⟩ (.lp [] ⟨[0,1,2,7,12,13],[(14,.lf li)],[(1,142,[.lf li,.lf li,.lf li,.lf li,.lf li,.lf li,.lf li,.lf li,.lf li,.lf li])],[]⟩ (.two (.reg [] [0,1,2,7,12,13,14,15] none []) (.two (.cond none (.nil) (.nil)) (.two (.thru (.two (.reg [] [0,1,2,7,9,12,13,14] none []) (.reg [] [0,1,2,7,12,13,14] none []))) (.reg [] [0,1,2,7,12,13,14] none []))))))) (.two (.reg [] [0,1,2,7,10,11] none []) (.two (.two (.reg [] [0,1,2,7,10,31] none []) (.cond (some ⟨[],[(10,.lf lb)],[],[(1,11534425,11,some 0)]⟩) (.two (.reg [] [2,7,10] none [(some 33,⟨[],[],[],[]⟩,.rf (some 0))]) (.reg [] [10] none [])) (.nil))) (.two (.reg [] [6] none []) (.nil)))))))]) (.cond none (.two (.reg [] [4,5] none []) (.nil)) (.nil))))))) (.reg [] [1,6,11,49,50,51] none []))))))) (.two (.reg [] [4,5] none []) (.nil))))))))),⟨[.agg [Lf.row 1,Lf.row 4],.one (Lf.row 3)],[.one li,.one li]⟩⟩
def aB7:FE:=⟨56,[.tmp 6],.two (.reg [] [1,2,3] none []) (.two (.reg [] [1,3,7] none []) (.two (.reg [] [1,3,7,9] none []) (.two (.two (.reg [] [1,3,9,21,22,23] none []) (.blk ⟨[3],[(9,.own 0)],[],[(0,3,1,none)]⟩ (.lp [.mk 9 3 1] ⟨[1,3,21,22],[(9,.own 0),(23,.lf li)],[],[(0,3,1,none)]⟩ (.two (.reg [] [1,3,9,21,22,23,24] none []) (.two (.cond none (.nil) (.nil)) (.two (.thru (.two (.reg [] [1,3,9,11,21,22,23] none []) (.two (.reg [] [] (some ⟨[1,3,9,11,21,22,23],[(34,.lf lb)],[],[]⟩) []) (.cond (some ⟨[1,3,21,22,23],[(9,.own 0)],[],[(0,3,1,none)]⟩) (.reg [] [1,3,9,21,22,23] none []) (.nil))))) (.reg [] [1,3,9,21,22,23] none []))))))) (.two (.reg [] [13] none [(some 47,⟨[],[],[],[]⟩,.rt [.fz 0])]) (.two (.reg [] [6] none []) (.nil)))))),⟨[.agg [Lf.row 1,Lf.row 4],.one (Lf.row 3),.one li],[.one lb]⟩⟩
def aB8:FE:=⟨9,[.tmp 4],.two (.reg [] [1,2] none []) (.two (.reg [] [4] none []) (.nil)),⟨[.agg [Lf.row 1,Lf.row 4],.one (Lf.row 1)],[.one lb]⟩⟩
def aB9:FE:=⟨27,[.tmp 4,.tmp 5],.two (.reg [] [1,2] none []) (.two (.reg [] [1,6,7] none []) (.two (.two (.reg [] [1,6,7,16] none []) (.cond none (.two (.reg [] [4,5] none []) (.nil)) (.nil))) (.two (.reg [] [1,6,8] none []) (.two (.nil) (.two (.two (.reg [] [8,20] none [(some 18,⟨[],[],[],[]⟩,.rf (some 6))]) (.rg (.lent 3 1) ⟨[8,20],[],[(1,3,[.lf li])],[]⟩ (.nil) (.thru (.two (.reg [] [8] none []) (.two (.reg [] [8,25] none []) (.cond none (.nil) (.nil))))))) (.two (.reg [] [4,5] none []) (.nil))))))),⟨[.agg [Lf.row 1,Lf.row 4],.one (Lf.row 1)],[.one li,.one li]⟩⟩
def aCa:FE:=⟨28,[.tmp 4,.tmp 5],.two (.reg [] [1,2] none []) (.two (.reg [] [1,6,7] none []) (.two (.two (.reg [] [1,6,7,17] none []) (.cond none (.two (.reg [] [4,5] none []) (.nil)) (.nil))) (.two (.reg [] [8,9] none [(some 20,⟨[],[],[],[]⟩,.rf (some 6))]) (.two (.two (.reg [] [8,26] none []) (.cond none (.two (.reg [] [4,5] none []) (.nil)) (.nil))) (.two (.reg [] [4,5] none []) (.nil)))))),⟨[.agg [Lf.row 1,Lf.row 4],.one (Lf.row 1)],[.one (Lf.row 1),.one li]⟩⟩
def aCb:FE:=⟨29,[.tmp 6],.two (.reg [] [1,2,3] none []) (.two (.reg [] [1,2,7,8] none []) (.two (.two (.reg [] [1,2,7,8,18] none []) (.cond none (.two (.reg [] [6] none []) (.nil)) (.nil))) (.two (.two (.reg [] [10] none [(some 21,⟨[],[],[],[]⟩,.rf (some 7))]) (.two (.reg [] [28] none []) (.cond none (.two (.reg [] [6] none []) (.nil)) (.nil)))) (.two (.reg [] [6] none []) (.nil))))),⟨[.agg [Lf.row 1,Lf.row 4],.one (Lf.row 1),.one (Lf.row 1)],[.one li]⟩⟩
def aCc:FE:=⟨75,[.tmp 4,.tmp 5],.two (.reg [] [1,2] none []) (.two (.reg [] [1,6,7] none []) (.two (.two (.reg [] [1,6,7,23] none []) (.cond none (.two (.reg [] [4,5] none []) (.nil)) (.nil))) (.two (.reg [] [1,6,8] none []) (.two (.reg [] [1,6,8,9] none [(some 25,⟨[],[],[],[]⟩,.rf (some 6))]) (.two (.reg [] [1,6,8,9,10] none []) (.two (.two (.reg [] [6,8,9,10,35] none []) (.rg (.lent 3 1) ⟨[6,8,9,10,35],[],[(1,22,[.lf (Lf.row 1)]),(2,3,[.lf li])],[(0,6291559,6,some 0)]⟩ (.reg [] [6,8,9,10,11] none []) (.thru (.two (.reg [] [8,9,10,11,12] none []) (.two (.reg [] [8,9,10,11,12,13] none []) (.two (.two (.reg [] [8,9,10,11,12,13,37,38,39] none []) (.blk ⟨[8,9,10,11,12],[(13,.lf li)],[(4,104,[.lf lb,.lf lb,.lf lb,.lf lb,.lf lb])],[]⟩ (.lp [] ⟨[8,9,10,11,12,37,38],[(13,.lf li),(39,.lf li)],[(4,104,[.lf lb,.lf lb,.lf lb,.lf lb,.lf lb])],[]⟩ (.two (.reg [] [8,9,10,11,12,13,37,38,39,40] none []) (.two (.cond none (.nil) (.nil)) (.two (.thru (.two (.reg [] [8,9,10,11,12,13,15,37,38,39] none []) (.two (.reg [] [8,9,10,11,12,13,15,37,38,39,46] none []) (.cond (some ⟨[8,9,10,11,12,37,38,39],[(13,.lf li)],[(4,104,[.lf lb,.lf lb,.lf lb,.lf lb,.lf lb])],[]⟩) (.two (.reg [] [8,9,10,11,12,13,37,38,39] none []) (.reg [] [8,9,10,11,12,13,37,38,39] none [])) (.nil))))) (.reg [] [8,9,10,11,12,13,37,38,39] none []))))))) (.two (.two (.reg [] [] (some ⟨[8,9,10,11,12,13],[(60,.lf lb)],[],[]⟩) []) (.cond (some ⟨[10,12],[],[(1,22,[.lf (Lf.row 1)]),(2,3,[.lf li])],[]⟩) (.reg [] [10,12] none [(some 62,⟨[8,9,10,12,13],[(62,.own 2)],[],[(2,3,1,none)]⟩,.two (.reg [] [0] none []) (.two (.two (.reg [] [0,4] none []) (.cond none (.two (.reg [] [2] none []) (.rt [.mk 2 3 1])) (.nil))) (.two (.reg [] [2] none []) (.nil)))),(some 63,⟨[],[],[],[]⟩,.rt [.fz 2])]) (.nil))) (.reg [] [] none [])))))))) (.two (.two (.reg [] [8,73] none []) (.cond none (.two (.reg [] [4,5] none []) (.nil)) (.nil))) (.two (.reg [] [4,5] none []) (.nil))))))))),⟨[.agg [Lf.row 1,Lf.row 4],.one (Lf.row 1)],[.one (Lf.row 1),.one li]⟩⟩
def aCd:FE:=⟨26,[.tmp 4],.two (.reg [] [0,1] none []) (.two (.two (.reg [] [0,1,10] none []) (.cond none (.two (.reg [] [4] none []) (.nil)) (.nil))) (.two (.two (.reg [] [0,1,12,13] none []) (.blk ⟨[],[],[],[]⟩ (.lp [] ⟨[0,1,12],[(13,.lf li)],[],[]⟩ (.two (.reg [] [0,1,12,13,14] none []) (.two (.cond none (.nil) (.nil)) (.two (.thru (.two (.reg [] [0,1,5,12,13] none []) (.two (.reg [] [0,1,12,13,24] none []) (.cond none (.two (.reg [] [4] none []) (.nil)) (.nil))))) (.reg [] [0,1,12,13] none []))))))) (.two (.reg [] [4] none []) (.nil)))),⟨[.one (Lf.row 1),.one (Lf.row 1)],[.one lb]⟩⟩
def aCe:FE:=⟨51,[.tmp 8,.tmp 9],.two (.reg [] [1,2,3,4] none []) (.two (.reg [] [1,3,10,11,12] none []) (.two (.thru (.two (.reg [] [1,3,10,11,12,22] none []) (.cond none (.two (.reg [] [8,9] none []) (.nil)) (.two (.reg [] [1,3,10,11,26] none [(some 27,⟨[],[],[],[]⟩,.rf (some 10))]) (.cond none (.two (.reg [] [8,9] none []) (.nil)) (.two (.reg [] [3,10,11,31] none []) (.cond none (.two (.reg [] [8,9] none []) (.nil)) (.nil)))))))) (.two (.two (.reg [] [3,10,11,40,41] none []) (.blk ⟨[],[],[],[]⟩ (.lp [] ⟨[3,10,11,40],[(41,.lf li)],[],[]⟩ (.two (.reg [] [3,10,11,40,41,42] none []) (.two (.cond none (.nil) (.nil)) (.two (.thru (.two (.reg [] [3,10,11,13,40,41] none []) (.two (.reg [] [3,10,11,13,40,41,48] none [(some 45,⟨[],[],[],[]⟩,.rf (some 11))]) (.cond none (.two (.reg [] [8,9] none []) (.nil)) (.nil))))) (.reg [] [3,10,11,40,41] none []))))))) (.two (.reg [] [8,9] none []) (.nil))))),⟨[.agg [Lf.row 1,Lf.row 4],.one (Lf.row 1),.one (Lf.row 1),.one li],[.one li,.one li]⟩⟩
def aCf:FE:=⟨42,[.tmp 2],.two (.reg [] [1] none []) (.two (.two (.reg [] [] (some ⟨[1],[(13,.lf lb)],[],[]⟩) []) (.cond none (.two (.reg [] [2] none []) (.nil)) (.nil))) (.two (.two (.reg [] [1,15,16,17] none []) (.blk ⟨[],[],[],[]⟩ (.lp [] ⟨[1,15,16],[(17,.lf li)],[],[]⟩ (.two (.reg [] [1,15,16,17,18] none []) (.two (.cond none (.nil) (.nil)) (.two (.thru (.two (.reg [] [1,3,4,15,16,17] none []) (.two (.reg [] [] (some ⟨[1,15,16,17],[(40,.lf lb)],[],[]⟩) []) (.cond none (.two (.reg [] [2] none []) (.nil)) (.nil))))) (.reg [] [1,15,16,17] none []))))))) (.two (.reg [] [2] none []) (.nil)))),⟨[.agg [Lf.row 1,Lf.row 4]],[.one li]⟩⟩
def aCg:FE:=⟨75,[.tmp 2],.two (.reg [] [1] none []) (.two (.two (.reg [] [1,10] none []) (.cond none (.two (.reg [] [2] none []) (.nil)) (.nil))) (.two (.two (.reg [] [1,12,13,14] none []) (.blk ⟨[1],[],[],[]⟩ (.lp [] ⟨[1,12,13],[(14,.lf li)],[],[]⟩ (.two (.reg [] [1,12,13,14,15] none []) (.two (.cond none (.nil) (.nil)) (.two (.thru (.two (.reg [] [1,4,12,13,14] none []) (.two (.reg [] [1,12,13,14,20] none []) (.cond none (.two (.reg [] [2] none []) (.nil)) (.nil))))) (.reg [] [1,12,13,14] none []))))))) (.two (.two (.reg [] [1,23,24,25] none []) (.blk ⟨[],[],[],[]⟩ (.lp [] ⟨[1,23,24],[(25,.lf li)],[],[]⟩ (.two (.reg [] [1,23,24,25,26] none []) (.two (.cond none (.nil) (.nil)) (.two (.thru (.two (.reg [] [1,5,6,23,24,25] none []) (.two (.reg [] [] (some ⟨[1,23,24,25],[(73,.lf lb)],[],[]⟩) []) (.cond none (.two (.reg [] [2] none []) (.nil)) (.nil))))) (.reg [] [1,23,24,25] none []))))))) (.two (.reg [] [2] none []) (.nil))))),⟨[.agg [Lf.row 1,Lf.row 4]],[.one li]⟩⟩
def aCh:FE:=⟨33,[.tmp 4],.two (.reg [] [1,2] none []) (.two (.two (.reg [] [1,2,5] none []) (.two (.reg [] [1,2,5,13] none []) (.cond none (.two (.reg [] [4] none []) (.nil)) (.nil)))) (.two (.two (.reg [] [1,2,17] none []) (.cond none (.two (.reg [] [4] none []) (.nil)) (.nil))) (.two (.two (.reg [] [2,18,19,20] none []) (.blk ⟨[],[],[],[]⟩ (.lp [] ⟨[2,18,19],[(20,.lf li)],[],[]⟩ (.two (.reg [] [2,18,19,20,21] none []) (.two (.cond none (.nil) (.nil)) (.two (.thru (.two (.reg [] [2,7,18,19,20] none []) (.two (.reg [] [2,9,18,19,20] none []) (.two (.reg [] [2,18,19,20,31] none []) (.cond none (.two (.reg [] [4] none []) (.nil)) (.nil)))))) (.reg [] [2,18,19,20] none []))))))) (.two (.reg [] [4] none []) (.nil))))),⟨[.agg [Lf.row 1,Lf.row 4],.one (Lf.row 1)],[.one li]⟩⟩
def aCi:FE:=⟨82,[.cell 4 67,.cell 5 28],.two (.reg [] [1,2,4,5] none []) (.two (.reg [] [1,4,5,6,7] none []) (.two (.two (.reg [] [1,4,5,6,7,20] none []) (.cond none (.two (.reg [] [4,5] none []) (.nil)) (.nil))) (.two (.reg [] [1,4,5,6,8] none [(some 23,⟨[],[],[],[]⟩,.rf (some 6))]) (.two (.two (.reg [] [1,4,5,6,8,32] none [(some 32,⟨[1,4,5,6,8],[(32,.lf lb)],[],[(0,11534425,11,some 0)]⟩,.two (.reg [] [0,1,2] none []) (.two (.reg [] [0,1,2,7] none []) (.two (.two (.reg [] [0,1,2,7,12,13,14] none []) (.blk ⟨[0,1,2,7],[],[(4,142,[.lf li,.lf li,.lf li,.lf li,.lf li,.lf li,.lf li,.lf li,.lf li,.lf li])],[]⟩ (.lp [] ⟨[0,1,2,7,12,13],[(14,.lf li)],[(4,142,[.lf li,.lf li,.lf li,.lf li,.lf li,.lf li,.lf li,.lf li,.lf li,.lf li])],[]⟩ (.two (.reg [] [0,1,2,7,12,13,14,15] none []) (.two (.cond none (.nil) (.nil)) (.two (.thru (.two (.reg [] [0,1,2,7,9,12,13,14] none []) (.reg [] [0,1,2,7,12,13,14] none []))) (.reg [] [0,1,2,7,12,13,14] none []))))))) (.two (.reg [] [0,1,2,7,10,11] none []) (.two (.two (.reg [] [0,1,2,7,10,31] none []) (.cond (some ⟨[],[(10,.lf lb)],[],[(0,11534425,11,some 0)]⟩) (.two (.reg [] [2,7,10] none []) (.reg [] [10] none [])) (.nil))) (.two (.reg [] [6] none []) (.nil)))))))]) (.cond none (.two (.reg [] [4,5] none []) (.nil)) (.nil))) (.two (.two (.reg [] [1,4,5,6,8,36] none []) (.rg (.clo [.one (Lf.row 1)]) ⟨[1,4,5,6,8,36],[],[(1,67,[.lf li,.lf (Lf.row 1)]),(2,28,[.lf li])],[]⟩ (.reg [] [1,4,5,6,8,9] none []) (.thru (.two (.reg [] [4,5,9,40] none [(some 40,⟨[4,5,9],[(40,.lf lb)],[],[]⟩,.two (.reg [] [2,3] none []) (.two (.reg [] [4] none [(some 16,⟨[8],[(16,.lf lb)],[],[]⟩,.two (.reg [] [0,1] none []) (.two (.reg [] [4] none [(some 7,⟨[],[(7,.lf li)],[],[]⟩,.two (.reg [] [0,1] none []) (.two (.two (.reg [] [0,1,7,8] none []) (.blk ⟨[],[],[],[]⟩ (.lp [] ⟨[0,1,7],[(8,.lf li)],[],[]⟩ (.two (.reg [] [0,1,7,8,9] none []) (.two (.cond none (.nil) (.nil)) (.two (.thru (.two (.reg [] [0,1,5,7,8] none []) (.two (.reg [] [0,1,5,7,8,16] none [(some 16,⟨[0,1,5,7,8],[(16,.lf lb)],[],[]⟩,.two (.reg [] [0,1,2] none []) (.two (.reg [] [4] none []) (.nil)))]) (.cond none (.two (.reg [] [4] none []) (.nil)) (.nil))))) (.reg [] [0,1,7,8] none []))))))) (.two (.reg [] [4] none []) (.nil))))]) (.nil)))]) (.nil)))]) (.cond none (.two (.reg [] [4,5] none []) (.nil)) (.nil)))))) (.two (.reg [] [1,4,5,6,8,10] none []) (.two (.two (.reg [] [1,4,5,6,8,10,44,45] none []) (.blk ⟨[1,4,5,6,8],[(10,.own 1)],[],[(1,3,1,none)]⟩ (.lp [.mk 10 3 1] ⟨[1,4,5,6,8,44],[(10,.own 1),(45,.lf li)],[],[(1,3,1,none)]⟩ (.two (.reg [] [1,4,5,6,8,10,44,45,46] none []) (.two (.cond none (.nil) (.nil)) (.two (.thru (.two (.reg [] [1,4,5,6,8,10,11,44,45] none []) (.reg [] [1,4,5,6,8,10,44,45] none []))) (.reg [] [1,4,5,6,8,10,44,45] none []))))))) (.two (.two (.reg [.fz 1] [1,4,5,6,8,10,55] none [(some 55,⟨[1,4,5,6,8,10],[(55,.lf lb)],[],[]⟩,.two (.reg [] [1,2] none []) (.two (.reg [] [1,2,5] none []) (.two (.two (.reg [] [1,2,5,13,14,15] none []) (.blk ⟨[1,2],[(5,.lf li)],[],[]⟩ (.lp [] ⟨[1,2,13,14],[(5,.lf li),(15,.lf li)],[],[]⟩ (.two (.reg [] [1,2,5,13,14,15,16] none []) (.two (.cond none (.nil) (.nil)) (.two (.thru (.two (.reg [] [1,2,5,7,13,14,15] none []) (.reg [] [1,2,5,13,14,15] none []))) (.reg [] [1,2,5,13,14,15] none []))))))) (.two (.reg [] [4] none []) (.nil)))))]) (.cond none (.two (.reg [] [4,5] none [(some 59,⟨[4,5],[(59,.lf (Lf.row 1))],[],[]⟩,.two (.reg [] [0,1] none []) (.two (.two (.reg [] [0,1,5] none []) (.blk ⟨[],[(0,.lf (Lf.row 1))],[],[]⟩ (.lp [] ⟨[1],[(0,.lf (Lf.row 1)),(5,.lf li)],[],[]⟩ (.two (.two (.reg [] [0,1,5,11] none []) (.cond none (.nil) (.nil))) (.two (.thru (.two (.reg [] [0,1,5,6] none [(some 15,⟨[0,1,5],[(15,.own 2)],[],[(2,3,1,none)]⟩,.two (.reg [] [0] none []) (.two (.two (.reg [] [0,4] none []) (.cond none (.two (.reg [] [2] none []) (.rt [.mk 2 3 1])) (.nil))) (.two (.reg [] [2] none []) (.nil)))),(some 19,⟨[],[],[],[]⟩,.mt true)]) (.two (.reg [.fz 2] [0,1,5,6,22] none [(some 22,⟨[0,1,5,6],[(22,.lf lb)],[],[]⟩,.two (.reg [] [1,2] none []) (.two (.reg [] [1,2,5] none []) (.two (.two (.reg [] [1,2,5,13,14,15] none []) (.blk ⟨[1,2],[(5,.lf li)],[],[]⟩ (.lp [] ⟨[1,2,13,14],[(5,.lf li),(15,.lf li)],[],[]⟩ (.two (.reg [] [1,2,5,13,14,15,16] none []) (.two (.cond none (.nil) (.nil)) (.two (.thru (.two (.reg [] [1,2,5,7,13,14,15] none []) (.reg [] [1,2,5,13,14,15] none []))) (.reg [] [1,2,5,13,14,15] none []))))))) (.two (.reg [] [4] none []) (.nil)))))]) (.cond (some ⟨[1,5],[(0,.lf (Lf.row 1))],[],[]⟩) (.reg [] [0,1,5] none []) (.nil))))) (.reg [] [0,1,5] none [])))))) (.two (.reg [] [4] none []) (.nil))))]) (.nil)) (.nil))) (.two (.two (.reg [] [4,5,8,10,70] none []) (.rg (.clo [.one (Lf.row 1)]) ⟨[4,5,8,10,70],[],[(1,67,[.lf li,.lf (Lf.row 1)]),(2,28,[.lf li])],[]⟩ (.reg [] [4,5,8,10,12] none []) (.thru (.two (.reg [] [4,5,12,74] none [(some 74,⟨[4,5,12],[(74,.lf lb)],[],[]⟩,.two (.reg [] [1,2] none []) (.two (.two (.reg [] [1,2,9,10,11] none []) (.blk ⟨[1,2],[],[],[]⟩ (.lp [] ⟨[1,2,9,10],[(11,.lf li)],[],[]⟩ (.two (.reg [] [1,2,9,10,11,12] none []) (.two (.cond none (.nil) (.nil)) (.two (.thru (.two (.reg [] [1,2,5,6,9,10,11] none []) (.two (.reg [] [1,2,6,9,10,11,18,19,20] none []) (.blk ⟨[1,2,9,10,11],[],[],[]⟩ (.lp [] ⟨[1,2,6,9,10,11,18,19],[(20,.lf li)],[],[]⟩ (.two (.reg [] [1,2,6,9,10,11,18,19,20,21] none []) (.two (.cond none (.nil) (.nil)) (.two (.thru (.two (.reg [] [1,2,6,8,9,10,11,18,19,20] none []) (.two (.reg [] [1,2,6,9,10,11,18,19,20,37] none []) (.cond none (.two (.reg [] [4] none []) (.nil)) (.nil))))) (.reg [] [1,2,6,9,10,11,18,19,20] none []))))))))) (.reg [] [1,2,9,10,11] none []))))))) (.two (.reg [] [4] none []) (.nil))))]) (.cond none (.two (.reg [] [4,5] none []) (.nil)) (.nil)))))) (.two (.reg [] [4,5] none [(some 80,⟨[4,5],[(80,.lf (Lf.row 1))],[],[(0,11534425,11,some 0)]⟩,.two (.reg [] [0,1] none []) (.two (.two (.reg [] [0,1,5] none []) (.blk ⟨[],[(0,.lf (Lf.row 1))],[],[(0,11534425,11,some 0)]⟩ (.lp [] ⟨[1],[(0,.lf (Lf.row 1)),(5,.lf li)],[],[(0,11534425,11,some 0)]⟩ (.two (.two (.reg [] [0,1,5,11] none []) (.cond none (.nil) (.nil))) (.two (.thru (.two (.reg [] [0,1,5,6] none [(some 15,⟨[0,1,5],[(15,.own 2)],[],[(2,3,1,none)]⟩,.two (.reg [] [0] none []) (.two (.two (.reg [] [0,4] none []) (.cond none (.two (.reg [] [2] none []) (.rt [.mk 2 3 1])) (.nil))) (.two (.reg [] [2] none []) (.nil)))),(some 19,⟨[],[],[],[]⟩,.mt true)]) (.two (.reg [.fz 2] [0,1,5,6,22] none [(some 22,⟨[0,1,5,6],[(22,.lf lb)],[],[(0,11534425,11,some 0)]⟩,.two (.reg [] [1,2] none []) (.two (.reg [] [4] none [(some 12,⟨[],[(12,.lf lb)],[],[(0,11534425,11,some 0)]⟩,.two (.reg [] [0,1,2] none []) (.two (.reg [] [0,1,2,7] none []) (.two (.two (.reg [] [0,1,2,7,12,13,14] none []) (.blk ⟨[0,1,2,7],[],[(5,142,[.lf li,.lf li,.lf li,.lf li,.lf li,.lf li,.lf li,.lf li,.lf li,.lf li])],[]⟩ (.lp [] ⟨[0,1,2,7,12,13],[(14,.lf li)],[(5,142,[.lf li,.lf li,.lf li,.lf li,.lf li,.lf li,.lf li,.lf li,.lf li,.lf li])],[]⟩ (.two (.reg [] [0,1,2,7,12,13,14,15] none []) (.two (.cond none (.nil) (.nil)) (.two (.thru (.two (.reg [] [0,1,2,7,9,12,13,14] none []) (.reg [] [0,1,2,7,12,13,14] none []))) (.reg [] [0,1,2,7,12,13,14] none []))))))) (.two (.reg [] [0,1,2,7,10,11] none []) (.two (.two (.reg [] [0,1,2,7,10,31] none []) (.cond (some ⟨[],[(10,.lf lb)],[],[(0,11534425,11,some 0)]⟩) (.two (.reg [] [2,7,10] none []) (.reg [] [10] none [])) (.nil))) (.two (.reg [] [6] none []) (.nil)))))))]) (.nil)))]) (.cond (some ⟨[1,5],[(0,.lf (Lf.row 1))],[],[]⟩) (.reg [] [0,1,5] none []) (.nil))))) (.reg [] [0,1,5] none [])))))) (.two (.reg [] [4] none []) (.nil))))]) (.nil))))))))))),⟨[.agg [Lf.row 1,Lf.row 4],.one (Lf.row 1)],[.agg [li,Lf.row 1],.one li]⟩⟩
def aCj:FE:=⟨108,[.tmp 6],.two (.reg [] [1,3,5] none []) (.two (.reg [] [1,5,7,8] none []) (.two (.two (.reg [] [1,5,7,8,20] none []) (.cond none (.two (.reg [] [6] none []) (.nil)) (.nil))) (.two (.reg [] [1,5,9] none [(some 22,⟨[],[],[],[]⟩,.rf (some 7))]) (.two (.two (.reg [] [1,5,9,27,28,29] none []) (.blk ⟨[5,9],[],[],[]⟩ (.lp [] ⟨[1,5,9,27,28],[(29,.lf li)],[],[]⟩ (.two (.reg [] [1,5,9,27,28,29,30] none []) (.two (.cond none (.nil) (.nil)) (.two (.thru (.two (.reg [] [1,5,9,10,11,27,28,29] none []) (.two (.reg [] [] (some ⟨[1,5,9,27,28,29],[(53,.lf lb)],[],[]⟩) []) (.cond none (.two (.reg [] [6] none []) (.nil)) (.nil))))) (.reg [] [1,5,9,27,28,29] none []))))))) (.two (.two (.reg [] [] (some ⟨[5,9],[(77,.lf lb)],[],[(0,11534425,11,some 0)]⟩) [(some 75,⟨[5,9,65],[(75,.lf lb)],[],[(0,11534425,11,some 0)]⟩,.alt 94 (.two (.reg [] [2,3] none []) (.two (.reg [] [4] none [(some 16,⟨[8],[(16,.lf lb)],[],[]⟩,.two (.reg [] [0,1] none []) (.two (.reg [] [4] none [(some 7,⟨[],[(7,.lf li)],[],[]⟩,.two (.reg [] [0,1] none []) (.two (.two (.reg [] [0,1,7,8] none []) (.blk ⟨[],[],[],[]⟩ (.lp [] ⟨[0,1,7],[(8,.lf li)],[],[]⟩ (.two (.reg [] [0,1,7,8,9] none []) (.two (.cond none (.nil) (.nil)) (.two (.thru (.two (.reg [] [0,1,5,7,8] none []) (.two (.reg [] [0,1,5,7,8,16] none [(some 16,⟨[0,1,5,7,8],[(16,.lf lb)],[],[]⟩,.two (.reg [] [0,1,2] none []) (.two (.reg [] [4] none []) (.nil)))]) (.cond none (.two (.reg [] [4] none []) (.nil)) (.nil))))) (.reg [] [0,1,7,8] none []))))))) (.two (.reg [] [4] none []) (.nil))))]) (.nil)))]) (.nil))) (.alt 95 (.two (.reg [] [1,2] none []) (.two (.reg [] [1,2,5] none []) (.two (.two (.reg [] [1,2,5,13,14,15] none []) (.blk ⟨[1,2],[(5,.lf li)],[],[]⟩ (.lp [] ⟨[1,2,13,14],[(5,.lf li),(15,.lf li)],[],[]⟩ (.two (.reg [] [1,2,5,13,14,15,16] none []) (.two (.cond none (.nil) (.nil)) (.two (.thru (.two (.reg [] [1,2,5,7,13,14,15] none []) (.reg [] [1,2,5,13,14,15] none []))) (.reg [] [1,2,5,13,14,15] none []))))))) (.two (.reg [] [4] none []) (.nil))))) (.alt 97 (.two (.reg [] [1,2] none []) (.two (.two (.reg [] [1,2,9,10,11] none []) (.blk ⟨[1,2],[],[],[]⟩ (.lp [] ⟨[1,2,9,10],[(11,.lf li)],[],[]⟩ (.two (.reg [] [1,2,9,10,11,12] none []) (.two (.cond none (.nil) (.nil)) (.two (.thru (.two (.reg [] [1,2,5,6,9,10,11] none []) (.two (.reg [] [1,2,6,9,10,11,18,19,20] none []) (.blk ⟨[1,2,9,10,11],[],[],[]⟩ (.lp [] ⟨[1,2,6,9,10,11,18,19],[(20,.lf li)],[],[]⟩ (.two (.reg [] [1,2,6,9,10,11,18,19,20,21] none []) (.two (.cond none (.nil) (.nil)) (.two (.thru (.two (.reg [] [1,2,6,8,9,10,11,18,19,20] none []) (.two (.reg [] [1,2,6,9,10,11,18,19,20,37] none []) (.cond none (.two (.reg [] [4] none []) (.nil)) (.nil))))) (.reg [] [1,2,6,9,10,11,18,19,20] none []))))))))) (.reg [] [1,2,9,10,11] none []))))))) (.two (.reg [] [4] none []) (.nil)))) (.two (.reg [] [1,2] none []) (.two (.reg [] [4] none [(some 12,⟨[],[(12,.lf lb)],[],[(0,11534425,11,some 0)]⟩,.two (.reg [] [0,1,2] none []) (.two (.reg [] [0,1,2,7] none []) (.two (.two (.reg [] [0,1,2,7,12,13,14] none []) (.blk ⟨[0,1,2,7],[],[(5,142,[.lf li,.lf li,.lf li,.lf li,.lf li,.lf li,.lf li,.lf li,.lf li,.lf li])],[]⟩ (.lp [] ⟨[0,1,2,7,12,13],[(14,.lf li)],[(5,142,[.lf li,.lf li,.lf li,.lf li,.lf li,.lf li,.lf li,.lf li,.lf li,.lf li])],[]⟩ (.two (.reg [] [0,1,2,7,12,13,14,15] none []) (.two (.cond none (.nil) (.nil)) (.two (.thru (.two (.reg [] [0,1,2,7,9,12,13,14] none []) (.reg [] [0,1,2,7,12,13,14] none []))) (.reg [] [0,1,2,7,12,13,14] none []))))))) (.two (.reg [] [0,1,2,7,10,11] none []) (.two (.two (.reg [] [0,1,2,7,10,31] none []) (.cond (some ⟨[],[(10,.lf lb)],[],[(0,11534425,11,some 0)]⟩) (.two (.reg [] [2,7,10] none []) (.reg [] [10] none [])) (.nil))) (.two (.reg [] [6] none []) (.nil)))))))]) (.nil))))))]) (.cond none (.two (.reg [] [6] none []) (.nil)) (.nil))) (.two (.two (.reg [] [] (some ⟨[5,9],[(85,.lf lb)],[],[]⟩) []) (.cond (some ⟨[],[],[],[(0,11534425,11,some 0)]⟩) (.two (.reg [] [5,9,88,89] none []) (.blk ⟨[],[],[],[(0,11534425,11,some 0)]⟩ (.lp [] ⟨[5,9,88],[(89,.lf li)],[],[(0,11534425,11,some 0)]⟩ (.two (.reg [] [5,9,88,89,90] none []) (.two (.cond none (.nil) (.nil)) (.two (.thru (.two (.reg [] [5,9,12,88,89] none []) (.two (.reg [] [5,9,88,89,106] none [(some 106,⟨[5,9,88,89],[(106,.lf lb)],[],[(0,11534425,11,some 0)]⟩,.pre [.fz 1] (.alt 94 (.two (.reg [] [2,3] none []) (.two (.reg [] [4] none [(some 16,⟨[8],[(16,.lf lb)],[],[]⟩,.two (.reg [] [0,1] none []) (.two (.reg [] [4] none [(some 7,⟨[],[(7,.lf li)],[],[]⟩,.two (.reg [] [0,1] none []) (.two (.two (.reg [] [0,1,7,8] none []) (.blk ⟨[],[],[],[]⟩ (.lp [] ⟨[0,1,7],[(8,.lf li)],[],[]⟩ (.two (.reg [] [0,1,7,8,9] none []) (.two (.cond none (.nil) (.nil)) (.two (.thru (.two (.reg [] [0,1,5,7,8] none []) (.two (.reg [] [0,1,5,7,8,16] none [(some 16,⟨[0,1,5,7,8],[(16,.lf lb)],[],[]⟩,.two (.reg [] [0,1,2] none []) (.two (.reg [] [4] none []) (.nil)))]) (.cond none (.two (.reg [] [4] none []) (.nil)) (.nil))))) (.reg [] [0,1,7,8] none []))))))) (.two (.reg [] [4] none []) (.nil))))]) (.nil)))]) (.nil))) (.alt 95 (.two (.reg [] [1,2] none []) (.two (.reg [] [1,2,5] none []) (.two (.two (.reg [] [1,2,5,13,14,15] none []) (.blk ⟨[1,2],[(5,.lf li)],[],[]⟩ (.lp [] ⟨[1,2,13,14],[(5,.lf li),(15,.lf li)],[],[]⟩ (.two (.reg [] [1,2,5,13,14,15,16] none []) (.two (.cond none (.nil) (.nil)) (.two (.thru (.two (.reg [] [1,2,5,7,13,14,15] none []) (.reg [] [1,2,5,13,14,15] none []))) (.reg [] [1,2,5,13,14,15] none []))))))) (.two (.reg [] [4] none []) (.nil))))) (.alt 97 (.two (.reg [] [1,2] none []) (.two (.two (.reg [] [1,2,9,10,11] none []) (.blk ⟨[1,2],[],[],[]⟩ (.lp [] ⟨[1,2,9,10],[(11,.lf li)],[],[]⟩ (.two (.reg [] [1,2,9,10,11,12] none []) (.two (.cond none (.nil) (.nil)) (.two (.thru (.two (.reg [] [1,2,5,6,9,10,11] none []) (.two (.reg [] [1,2,6,9,10,11,18,19,20] none []) (.blk ⟨[1,2,9,10,11],[],[],[]⟩ (.lp [] ⟨[1,2,6,9,10,11,18,19],[(20,.lf li)],[],[]⟩ (.two (.reg [] [1,2,6,9,10,11,18,19,20,21] none []) (.two (.cond none (.nil) (.nil)) (.two (.thru (.two (.reg [] [1,2,6,8,9,10,11,18,19,20] none []) (.two (.reg [] [1,2,6,9,10,11,18,19,20,37] none []) (.cond none (.two (.reg [] [4] none []) (.nil)) (.nil))))) (.reg [] [1,2,6,9,10,11,18,19,20] none []))))))))) (.reg [] [1,2,9,10,11] none []))))))) (.two (.reg [] [4] none []) (.nil)))) (.two (.reg [] [1,2] none []) (.two (.reg [] [4] none [(some 12,⟨[],[(12,.lf lb)],[],[(0,11534425,11,some 0)]⟩,.two (.reg [] [0,1,2] none []) (.two (.reg [] [0,1,2,7] none []) (.two (.two (.reg [] [0,1,2,7,12,13,14] none []) (.blk ⟨[0,1,2,7],[],[(5,142,[.lf li,.lf li,.lf li,.lf li,.lf li,.lf li,.lf li,.lf li,.lf li,.lf li])],[]⟩ (.lp [] ⟨[0,1,2,7,12,13],[(14,.lf li)],[(5,142,[.lf li,.lf li,.lf li,.lf li,.lf li,.lf li,.lf li,.lf li,.lf li,.lf li])],[]⟩ (.two (.reg [] [0,1,2,7,12,13,14,15] none []) (.two (.cond none (.nil) (.nil)) (.two (.thru (.two (.reg [] [0,1,2,7,9,12,13,14] none []) (.reg [] [0,1,2,7,12,13,14] none []))) (.reg [] [0,1,2,7,12,13,14] none []))))))) (.two (.reg [] [0,1,2,7,10,11] none []) (.two (.two (.reg [] [0,1,2,7,10,31] none []) (.cond (some ⟨[],[(10,.lf lb)],[],[(0,11534425,11,some 0)]⟩) (.two (.reg [] [2,7,10] none []) (.reg [] [10] none [])) (.nil))) (.two (.reg [] [6] none []) (.nil)))))))]) (.nil)))))))]) (.cond none (.two (.reg [] [6] none []) (.nil)) (.nil))))) (.reg [] [5,9,88,89] none []))))))) (.nil))) (.two (.reg [] [6] none []) (.nil)))))))),⟨[.agg [Lf.row 1,Lf.row 4],.one (Lf.row 1),.agg [li,Lf.row 1]],[.one li]⟩⟩
def aCk:FE:=⟨26,[.tmp 6,.tmp 7],.two (.reg [] [1,2,3] none []) (.two (.reg [] [9,10] none []) (.two (.two (.reg [] [9,10,20] none []) (.cond none (.two (.reg [] [6,7] none []) (.nil)) (.nil))) (.two (.reg [] [6,7] none [(some 22,⟨[],[],[],[]⟩,.rf (some 9))]) (.nil)))),⟨[.agg [Lf.row 1,Lf.row 4],.one (Lf.row 1),.one (Lf.row 1)],[.one (Lf.row 1),.one li]⟩⟩
def aCl:FE:=⟨22,[.cell 4 37,.tmp 5],.two (.reg [] [1,2,4] none []) (.two (.two (.reg [] [1,4,9,10,11] none []) (.blk ⟨[4],[],[(1,37,[.lf li,.lf li,.lf li,.lf li])],[]⟩ (.lp [] ⟨[1,4,9,10],[(11,.lf li)],[(1,37,[.lf li,.lf li,.lf li,.lf li])],[]⟩ (.two (.reg [] [1,4,9,10,11,12] none []) (.two (.cond none (.nil) (.nil)) (.two (.thru (.two (.reg [] [1,4,7,9,10,11] none []) (.two (.reg [] [1,4,7,9,10,11,18] none []) (.cond none (.two (.reg [] [4,5] none []) (.nil)) (.nil))))) (.reg [] [1,4,9,10,11] none []))))))) (.two (.reg [] [4,5] none []) (.nil))),⟨[.agg [Lf.row 1,Lf.row 4],.one li],[.agg [li,li,li,li],.one lb]⟩⟩
def aCm:FE:=⟨15,[.tmp 6],.two (.reg [] [0,1,2] none []) (.two (.reg [] [6] none []) (.nil)),⟨[.one li,.one li,.one li],[.one lb]⟩⟩
def aCn:FE:=⟨8,[.cell 0 25],.two (.reg [] [0] none []) (.two (.reg [] [0] none []) (.nil)),⟨[],[.agg [Lf.row 1,Lf.row 4]]⟩⟩
def aCo:FE:=⟨24,[.tmp 4,.tmp 5],.two (.reg [] [1,2] none []) (.two (.two (.reg [] [1,2,6] none []) (.two (.reg [] [1,2,6,11] none []) (.cond none (.two (.reg [] [4,5] none []) (.nil)) (.nil)))) (.two (.reg [] [1,7] none []) (.two (.two (.reg [] [] (some ⟨[7],[(22,.lf lb)],[],[]⟩) []) (.cond none (.two (.reg [] [4,5] none []) (.nil)) (.nil))) (.two (.reg [] [4,5] none []) (.nil))))),⟨[.agg [Lf.row 1,Lf.row 4],.one (Lf.row 3)],[.one Lf.raw,.one li]⟩⟩
def aCp:FE:=⟨15,[.tmp 6],.two (.reg [] [0,1,2] none []) (.two (.reg [] [6] none []) (.nil)),⟨[.one li,.one li,.one li],[.one lb]⟩⟩
def aCq:FE:=⟨45,[.tmp 6],.two (.reg [] [0,1,2] none []) (.two (.reg [] [0,1,2,7] none []) (.two (.two (.reg [] [0,2,7,11,12,13] none []) (.blk ⟨[],[(7,.lf li)],[],[]⟩ (.lp [] ⟨[0,2,11,12],[(7,.lf li),(13,.lf li)],[],[]⟩ (.two (.reg [] [0,2,7,11,12,13,14] none []) (.two (.cond none (.nil) (.nil)) (.two (.thru (.two (.reg [] [0,2,7,9,11,12,13] none []) (.two (.reg [] [0,2,7,9,10,11,12,13] none []) (.two (.two (.reg [] [0,2,7,9,10,11,12,13,20] none []) (.cond (some ⟨[0,2,7,9,11,12,13],[(10,.lf li)],[],[]⟩) (.reg [] [0,2,7,9,10,11,12,13] none []) (.nil))) (.reg [] [0,2,7,11,12,13] none []))))) (.reg [] [0,2,7,11,12,13] none []))))))) (.two (.reg [] [6] none []) (.nil)))),⟨[.one Lf.ref,.one (Lf.row 3),.one li],[.one li]⟩⟩
def aCr:FE:=⟨36,[.tmp 4],.two (.reg [] [0,1] none []) (.two (.reg [] [0,1,5] none []) (.two (.two (.reg [] [1,5,8,9,10] none []) (.blk ⟨[],[(5,.own 0)],[],[(0,3,1,none)]⟩ (.lp [.mk 5 3 1] ⟨[1,8,9],[(5,.own 0),(10,.lf li)],[],[(0,3,1,none)]⟩ (.two (.reg [] [1,5,8,9,10,11] none []) (.two (.cond none (.nil) (.nil)) (.two (.thru (.two (.reg [] [1,5,6,7,8,9,10] none []) (.two (.reg [] [] (some ⟨[1,5,6,8,9,10],[(29,.lf lb)],[],[]⟩) []) (.cond (some ⟨[1,8,9,10],[(5,.own 0)],[],[(0,3,1,none)]⟩) (.reg [] [1,5,8,9,10] none []) (.nil))))) (.reg [] [1,5,8,9,10] none []))))))) (.two (.reg [] [4] none []) (.nil)))),⟨[.one (Lf.row 3),.one li],[.one (Lf.row 1)]⟩⟩
def aCs:FE:=⟨20,[.tmp 4,.tmp 5],.two (.reg [] [1,2] none []) (.two (.two (.reg [] [1,2,6] none []) (.two (.reg [] [1,2,6,11] none []) (.cond none (.two (.reg [] [4,5] none []) (.nil)) (.nil)))) (.two (.reg [] [1,7] none []) (.two (.two (.reg [] [7,18] none []) (.cond none (.two (.reg [] [4,5] none []) (.nil)) (.nil))) (.two (.reg [] [4,5] none []) (.nil))))),⟨[.agg [Lf.row 1,Lf.row 4],.one (Lf.row 1)],[.one Lf.raw,.one li]⟩⟩
def aCt:FE:=⟨6,[.tmp 4],.two (.reg [] [2,3] none []) (.two (.reg [] [4] none []) (.nil)),⟨[.one Lf.ref,.one (Lf.row 1)],[.one Lf.raw]⟩⟩
def aCu:FE:=⟨19,[.cell 6 22,.cell 7 4],.two (.reg [] [0,1,5,6,7] none []) (.two (.two (.reg [] [5,6,7,11] none []) (.rg (.lent 3 1) ⟨[5,6,7,11],[],[(0,3,[.lf li]),(1,22,[.lf (Lf.row 1)]),(2,4,[.lf lb])],[]⟩ (.reg [] [5,6,7,8] none []) (.thru (.two (.two (.reg [] [5,6,7,8,14] none []) (.cond none (.two (.reg [] [6,7] none [(some 16,⟨[6,7],[(16,.own 1)],[],[(1,3,1,none)]⟩,.two (.reg [] [0] none []) (.two (.two (.reg [] [0,4] none []) (.cond none (.two (.reg [] [2] none []) (.rt [.mk 2 3 1])) (.nil))) (.two (.reg [] [2] none []) (.nil))))]) (.nil)) (.nil))) (.reg [] [] none []))))) (.two (.reg [] [6,7] none []) (.nil))),⟨[.one Lf.ref,.one (Lf.row 1),.one li],[.one (Lf.row 1),.one lb]⟩⟩
def aCv:FE:=⟨81,[.tmp 6,.tmp 7],.two (.reg [] [0,1,2] none []) (.two (.reg [] [0,1,2,8] none [(some 12,⟨[0,1,2],[(12,.ptr 0 0)],[(0,133,[.own 0,.own 1])],[(0,3,1,none),(1,3,1,none)]⟩,.two (.reg [] [0] none []) (.two (.reg [] [0,3] none []) (.two (.reg [] [0,3] none []) (.two (.reg [] [2] none []) (.nil)))))]) (.two (.two (.reg [] [0,1,2,8,17] none []) (.cond none (.two (.reg [] [6,7] none []) (.nil)) (.nil))) (.two (.two (.reg [] [0,1,8,18,19,20] none []) (.blk ⟨[8],[],[],[(0,3,1,some 0),(1,3,1,some 0)]⟩ (.lp [] ⟨[0,1,8,18,19],[(20,.lf li)],[],[(0,3,1,some 0),(1,3,1,some 0)]⟩ (.two (.reg [] [0,1,8,18,19,20,21] none []) (.two (.cond none (.nil) (.nil)) (.two (.thru (.two (.reg [] [0,1,8,9,10,18,19,20] none []) (.two (.two (.reg [] [] (some ⟨[0,1,8,9,10,18,19,20],[(45,.lf lb)],[],[]⟩) [(some 43,⟨[0,1,8,9,10,18,19,20,35],[(43,.lf lb)],[],[]⟩,.two (.reg [] [0,1,2,3] none []) (.two (.reg [] [8] none []) (.nil)))]) (.cond none (.two (.reg [] [6,7] none []) (.nil)) (.nil))) (.two (.reg [] [0,1,8,9,10,18,19,20] none []) (.reg [] [0,1,8,18,19,20] none []))))) (.reg [] [0,1,8,18,19,20] none []))))))) (.two (.reg [] [6,7] none []) (.rt [.fz 0,.fz 1,.fb 0]))))),⟨[.one Lf.ref,.one (Lf.row 1),.one (Lf.row 1)],[.one Lf.raw,.one lb]⟩⟩
def aCw:FE:=⟨33,[.tmp 6,.tmp 7,.tmp 8],.two (.reg [] [1,2,3] none []) (.two (.reg [] [1,2,9,10] none []) (.two (.two (.reg [] [1,2,9,10,20] none []) (.cond none (.two (.reg [] [6,7,8] none []) (.nil)) (.nil))) (.two (.reg [] [9,11,12] none [(some 23,⟨[],[],[],[]⟩,.rf (some 9))]) (.two (.two (.reg [] [9,11,30] none []) (.cond none (.two (.reg [] [6,7,8] none []) (.nil)) (.nil))) (.two (.reg [] [6,7,8] none [(some 32,⟨[],[],[],[]⟩,.rf (some 11))]) (.nil)))))),⟨[.agg [Lf.row 1,Lf.row 4],.one (Lf.row 1),.one (Lf.row 1)],[.one Lf.raw,.one Lf.raw,.one li]⟩⟩
def aCx:FE:=⟨18,[.tmp 4],.two (.reg [] [0,1] none []) (.two (.reg [] [4] none []) (.nil)),⟨[.one Lf.ref,.one li],[.one lb]⟩⟩
def aCy:FE:=⟨41,[.tmp 8],.two (.reg [] [0,1,2,3] none []) (.two (.reg [] [8] none []) (.nil)),⟨[.one Lf.ref,.one Lf.ref,.one li,.one li],[.one lb]⟩⟩
def aCz:FE:=⟨25,[.tmp 4],.two (.reg [] [0,1] none []) (.two (.reg [] [0,1,5] none []) (.two (.two (.reg [] [0,5,8,9,10] none []) (.blk ⟨[],[(5,.lf li)],[],[]⟩ (.lp [] ⟨[0,8,9],[(5,.lf li),(10,.lf li)],[],[]⟩ (.two (.reg [] [0,5,8,9,10,11] none []) (.two (.cond none (.nil) (.nil)) (.two (.thru (.two (.reg [] [0,5,7,8,9,10] none []) (.reg [] [0,5,8,9,10] none []))) (.reg [] [0,5,8,9,10] none []))))))) (.two (.reg [] [4] none []) (.nil)))),⟨[.one Lf.ref,.one (Lf.row 1)],[.one li]⟩⟩
def aCA:FE:=⟨62,[.tmp 2],.two (.reg [] [1] none []) (.two (.reg [] [1,3] none []) (.two (.two (.reg [] [3,11,12,13] none []) (.blk ⟨[3],[],[(1,102,[.lf (Lf.row 1),.lf (Lf.row 4),.lf li,.lf li,.lf li,.lf li,.lf li,.lf li,.lf li,.lf li,.lf li,.lf li,.lf li,.lf li,.lf li,.lf li,.lf li,.lf li,.lf li,.lf li,.lf li,.lf li,.lf li,.lf li,.lf li,.lf li,.lf li,.lf li,.lf li,.lf li,.lf li,.lf li,.lf li,.lf li,.lf li,.lf li,.lf li,.lf li,.lf li,.lf li,.lf li,.lf li,.lf li,.lf li,.lf li,.lf li,.lf li,.lf li,.lf li,.lf li,.lf li,.lf li])],[]⟩ (.lp [] ⟨[3,11,12],[(13,.lf li)],[(1,102,[.lf (Lf.row 1),.lf (Lf.row 4),.lf li,.lf li,.lf li,.lf li,.lf li,.lf li,.lf li,.lf li,.lf li,.lf li,.lf li,.lf li,.lf li,.lf li,.lf li,.lf li,.lf li,.lf li,.lf li,.lf li,.lf li,.lf li,.lf li,.lf li,.lf li,.lf li,.lf li,.lf li,.lf li,.lf li,.lf li,.lf li,.lf li,.lf li,.lf li,.lf li,.lf li,.lf li,.lf li,.lf li,.lf li,.lf li,.lf li,.lf li,.lf li,.lf li,.lf li,.lf li,.lf li,.lf li])],[]⟩ (.two (.reg [] [3,11,12,13,14] none []) (.two (.cond none (.nil) (.nil)) (.two (.thru (.two (.reg [] [3,5,11,12,13] none []) (.two (.reg [] [] (some ⟨[3,5,11,12,13],[],[(1,102,[.lf (Lf.row 1),.lf (Lf.row 4),.lf li,.lf li,.lf li,.lf li,.lf li,.lf li,.lf li,.lf li,.lf li,.lf li,.lf li,.lf li,.lf li,.lf li,.lf li,.lf li,.lf li,.lf li,.lf li,.lf li,.lf li,.lf li,.lf li,.lf li,.lf li,.lf li,.lf li,.lf li,.lf li,.lf li,.lf li,.lf li,.lf li,.lf li,.lf li,.lf li,.lf li,.lf li,.lf li,.lf li,.lf li,.lf li,.lf li,.lf li,.lf li,.lf li,.lf li,.lf li,.lf li,.lf li])],[]⟩) []) (.two (.reg [] [3,5,11,12,13,24] none []) (.blk ⟨[3,11,12,13],[],[(1,102,[.lf (Lf.row 1),.lf (Lf.row 4),.lf li,.lf li,.lf li,.lf li,.lf li,.lf li,.lf li,.lf li,.lf li,.lf li,.lf li,.lf li,.lf li,.lf li,.lf li,.lf li,.lf li,.lf li,.lf li,.lf li,.lf li,.lf li,.lf li,.lf li,.lf li,.lf li,.lf li,.lf li,.lf li,.lf li,.lf li,.lf li,.lf li,.lf li,.lf li,.lf li,.lf li,.lf li,.lf li,.lf li,.lf li,.lf li,.lf li,.lf li,.lf li,.lf li,.lf li,.lf li,.lf li,.lf li])],[]⟩ (.lp [] ⟨[3,5,11,12,13],[(24,.lf li)],[(1,102,[.lf (Lf.row 1),.lf (Lf.row 4),.lf li,.lf li,.lf li,.lf li,.lf li,.lf li,.lf li,.lf li,.lf li,.lf li,.lf li,.lf li,.lf li,.lf li,.lf li,.lf li,.lf li,.lf li,.lf li,.lf li,.lf li,.lf li,.lf li,.lf li,.lf li,.lf li,.lf li,.lf li,.lf li,.lf li,.lf li,.lf li,.lf li,.lf li,.lf li,.lf li,.lf li,.lf li,.lf li,.lf li,.lf li,.lf li,.lf li,.lf li,.lf li,.lf li,.lf li,.lf li,.lf li,.lf li])],[]⟩ (.two (.reg [] [3,5,11,12,13,24,25] none []) (.two (.cond none (.nil) (.nil)) (.two (.thru (.two (.reg [] [3,5,6,11,12,13,24] none []) (.two (.reg [] [3,5,6,11,12,13,24,32] none []) (.cond (some ⟨[3,5,11,12,13,24],[],[(1,102,[.lf (Lf.row 1),.lf (Lf.row 4),.lf li,.lf li,.lf li,.lf li,.lf li,.lf li,.lf li,.lf li,.lf li,.lf li,.lf li,.lf li,.lf li,.lf li,.lf li,.lf li,.lf li,.lf li,.lf li,.lf li,.lf li,.lf li,.lf li,.lf li,.lf li,.lf li,.lf li,.lf li,.lf li,.lf li,.lf li,.lf li,.lf li,.lf li,.lf li,.lf li,.lf li,.lf li,.lf li,.lf li,.lf li,.lf li,.lf li,.lf li,.lf li,.lf li,.lf li,.lf li,.lf li,.lf li])],[]⟩) (.two (.reg [] [] (some ⟨[3,5,6,11,12,13,24],[],[(1,102,[.lf (Lf.row 1),.lf (Lf.row 4),.lf li,.lf li,.lf li,.lf li,.lf li,.lf li,.lf li,.lf li,.lf li,.lf li,.lf li,.lf li,.lf li,.lf li,.lf li,.lf li,.lf li,.lf li,.lf li,.lf li,.lf li,.lf li,.lf li,.lf li,.lf li,.lf li,.lf li,.lf li,.lf li,.lf li,.lf li,.lf li,.lf li,.lf li,.lf li,.lf li,.lf li,.lf li,.lf li,.lf li,.lf li,.lf li,.lf li,.lf li,.lf li,.lf li,.lf li,.lf li,.lf li,.lf li])],[]⟩) []) (.reg [] [] (some ⟨[3,5,11,12,13,24],[],[(1,102,[.lf (Lf.row 1),.lf (Lf.row 4),.lf li,.lf li,.lf li,.lf li,.lf li,.lf li,.lf li,.lf li,.lf li,.lf li,.lf li,.lf li,.lf li,.lf li,.lf li,.lf li,.lf li,.lf li,.lf li,.lf li,.lf li,.lf li,.lf li,.lf li,.lf li,.lf li,.lf li,.lf li,.lf li,.lf li,.lf li,.lf li,.lf li,.lf li,.lf li,.lf li,.lf li,.lf li,.lf li,.lf li,.lf li,.lf li,.lf li,.lf li,.lf li,.lf li,.lf li,.lf li,.lf li,.lf li])],[]⟩) [])) (.nil))))) (.reg [] [3,5,11,12,13,24] none [])))))))))) (.reg [] [3,11,12,13] none []))))))) (.two (.reg [] [2] none []) (.nil)))),⟨[.agg [Lf.row 1,Lf.row 4]],[.one Lf.ref]⟩⟩
def aCB:FE:=⟨17,[.tmp 6],.two (.reg [] [0,1,2] none []) (.two (.reg [] [6] none []) (.nil)),⟨[.one Lf.ref,.one li,.one li],[.one lb]⟩⟩
def aCC:FE:=⟨9,[.tmp 4],.two (.reg [] [0,1] none []) (.two (.reg [] [4] none []) (.nil)),⟨[.one (Lf.row 1),.one Lf.raw],[.one lb]⟩⟩
def aCD:FE:=⟨6,[.tmp 2],.two (.reg [] [0] none []) (.two (.reg [] [2] none []) (.nil)),⟨[.one li],[.one lb]⟩⟩
def aCE:FE:=⟨27,[.tmp 2],.two (.reg [] [1] none []) (.two (.reg [] [2] none []) (.nil)),⟨[.agg [li,li,li,li]],[.one lb]⟩⟩
def aCF:FE:=⟨6,[.tmp 4],.two (.reg [] [2,3] none []) (.two (.reg [] [4] none []) (.nil)),⟨[.one li,.one li],[.one Lf.raw]⟩⟩
def aAv:FE:=⟨9,[.tmp 4],.two (.reg [] [0,1] none []) (.two (.reg [] [4] none []) (.nil)),⟨[.one (Lf.row 3),.one Lf.raw],[.one lb]⟩⟩
def aAw:FE:=⟨8,[.tmp 3],.two (.reg [] [1,2] none []) (.two (.reg [] [3] none [(some 4,⟨[],[],[],[]⟩,.rf none)]) (.nil)),⟨[.agg [li,li,li],.one Lf.ref],[.one lb]⟩⟩
def aAx:FE:=⟨26,[.tmp 4],.two (.reg [] [0,3] none []) (.two (.reg [] [4] none []) (.nil)),⟨[.one Lf.ref,.agg [li,li,li]],[.one lb]⟩⟩
def aAy:FE:=⟨14,[.tmp 4],.two (.reg [] [1,2] none []) (.two (.reg [] [4] none []) (.nil)),⟨[.one Lf.ref,.one (Lf.row 1)],[.one lb]⟩⟩
def aAz:FE:=⟨19,[.tmp 4],.two (.reg [] [0,1] none []) (.two (.two (.reg [] [0,1,7,8] none []) (.blk ⟨[],[],[],[]⟩ (.lp [] ⟨[0,1,7],[(8,.lf li)],[],[]⟩ (.two (.reg [] [0,1,7,8,9] none []) (.two (.cond none (.nil) (.nil)) (.two (.thru (.two (.reg [] [0,1,5,7,8] none []) (.two (.reg [] [0,1,5,7,8,16] none []) (.cond none (.two (.reg [] [4] none []) (.nil)) (.nil))))) (.reg [] [0,1,7,8] none []))))))) (.two (.reg [] [4] none []) (.nil))),⟨[.one (Lf.row 1),.one Lf.raw],[.one li]⟩⟩
def aAA:FE:=⟨24,[.tmp 4],.two (.reg [] [1,2] none []) (.two (.reg [] [1,2,5] none []) (.two (.two (.reg [] [2,5,8,9,10] none []) (.blk ⟨[],[(5,.own 0)],[],[(0,3,1,none)]⟩ (.lp [.mk 5 3 1] ⟨[2,8,9],[(5,.own 0),(10,.lf li)],[],[(0,3,1,none)]⟩ (.two (.reg [] [2,5,8,9,10,11] none []) (.two (.cond none (.nil) (.nil)) (.two (.thru (.two (.reg [] [2,5,7,8,9,10] none []) (.reg [] [2,5,8,9,10] none []))) (.reg [] [2,5,8,9,10] none []))))))) (.two (.reg [] [4] none []) (.nil)))),⟨[.agg [Lf.raw,Lf.row 1,Lf.raw],.one (Lf.row 1)],[.one (Lf.row 1)]⟩⟩
def aAB:FE:=⟨19,[.tmp 4],.two (.reg [] [0,1] none []) (.two (.two (.reg [] [0,1,7,8] none []) (.blk ⟨[],[],[],[]⟩ (.lp [] ⟨[0,1,7],[(8,.lf li)],[],[]⟩ (.two (.reg [] [0,1,7,8,9] none []) (.two (.cond none (.nil) (.nil)) (.two (.thru (.two (.reg [] [0,1,5,7,8] none []) (.two (.reg [] [0,1,5,7,8,16] none []) (.cond none (.two (.reg [] [4] none []) (.nil)) (.nil))))) (.reg [] [0,1,7,8] none []))))))) (.two (.reg [] [4] none []) (.nil))),⟨[.one (Lf.row 3),.one Lf.raw],[.one li]⟩⟩
def aAC:FE:=⟨8,[.tmp 3],.two (.reg [] [0,1] none []) (.two (.reg [] [3] none [(some 4,⟨[],[],[],[]⟩,.rf none)]) (.nil)),⟨[.one li,.one Lf.ref],[.one lb]⟩⟩
def aBl:FE:=⟨8,[.tmp 2],.two (.reg [] [0] none []) (.two (.two (.reg [] [0,4] none []) (.cond none (.two (.reg [] [2] none []) (.rt [.mk 2 3 1])) (.nil))) (.two (.reg [] [2] none []) (.nil))),⟨[.one (Lf.row 1)],[.one (Lf.row 1)]⟩⟩
noncomputable def tb:List (Nat×FE×Code):=[(3,fe3,aA Try.f3),(12,aBk,aA Try.f12),(14,aB0,aA Try.f14),(15,aB1,aA Try.f15),(16,aB2,aA Try.f16),(17,aB3,aA Try.f17),(18,aB4,aA Try.f18),(19,aB5,aA Try.f19),(20,aB6,aA Try.f20),(21,aB7,aA Try.f21),(22,aB8,aA Try.f22),(23,aB9,aA Try.f23),(24,aCa,aA Try.f24),(25,aCb,aA Try.f25),(26,aCc,aA Try.f26),(33,aCd,aA Try.f33),(40,aCe,aA Try.f40),(45,aCf,aA Try.f45),(46,aCg,aA Try.f46),(48,aCh,aA Try.f48),(49,aCi,aA Try.f49),(52,aCj,aA Try.f52),(54,aCk,aA Try.f54),(63,aCl,aA Try.f63),(64,aCm,aA Try.f64),(65,aCn,aA Try.f65),(66,aCo,aA Try.f66),(67,aCp,aA Try.f67),(68,aCq,aA Try.f68),(69,aCr,aA Try.f69),(72,aCs,aA Try.f72),(73,aCt,aA Try.f73),(74,aCu,aA Try.f74),(75,aCv,aA Try.f75),(81,aCw,aA Try.f81),(83,aCx,aA Try.f83),(84,aCy,aA Try.f84),(85,aCz,aA Try.f85),(87,aCA,aA Try.f87),(88,aCB,aA Try.f88),(90,aCC,aA Try.f90),(91,aCD,aA Try.f91),(92,aCE,aA Try.f92),(93,aCF,aA Try.f93),(110,aAv,aA Try.f110),(111,aAw,aA Try.f111),(112,aAx,aA Try.f112),(115,aAy,aA Try.f115),(120,aAz,aA Try.f120),(124,aAA,aA Try.f124),(128,aAB,aA Try.f128),(140,aAC,aA Try.f140)]
noncomputable abbrev sg:FuncId→Option Sig:=tR tb
end Go.Proofs.Ythkfohoccnnphaa
namespace Go.Proofs.Ythkfohoccnnphaa
open Go Go.Sx
abbrev kK:Nat:=12
abbrev eV:Nat:=15
abbrev nM:Nat:=17
abbrev nN:Nat:=19
abbrev qH:Nat:=20
abbrev kO:Nat:=22
abbrev nO:Nat:=23
abbrev kL:Nat:=24
abbrev eW:Nat:=25
abbrev lW:Nat:=26
abbrev dP:Nat:=33
abbrev uD:Nat:=40
abbrev fJ:Nat:=45
abbrev iR:Nat:=46
abbrev gY:Nat:=48
abbrev eX:Nat:=49
abbrev dQ:Nat:=52
abbrev qI:Nat:=54
abbrev qJ:Nat:=63
abbrev dR:Nat:=64
abbrev lX:Nat:=65
abbrev iB:Nat:=66
abbrev dD:Nat:=67
abbrev bV:Nat:=68
abbrev vJ:Nat:=69
abbrev fX:Nat:=72
abbrev dS:Nat:=73
abbrev dT:Nat:=74
abbrev cY:Nat:=75
abbrev iZ:Nat:=81
abbrev cM:Nat:=83
abbrev eM:Nat:=84
abbrev iT:Nat:=85
abbrev gK:Nat:=87
abbrev iK:Nat:=88
abbrev bN:Nat:=90
abbrev bR:Nat:=91
abbrev lY:Nat:=92
abbrev vK:Nat:=93
abbrev cN:Nat:=110
abbrev cH:Nat:=111
abbrev eB:Nat:=112
abbrev dE:Nat:=115
abbrev mT:Nat:=116
abbrev dU:Nat:=120
abbrev zF:Nat:=121
abbrev mP:Nat:=124
abbrev dF:Nat:=128
abbrev aY:Nat:=140
end Go.Proofs.Ythkfohoccnnphaa
namespace Go.Proofs.Ythkfohoccnnphaa
open Go Go.Sx
abbrev ITS:=List (Nat×(List CV→Option (List CV)))
noncomputable def D (its:ITS) (n:Nat):Den:=den Try.prog tb its n
end Go.Proofs.Ythkfohoccnnphaa
namespace Go.Proofs.Ythkfohoccnnphaa
open Go Go.Sx
set_option maxRecDepth 100000
section
theorem ZD {t:List AV} {B:List Box} {V:List Vec} {a b c:AV}:bJ Try.prog ⟨t,B++[Box.mk true 122 [a,b,c]],V⟩ 122 (.ptr B.length 0)=some (.agg [a,b,c]):=by
 have h:(bE Try.prog 122).map (fun t=>(t.size,t.kind))=some (3,.strct [(0,1),(1,1),(2,1)]):=by kernel_rfl
 cases ht:bE Try.prog 122 with
 | none=>rw [ht] at h;cases h
 | some ti =>
  rw [ht] at h
  simp only [Option.map_some,Option.some.injEq,Prod.mk.injEq] at h
  unfold bJ
  rw [ht]
  simp [h.1,h.2,TK.agg]
variable [G:Ghost]
def bm (g:FuncId) (x:AV):AV:=.fn g [.gd [false] .any,x]
theorem aBm:KY Try.prog 104 124 [94,95,97,98]:=by
 intro a b c B V ho
 refine CallP.drop1 (b0:=⟨true,122,[a,b,c]⟩) (fun nB vs h=>?_) ?_
 ·simp only [AV.scos,AV.sco,and_true] at h
  simp only [rH,List.map_cons,List.map_nil,AV.scos,AV.sco,true_and,and_true]
  exact ⟨h,h,h,h⟩
 refine uT (fn:=Try.f104) (c:=aA Try.f104) (by kernel_rfl) (by kernel_rfl) fun F n hF=>?_
 generalize hX:AV.agg [a,b,c]=X
 have hbox:∀ t,pA ⟨t,B,V⟩ 122 X=some (.ptr B.length 0,B++[Box.mk true 122 [a,b,c]],V):=by
  intro t
  subst hX
  unfold pA
  simp only [AV.cells]
  rw [if_pos ho]
 have hld:∀ t,bJ Try.prog ⟨t,B++[Box.mk true 122 [a,b,c]],V⟩ 122 (.ptr B.length 0)=some X:=by
  intro t;subst hX;exact ZD
 have hbb:∀ t,jR Try.prog ⟨t,B++[Box.mk true 122 [a,b,c]],V⟩ 130 4 [(0,bm 94 X),(1,bm 95 X),(2,bm 97 X),(3,bm 98 X)]=some (.slb 4 (B++[Box.mk true 122 [a,b,c]]).length 0,B++[Box.mk true 122 [a,b,c]]++[Box.mk true 124 [bm 94 X,bm 95 X,bm 97 X,bm 98 X]],V):=by
  intro t;kernel_rfl
 generalize hB1:B++[Box.mk true 122 [a,b,c]]=B1 at *
 refine NH (xR ?_)
 change bO F n Try.prog _ _ ⟨[X,.any,.any,.any,.any,.any,.any,.any,.any,.any,.any,.any],B,V⟩ _
 refine stepW (av:=.ptr B.length 0) (B':=B1) (V':=V) (st':=⟨[X,.ptr B.length 0,.any,.any,.any,.any,.any,.any,.any,.any,.any,.any],B1,V⟩) hF rfl ?_ rfl ?_
 ·show (pA _ _ _)=_;exact hbox _
 refine stepW (av:=.cv (.val (.slice none 0 0))) (B':=B1) (V':=V) (st':=⟨[X,.ptr B.length 0,.cv (.val (.slice none 0 0)),.any,.any,.any,.any,.any,.any,.any,.any,.any],B1,V⟩) hF rfl ?_ rfl ?_
 ·rfl
 refine qZ (NH (xR ?_))
 refine stepW (av:=X) (B':=B1) (V':=V) (st':=⟨[X,.ptr B.length 0,.cv (.val (.slice none 0 0)),X,.any,.any,.any,.any,.any,.any,.any,.any],B1,V⟩) hF rfl ?_ rfl ?_
 ·show Option.map _ (bJ Try.prog ⟨[X,.ptr B.length 0,.cv (.val (.slice none 0 0)),.any,.any,.any,.any,.any,.any,.any,.any,.any],B1,V⟩ 122 (.ptr B.length 0))=_;rw [hld];rfl
 refine stepW (av:=bm 94 X) (B':=B1) (V':=V) (st':=⟨[X,.ptr B.length 0,.cv (.val (.slice none 0 0)),X,bm 94 X,.any,.any,.any,.any,.any,.any,.any],B1,V⟩) hF rfl ?_ rfl ?_
 ·kernel_rfl
 refine stepW (av:=X) (B':=B1) (V':=V) (st':=⟨[X,.ptr B.length 0,.cv (.val (.slice none 0 0)),X,bm 94 X,X,.any,.any,.any,.any,.any,.any],B1,V⟩) hF rfl ?_ rfl ?_
 ·show Option.map _ (bJ Try.prog ⟨[X,.ptr B.length 0,.cv (.val (.slice none 0 0)),X,bm 94 X,.any,.any,.any,.any,.any,.any,.any],B1,V⟩ 122 (.ptr B.length 0))=_;rw [hld];rfl
 refine stepW (av:=bm 95 X) (B':=B1) (V':=V) (st':=⟨[X,.ptr B.length 0,.cv (.val (.slice none 0 0)),X,bm 94 X,X,bm 95 X,.any,.any,.any,.any,.any],B1,V⟩) hF rfl ?_ rfl ?_
 ·kernel_rfl
 refine stepW (av:=X) (B':=B1) (V':=V) (st':=⟨[X,.ptr B.length 0,.cv (.val (.slice none 0 0)),X,bm 94 X,X,bm 95 X,X,.any,.any,.any,.any],B1,V⟩) hF rfl ?_ rfl ?_
 ·show Option.map _ (bJ Try.prog ⟨[X,.ptr B.length 0,.cv (.val (.slice none 0 0)),X,bm 94 X,X,bm 95 X,.any,.any,.any,.any,.any],B1,V⟩ 122 (.ptr B.length 0))=_;rw [hld];rfl
 refine stepW (av:=bm 97 X) (B':=B1) (V':=V) (st':=⟨[X,.ptr B.length 0,.cv (.val (.slice none 0 0)),X,bm 94 X,X,bm 95 X,X,bm 97 X,.any,.any,.any],B1,V⟩) hF rfl ?_ rfl ?_
 ·kernel_rfl
 refine stepW (av:=X) (B':=B1) (V':=V) (st':=⟨[X,.ptr B.length 0,.cv (.val (.slice none 0 0)),X,bm 94 X,X,bm 95 X,X,bm 97 X,X,.any,.any],B1,V⟩) hF rfl ?_ rfl ?_
 ·show Option.map _ (bJ Try.prog ⟨[X,.ptr B.length 0,.cv (.val (.slice none 0 0)),X,bm 94 X,X,bm 95 X,X,bm 97 X,.any,.any,.any],B1,V⟩ 122 (.ptr B.length 0))=_;rw [hld];rfl
 refine stepW (av:=bm 98 X) (B':=B1) (V':=V) (st':=⟨[X,.ptr B.length 0,.cv (.val (.slice none 0 0)),X,bm 94 X,X,bm 95 X,X,bm 97 X,X,bm 98 X,.any],B1,V⟩) hF rfl ?_ rfl ?_
 ·kernel_rfl
 refine aBW (av:=(.slb 4 B1.length 0)) (B':=(B1++[Box.mk true 124 [bm 94 X,bm 95 X,bm 97 X,bm 98 X]])) (V':=V) (st':=⟨[X,.ptr B.length 0,.cv (.val (.slice none 0 0)),X,bm 94 X,X,bm 95 X,X,bm 97 X,X,bm 98 X,(.slb 4 B1.length 0)],(B1++[Box.mk true 124 [bm 94 X,bm 95 X,bm 97 X,bm 98 X]]),V⟩) hF rfl rfl ?_ rfl ?_
 ·exact hbb _
 refine stepW (av:=(.slb 4 B1.length 0)) (B':=(B1++[Box.mk true 124 [bm 94 X,bm 95 X,bm 97 X,bm 98 X]])) (V':=V) (st':=⟨[X,.ptr B.length 0,(.slb 4 B1.length 0),X,bm 94 X,X,bm 95 X,X,bm 97 X,X,bm 98 X,(.slb 4 B1.length 0)],(B1++[Box.mk true 124 [bm 94 X,bm 95 X,bm 97 X,bm 98 X]]),V⟩) hF rfl rfl rfl ?_
 refine qZ (SN ⟨.inr rfl,_,rfl,?_⟩)
 subst hB1 hX
 exact ⟨by simp [AV.slb],by simp [rH,bm],rfl⟩
end
end Go.Proofs.Ythkfohoccnnphaa
namespace Go.Proofs.Ythkfohoccnnphaa
open Go Go.Sx
set_option maxRecDepth 100000
set_option maxHeartbeats 0
noncomputable section
def iU (M:Den) (a0:List CV) (a1 a2:List (List CV)):Option Ou :=  eF (chk (oks [.row 1] (List.drop 0 (List.drop 0 a0)) 0)<|chk (((decide (0≤(il (gr (List.drop 0 (List.drop 0 a0)) 0))))&&(decide ((il (gr (List.drop 0 (List.drop 0 a0)) 0))≤(il (gr (List.drop 0 (List.drop 0 a0)) 0)))))&&(dA (Int.toNat (il (gr (List.drop 0 (List.drop 0 a0)) 0))) 0 8))<|chk (oks [.row 1] (List.drop 0 (List.drop 0 a0)) 0)<|chk (decide ((List.length (gr (List.drop 0 (List.drop 0 a0)) 0))≤(List.length (List.replicate (Int.toNat (il (gr (List.drop 0 (List.drop 0 a0)) 0))) [ci 0]))))<|chk (oks [.row 1] (List.drop 0 (List.drop 0 a0)) 0)<|chk (((decide (0≤(il (gr (List.drop 0 (List.drop 0 a0)) 0))))&&(decide ((il (gr (List.drop 0 (List.drop 0 a0)) 0))≤(il (gr (List.drop 0 (List.drop 0 a0)) 0)))))&&(dA (Int.toNat (il (gr (List.drop 0 (List.drop 0 a0)) 0))) 0 8))<|some (.ret ([CV.row 1 ((gr (List.drop 0 (List.drop 0 a0)) 0)++(List.drop (List.length (gr (List.drop 0 (List.drop 0 a0)) 0)) (List.replicate (Int.toNat (il (gr (List.drop 0 (List.drop 0 a0)) 0))) [ci 0]))),CV.row 1 (List.replicate (Int.toNat (il (gr (List.drop 0 (List.drop 0 a0)) 0))) [ci 0])]))) fun v0=>aB ((il a1) != (il a2)) (some (.ret [CV.val (Value.pointer none),cb false])) (cS 0 (aI (fun v1=>aB (decide ((gi v1 0)<(il a2))) (chk (inb (gi v1 0) a2)<|chk (oks [li] (el a2 (gi v1 0)) 0)<|bM (chk (oks [.row 1] (List.drop 0 (List.drop 0 a0)) 0)<|aD (M dD [ci (gi (el a2 (gi v1 0)) 0),ci 0,ci (wr ((il (gr (List.drop 0 (List.drop 0 a0)) 0)) - 1))]) fun v2=>aB (!(gb v2 0)) (some (.nx [cb true])) (chk (inb (gi v1 0) a1)<|chk (oks [li] (el a1 (gi v1 0)) 0)<|eF (chk ((decide (0≤(gi (el a1 (gi v1 0)) 0)))&&(decide ((gi (el a1 (gi v1 0)) 0)<(Int.ofNat 10))))<|chk (oks [li] (List.drop 1 (List.drop ((Int.toNat (gi (el a1 (gi v1 0)) 0))*4) (List.drop 2 a0))) 0)<|chk (inb (gi (el a2 (gi v1 0)) 0) (gr v1 1))<|chk (decide ((Int.toNat (gi (el a2 (gi v1 0)) 0))<(List.length (gr v1 1))))<|chk (oks [li] (el (gr v1 1) (gi (el a2 (gi v1 0)) 0)) 0)<|aB (decide ((gi (List.drop 1 (List.drop ((Int.toNat (gi (el a1 (gi v1 0)) 0))*4) (List.drop 2 a0))) 0)≤(gi (el (gr v1 1) (gi (el a2 (gi v1 0)) 0)) 0))) (chk ((decide (0≤(gi (el a1 (gi v1 0)) 0)))&&(decide ((gi (el a1 (gi v1 0)) 0)<(Int.ofNat 10))))<|chk (oks [li] (List.drop ((Int.toNat (gi (el a1 (gi v1 0)) 0))*1) (List.drop 42 a0)) 0)<|chk (inb (gi (el a2 (gi v1 0)) 0) (gr v1 2))<|chk (decide ((Int.toNat (gi (el a2 (gi v1 0)) 0))<(List.length (gr v1 2))))<|chk (oks [li] (el (gr v1 2) (gi (el a2 (gi v1 0)) 0)) 0)<|some (.ret [cb ((wr (Int.ofNat (bAN (gi (List.drop ((Int.toNat (gi (el a1 (gi v1 0)) 0))*1) (List.drop 42 a0)) 0) (gi (el (gr v1 2) (gi (el a2 (gi v1 0)) 0)) 0)))) == 0)])) (some (.ret [cb false]))) fun v3=>some (.nx [cb (!(gb v3 0))]))) fun v2=>aB (gb v2 0) (some (.ret [CV.val (Value.pointer none),cb false])) (chk (inb (gi (el a2 (gi v1 0)) 0) (gr v1 1))<|chk (decide ((Int.toNat (gi (el a2 (gi v1 0)) 0))<(List.length (gr v1 1))))<|chk (oks [li] (el (gr v1 1) (gi (el a2 (gi v1 0)) 0)) 0)<|chk (inb (gi v1 0) a1)<|chk (oks [li] (el a1 (gi v1 0)) 0)<|chk ((decide (0≤(gi (el a1 (gi v1 0)) 0)))&&(decide ((gi (el a1 (gi v1 0)) 0)<(Int.ofNat 10))))<|chk (oks [li] (List.drop 1 (List.drop ((Int.toNat (gi (el a1 (gi v1 0)) 0))*4) (List.drop 2 a0))) 0)<|chk (inb (gi (el a2 (gi v1 0)) 0) (gr v1 1))<|chk ((decide ((Int.toNat (gi (el a2 (gi v1 0)) 0))<(List.length (gr v1 1))))&&(decide (1≤1)))<|chk (inb (gi (el a2 (gi v1 0)) 0) (gr v1 2))<|chk (decide ((Int.toNat (gi (el a2 (gi v1 0)) 0))<(List.length (gr v1 2))))<|chk (oks [li] (el (gr v1 2) (gi (el a2 (gi v1 0)) 0)) 0)<|chk (inb (gi v1 0) a1)<|chk (oks [li] (el a1 (gi v1 0)) 0)<|chk (decide (0≤(gi (el a1 (gi v1 0)) 0)))<|chk (inb (gi (el a2 (gi v1 0)) 0) (gr v1 2))<|chk ((decide ((Int.toNat (gi (el a2 (gi v1 0)) 0))<(List.length (gr v1 2))))&&(decide (1≤1)))<|some (.nx ([ci (wr ((gi v1 0)+1)),CV.row 1 (List.set (gr v1 1) (Int.toNat (gi (el a2 (gi v1 0)) 0)) (spl (el (gr v1 1) (gi (el a2 (gi v1 0)) 0)) 0 [ci (wr ((gi (el (gr v1 1) (gi (el a2 (gi v1 0)) 0)) 0) - (gi (List.drop 1 (List.drop ((Int.toNat (gi (el a1 (gi v1 0)) 0))*4) (List.drop 2 a0))) 0)))])),CV.row 1 (List.set (gr v1 2) (Int.toNat (gi (el a2 (gi v1 0)) 0)) (spl (el (gr v1 2) (gi (el a2 (gi v1 0)) 0)) 0 [ci (wr (Int.ofNat (bON (gi (el (gr v1 2) (gi (el a2 (gi v1 0)) 0)) 0) (wr (1*((2:Int) ^ (min (Int.toNat (gi (el a1 (gi v1 0)) 0)) 64)))))))]))])))) (some (.br 0 [CV.row 1 (gr v1 1),CV.row 1 (gr v1 2)]))) [ci 0,CV.row 1 (gr v0 0),CV.row 1 (gr v0 1)]) fun v1=>some (.ret ([CV.ref [CV.row 1 (gr v1 0),CV.row 1 (gr v1 1)],cb true])))
theorem oU (its:ITS) (n:Nat) (a0:List CV) (a1 a2:List (List CV)):D its (n+1) cY [(.ref a0),(.row 1 a1),(.row 1 a2)]=bK (iU (D its n) a0 a1 a2):=by kernel_rfl
def iL (M:Den) (a0:List CV) (a1:List (List CV)) (a2:Int):Option Ou :=  cS 0 (aI (fun v0=>aB (decide ((gi v0 1)<(il a1))) (chk (inb (gi v0 1) a1)<|chk (oks [li,li,li] (el a1 (gi v0 1)) 0)<|bM (aB ((gi (el a1 (gi v0 1)) 2) != (-1)) (some (.nx [ci (if (wr ((gi (el a1 (gi v0 1)) 2) - 1))<a2 then wr ((gi (el a1 (gi v0 1)) 2) - 1) else a2)])) (some (.nx [ci a2]))) fun v1=>chk ((decide (0≤(gi (el a1 (gi v0 1)) 0)))&&(decide ((gi (el a1 (gi v0 1)) 0)<(Int.ofNat 10))))<|chk (oks [li] (List.drop 2 (List.drop ((Int.toNat (gi (el a1 (gi v0 1)) 0))*4) (List.drop 2 a0))) 0)<|some (.nx [ci (wr ((gi v0 0)+(wr ((if 0 > (wr ((wr ((gi v1 0) - (gi (el a1 (gi v0 1)) 1)))+1)) then 0 else wr ((wr ((gi v1 0) - (gi (el a1 (gi v0 1)) 1)))+1))*(gi (List.drop 2 (List.drop ((Int.toNat (gi (el a1 (gi v0 1)) 0))*4) (List.drop 2 a0))) 0))))),ci (wr ((gi v0 1)+1))])) (some (.br 0 [ci (gi v0 0)]))) [ci 0,ci 0]) fun v0=>some (.ret [ci (gi v0 0)])
theorem nP (its:ITS) (n:Nat) (a0:List CV) (a1:List (List CV)) (a2:Int):D its (n+1) bV [(.ref a0),(.row 3 a1),(ci a2)]=bK (iL (D its n) a0 a1 a2):=by kernel_rfl
def iV (M:Den) (a0:List CV) (a1:List (List CV)):Option Ou :=  cS 0 (aI (fun v0=>aB (decide ((gi v0 1)<(il a1))) (chk (inb (gi v0 1) a1)<|chk (oks [li] (el a1 (gi v0 1)) 0)<|chk ((decide (0≤(gi (el a1 (gi v0 1)) 0)))&&(decide ((gi (el a1 (gi v0 1)) 0)<(Int.ofNat 10))))<|chk (oks [li] (List.drop 1 (List.drop ((Int.toNat (gi (el a1 (gi v0 1)) 0))*4) (List.drop 2 a0))) 0)<|some (.nx [ci (wr ((gi v0 0)+(gi (List.drop 1 (List.drop ((Int.toNat (gi (el a1 (gi v0 1)) 0))*4) (List.drop 2 a0))) 0))),ci (wr ((gi v0 1)+1))])) (some (.br 0 [ci (gi v0 0)]))) [ci 0,ci 0]) fun v0=>some (.ret [ci (gi v0 0)])
theorem oV (its:ITS) (n:Nat) (a0:List CV) (a1:List (List CV)):D its (n+1) iT [(.ref a0),(.row 1 a1)]=bK (iV (D its n) a0 a1):=by kernel_rfl
def zG (M:Den) (a0 a1:List (List CV)):Option Ou :=  aB ((il a0) != (il a1)) (some (.ret [cb false])) (cS 0 (aI (fun v0=>aB (decide ((gi v0 0)<(il a0))) (chk (inb (gi v0 0) a0)<|chk (oks [li] (el a0 (gi v0 0)) 0)<|chk (inb (gi v0 0) a1)<|chk (oks [li] (el a1 (gi v0 0)) 0)<|aB ((gi (el a0 (gi v0 0)) 0) != (gi (el a1 (gi v0 0)) 0)) (some (.ret [cb false])) (some (.nx [ci (wr ((gi v0 0)+1))]))) (some (.br 0 []))) [ci 0]) fun v0=>some (.ret [cb true]))
theorem MN (its:ITS) (n:Nat) (a0 a1:List (List CV)):D its (n+1) dP [(.row 1 a0),(.row 1 a1)]=bK (zG (D its n) a0 a1):=by kernel_rfl
def lZ (M:Den) (a0_0 a0_1 a0_2 a0_3:Int):Option Ou :=  aD (M dD [ci a0_0,ci 1,ci 9]) fun v0=>aB (gb v0 0) (aD (M dD [ci a0_1,ci 1,ci 1000]) fun v1=>aB (gb v1 0) (aD (M dD [ci a0_2,ci 0,ci 1000]) fun v2=>aB (gb v2 0) (aD (M dD [ci a0_3,ci 0,ci 1023]) fun v3=>aB (gb v3 0) (some (.ret [cb ((wr (Int.ofNat (bAN a0_3 1))) == 0)])) (some (.ret [cb false]))) (some (.ret [cb false]))) (some (.ret [cb false]))) (some (.ret [cb false]))
theorem EI (its:ITS) (n:Nat) (a0_0 a0_1 a0_2 a0_3:Int):D its (n+1) lY [(ci a0_0),(ci a0_1),(ci a0_2),(ci a0_3)]=bK (lZ (D its n) a0_0 a0_1 a0_2 a0_3):=by kernel_rfl
def vL (M:Den) (a0_0 a0_1 a1:List (List CV)):Option Ou :=  aD (M fJ [CV.row 1 a0_0,CV.row 4 a0_1]) fun v0=>aB ((gi v0 0) != 0) (some (.ret [CV.val (Value.pointer none),ci (gi v0 0)])) (aD (M gK [CV.row 1 a0_0,CV.row 4 a0_1]) fun v1=>aD (M dE [CV.ref (cF (List.getD v1 0 dC)),CV.row 1 a1]) fun v2=>aB (!(gb v2 0)) (some (.ret [CV.val (Value.pointer none),ci 51])) (some (.ret [CV.ref (cF (List.getD v1 0 dC)),ci 0])))
theorem IJ (its:ITS) (n:Nat) (a0_0 a0_1 a1:List (List CV)):D its (n+1) fX [(.row 1 a0_0),(.row 4 a0_1),(.row 1 a1)]=bK (vL (D its n) a0_0 a0_1 a1):=by kernel_rfl
def lJ (M:Den) (a0_0 a0_1 a0_2:Int) (a1:List CV):Option Ou :=  chk (oks [.raw] a1 0)<|chk (cV (List.getD a1 0 dC))<|aD (M eB [CV.ref (cF (List.getD a1 0 dC)),ci a0_0,ci a0_1,ci a0_2]) fun v0=>some (.ret [cb (!(gb v0 0))])
theorem uE (its:ITS) (n:Nat) (a0_0 a0_1 a0_2:Int) (a1:List CV):D its (n+1) cH [(ci a0_0),(ci a0_1),(ci a0_2),(.ref a1)]=bK (lJ (D its n) a0_0 a0_1 a0_2 a1):=by kernel_rfl
def fY (M:Den) (a0:List CV) (a1:List (List CV)):Option Ou :=  aB (decide ((il a1)≤8)) (aD (M bN ([CV.row 1 a1,CV.fn aY ([CV.ref [CV.ref a0]])])) fun v0=>some (.ret [cb (!(gb v0 0))])) (some (.ret [cb false]))
theorem lK (its:ITS) (n:Nat) (a0:List CV) (a1:List (List CV)):D its (n+1) dE [(.ref a0),(.row 1 a1)]=bK (fY (D its n) a0 a1):=by kernel_rfl
def eZ (M:Den) (a0:List (List CV)) (a1:CV):Option Ou :=  aD (M dU [CV.row 1 a0,a1]) fun v0=>some (.ret [cb (decide ((gi v0 0)≥0))])
theorem kD (its:ITS) (n:Nat) (a0:List (List CV)) (a1:CV):D its (n+1) bN [(.row 1 a0),a1]=bK (eZ (D its n) a0 a1):=by kernel_rfl
def IK (M:Den) (a0 a1:Int):Option Ou :=  some (.ret ([CV.fn zF ([CV.ref [ci a1],CV.ref [ci a0]])]))
theorem IL (its:ITS) (n:Nat) (a0 a1:Int):D its (n+1) vK [(ci a0),(ci a1)]=bK (IK (D its n) a0 a1):=by kernel_rfl
end
end Go.Proofs.Ythkfohoccnnphaa
namespace Go.Proofs.Ythkfohoccnnphaa
open Go Go.Sx
set_option maxRecDepth 100000
set_option maxHeartbeats 0
noncomputable section
def vM (M:Den) (a0_0 a0_1 a1:List (List CV)) (a2:Int):Option Ou :=  aD (M iB [CV.row 1 a0_0,CV.row 4 a0_1,CV.row 3 a1]) fun v0=>aB ((gi v0 1) != 0) (some (.ret [ci 0,ci (gi v0 1)])) (aD (M dD [ci a2,ci 0,ci 1000000000000]) fun v1=>aB (!(gb v1 0)) (some (.ret [ci 0,ci 1])) (chk (cV (List.getD v0 0 dC))<|aD (M bV [CV.ref (cF (List.getD v0 0 dC)),CV.row 3 a1,ci 0]) fun v2=>aB (decide ((gi v2 0) > a2)) (some (.ret [ci 0,ci 3])) (cS 1 (aI (fun v3=>aB (decide ((gi v3 0)<(gi v3 1))) (aD (M bV [CV.ref (cF (List.getD v0 0 dC)),CV.row 3 a1,ci (wr (Int.tdiv (wr ((wr ((gi v3 0)+(gi v3 1)))+1)) 2))]) fun v4=>bM (aB (decide ((gi v4 0)≤a2)) (some (.nx [ci (wr (Int.tdiv (wr ((wr ((gi v3 0)+(gi v3 1)))+1)) 2)),ci (gi v3 1)])) (some (.nx [ci (gi v3 0),ci (wr ((wr (Int.tdiv (wr ((wr ((gi v3 0)+(gi v3 1)))+1)) 2)) - 1))]))) fun v5=>some (.nx [ci (gi v5 0),ci (gi v5 1)])) (some (.br 1 [ci (gi v3 0)]))) [ci 0,ci 100000]) fun v3=>some (.ret [ci (gi v3 0),ci 0]))))
theorem IM (its:ITS) (n:Nat) (a0_0 a0_1 a1:List (List CV)) (a2:Int):D its (n+1) nN [(.row 1 a0_0),(.row 4 a0_1),(.row 3 a1),(ci a2)]=bK (vM (D its n) a0_0 a0_1 a1 a2):=by kernel_rfl
def iM (M:Den) (a0 a1:List CV) (a2 a3:Int):Option Ou :=  chk ((decide (0≤a3))&&(decide (a3<(Int.ofNat 10))))<|chk (oks [li] (List.drop 1 (List.drop ((Int.toNat a3)*4) (List.drop 2 a0))) 0)<|chk (oks [.row 1] (List.drop 0 a1) 0)<|chk (inb a2 (gr (List.drop 0 a1) 0))<|chk (oks [li] (el (gr (List.drop 0 a1) 0) a2) 0)<|aB (decide ((gi (List.drop 1 (List.drop ((Int.toNat a3)*4) (List.drop 2 a0))) 0)≤(gi (el (gr (List.drop 0 a1) 0) a2) 0))) (chk ((decide (0≤a3))&&(decide (a3<(Int.ofNat 10))))<|chk (oks [li] (List.drop ((Int.toNat a3)*1) (List.drop 42 a0)) 0)<|chk (oks [.row 1] (List.drop 1 a1) 0)<|chk (inb a2 (gr (List.drop 1 a1) 0))<|chk (oks [li] (el (gr (List.drop 1 a1) 0) a2) 0)<|some (.ret [cb ((wr (Int.ofNat (bAN (gi (List.drop ((Int.toNat a3)*1) (List.drop 42 a0)) 0) (gi (el (gr (List.drop 1 a1) 0) a2) 0)))) == 0)])) (some (.ret [cb false]))
theorem nQ (its:ITS) (n:Nat) (a0 a1:List CV) (a2 a3:Int):D its (n+1) eM [(.ref a0),(.ref a1),(ci a2),(ci a3)]=bK (iM (D its n) a0 a1 a2 a3):=by kernel_rfl
def jU (M:Den) (a0:List CV) (a1:List (List CV)) (a2:Int):Option Ou :=  aD (M dS [CV.ref a0,CV.row 1 a1]) fun v0=>bM (brO (eC (tQ sg M (List.getD v0 0 dC) (.lent 3 1)) (fun x1 v1=>aB ((gi v1 0) == 0) (eF (tB (gr x1 0) (some (.ret ([CV.row 1 []]))) (chk (dA 0 (List.length (gr x1 0)) 8)<|some (.ret [CV.row 1 (gr x1 0)]))) fun v2=>some (.ret [CV.row 1 (gr v2 0),cb true])) (some (.nx [ci (wr ((gi v1 0) - 1)),CV.row 1 (gr v1 1),cb (gb v1 2)]))) [ci a2,CV.val (Value.slice none 0 0),cb false])) fun v1=>some (.ret ([CV.row 1 [],cb false]))
theorem qK (its:ITS) (n:Nat) (a0:List CV) (a1:List (List CV)) (a2:Int):D its (n+1) dT [(.ref a0),(.row 1 a1),(ci a2)]=bK (jU (D its n) a0 a1 a2):=by kernel_rfl
def rZ (M:Den) (a0_0 a0_1 a1 a2:List (List CV)):Option Ou :=  aD (M fX [CV.row 1 a0_0,CV.row 4 a0_1,CV.row 1 a1]) fun v0=>aB ((gi v0 1) != 0) (some (.ret [CV.val (Value.pointer none),CV.val (Value.pointer none),ci (gi v0 1)])) (chk (cV (List.getD v0 0 dC))<|aD (M cY [CV.ref (cF (List.getD v0 0 dC)),CV.row 1 a1,CV.row 1 a2]) fun v1=>aB (!(gb v1 1)) (some (.ret [CV.val (Value.pointer none),CV.val (Value.pointer none),ci 52])) (chk (cV (List.getD v1 0 dC))<|some (.ret [CV.ref (cF (List.getD v0 0 dC)),CV.ref (cF (List.getD v1 0 dC)),ci 0])))
theorem EJ (its:ITS) (n:Nat) (a0_0 a0_1 a1 a2:List (List CV)):D its (n+1) iZ [(.row 1 a0_0),(.row 4 a0_1),(.row 1 a1),(.row 1 a2)]=bK (rZ (D its n) a0_0 a0_1 a1 a2):=by kernel_rfl
def gL (M:Den) (a0:List (List CV)) (a1:CV):Option Ou :=  cS 0 (aI (fun v0=>aB (decide ((gi v0 0)<(il a0))) (chk (inb (gi v0 0) a0)<|chk (oks [li] (el a0 (gi v0 0)) 0)<|aD (kW sg M a1 [ci (gi (el a0 (gi v0 0)) 0)] [.one li] [.one lb]) fun v1=>aB (gb v1 0) (some (.ret [ci (gi v0 0)])) (some (.nx [ci (wr ((gi v0 0)+1))]))) (some (.br 0 []))) [ci 0]) fun v0=>some (.ret [ci (-1)])
theorem mC (its:ITS) (n:Nat) (a0:List (List CV)) (a1:CV):D its (n+1) dU [(.row 1 a0),a1]=bK (gL (D its n) a0 a1):=by kernel_rfl
def vN (M:Den) (a0_0 a0_1 a1:List (List CV)):Option Ou :=  aD (M fX [CV.row 1 a0_0,CV.row 4 a0_1,CV.row 1 a1]) fun v0=>aB ((gi v0 1) != 0) (some (.ret ([CV.row 1 [],ci (gi v0 1)]))) (chk (cV (List.getD v0 0 dC))<|aD (M dT [CV.ref (cF (List.getD v0 0 dC)),CV.row 1 a1,ci 0]) fun v1=>aB (!(gb v1 1)) (some (.ret ([CV.row 1 [],ci 53]))) (some (.ret [CV.row 1 (gr v1 0),ci 0])))
theorem IO (its:ITS) (n:Nat) (a0_0 a0_1 a1:List (List CV)):D its (n+1) kL [(.row 1 a0_0),(.row 4 a0_1),(.row 1 a1)]=bK (vN (D its n) a0_0 a0_1 a1):=by kernel_rfl
def lL (M:Den) (a0_0 a0_1 a1 a2:List (List CV)):Option Ou :=  aD (M fX [CV.row 1 a0_0,CV.row 4 a0_1,CV.row 1 a1]) fun v0=>aB ((gi v0 1) != 0) (some (.ret [ci (gi v0 1)])) (chk (cV (List.getD v0 0 dC))<|aD (M cY [CV.ref (cF (List.getD v0 0 dC)),CV.row 1 a1,CV.row 1 a2]) fun v1=>aB (!(gb v1 1)) (some (.ret [ci 52])) (some (.ret [ci 0])))
theorem uF (its:ITS) (n:Nat) (a0_0 a0_1 a1 a2:List (List CV)):D its (n+1) eW [(.row 1 a0_0),(.row 4 a0_1),(.row 1 a1),(.row 1 a2)]=bK (lL (D its n) a0_0 a0_1 a1 a2):=by kernel_rfl
def eN (M:Den) (a0:Int) (a1:List CV):Option Ou :=  chk (oks [.raw] a1 0)<|chk (cV (List.getD a1 0 dC))<|aD (M cM [CV.ref (cF (List.getD a1 0 dC)),ci a0]) fun v0=>some (.ret [cb (!(gb v0 0))])
theorem jV (its:ITS) (n:Nat) (a0:Int) (a1:List CV):D its (n+1) aY [(ci a0),(.ref a1)]=bK (eN (D its n) a0 a1):=by kernel_rfl
def IP (M:Den) (a0 a1 a2:Int):Option Ou :=  aB (decide (a0≥a1)) (some (.ret [cb (decide (a0≤a2))])) (some (.ret [cb false]))
theorem VN (its:ITS) (n:Nat) (a0 a1 a2:Int):D its (n+1) dD [(ci a0),(ci a1),(ci a2)]=bK (IP (D its n) a0 a1 a2):=by kernel_rfl
def qL (M:Den) (a0:List CV) (a1:List (List CV)):Option Ou :=  some (.ret ([CV.fn mT ([CV.ref [CV.row 1 a1],CV.ref [CV.ref a0]])]))
theorem qM (its:ITS) (n:Nat) (a0:List CV) (a1:List (List CV)):D its (n+1) dS [(.ref a0),(.row 1 a1)]=bK (qL (D its n) a0 a1):=by kernel_rfl
end
end Go.Proofs.Ythkfohoccnnphaa
namespace Go.Proofs.Ythkfohoccnnphaa
open Go Go.Sx
set_option maxRecDepth 100000
set_option maxHeartbeats 0
noncomputable section
def sB (M:Den)  : Option Ou :=  aD (M lX []) fun v0=>aD (M kL ([CV.row 1 (gr v0 0),CV.row 4 (gr v0 1),CV.row 1 (aM 1 3 [ci 1,ci 1,ci 2])])) fun v1=>aD (M nO ([CV.row 1 (gr v0 0),CV.row 4 (gr v0 1),CV.row 1 (aM 1 3 [ci 1,ci 1,ci 2])])) fun v2=>aD (M qI ([CV.row 1 (gr v0 0),CV.row 4 (gr v0 1),CV.row 1 (aM 1 3 [ci 1,ci 1,ci 2]),CV.row 1 (gr v1 0)])) fun v3=>aD (M uD ([CV.row 1 (gr v0 0),CV.row 4 (gr v0 1),CV.row 1 (aM 1 3 [ci 1,ci 1,ci 2]),CV.row 1 (gr v1 0),ci 3])) fun v4=>aD (M eX ([CV.row 1 (gr v0 0),CV.row 4 (gr v0 1),CV.row 1 (aM 1 4 [ci 1,ci 1,ci 1,ci 1])])) fun v5=>aD (M eX ([CV.row 1 (gr v0 0),CV.row 4 (gr v0 1),CV.row 1 (aM 1 4 [ci 4,ci 4,ci 4,ci 4])])) fun v6=>aD (M eX ([CV.row 1 (gr v0 0),CV.row 4 (gr v0 1),CV.row 1 (aM 1 5 [ci 1,ci 1,ci 1,ci 2,ci 2])])) fun v7=>aD (M lW ([CV.row 1 (gr v0 0),CV.row 4 (gr v0 1),CV.row 1 (aM 1 3 [ci 1,ci 4,ci 4])])) fun v8=>aD (M nM ([CV.row 1 (gr v0 0),CV.row 4 (gr v0 1),CV.row 3 (aM 3 2 [ci 1,ci 3,ci 6,ci 2,ci 4,ci (-1)]),ci 5])) fun v9=>aD (M nN ([CV.row 1 (gr v0 0),CV.row 4 (gr v0 1),CV.row 3 (aM 3 2 [ci 1,ci 3,ci 6,ci 2,ci 4,ci (-1)]),ci 41])) fun v10=>aD (M qH ([CV.row 1 (gr v0 0),CV.row 4 (gr v0 1),CV.row 3 ([[ci 1,ci 3,ci 6],[ci 2,ci 4,ci (-1)],[ci 1,ci 5,ci 9],[ci 1,ci 5,ci 9],[ci 4,ci 5,ci 6]])])) fun v11=>bM (aB ((gi v1 1) == 0) (aB ((gi v2 1) == 0) (aB ((gi v3 1) == 0) (aB ((gi v4 1) == 0) (aB ((gi v5 2) == 0) (aB ((gi v6 2) == 0) (aB ((gi v7 2) == 0) (aB ((gi v8 1) == 0) (aB ((gi v9 1) == 0) (aB ((gi v10 1) == 0) (some (.nx [cb ((gi v11 1) == 0)])) (some (.nx [cb false]))) (some (.nx [cb false]))) (some (.nx [cb false]))) (some (.nx [cb false]))) (some (.nx [cb false]))) (some (.nx [cb false]))) (some (.nx [cb false]))) (some (.nx [cb false]))) (some (.nx [cb false]))) (some (.nx [cb false]))) fun v12=>aB (gb v12 0) (aD (M dP ([CV.row 1 (gr v1 0),CV.row 1 (aM 1 3 [ci 0,ci 0,ci 1])])) fun v13=>aB (gb v13 0) (aB ((gi v2 0) == 4) (aD (M dP ([CV.row 1 (gr v3 0),CV.row 1 (aM 1 3 [ci 0,ci 2,ci 4])])) fun v14=>aB (gb v14 0) (aB ((gi v4 0) == 1) (aB ((gi v5 0) == 4) (aD (M dP ([CV.row 1 (gr v5 1),CV.row 1 (aM 1 4 [ci 0,ci 1,ci 2,ci 3])])) fun v15=>aB (gb v15 0) (aB ((gi v6 0) == 3) (aD (M dP ([CV.row 1 (gr v6 1),CV.row 1 (aM 1 4 [ci 0,ci 1,ci 2,ci 3])])) fun v16=>aB (gb v16 0) (aB ((gi v7 0) == 2) (aD (M dP ([CV.row 1 (gr v7 1),CV.row 1 (aM 1 5 [ci 0,ci 1,ci 2,ci 3,ci 4])])) fun v17=>aB (gb v17 0) (aD (M dP ([CV.row 1 (gr v8 0),CV.row 1 (aM 1 3 [ci 0,ci 0,ci 1])])) fun v18=>aB (gb v18 0) (aB ((gi v9 0) == 36) (aB ((gi v10 0) == 5) (some (.ret [cb ((gi v11 0) == 5)])) (some (.ret [cb false]))) (some (.ret [cb false]))) (some (.ret [cb false]))) (some (.ret [cb false]))) (some (.ret [cb false]))) (some (.ret [cb false]))) (some (.ret [cb false]))) (some (.ret [cb false]))) (some (.ret [cb false]))) (some (.ret [cb false]))) (some (.ret [cb false]))) (some (.ret [cb false]))) (some (.ret [cb false]))) (some (.ret [cb false]))
theorem EK (its:ITS) (n:Nat)  : D its (n+1) eV []=bK (sB (D its n) ):=by kernel_rfl
def mQ (M:Den) (a0_0 a0_1:List (List CV)):Option Ou :=  bM (aB (decide ((il a0_0) > 5)) (some (.nx [cb true])) (aD (M bN ([CV.row 1 a0_0,CV.fn bR []])) fun v0=>some (.nx [cb (gb v0 0)]))) fun v0=>aB (gb v0 0) (some (.ret [ci 50])) (cS 0 (aI (fun v1=>aB (decide ((gi v1 0)<(il a0_1))) (chk (inb (gi v1 0) a0_1)<|chk (oks (List.replicate 4 li) (el a0_1 (gi v1 0)) 0)<|bM (aD (M lY (cis (el a0_1 (gi v1 0)) 0 4)) fun v2=>aB (!(gb v2 0)) (some (.nx [cb true])) (aB (decide ((gi v1 0) > 0)) (chk (inb (wr ((gi v1 0) - 1)) a0_1)<|chk (oks [li] (List.drop 0 (el a0_1 (wr ((gi v1 0) - 1)))) 0)<|some (.nx [cb (decide ((gi (List.drop 0 (el a0_1 (wr ((gi v1 0) - 1)))) 0)≥(gi (el a0_1 (gi v1 0)) 0)))])) (some (.nx [cb false])))) fun v2=>aB (gb v2 0) (some (.ret [ci 50])) (some (.nx [ci (wr ((gi v1 0)+1))]))) (some (.br 0 []))) [ci 0]) fun v1=>some (.ret [ci 0]))
theorem wH (its:ITS) (n:Nat) (a0_0 a0_1:List (List CV)):D its (n+1) fJ [(.row 1 a0_0),(.row 4 a0_1)]=bK (mQ (D its n) a0_0 a0_1):=by kernel_rfl
def vO (M:Den) (a0:List (List CV)) (a1:Int):Option Ou :=  cS 0 (aI (fun v0=>aB (decide ((gi v0 0)<(il a0))) (chk (inb (gi v0 0) a0)<|chk (oks [li,li,li] (el a0 (gi v0 0)) 0)<|bM (aB (decide ((gi (el a0 (gi v0 0)) 1)≤a1)) (aB ((gi (el a0 (gi v0 0)) 2) == (-1)) (some (.nx [cb true])) (some (.nx [cb (decide (a1<(gi (el a0 (gi v0 0)) 2)))]))) (some (.nx [cb false]))) fun v1=>bM (aB (gb v1 0) (chk (dA (List.length (gr v0 1)) 1 8)<|some (.nx ([CV.row 1 ((gr v0 1)++(aM 1 1 [ci (gi v0 0)]))]))) (some (.nx [CV.row 1 (gr v0 1)]))) fun v2=>some (.nx [ci (wr ((gi v0 0)+1)),CV.row 1 (gr v2 0)])) (some (.br 0 [CV.row 1 (gr v0 1)]))) ([ci 0,CV.row 1 []])) fun v0=>some (.ret [CV.row 1 (gr v0 0)])
theorem IQ (its:ITS) (n:Nat) (a0:List (List CV)) (a1:Int):D its (n+1) vJ [(.row 3 a0),(ci a1)]=bK (vO (D its n) a0 a1):=by kernel_rfl
def pI (M:Den) (a0_0 a0_1 a1:List (List CV)):Option Ou :=  aD (M fJ [CV.row 1 a0_0,CV.row 4 a0_1]) fun v0=>aB ((gi v0 0) != 0) (some (.ret [CV.val (Value.pointer none),ci (gi v0 0)])) (aD (M gK [CV.row 1 a0_0,CV.row 4 a0_1]) fun v1=>bM (aB (decide ((il a1) > 40)) (some (.nx [cb true])) (aD (M cN ([CV.row 3 a1,CV.fn cH ([CV.ref [CV.ref (cF (List.getD v1 0 dC))]])])) fun v2=>some (.nx [cb (gb v2 0)]))) fun v2=>aB (gb v2 0) (some (.ret [CV.val (Value.pointer none),ci 55])) (some (.ret [CV.ref (cF (List.getD v1 0 dC)),ci 0])))
theorem AL (its:ITS) (n:Nat) (a0_0 a0_1 a1:List (List CV)):D its (n+1) iB [(.row 1 a0_0),(.row 4 a0_1),(.row 3 a1)]=bK (pI (D its n) a0_0 a0_1 a1):=by kernel_rfl
def vP (M:Den) (a0_0 a0_1 a1:List (List CV)):Option Ou :=  aD (M fX [CV.row 1 a0_0,CV.row 4 a0_1,CV.row 1 a1]) fun v0=>aB ((gi v0 1) != 0) (some (.ret [ci 0,ci (gi v0 1)])) (chk (cV (List.getD v0 0 dC))<|aD (M dS [CV.ref (cF (List.getD v0 0 dC)),CV.row 1 a1]) fun v1=>bM (brO (eC (tQ sg M (List.getD v1 0 dC) (.lent 3 1)) (fun x2 v2=>aB ((wr ((gi v2 0)+1)) == 1000) (some (.br 0 [ci (wr ((gi v2 0)+1))])) (some (.nx [ci (wr ((gi v2 0)+1))]))) [ci 0])) fun v2=>some (.ret [ci (gi v2 0),ci 0]))
theorem IR (its:ITS) (n:Nat) (a0_0 a0_1 a1:List (List CV)):D its (n+1) nO [(.row 1 a0_0),(.row 4 a0_1),(.row 1 a1)]=bK (vP (D its n) a0_0 a0_1 a1):=by kernel_rfl
def zH (M:Den) (a0_0 a0_1:List (List CV)) (a1:Int):Option Ou :=  cS 0 (aI (fun v0=>aB (decide ((gi v0 0)<(il a0_1))) (chk (inb (gi v0 0) a0_1)<|chk (oks (List.replicate 4 li) (el a0_1 (gi v0 0)) 0)<|aB ((gi (el a0_1 (gi v0 0)) 0) == a1) (some (.ret (cat [cis (el a0_1 (gi v0 0)) 0 4,[cb true]]))) (some (.nx (cat [[ci (wr ((gi v0 0)+1))],cis v0 1 4])))) (some (.br 0 (cis v0 1 4)))) [ci 0,ci 0,ci 0,ci 0,ci 0]) fun v0=>some (.ret [ci 0,ci 0,ci 0,ci 0,cb false])
theorem MO (its:ITS) (n:Nat) (a0_0 a0_1:List (List CV)) (a1:Int):D its (n+1) qJ [(.row 1 a0_0),(.row 4 a0_1),(ci a1)]=bK (zH (D its n) a0_0 a0_1 a1):=by kernel_rfl
def gR (M:Den) (a0:List CV) (a1_0 a1_1 a1_2:Int):Option Ou :=  aD (M cM [CV.ref a0,ci a1_0]) fun v0=>aB (gb v0 0) (aD (M dD [ci a1_1,ci 0,ci 100000]) fun v1=>aB (gb v1 0) (aB (a1_2 == (-1)) (some (.ret [cb true])) (aD (M dD [ci a1_2,ci a1_1,ci 100000]) fun v2=>some (.ret [cb (gb v2 0)]))) (some (.ret [cb false]))) (some (.ret [cb false]))
theorem mU (its:ITS) (n:Nat) (a0:List CV) (a1_0 a1_1 a1_2:Int):D its (n+1) eB [(.ref a0),(ci a1_0),(ci a1_1),(ci a1_2)]=bK (gR (D its n) a0 a1_0 a1_1 a1_2):=by kernel_rfl
def zI (M:Den) (a0_0 a0_1 a1 a2:List (List CV)):Option Ou :=  aD (M iZ [CV.row 1 a0_0,CV.row 4 a0_1,CV.row 1 a1,CV.row 1 a2]) fun v0=>aB ((gi v0 2) != 0) (some (.ret ([CV.row 1 [],ci (gi v0 2)]))) (chk (cV (List.getD v0 1 dC))<|chk (oks [.row 1] (List.drop 0 (cF (List.getD v0 1 dC))) 0)<|some (.ret [CV.row 1 (gr (List.drop 0 (cF (List.getD v0 1 dC))) 0),ci 0]))
theorem MP (its:ITS) (n:Nat) (a0_0 a0_1 a1 a2:List (List CV)):D its (n+1) qI [(.row 1 a0_0),(.row 4 a0_1),(.row 1 a1),(.row 1 a2)]=bK (zI (D its n) a0_0 a0_1 a1 a2):=by kernel_rfl
def EL (M:Den)  : Option Ou :=  some (.ret ([CV.row 1 (aM 1 3 [ci 10,ci 6,ci 4]),CV.row 4 (aM 4 4 [ci 1,ci 5,ci 8,ci 0,ci 2,ci 4,ci 6,ci 2,ci 3,ci 1,ci 1,ci 0,ci 4,ci 2,ci 3,ci 16])]))
theorem EM (its:ITS) (n:Nat)  : D its (n+1) lX []=bK (EL (D its n) ):=by kernel_rfl
def sC (M:Den) (a0 a1 a2:Int):Option Ou :=  aB (decide (a1≤a0)) (some (.ret [cb (decide (a0≤a2))])) (some (.ret [cb false]))
theorem EN (its:ITS) (n:Nat) (a0 a1 a2:Int):D its (n+1) dR [(ci a0),(ci a1),(ci a2)]=bK (sC (D its n) a0 a1 a2):=by kernel_rfl
def eO (M:Den) (a0:List (List CV)) (a1:CV):Option Ou :=  aD (M dF [CV.row 3 a0,a1]) fun v0=>some (.ret [cb (decide ((gi v0 0)≥0))])
theorem jW (its:ITS) (n:Nat) (a0:List (List CV)) (a1:CV):D its (n+1) cN [(.row 3 a0),a1]=bK (eO (D its n) a0 a1):=by kernel_rfl
end
end Go.Proofs.Ythkfohoccnnphaa
namespace Go.Proofs.Ythkfohoccnnphaa
open Go Go.Sx
set_option maxRecDepth 100000
set_option maxHeartbeats 0
noncomputable section
def mR (M:Den) (a0_0 a0_1:List (List CV)):Option Ou :=  aB (decide ((il a0_0) > 5)) (some (.ret [ci 50])) (cS 0 (aI (fun v0=>aB (decide ((gi v0 0)<(il a0_0))) (chk (inb (gi v0 0) a0_0)<|chk (oks [li] (el a0_0 (gi v0 0)) 0)<|aD (M dR [ci (gi (el a0_0 (gi v0 0)) 0),ci 0,ci 1000]) fun v1=>aB (!(gb v1 0)) (some (.ret [ci 50])) (some (.nx [ci (wr ((gi v0 0)+1))]))) (some (.br 0 []))) [ci 0]) fun v0=>cS 2 (aI (fun v1=>aB (decide ((gi v1 0)<(il a0_1))) (chk (inb (gi v1 0) a0_1)<|chk (oks (List.replicate 4 li) (el a0_1 (gi v1 0)) 0)<|bM (aD (M dR [ci (gi (el a0_1 (gi v1 0)) 0),ci 1,ci 9]) fun v2=>aB (!(gb v2 0)) (some (.nx [cb true])) (aD (M dR [ci (gi (el a0_1 (gi v1 0)) 1),ci 1,ci 1000]) fun v3=>aB (!(gb v3 0)) (some (.nx [cb true])) (aD (M dR [ci (gi (el a0_1 (gi v1 0)) 2),ci 0,ci 1000]) fun v4=>aB (!(gb v4 0)) (some (.nx [cb true])) (aD (M dR [ci (gi (el a0_1 (gi v1 0)) 3),ci 0,ci 1023]) fun v5=>aB (!(gb v5 0)) (some (.nx [cb true])) (aB ((Int.tmod (gi (el a0_1 (gi v1 0)) 3) 2) != 0) (some (.nx [cb true])) (aB (decide ((gi v1 0) > 0)) (chk (inb (wr ((gi v1 0) - 1)) a0_1)<|chk (oks [li] (List.drop 0 (el a0_1 (wr ((gi v1 0) - 1)))) 0)<|some (.nx [cb (decide ((gi (List.drop 0 (el a0_1 (wr ((gi v1 0) - 1)))) 0)≥(gi (el a0_1 (gi v1 0)) 0)))])) (some (.nx [cb false])))))))) fun v2=>aB (gb v2 0) (some (.ret [ci 50])) (some (.nx [ci (wr ((gi v1 0)+1))]))) (some (.br 2 []))) [ci 0]) fun v1=>some (.ret [ci 0]))
theorem wI (its:ITS) (n:Nat) (a0_0 a0_1:List (List CV)):D its (n+1) iR [(.row 1 a0_0),(.row 4 a0_1)]=bK (mR (D its n) a0_0 a0_1):=by kernel_rfl
def kM (M:Den) (a0_0 a0_1 a1 a2_0:List (List CV)) (a2_1:Int) (a2_2:List (List CV)):Option Ou :=  aD (M kO [CV.row 1 a0_0,CV.row 4 a0_1,CV.row 1 a1]) fun v0=>aB (!(gb v0 0)) (aD (M eV []) fun v1=>some (.ret [cb (gb v1 0)])) (aD (M kL [CV.row 1 a0_0,CV.row 4 a0_1,CV.row 1 a1]) fun v1=>aD (M eX [CV.row 1 a0_0,CV.row 4 a0_1,CV.row 1 a1]) fun v2=>aD (M eW [CV.row 1 a0_0,CV.row 4 a0_1,CV.row 1 a1,CV.row 1 a2_0]) fun v3=>aD (M dQ [CV.row 1 a0_0,CV.row 4 a0_1,CV.row 1 a1,ci a2_1,CV.row 1 a2_2]) fun v4=>bM (aB ((gi v3 0) == 0) (some (.nx [cb ((gi v4 0) == 0)])) (some (.nx [cb false]))) fun v5=>aB (gb v5 0) (some (.ret [cb false])) (aB ((gi v1 1) == 0) (aB ((gi v2 2) == 3) (aB (!((gi v4 0) == 0)) (aD (M eW [CV.row 1 a0_0,CV.row 4 a0_1,CV.row 1 a1,CV.row 1 (gr v1 0)]) fun v6=>aB ((gi v6 0) == 0) (aD (M eV []) fun v7=>some (.ret [cb (gb v7 0)])) (some (.ret [cb false]))) (some (.ret [cb false]))) (some (.ret [cb false]))) (aB ((gi v1 1) == 53) (aB ((gi v2 2) == 0) (aB (!((gi v3 0) == 0)) (aD (M dQ [CV.row 1 a0_0,CV.row 4 a0_1,CV.row 1 a1,ci (gi v2 0),CV.row 1 (gr v2 1)]) fun v6=>aB ((gi v6 0) == 0) (aD (M eV []) fun v7=>some (.ret [cb (gb v7 0)])) (some (.ret [cb false]))) (some (.ret [cb false]))) (some (.ret [cb false]))) (some (.ret [cb false])))))
theorem sD (its:ITS) (n:Nat) (a0_0 a0_1 a1 a2_0:List (List CV)) (a2_1:Int) (a2_2:List (List CV)):D its (n+1) kK [(.row 1 a0_0),(.row 4 a0_1),(.row 1 a1),(.row 1 a2_0),(ci a2_1),(.row 1 a2_2)]=bK (kM (D its n) a0_0 a0_1 a1 a2_0 a2_1 a2_2):=by kernel_rfl
def CD (M:Den) (a0_0 a0_1 a1 a2:List (List CV)) (a3:Int):Option Ou :=  aD (M iZ [CV.row 1 a0_0,CV.row 4 a0_1,CV.row 1 a1,CV.row 1 a2]) fun v0=>aB ((gi v0 2) != 0) (some (.ret [ci 0,ci (gi v0 2)])) (chk (cV (List.getD v0 0 dC))<|aD (M cM [CV.ref (cF (List.getD v0 0 dC)),ci a3]) fun v1=>aB (!(gb v1 0)) (some (.ret [ci 0,ci 51])) (aB ((il a1) == 8) (some (.ret [ci 0,ci 2])) (chk (oks [.row 1] (List.drop 0 (List.drop 0 (cF (List.getD v0 0 dC)))) 0)<|cS 1 (aI (fun v2=>aB (decide ((gi v2 0)<(il (gr (List.drop 0 (List.drop 0 (cF (List.getD v0 0 dC)))) 0)))) (chk (cV (List.getD v0 1 dC))<|aD (M eM [CV.ref (cF (List.getD v0 0 dC)),CV.ref (cF (List.getD v0 1 dC)),ci (gi v2 0),ci a3]) fun v3=>aB (gb v3 0) (some (.ret [ci (gi v2 0),ci 0])) (some (.nx [ci (wr ((gi v2 0)+1))]))) (some (.br 1 []))) [ci 0]) fun v2=>some (.ret [ci 0,ci 53]))))
theorem RN (its:ITS) (n:Nat) (a0_0 a0_1 a1 a2:List (List CV)) (a3:Int):D its (n+1) uD [(.row 1 a0_0),(.row 4 a0_1),(.row 1 a1),(.row 1 a2),(ci a3)]=bK (CD (D its n) a0_0 a0_1 a1 a2 a3):=by kernel_rfl
def lM (M:Den) (a0_0 a0_1 a1:List (List CV)):Option Ou :=  aD (M iR [CV.row 1 a0_0,CV.row 4 a0_1]) fun v0=>aB ((gi v0 0) != 0) (some (.ret [ci (gi v0 0)])) (aB (decide ((il a1) > 8)) (some (.ret [ci 51])) (cS 0 (aI (fun v1=>aB (decide ((gi v1 0)<(il a1))) (chk (inb (gi v1 0) a1)<|chk (oks [li] (el a1 (gi v1 0)) 0)<|aD (M qJ [CV.row 1 a0_0,CV.row 4 a0_1,ci (gi (el a1 (gi v1 0)) 0)]) fun v2=>aB (!(gb v2 4)) (some (.ret [ci 51])) (some (.nx [ci (wr ((gi v1 0)+1))]))) (some (.br 0 []))) [ci 0]) fun v1=>some (.ret [ci 0])))
theorem uG (its:ITS) (n:Nat) (a0_0 a0_1 a1:List (List CV)):D its (n+1) gY [(.row 1 a0_0),(.row 4 a0_1),(.row 1 a1)]=bK (lM (D its n) a0_0 a0_1 a1):=by kernel_rfl
def mS (M:Den) (a0_0:CV) (a0_1:List (List CV)) (a0_2:CV) (a1:List (List CV)):Option Ou :=  cS 0 (aI (fun v0=>aB (decide ((gi v0 0)<(il a1))) (chk (inb (gi v0 0) a1)<|chk (oks [li] (el a1 (gi v0 0)) 0)<|chk (inb (gi (el a1 (gi v0 0)) 0) a0_1)<|chk (oks [li] (el a0_1 (gi (el a1 (gi v0 0)) 0)) 0)<|chk (dA (List.length (gr v0 1)) 1 8)<|some (.nx ([ci (wr ((gi v0 0)+1)),CV.row 1 ((gr v0 1)++(aM 1 1 [ci (gi (el a0_1 (gi (el a1 (gi v0 0)) 0)) 0)]))]))) (some (.br 0 [CV.row 1 (gr v0 1)]))) ([ci 0,CV.row 1 []])) fun v0=>some (.ret [CV.row 1 (gr v0 0)])
theorem wJ (its:ITS) (n:Nat) (a0_0:CV) (a0_1:List (List CV)) (a0_2:CV) (a1:List (List CV)):D its (n+1) mP [a0_0,(.row 1 a0_1),a0_2,(.row 1 a1)]=bK (mS (D its n) a0_0 a0_1 a0_2 a1):=by kernel_rfl
def fZ (M:Den) (a0:List (List CV)) (a1:CV):Option Ou :=  cS 0 (aI (fun v0=>aB (decide ((gi v0 0)<(il a0))) (chk (inb (gi v0 0) a0)<|chk (oks [li,li,li] (el a0 (gi v0 0)) 0)<|aD (kW sg M a1 [ci (gi (el a0 (gi v0 0)) 0),ci (gi (el a0 (gi v0 0)) 1),ci (gi (el a0 (gi v0 0)) 2)] [.agg [li,li,li]] [.one lb]) fun v1=>aB (gb v1 0) (some (.ret [ci (gi v0 0)])) (some (.nx [ci (wr ((gi v0 0)+1))]))) (some (.br 0 []))) [ci 0]) fun v0=>some (.ret [ci (-1)])
theorem lN (its:ITS) (n:Nat) (a0:List (List CV)) (a1:CV):D its (n+1) dF [(.row 3 a0),a1]=bK (fZ (D its n) a0 a1):=by kernel_rfl
def vQ (M:Den) (a0_0 a0_1 a1:List (List CV)) (a2:Int):Option Ou :=  aD (M iB [CV.row 1 a0_0,CV.row 4 a0_1,CV.row 3 a1]) fun v0=>aB ((gi v0 1) != 0) (some (.ret [ci 0,ci (gi v0 1)])) (aD (M dD [ci a2,ci 0,ci 100000]) fun v1=>aB (!(gb v1 0)) (some (.ret [ci 0,ci 6])) (chk (cV (List.getD v0 0 dC))<|aD (M bV [CV.ref (cF (List.getD v0 0 dC)),CV.row 3 a1,ci a2]) fun v2=>some (.ret [ci (gi v2 0),ci 0])))
theorem IS (its:ITS) (n:Nat) (a0_0 a0_1 a1:List (List CV)) (a2:Int):D its (n+1) nM [(.row 1 a0_0),(.row 4 a0_1),(.row 3 a1),(ci a2)]=bK (vQ (D its n) a0_0 a0_1 a1 a2):=by kernel_rfl
def jX (M:Den) (a0:List CV) (a1:Int):Option Ou :=  aD (M dD [ci a1,ci 1,ci 9]) fun v0=>aB (gb v0 0) (chk ((decide (0≤a1))&&(decide (a1<(Int.ofNat 10))))<|chk (oks [li] (List.drop 0 (List.drop ((Int.toNat a1)*4) (List.drop 2 a0))) 0)<|some (.ret [cb ((gi (List.drop 0 (List.drop ((Int.toNat a1)*4) (List.drop 2 a0))) 0) == a1)])) (some (.ret [cb false]))
theorem qN (its:ITS) (n:Nat) (a0:List CV) (a1:Int):D its (n+1) cM [(.ref a0),(ci a1)]=bK (jX (D its n) a0 a1):=by kernel_rfl
def iO (M:Den) (a0:List CV) (a1 a2:Int):Option Ou :=  chk ((decide (0≤a1))&&(decide (a1<(Int.ofNat 10))))<|chk (oks [li] (List.drop ((Int.toNat a1)*1) (List.drop 42 a0)) 0)<|chk (decide (0≤a2))<|some (.ret [cb ((wr (Int.ofNat (bAN (Int.fdiv (gi (List.drop ((Int.toNat a1)*1) (List.drop 42 a0)) 0) ((2:Int) ^ (min (Int.toNat a2) 64))) 1))) == 1)])
theorem nR (its:ITS) (n:Nat) (a0:List CV) (a1 a2:Int):D its (n+1) iK [(.ref a0),(ci a1),(ci a2)]=bK (iO (D its n) a0 a1 a2):=by kernel_rfl
def pJ (M:Den) (a0_0 a0_1 a1:List (List CV)):Option Ou :=  aD (M gY [CV.row 1 a0_0,CV.row 4 a0_1,CV.row 1 a1]) fun v0=>some (.ret [cb ((gi v0 0) == 0)])
theorem AM (its:ITS) (n:Nat) (a0_0 a0_1 a1:List (List CV)):D its (n+1) kO [(.row 1 a0_0),(.row 4 a0_1),(.row 1 a1)]=bK (pJ (D its n) a0_0 a0_1 a1):=by kernel_rfl
def jY (M:Den) (a0:Int):Option Ou :=  aD (M dD [ci a0,ci 0,ci 1000]) fun v0=>some (.ret [cb (!(gb v0 0))])
theorem qO (its:ITS) (n:Nat) (a0:Int):D its (n+1) bR [(ci a0)]=bK (jY (D its n) a0):=by kernel_rfl
end
end Go.Proofs.Ythkfohoccnnphaa
namespace Go.Proofs.Ythkfohoccnnphaa
open Go Go.Sx
set_option maxRecDepth 100000
set_option maxHeartbeats 0
noncomputable section
def upA (e:List CV) (v0:List CV):List CV:=CV.row 1 (gr v0 1)::CV.row 4 (gr v0 2)::(List.range 50).map fun j=>ci (if decide (j+2=(((2+(Int.toNat (gi e 0)*4))+1)+1)+1)=true then gi e 3 else if decide (j+2=((2+(Int.toNat (gi e 0)*4))+1)+1)=true then gi e 2 else if decide (j+2=(2+(Int.toNat (gi e 0)*4))+1)=true then gi e 1 else if decide (j+2=2+(Int.toNat (gi e 0)*4))=true then gi e 0 else gi v0 (j+3))
def upB (e:List CV) (v2:List CV):List CV:=CV.row 1 (gr v2 1)::CV.row 4 (gr v2 2)::(List.range 50).map fun j=>ci (if decide (j+2=42+(Int.toNat (gi e 0)*1))=true then wr (Int.ofNat (bON (gi (cat [[CV.row 1 (gr v2 1),CV.row 4 (gr v2 2)],cis v2 3 50]) (42+(Int.toNat (gi e 0)*1))) (wr (1*((2:Int) ^ (min (Int.toNat (gi v2 0)) 64)))))) else gi v2 (j+3))
def upC (e:List CV) (v2 v3:List CV):List CV:=CV.row 1 (gr v3 0)::CV.row 4 (gr v3 1)::(List.range 50).map fun j=>ci (if decide (j+2=42+(Int.toNat (gi v2 0)*1))=true then wr (Int.ofNat (bON (gi (cat [[CV.row 1 (gr v3 0),CV.row 4 (gr v3 1)],cis v3 2 50]) (42+(Int.toNat (gi v2 0)*1))) (wr (1*((2:Int) ^ (min (Int.toNat (gi e 0)) 64)))))) else gi v3 (j+2))
def RP (e:List CV):List CV→Option Ou:=fun v2=>aB (decide ((gi v2 0)<10)) (chk (decide (0≤(gi v2 0)))<|bM (aB ((wr (Int.ofNat (bAN (Int.fdiv (gi e 3) ((2:Int) ^ (min (Int.toNat (gi v2 0)) 64))) 1))) == 1) (bM (chk ((decide (0≤(gi e 0)))&&(decide ((gi e 0)<(Int.ofNat 10))))<|chk (oks [li] (cat [[CV.row 1 (gr v2 1),CV.row 4 (gr v2 2)],cis v2 3 50]) (42+((Int.toNat (gi e 0))*1)))<|chk (decide (0≤(gi v2 0)))<|chk ((decide (0≤(gi e 0)))&&(decide ((gi e 0)<(Int.ofNat 10))))<|chk (oks [li] (cat [[CV.row 1 (gr v2 1),CV.row 4 (gr v2 2)],cis v2 3 50]) (42+((Int.toNat (gi e 0))*1)))<|some (.nx ((upB e v2)))) fun v3=>bM (chk ((decide (0≤(gi v2 0)))&&(decide ((gi v2 0)<(Int.ofNat 10))))<|chk (oks [li] (cat [[CV.row 1 (gr v3 0),CV.row 4 (gr v3 1)],cis v3 2 50]) (42+((Int.toNat (gi v2 0))*1)))<|chk (decide (0≤(gi e 0)))<|chk ((decide (0≤(gi v2 0)))&&(decide ((gi v2 0)<(Int.ofNat 10))))<|chk (oks [li] (cat [[CV.row 1 (gr v3 0),CV.row 4 (gr v3 1)],cis v3 2 50]) (42+((Int.toNat (gi v2 0))*1)))<|some (.nx ((upC e v2 v3)))) fun v4=>some (.nx (cat [[CV.row 1 (gr v4 0),CV.row 4 (gr v4 1)],cis v4 2 50]))) (some (.nx (cat [[CV.row 1 (gr v2 1),CV.row 4 (gr v2 2)],cis v2 3 50])))) fun v3=>some (.nx (cat [[ci (wr ((gi v2 0)+1)),CV.row 1 (gr v3 0),CV.row 4 (gr v3 1)],cis v3 2 50]))) (some (.br 2 (cat [[CV.row 1 (gr v2 1),CV.row 4 (gr v2 2)],cis v2 3 50])))
def IT (a0_1:List (List CV)):List CV→Option Ou:=fun v0=>aB (decide ((gi v0 0)<(il a0_1))) (chk (inb (gi v0 0) a0_1)<|chk (oks (List.replicate 4 li) (el a0_1 (gi v0 0)) 0)<|bM (chk ((decide (0≤(gi (el a0_1 (gi v0 0)) 0)))&&(decide ((gi (el a0_1 (gi v0 0)) 0)<(Int.ofNat 10))))<|chk (oks (List.replicate 4 li) (cat [[CV.row 1 (gr v0 1),CV.row 4 (gr v0 2)],cis v0 3 50]) (2+((Int.toNat (gi (el a0_1 (gi v0 0)) 0))*4)))<|some (.nx (upA (el a0_1 (gi v0 0)) v0))) fun v1=>cS 2 (aI (RP (el a0_1 (gi v0 0))) (cat [[ci 0,CV.row 1 (gr v1 0),CV.row 4 (gr v1 1)],cis v1 2 50])) fun v2=>some (.nx (cat [[ci (wr ((gi v0 0)+1)),CV.row 1 (gr v2 0),CV.row 4 (gr v2 1)],cis v2 2 50]))) (some (.br 0 (cat [[CV.row 1 (gr v0 1),CV.row 4 (gr v0 2)],cis v0 3 50])))
def npR (a0_0 a0_1:List (List CV)):Option Ou:=cS 0 (aI (IT a0_1) (ci 0::CV.row 1 a0_0::CV.row 4 a0_1::List.replicate 50 (ci 0))) fun v0=>some (.ret ([CV.ref (cat [[CV.row 1 (gr v0 0),CV.row 4 (gr v0 1)],cis v0 2 50])]))
theorem zJ (its:ITS) (n:Nat) (a0_0 a0_1:List (List CV)):D its (n+1) gK [(.row 1 a0_0),(.row 4 a0_1)]=bK (npR a0_0 a0_1):=by kernel_rfl
end
end Go.Proofs.Ythkfohoccnnphaa
namespace Go.Proofs.Ythkfohoccnnphaa
open Go Go.Sx
set_option maxRecDepth 100000
set_option maxHeartbeats 0
noncomputable section
def aAD (q:Int) (v6:List CV):List CV:=[ci (wr ((gi v6 0)+1)),ci (if (decide (0=(0+((Int.toNat q)*1))))=true then wr ((gi (cis v6 1 10) (0+((Int.toNat q)*1)))+1) else gi v6 1),ci (if (decide (1=(0+((Int.toNat q)*1))))=true then wr ((gi (cis v6 1 10) (0+((Int.toNat q)*1)))+1) else gi v6 2),ci (if (decide (2=(0+((Int.toNat q)*1))))=true then wr ((gi (cis v6 1 10) (0+((Int.toNat q)*1)))+1) else gi v6 3),ci (if (decide (3=(0+((Int.toNat q)*1))))=true then wr ((gi (cis v6 1 10) (0+((Int.toNat q)*1)))+1) else gi v6 4),ci (if (decide (4=(0+((Int.toNat q)*1))))=true then wr ((gi (cis v6 1 10) (0+((Int.toNat q)*1)))+1) else gi v6 5),ci (if (decide (5=(0+((Int.toNat q)*1))))=true then wr ((gi (cis v6 1 10) (0+((Int.toNat q)*1)))+1) else gi v6 6),ci (if (decide (6=(0+((Int.toNat q)*1))))=true then wr ((gi (cis v6 1 10) (0+((Int.toNat q)*1)))+1) else gi v6 7),ci (if (decide (7=(0+((Int.toNat q)*1))))=true then wr ((gi (cis v6 1 10) (0+((Int.toNat q)*1)))+1) else gi v6 8),ci (if (decide (8=(0+((Int.toNat q)*1))))=true then wr ((gi (cis v6 1 10) (0+((Int.toNat q)*1)))+1) else gi v6 9),ci (if (decide (9=(0+((Int.toNat q)*1))))=true then wr ((gi (cis v6 1 10) (0+((Int.toNat q)*1)))+1) else gi v6 10)]
def mD (es:List (List CV)):List CV→Option Ou:=fun v6=>aB (decide ((gi v6 0)<(il es))) (chk (inb (gi v6 0) es)<|chk (oks [li] (el es (gi v6 0)) 0)<|chk ((decide (0≤(gi (el es (gi v6 0)) 0)))&&(decide ((gi (el es (gi v6 0)) 0)<(Int.ofNat 10))))<|chk (oks [li] (cis v6 1 10) (0+((Int.toNat (gi (el es (gi v6 0)) 0))*1)))<|chk ((decide (0≤(gi (el es (gi v6 0)) 0)))&&(decide ((gi (el es (gi v6 0)) 0)<(Int.ofNat 10))))<|chk (oks [li] (cis v6 1 10) (0+((Int.toNat (gi (el es (gi v6 0)) 0))*1)))<|some (.nx (aAD (gi (el es (gi v6 0)) 0) v6))) (some (.br 0 (cis v6 1 10)))
def OS (p:List CV) (a1 es:List (List CV)):List CV→Option Ou:=fun v4=>aB (decide ((gi v4 0)<(il (gr (List.drop 0 (List.drop 0 p)) 0)))) (chk (inb (gi v4 0) (gr (List.drop 0 (List.drop 0 p)) 0))<|chk (oks [li] (el (gr (List.drop 0 (List.drop 0 p)) 0) (gi v4 0)) 0)<|eF (chk (inb 0 es)<|chk (oks [li] (List.getD es 0 []) 0)<|chk (inb (gi (List.getD es 0 []) 0) a1)<|chk (oks [li] (el a1 (gi (List.getD es 0 []) 0)) 0)<|chk ((decide (0≤(gi (el a1 (gi (List.getD es 0 []) 0)) 0)))&&(decide ((gi (el a1 (gi (List.getD es 0 []) 0)) 0)<(Int.ofNat 10))))<|chk (oks [li] (List.drop 1 (List.drop ((Int.toNat (gi (el a1 (gi (List.getD es 0 []) 0)) 0))*4) (List.drop 2 p))) 0)<|some (.ret ([cb (decide ((gi (List.drop 1 (List.drop ((Int.toNat (gi (el a1 (gi (List.getD es 0 []) 0)) 0))*4) (List.drop 2 p))) 0)≤(gi (el (gr (List.drop 0 (List.drop 0 p)) 0) (gi v4 0)) 0)))]))) fun v5=>aB (gb v5 0) (some (.ret [ci (gi v4 0)])) (some (.nx [ci (wr ((gi v4 0)+1))]))) (some (.br 0 []))
def ZE (f:Bool→List CV) (p:List CV) (a1 es:List (List CV)):Option Ou:=aB ((il es) == 1) (chk (oks [.row 1] (List.drop 0 (List.drop 0 p)) 0)<|eF (eF (cS 0 (aI (OS p a1 es) [ci 0]) fun v4=>some (.ret [ci (-1)])) fun v4=>some (.ret [cb (decide ((gi v4 0)≥0))])) fun v4=>some (.ret (f (!(gb v4 0))))) (some (.ret (f false)))
abbrev aCG:=ZE fun b=>[cb b]
def vR (p:List CV) (a1:List (List CV)):List CV→List CV→Option Ou:=fun x3 v3=>eF (aCG p a1 (gr x3 0)) fun v4=>aB (gb v4 0) (some (.ret [ci 1,CV.row 1 (gr x3 0),ci 0])) (some (.nx [ci (gi v3 0),CV.row 1 (gr v3 1),ci (gi v3 2)]))
def OT (p:List CV):List CV→Option Ou:=fun v5=>aB (decide ((gi v5 1)<(il (gr (List.drop 0 (List.drop 0 p)) 0)))) (chk (inb (gi v5 1) (gr (List.drop 0 (List.drop 0 p)) 0))<|chk (oks [li] (el (gr (List.drop 0 (List.drop 0 p)) 0) (gi v5 1)) 0)<|some (.nx [ci (wr ((gi v5 0)+(gi (el (gr (List.drop 0 (List.drop 0 p)) 0) (gi v5 1)) 0))),ci (wr ((gi v5 1)+1))])) (some (.br 0 [ci (gi v5 0)]))
def OU (f:Bool→List CV) (M:Den) (p:List CV) (a1 es:List (List CV)):Option Ou:=chk (oks [.row 1] (List.drop 0 (List.drop 0 p)) 0)<|cS 0 (aI (OT p) [ci 0,ci 0]) fun v5=>GV (fun c6=>M 124 [CV.ref p,CV.row 1 a1,c6,CV.row 1 es]) fun v6=>aD (M 85 [CV.ref p,CV.row 1 (gr v6 0)]) fun v7=>some (.ret (f (decide ((gi v7 0) > (gi v5 0)))))
abbrev VO:=OU fun b=>[cb b]
def IU (M:Den) (p:List CV) (a1:List (List CV)):List CV→Option Ou:=fun v6=>aB (decide ((gi v6 1)≥0)) (eF (tB (gr v6 0) (some (.ret ([CV.row 1 []]))) (chk (dA 0 (List.length (gr v6 0)) 8)<|some (.ret [CV.row 1 (gr v6 0)]))) fun v7=>aD (M 82 ([CV.row 1 (gr v7 0),CV.fn 3 [],ci (gi v6 1),ci (wr ((gi v6 1)+1))])) fun v8=>chk (pY 1 true v8)<|eF (VO M p a1 (gr v8 0)) fun v9=>bM (aB (gb v9 0) (some (.nx [CV.row 1 (gr v8 0)])) (some (.nx [CV.row 1 (gr v6 0)]))) fun v10=>some (.nx [CV.row 1 (gr v10 0),ci (wr ((gi v6 1) - 1))])) (some (.br 0 [CV.row 1 (gr v6 0)]))
def IV (f:Bool→List CV) (M:Den) (p:List CV) (a1 es:List (List CV)) (i:Int):List CV→Option Ou:=fun v9=>aB (decide ((gi v9 0)<(il (List.drop 0 (List.take (Int.toNat i) es))))) (chk (inb (gi v9 0) (List.drop 0 (List.take (Int.toNat i) es)))<|chk (oks [li] (el (List.drop 0 (List.take (Int.toNat i) es)) (gi v9 0)) 0)<|chk (inb (gi (el es i) 0) a1)<|chk (oks [li] (el a1 (gi (el es i) 0)) 0)<|chk (inb (gi (el (List.drop 0 (List.take (Int.toNat i) es)) (gi v9 0)) 0) a1)<|chk (oks [li] (el a1 (gi (el (List.drop 0 (List.take (Int.toNat i) es)) (gi v9 0)) 0)) 0)<|aD (M 88 [CV.ref p,ci (gi (el a1 (gi (el es i) 0)) 0),ci (gi (el a1 (gi (el (List.drop 0 (List.take (Int.toNat i) es)) (gi v9 0)) 0)) 0)]) fun v10=>aB (!(gb v10 0)) (some (.ret (f false))) (some (.nx [ci (wr ((gi v9 0)+1))]))) (some (.br 2 []))
def OV (f:Bool→List CV) (M:Den) (p:List CV) (a1 es:List (List CV)):List CV→Option Ou:=fun v8=>aB (decide ((gi v8 0)<(il es))) (chk (inb (gi v8 0) es)<|chk (oks [li] (el es (gi v8 0)) 0)<|chk (((decide (0≤0))&&(decide (0≤(gi v8 0))))&&(decide ((gi v8 0)≤(il es))))<|cS 2 (aI (IV f M p a1 es (gi v8 0)) [ci 0]) fun v9=>some (.nx [ci (wr ((gi v8 0)+1))])) (some (.br 0 []))
def OW (f:Bool→List CV) (M:Den) (p:List CV) (a1 es:List (List CV)):Option Ou:=cS 0 (aI (OV f M p a1 es) [ci 0]) fun v8=>chk (oks [.row 1] (List.drop 0 (List.drop 0 p)) 0)<|some (.ret (f ((il es) == (wr ((il (gr (List.drop 0 (List.drop 0 p)) 0))+1)))))
abbrev aAE:=OW fun b=>[cb b]
def nT (M:Den) (p:List CV) (a1:List (List CV)):List CV→List CV→Option Ou:=fun x7 v7=>eF (aAE M p a1 (gr x7 0)) fun v8=>aB (gb v8 0) (some (.ret [ci 3,CV.row 1 (gr x7 0),ci 0])) (some (.nx [ci (gi v7 0),CV.row 1 (gr v7 1),ci (gi v7 2)]))
def EO (M:Den) (p:List CV) (a1 es tr:List (List CV)):Option Ou:=GV (fun c11=>M 124 [CV.ref p,CV.row 1 a1,c11,CV.row 1 es]) fun v11=>eF (cS 0 (aI (mD (gr v11 0)) [ci 0,ci 0,ci 0,ci 0,ci 0,ci 0,ci 0,ci 0,ci 0,ci 0,ci 0]) fun v12=>chk (nA [(.int .i64),(.int .i64),(.int .i64),(.int .i64),(.int .i64),(.int .i64),(.int .i64),(.int .i64),(.int .i64),(.int .i64)] .bool tr)<|bM (aB (!(decide ((bA 10 (cis v12 0 10) tr)<(List.length tr)))) (aD (M 74 [CV.ref p,CV.row 1 (gr v11 0),ci 0]) fun v13=>chk (nA [(.int .i64),(.int .i64),(.int .i64),(.int .i64),(.int .i64),(.int .i64),(.int .i64),(.int .i64),(.int .i64),(.int .i64)] .bool tr)<|some (.nx [cb (gb v13 1),CV.row 11 (jM 10 (cis v12 0 10) (cb (gb v13 1)) tr)])) (some (.nx [cb (cB (bC 10 (cis v12 0 10) (.bool false) tr)),CV.row 11 tr]))) fun v13=>some (.ret [cb (gb v13 0),CV.row 11 (gr v13 1)])) fun v12=>some (.ret [cb (!(gb v12 0)),CV.row 11 (gr v12 1)])
def zK (M:Den) (p:List CV) (a1:List (List CV)):List CV→Option Ou:=fun v8=>aB (decide ((gi v8 1)≥0)) (eF (tB (gr v8 0) (some (.ret ([CV.row 1 []]))) (chk (dA 0 (List.length (gr v8 0)) 8)<|some (.ret [CV.row 1 (gr v8 0)]))) fun v9=>aD (M 82 ([CV.row 1 (gr v9 0),CV.fn 3 [],ci (gi v8 1),ci (wr ((gi v8 1)+1))])) fun v10=>chk (pY 1 true v10)<|eF (EO M p a1 (gr v10 0) (gr v8 2)) fun v11=>bM (aB (gb v11 0) (some (.nx [CV.row 1 (gr v10 0)])) (some (.nx [CV.row 1 (gr v8 0)]))) fun v12=>some (.nx [CV.row 1 (gr v12 0),ci (wr ((gi v8 1) - 1)),CV.row 11 (gr v11 1)])) (some (.br 0 [CV.row 1 (gr v8 0),CV.row 11 (gr v8 2)]))
def allIn (a1:List (List CV)):List CV→Option Ou:=fun v4=>aB (decide ((gi v4 0)<(il a1))) (chk (dA (List.length (gr v4 1)) 1 8)<|some (.nx ([ci (wr ((gi v4 0)+1)),CV.row 1 ((gr v4 1)++(aM 1 1 [ci (gi v4 0)]))]))) (some (.br 2 [CV.row 1 (gr v4 1)]))
def OX (M:Den) (a0_0 a0_1 a1:List (List CV)):Option Ou:=aD (M 72 [CV.row 1 a0_0,CV.row 4 a0_1,CV.row 1 a1]) fun v0=>aB ((gi v0 1) != 0) (some (.ret ([ci 0,CV.row 1 [],ci (gi v0 1)]))) (chk (cV (List.getD v0 0 dC))<|eF (cS 0 (aI (mD a1) [ci 0,ci 0,ci 0,ci 0,ci 0,ci 0,ci 0,ci 0,ci 0,ci 0,ci 0]) fun v1=>bM (aD (M 74 [CV.ref (cF (List.getD v0 0 dC)),CV.row 1 a1,ci 0]) fun v2=>some (.nx ([cb (gb v2 1),CV.row 11 (jM 10 (cis v1 0 10) (cb (gb v2 1)) [])]))) fun v2=>some (.ret [cb (gb v2 0),CV.row 11 (gr v2 1)])) fun v1=>aB (gb v1 0) (some (.ret ([ci 0,CV.row 1 [],ci 3]))) (aD (M 93 [ci (il a1),ci 1]) fun v2=>bM (brO (eC (tQ sg M (List.getD v2 0 dC) (.clo [.one (.row 1)])) (vR (cF (List.getD v0 0 dC)) a1) [ci 0,CV.val (Value.slice none 0 0),ci 0])) fun v3=>cS 2 (aI (allIn a1) ([ci 0,CV.row 1 []])) fun v4=>eF (VO M (cF (List.getD v0 0 dC)) a1 (gr v4 0)) fun v5=>aB (gb v5 0) (eF (cS 0 (aI (IU M (cF (List.getD v0 0 dC)) a1) [CV.row 1 (gr v4 0),ci (wr ((il (gr v4 0)) - 1))]) fun v6=>some (.ret [CV.row 1 (gr v6 0)])) fun v6=>some (.ret [ci 2,CV.row 1 (gr v6 0),ci 0])) (chk (oks [.row 1] (List.drop 0 (List.drop 0 (cF (List.getD v0 0 dC)))) 0)<|aD (M 93 [ci (il a1),ci (wr ((il (gr (List.drop 0 (List.drop 0 (cF (List.getD v0 0 dC)))) 0))+1))]) fun v6=>bM (brO (eC (tQ sg M (List.getD v6 0 dC) (.clo [.one (.row 1)])) (nT M (cF (List.getD v0 0 dC)) a1) [ci (gi v3 0),CV.row 1 (gr v3 1),ci (gi v3 2)])) fun v7=>eF (cS 0 (aI (zK M (cF (List.getD v0 0 dC)) a1) [CV.row 1 (gr v4 0),ci (wr ((il (gr v4 0)) - 1)),CV.row 11 (gr v1 1)]) fun v8=>some (.ret [CV.row 1 (gr v8 0),CV.row 11 (gr v8 1)])) fun v8=>some (.ret [ci 4,CV.row 1 (gr v8 0),ci 0]))))
theorem EP (its:ITS) (n:Nat) (a b c:List (List CV)):D its (n+1) eX [(.row 1 a),(.row 4 b),(.row 1 c)]=bK (OX (D its n) a b c):=by kernel_rfl
def sE (a1 ts:List (List CV)):List CV→Option Ou:=fun v5=>aB (decide ((gi v5 0)<(il ts))) (chk (inb (gi v5 0) ts)<|chk (oks [li] (el ts (gi v5 0)) 0)<|chk (inb (gi (el ts (gi v5 0)) 0) a1)<|chk (oks [li] (List.drop 0 (el a1 (gi (el ts (gi v5 0)) 0))) 0)<|chk (dA (List.length (gr v5 1)) 1 8)<|some (.nx ([ci (wr ((gi v5 0)+1)),CV.row 1 ((gr v5 1)++(aM 1 1 [ci (gi (List.drop 0 (el a1 (gi (el ts (gi v5 0)) 0))) 0)]))]))) (some (.br 4 [CV.row 1 (gr v5 1)]))
def xC (a1:List (List CV)):List CV→Option Ou:=fun v1=>aB (decide ((gi v1 0)<(il a1))) (chk (inb (gi v1 0) a1)<|chk (oks [li,li,li] (el a1 (gi v1 0)) 0)<|chk (dA (List.length (gr v1 1)) 1 8)<|bM (aB ((gi (el a1 (gi v1 0)) 2) != (-1)) (chk (dA (List.length ((gr v1 1)++(aM 1 1 [ci (gi (el a1 (gi v1 0)) 1)]))) 1 8)<|some (.nx ([CV.row 1 (((gr v1 1)++(aM 1 1 [ci (gi (el a1 (gi v1 0)) 1)]))++(aM 1 1 [ci (gi (el a1 (gi v1 0)) 2)]))]))) (some (.nx ([CV.row 1 ((gr v1 1)++(aM 1 1 [ci (gi (el a1 (gi v1 0)) 1)]))])))) fun v2=>some (.nx [ci (wr ((gi v1 0)+1)),CV.row 1 (gr v2 0)])) (some (.br 0 [CV.row 1 (gr v1 1)]))
def gM (M:Den) (c:CV) (a1 ds:List (List CV)):List CV→Option Ou:=fun v3=>aB (decide ((gi v3 0)<(il ds))) (chk (inb (gi v3 0) ds)<|chk (decide ((Int.toNat (gi v3 0))<(List.length ds)))<|chk (oks [li] (el ds (gi v3 0)) 0)<|aD (M 69 [CV.row 3 a1,ci (gi (el ds (gi v3 0)) 0)]) fun v4=>cS 4 (aI (sE a1 (gr v4 0)) ([ci 0,CV.row 1 []])) fun v5=>bM (aB (decide ((il (gr v5 0)) > 8)) (some (.nx [cb true,CV.row 11 (gr v3 1)])) (eF (cS 0 (aI (mD (gr v5 0)) [ci 0,ci 0,ci 0,ci 0,ci 0,ci 0,ci 0,ci 0,ci 0,ci 0,ci 0]) fun v6=>chk (nA [(.int .i64),(.int .i64),(.int .i64),(.int .i64),(.int .i64),(.int .i64),(.int .i64),(.int .i64),(.int .i64),(.int .i64)] .bool (gr v3 1))<|bM (aB (!(decide ((bA 10 (cis v6 0 10) (gr v3 1))<(List.length (gr v3 1))))) (chk (cV c)<|aD (M 74 [CV.ref (cF c),CV.row 1 (gr v5 0),ci 0]) fun v7=>chk (nA [(.int .i64),(.int .i64),(.int .i64),(.int .i64),(.int .i64),(.int .i64),(.int .i64),(.int .i64),(.int .i64),(.int .i64)] .bool (gr v3 1))<|some (.nx [cb (gb v7 1),CV.row 11 (jM 10 (cis v6 0 10) (cb (gb v7 1)) (gr v3 1))])) (some (.nx [cb (cB (bC 10 (cis v6 0 10) (.bool false) (gr v3 1))),CV.row 11 (gr v3 1)]))) fun v7=>some (.ret [cb (gb v7 0),CV.row 11 (gr v7 1)])) fun v6=>some (.nx [cb (!(gb v6 0)),CV.row 11 (gr v6 1)]))) fun v6=>aB (gb v6 0) (some (.ret [ci (gi (el ds (gi v3 0)) 0),ci 0])) (some (.nx [ci (wr ((gi v3 0)+1)),CV.row 11 (gr v6 1)]))) (some (.br 2 [CV.row 11 (gr v3 1)]))
def aAF (M:Den) (a0_0 a0_1 a1:List (List CV)):Option Ou:=aD (M 66 [CV.row 1 a0_0,CV.row 4 a0_1,CV.row 3 a1]) fun v0=>aB ((gi v0 1) != 0) (some (.ret [ci 0,ci (gi v0 1)])) (cS 0 (aI (xC a1) ([ci 0,CV.row 1 []])) fun v1=>aD (M 70 ([CV.row 1 (gr v1 0),CV.fn 3 []])) fun v2=>chk (pY 1 false v2)<|cS 2 (aI (gM M (List.getD v0 0 dC) a1 (gr v2 0)) ([ci 0,CV.row 11 []])) fun v3=>some (.ret [ci 0,ci 3]))
theorem MQ (its:ITS) (n:Nat) (a b c:List (List CV)):D its (n+1) qH [(.row 1 a),(.row 4 b),(.row 3 c)]=bK (aAF (D its n) a b c):=by kernel_rfl
def nU (es:List (List CV)):List CV→Option Ou:=fun v3=>aB (decide ((gi v3 1)<(il es))) (chk (inb (gi v3 1) es)<|chk (decide ((Int.toNat (gi v3 1))<(List.length es)))<|chk (oks [li] (el es (gi v3 1)) 0)<|chk ((decide (0≤(gi (el es (gi v3 1)) 0)))&&(decide ((gi (el es (gi v3 1)) 0)<(Int.ofNat 5))))<|chk (oks [lb] [cb (gb v3 2),cb (gb v3 3),cb (gb v3 4),cb (gb v3 5),cb (gb v3 6)] (0+((Int.toNat (gi (el es (gi v3 1)) 0))*1)))<|bM (aB (!(gb [cb (gb v3 2),cb (gb v3 3),cb (gb v3 4),cb (gb v3 5),cb (gb v3 6)] (0+((Int.toNat (gi (el es (gi v3 1)) 0))*1)))) (chk ((decide (0≤(gi (el es (gi v3 1)) 0)))&&(decide ((gi (el es (gi v3 1)) 0)<(Int.ofNat 5))))<|chk (oks [lb] [cb (gb v3 2),cb (gb v3 3),cb (gb v3 4),cb (gb v3 5),cb (gb v3 6)] (0+((Int.toNat (gi (el es (gi v3 1)) 0))*1)))<|some (.nx [ci (wr ((gi v3 0)+1)),cb (if (decide (0=(0+((Int.toNat (gi (el es (gi v3 1)) 0))*1))))=true then true else gb v3 2),cb (if (decide (1=(0+((Int.toNat (gi (el es (gi v3 1)) 0))*1))))=true then true else gb v3 3),cb (if (decide (2=(0+((Int.toNat (gi (el es (gi v3 1)) 0))*1))))=true then true else gb v3 4),cb (if (decide (3=(0+((Int.toNat (gi (el es (gi v3 1)) 0))*1))))=true then true else gb v3 5),cb (if (decide (4=(0+((Int.toNat (gi (el es (gi v3 1)) 0))*1))))=true then true else gb v3 6)])) (some (.nx [ci (gi v3 0),cb (gb v3 2),cb (gb v3 3),cb (gb v3 4),cb (gb v3 5),cb (gb v3 6)]))) fun v4=>some (.nx [ci (gi v4 0),ci (wr ((gi v3 1)+1)),cb (gb v4 1),cb (gb v4 2),cb (gb v4 3),cb (gb v4 4),cb (gb v4 5)])) (some (.br 2 [ci (gi v3 0),cb (gb v3 2),cb (gb v3 3),cb (gb v3 4),cb (gb v3 5),cb (gb v3 6)]))
def zL:List CV→List CV→Option Ou:=fun x2 v2 =>
      cS 2 (aI (nU (gr x2 0)) [ci 0,ci 0,cb false,cb false,cb false,cb false,cb false]) fun v3 =>
      bM (aB (decide ((gi v3 0)<(gi v2 1)))
          (chk (nA [.bool,.bool,.bool,.bool,.bool] .bool (gr v2 2)) <|
          some (.nx ([cb (!(cB (bC 5 [cb (gb v3 1),cb (gb v3 2),cb (gb v3 3),cb (gb v3 4),cb (gb v3 5)] (.bool false) (gr v2 2))))])))
          (some (.nx [cb false]))) fun v4 =>
      bM (aB (gb v4 0)
          (eF (tB (gr x2 0)
            (some (.ret ([CV.row 1 []])))
            (chk (dA 0 (List.length (gr x2 0)) 8) <|
            some (.ret [CV.row 1 (gr x2 0)]))) fun v5 =>
          some (.nx [CV.row 1 (gr v5 0),ci (gi v3 0)]))
          (some (.nx [CV.row 1 (gr v2 0),ci (gi v2 1)]))) fun v5 =>
      chk (nA [.bool,.bool,.bool,.bool,.bool] .bool (gr v2 2)) <|
      some (.nx ([CV.row 1 (gr v5 0),ci (gi v5 1),CV.row 6 (jM 5 [cb (gb v3 1),cb (gb v3 2),cb (gb v3 3),cb (gb v3 4),cb (gb v3 5)] (cb true) (gr v2 2))]))
def OY (M:Den) (a b l:List (List CV)):Option Ou:=aD (M 72 [CV.row 1 a,CV.row 4 b,CV.row 1 l]) fun v0 =>
  aB ((gi v0 1) != 0)
   (some (.ret ([CV.row 1 [],ci (gi v0 1)])))
   (chk (cV (List.getD v0 0 dC)) <|
   chk (oks [.row 1] (List.drop 0 (List.drop 0 (cF (List.getD v0 0 dC)))) 0) <|
   aD (M 73 [CV.ref (cF (List.getD v0 0 dC)),CV.row 1 l]) fun v1 =>
   bM (brO (eC (tQ sg M (List.getD v1 0 dC) (.lent 3 1)) zL ([CV.val (Value.slice none 0 0),ci (wr ((il (gr (List.drop 0 (List.drop 0 (cF (List.getD v0 0 dC)))) 0))+1)),CV.row 6 []]))) fun v2 =>
   chk (oks [.row 1] (List.drop 0 (List.drop 0 (cF (List.getD v0 0 dC)))) 0) <|
   aB (decide ((gi v2 1) > (il (gr (List.drop 0 (List.drop 0 (cF (List.getD v0 0 dC)))) 0))))
    (some (.ret ([CV.row 1 [],ci 53])))
    (some (.ret [CV.row 1 (gr v2 0),ci 0])))
theorem EQ (its:ITS) (n:Nat) (a b l:List (List CV)):D its (n+1) lW [(.row 1 a),(.row 4 b),(.row 1 l)]=bK (OY (D its n) a b l):=by kernel_rfl
def VP (M:Den) (p:List CV) (l:List (List CV)) (k:Int) (tr:List (List CV)) (K:(List (List CV)→Option Ou)→Option Ou):Option Ou:=aD (M 104 ([CV.fn 124 [],CV.fn 94 [],CV.fn 95 [],CV.fn 97 [],CV.fn 98 []])) fun v3=>chk (isW v3)<|chk ((decide (0≤(wr (k - 1))))&&(decide ((wr (k - 1))<4))) <|
 aB ((wr (k - 1)) == 0) (K fun es=>ZE (fun b=>[cb b,CV.row 11 tr]) p l es) (aB ((wr (k - 1)) == 1) (K fun es=>OU (fun b=>[cb b,CV.row 11 tr]) M p l es) (aB ((wr (k - 1)) == 2) (K fun es=>OW (fun b=>[cb b,CV.row 11 tr]) M p l es) (K fun es=>EO M p l es tr)))
def IY (M:Den) (l es:List (List CV)):List CV→Option Ou:=fun v1=>aB (decide ((gi v1 0)<(il es))) (chk (inb (gi v1 0) es)<|chk (oks [li] (el es (gi v1 0)) 0)<|bM (aD (M 67 [ci (gi (el es (gi v1 0)) 0),ci 0,ci (wr ((il l) - 1))]) fun v2=>aB (!(gb v2 0)) (some (.nx [cb true])) (aB (decide ((gi v1 0) > 0)) (chk (inb (wr ((gi v1 0) - 1)) es)<|chk (oks [li] (el es (wr ((gi v1 0) - 1))) 0)<|some (.nx [cb (decide ((gi (el es (wr ((gi v1 0) - 1))) 0)≥(gi (el es (gi v1 0)) 0)))])) (some (.nx [cb false])))) fun v2=>aB (gb v2 0) (some (.ret [ci 54])) (some (.nx [ci (wr ((gi v1 0)+1))]))) (some (.br 0 []))
def vS (M:Den) (p:List CV) (l es:List (List CV)) (k:Int):List CV→Option Ou:=fun v4=>aB (decide ((gi v4 0)<(il es))) (VP M p l k (gr v4 1) fun F=>aD (M 76 [CV.row 1 es]) fun v6=>chk (DR 1 3 v6)<|aD (M 82 ([CV.row 1 (gr v6 0),CV.fn 3 [],ci (gi v4 0),ci (wr ((gi v4 0)+1))])) fun v7=>chk (pY 1 true v7)<|eF (F (gr v7 0)) fun v8=>aB (gb v8 0) (some (.ret [ci 54])) (some (.nx [ci (wr ((gi v4 0)+1)),CV.row 11 (gr v8 1)]))) (some (.br 2 [CV.row 11 (gr v4 1)]))
def VQ (M:Den) (a b l:List (List CV)) (k:Int) (es:List (List CV)):Option Ou:=aD (M 72 [CV.row 1 a,CV.row 4 b,CV.row 1 l]) fun v0 =>
 aB ((gi v0 1) != 0) (some (.ret [ci (gi v0 1)])) (chk (cV (List.getD v0 0 dC))<|cS 0 (aI (IY M l es) [ci 0]) fun v1 =>
  bM (aD (M 67 [ci k,ci 1,ci 4]) fun v2=>aB (!(gb v2 0)) (some (.nx ([cb true,CV.row 11 []]))) (aB ((il es) == 0) (some (.nx ([cb true,CV.row 11 []])))
   (VP M (cF (List.getD v0 0 dC)) l k [] fun F=>eF (F es) fun v4=>some (.nx [cb (!(gb v4 0)),CV.row 11 (gr v4 1)])))) fun v2 =>
  aB (gb v2 0) (some (.ret [ci 54])) (bM (aB (k == 2) (some (.nx [cb true])) (some (.nx [cb (k == 4)]))) fun v3 =>
   bM (aB (gb v3 0) (cS 2 (aI (vS M (cF (List.getD v0 0 dC)) l es k) [ci 0,CV.row 11 (gr v2 1)]) fun v4=>some (.nx [CV.row 11 (gr v4 0)])) (some (.nx [CV.row 11 (gr v2 1)]))) fun v4=>some (.ret [ci 0])))
theorem qP (its:ITS) (n:Nat) (a b l:List (List CV)) (k:Int) (es:List (List CV)):D its (n+1) dQ [(.row 1 a),(.row 4 b),(.row 1 l),(ci k),(.row 1 es)]=bK (VQ (D its n) a b l k es):=by kernel_rfl
end
end Go.Proofs.Ythkfohoccnnphaa
namespace Go.Proofs.Ythkfohoccnnphaa
open Go Go.Sx
set_option maxRecDepth 100000
theorem en3:∃ fn,EntOk Try.prog 3 fe3 fn∧aA Try.f3=aA fn:=by refine ⟨Try.f3,⟨?_,?_,?_,?_,?_⟩,rfl⟩ <;> kernel_rfl
theorem aDt:∃ fn,EntOk Try.prog 12 aBk fn∧aA Try.f12=aA fn:=by refine ⟨Try.f12,⟨?_,?_,?_,?_,?_⟩,rfl⟩ <;> kernel_rfl
theorem aDu:∃ fn,EntOk Try.prog 14 aB0 fn∧aA Try.f14=aA fn:=by refine ⟨Try.f14,⟨?_,?_,?_,?_,?_⟩,rfl⟩ <;> kernel_rfl
theorem aDv:∃ fn,EntOk Try.prog 15 aB1 fn∧aA Try.f15=aA fn:=by refine ⟨Try.f15,⟨?_,?_,?_,?_,?_⟩,rfl⟩ <;> kernel_rfl
theorem aDw:∃ fn,EntOk Try.prog 16 aB2 fn∧aA Try.f16=aA fn:=by refine ⟨Try.f16,⟨?_,?_,?_,?_,?_⟩,rfl⟩ <;> kernel_rfl
theorem aDx:∃ fn,EntOk Try.prog 17 aB3 fn∧aA Try.f17=aA fn:=by refine ⟨Try.f17,⟨?_,?_,?_,?_,?_⟩,rfl⟩ <;> kernel_rfl
theorem aDy:∃ fn,EntOk Try.prog 18 aB4 fn∧aA Try.f18=aA fn:=by refine ⟨Try.f18,⟨?_,?_,?_,?_,?_⟩,rfl⟩ <;> kernel_rfl
theorem aDz:∃ fn,EntOk Try.prog 19 aB5 fn∧aA Try.f19=aA fn:=by refine ⟨Try.f19,⟨?_,?_,?_,?_,?_⟩,rfl⟩ <;> kernel_rfl
theorem aDA:∃ fn,EntOk Try.prog 20 aB6 fn∧aA Try.f20=aA fn:=by refine ⟨Try.f20,⟨?_,?_,?_,?_,?_⟩,rfl⟩ <;> kernel_rfl
theorem aDB:∃ fn,EntOk Try.prog 21 aB7 fn∧aA Try.f21=aA fn:=by refine ⟨Try.f21,⟨?_,?_,?_,?_,?_⟩,rfl⟩ <;> kernel_rfl
theorem aDC:∃ fn,EntOk Try.prog 22 aB8 fn∧aA Try.f22=aA fn:=by refine ⟨Try.f22,⟨?_,?_,?_,?_,?_⟩,rfl⟩ <;> kernel_rfl
theorem aDD:∃ fn,EntOk Try.prog 23 aB9 fn∧aA Try.f23=aA fn:=by refine ⟨Try.f23,⟨?_,?_,?_,?_,?_⟩,rfl⟩ <;> kernel_rfl
theorem aDE:∃ fn,EntOk Try.prog 24 aCa fn∧aA Try.f24=aA fn:=by refine ⟨Try.f24,⟨?_,?_,?_,?_,?_⟩,rfl⟩ <;> kernel_rfl
theorem aDF:∃ fn,EntOk Try.prog 25 aCb fn∧aA Try.f25=aA fn:=by refine ⟨Try.f25,⟨?_,?_,?_,?_,?_⟩,rfl⟩ <;> kernel_rfl
theorem aDG:∃ fn,EntOk Try.prog 26 aCc fn∧aA Try.f26=aA fn:=by refine ⟨Try.f26,⟨?_,?_,?_,?_,?_⟩,rfl⟩ <;> kernel_rfl
theorem aDH:∃ fn,EntOk Try.prog 33 aCd fn∧aA Try.f33=aA fn:=by refine ⟨Try.f33,⟨?_,?_,?_,?_,?_⟩,rfl⟩ <;> kernel_rfl
theorem aDI:∃ fn,EntOk Try.prog 40 aCe fn∧aA Try.f40=aA fn:=by refine ⟨Try.f40,⟨?_,?_,?_,?_,?_⟩,rfl⟩ <;> kernel_rfl
theorem aDJ:∃ fn,EntOk Try.prog 45 aCf fn∧aA Try.f45=aA fn:=by refine ⟨Try.f45,⟨?_,?_,?_,?_,?_⟩,rfl⟩ <;> kernel_rfl
theorem aDK:∃ fn,EntOk Try.prog 46 aCg fn∧aA Try.f46=aA fn:=by refine ⟨Try.f46,⟨?_,?_,?_,?_,?_⟩,rfl⟩ <;> kernel_rfl
theorem aDL:∃ fn,EntOk Try.prog 48 aCh fn∧aA Try.f48=aA fn:=by refine ⟨Try.f48,⟨?_,?_,?_,?_,?_⟩,rfl⟩ <;> kernel_rfl
theorem aDM:∃ fn,EntOk Try.prog 49 aCi fn∧aA Try.f49=aA fn:=by refine ⟨Try.f49,⟨?_,?_,?_,?_,?_⟩,rfl⟩ <;> kernel_rfl
theorem aDN:∃ fn,EntOk Try.prog 52 aCj fn∧aA Try.f52=aA fn:=by refine ⟨Try.f52,⟨?_,?_,?_,?_,?_⟩,rfl⟩ <;> kernel_rfl
theorem aDO:∃ fn,EntOk Try.prog 54 aCk fn∧aA Try.f54=aA fn:=by refine ⟨Try.f54,⟨?_,?_,?_,?_,?_⟩,rfl⟩ <;> kernel_rfl
theorem aDP:∃ fn,EntOk Try.prog 63 aCl fn∧aA Try.f63=aA fn:=by refine ⟨Try.f63,⟨?_,?_,?_,?_,?_⟩,rfl⟩ <;> kernel_rfl
theorem aDQ:∃ fn,EntOk Try.prog 64 aCm fn∧aA Try.f64=aA fn:=by refine ⟨Try.f64,⟨?_,?_,?_,?_,?_⟩,rfl⟩ <;> kernel_rfl
theorem aDR:∃ fn,EntOk Try.prog 65 aCn fn∧aA Try.f65=aA fn:=by refine ⟨Try.f65,⟨?_,?_,?_,?_,?_⟩,rfl⟩ <;> kernel_rfl
theorem aDS:∃ fn,EntOk Try.prog 66 aCo fn∧aA Try.f66=aA fn:=by refine ⟨Try.f66,⟨?_,?_,?_,?_,?_⟩,rfl⟩ <;> kernel_rfl
theorem aDT:∃ fn,EntOk Try.prog 67 aCp fn∧aA Try.f67=aA fn:=by refine ⟨Try.f67,⟨?_,?_,?_,?_,?_⟩,rfl⟩ <;> kernel_rfl
theorem aDU:∃ fn,EntOk Try.prog 68 aCq fn∧aA Try.f68=aA fn:=by refine ⟨Try.f68,⟨?_,?_,?_,?_,?_⟩,rfl⟩ <;> kernel_rfl
theorem aDV:∃ fn,EntOk Try.prog 69 aCr fn∧aA Try.f69=aA fn:=by refine ⟨Try.f69,⟨?_,?_,?_,?_,?_⟩,rfl⟩ <;> kernel_rfl
theorem aDW:∃ fn,EntOk Try.prog 72 aCs fn∧aA Try.f72=aA fn:=by refine ⟨Try.f72,⟨?_,?_,?_,?_,?_⟩,rfl⟩ <;> kernel_rfl
theorem aDX:∃ fn,EntOk Try.prog 73 aCt fn∧aA Try.f73=aA fn:=by refine ⟨Try.f73,⟨?_,?_,?_,?_,?_⟩,rfl⟩ <;> kernel_rfl
theorem aDY:∃ fn,EntOk Try.prog 74 aCu fn∧aA Try.f74=aA fn:=by refine ⟨Try.f74,⟨?_,?_,?_,?_,?_⟩,rfl⟩ <;> kernel_rfl
theorem aDZ:∃ fn,EntOk Try.prog 75 aCv fn∧aA Try.f75=aA fn:=by refine ⟨Try.f75,⟨?_,?_,?_,?_,?_⟩,rfl⟩ <;> kernel_rfl
theorem aD0:∃ fn,EntOk Try.prog 81 aCw fn∧aA Try.f81=aA fn:=by refine ⟨Try.f81,⟨?_,?_,?_,?_,?_⟩,rfl⟩ <;> kernel_rfl
theorem aD1:∃ fn,EntOk Try.prog 83 aCx fn∧aA Try.f83=aA fn:=by refine ⟨Try.f83,⟨?_,?_,?_,?_,?_⟩,rfl⟩ <;> kernel_rfl
theorem aD2:∃ fn,EntOk Try.prog 84 aCy fn∧aA Try.f84=aA fn:=by refine ⟨Try.f84,⟨?_,?_,?_,?_,?_⟩,rfl⟩ <;> kernel_rfl
theorem aD3:∃ fn,EntOk Try.prog 85 aCz fn∧aA Try.f85=aA fn:=by refine ⟨Try.f85,⟨?_,?_,?_,?_,?_⟩,rfl⟩ <;> kernel_rfl
theorem aD4:∃ fn,EntOk Try.prog 87 aCA fn∧aA Try.f87=aA fn:=by refine ⟨Try.f87,⟨?_,?_,?_,?_,?_⟩,rfl⟩ <;> kernel_rfl
theorem aD5:∃ fn,EntOk Try.prog 88 aCB fn∧aA Try.f88=aA fn:=by refine ⟨Try.f88,⟨?_,?_,?_,?_,?_⟩,rfl⟩ <;> kernel_rfl
theorem aD6:∃ fn,EntOk Try.prog 90 aCC fn∧aA Try.f90=aA fn:=by refine ⟨Try.f90,⟨?_,?_,?_,?_,?_⟩,rfl⟩ <;> kernel_rfl
theorem aD7:∃ fn,EntOk Try.prog 91 aCD fn∧aA Try.f91=aA fn:=by refine ⟨Try.f91,⟨?_,?_,?_,?_,?_⟩,rfl⟩ <;> kernel_rfl
theorem aD8:∃ fn,EntOk Try.prog 92 aCE fn∧aA Try.f92=aA fn:=by refine ⟨Try.f92,⟨?_,?_,?_,?_,?_⟩,rfl⟩ <;> kernel_rfl
theorem aD9:∃ fn,EntOk Try.prog 93 aCF fn∧aA Try.f93=aA fn:=by refine ⟨Try.f93,⟨?_,?_,?_,?_,?_⟩,rfl⟩ <;> kernel_rfl
theorem aCH:∃ fn,EntOk Try.prog 110 aAv fn∧aA Try.f110=aA fn:=by refine ⟨Try.f110,⟨?_,?_,?_,?_,?_⟩,rfl⟩ <;> kernel_rfl
theorem aCI:∃ fn,EntOk Try.prog 111 aAw fn∧aA Try.f111=aA fn:=by refine ⟨Try.f111,⟨?_,?_,?_,?_,?_⟩,rfl⟩ <;> kernel_rfl
theorem aCJ:∃ fn,EntOk Try.prog 112 aAx fn∧aA Try.f112=aA fn:=by refine ⟨Try.f112,⟨?_,?_,?_,?_,?_⟩,rfl⟩ <;> kernel_rfl
theorem aCK:∃ fn,EntOk Try.prog 115 aAy fn∧aA Try.f115=aA fn:=by refine ⟨Try.f115,⟨?_,?_,?_,?_,?_⟩,rfl⟩ <;> kernel_rfl
theorem aCL:∃ fn,EntOk Try.prog 120 aAz fn∧aA Try.f120=aA fn:=by refine ⟨Try.f120,⟨?_,?_,?_,?_,?_⟩,rfl⟩ <;> kernel_rfl
theorem aCM:∃ fn,EntOk Try.prog 124 aAA fn∧aA Try.f124=aA fn:=by refine ⟨Try.f124,⟨?_,?_,?_,?_,?_⟩,rfl⟩ <;> kernel_rfl
theorem aCN:∃ fn,EntOk Try.prog 128 aAB fn∧aA Try.f128=aA fn:=by refine ⟨Try.f128,⟨?_,?_,?_,?_,?_⟩,rfl⟩ <;> kernel_rfl
theorem aCO:∃ fn,EntOk Try.prog 140 aAC fn∧aA Try.f140=aA fn:=by refine ⟨Try.f140,⟨?_,?_,?_,?_,?_⟩,rfl⟩ <;> kernel_rfl
theorem aAG:∀ e∈tb,∃ fn,EntOk Try.prog e.1 e.2.1 fn∧e.2.2=aA fn:=by
 intro e he
 unfold tb at he
 rcases List.mem_cons.1 he with rfl | he
 ·exact en3
 rcases List.mem_cons.1 he with rfl | he
 ·exact aDt
 rcases List.mem_cons.1 he with rfl | he
 ·exact aDu
 rcases List.mem_cons.1 he with rfl | he
 ·exact aDv
 rcases List.mem_cons.1 he with rfl | he
 ·exact aDw
 rcases List.mem_cons.1 he with rfl | he
 ·exact aDx
 rcases List.mem_cons.1 he with rfl | he
 ·exact aDy
 rcases List.mem_cons.1 he with rfl | he
 ·exact aDz
 rcases List.mem_cons.1 he with rfl | he
 ·exact aDA
 rcases List.mem_cons.1 he with rfl | he
 ·exact aDB
 rcases List.mem_cons.1 he with rfl | he
 ·exact aDC
 rcases List.mem_cons.1 he with rfl | he
 ·exact aDD
 rcases List.mem_cons.1 he with rfl | he
 ·exact aDE
 rcases List.mem_cons.1 he with rfl | he
 ·exact aDF
 rcases List.mem_cons.1 he with rfl | he
 ·exact aDG
 rcases List.mem_cons.1 he with rfl | he
 ·exact aDH
 rcases List.mem_cons.1 he with rfl | he
 ·exact aDI
 rcases List.mem_cons.1 he with rfl | he
 ·exact aDJ
 rcases List.mem_cons.1 he with rfl | he
 ·exact aDK
 rcases List.mem_cons.1 he with rfl | he
 ·exact aDL
 rcases List.mem_cons.1 he with rfl | he
 ·exact aDM
 rcases List.mem_cons.1 he with rfl | he
 ·exact aDN
 rcases List.mem_cons.1 he with rfl | he
 ·exact aDO
 rcases List.mem_cons.1 he with rfl | he
 ·exact aDP
 rcases List.mem_cons.1 he with rfl | he
 ·exact aDQ
 rcases List.mem_cons.1 he with rfl | he
 ·exact aDR
 rcases List.mem_cons.1 he with rfl | he
 ·exact aDS
 rcases List.mem_cons.1 he with rfl | he
 ·exact aDT
 rcases List.mem_cons.1 he with rfl | he
 ·exact aDU
 rcases List.mem_cons.1 he with rfl | he
 ·exact aDV
 rcases List.mem_cons.1 he with rfl | he
 ·exact aDW
 rcases List.mem_cons.1 he with rfl | he
 ·exact aDX
 rcases List.mem_cons.1 he with rfl | he
 ·exact aDY
 rcases List.mem_cons.1 he with rfl | he
 ·exact aDZ
 rcases List.mem_cons.1 he with rfl | he
 ·exact aD0
 rcases List.mem_cons.1 he with rfl | he
 ·exact aD1
 rcases List.mem_cons.1 he with rfl | he
 ·exact aD2
 rcases List.mem_cons.1 he with rfl | he
 ·exact aD3
 rcases List.mem_cons.1 he with rfl | he
 ·exact aD4
 rcases List.mem_cons.1 he with rfl | he
 ·exact aD5
 rcases List.mem_cons.1 he with rfl | he
 ·exact aD6
 rcases List.mem_cons.1 he with rfl | he
 ·exact aD7
 rcases List.mem_cons.1 he with rfl | he
 ·exact aD8
 rcases List.mem_cons.1 he with rfl | he
 ·exact aD9
 rcases List.mem_cons.1 he with rfl | he
 ·exact aCH
 rcases List.mem_cons.1 he with rfl | he
 ·exact aCI
 rcases List.mem_cons.1 he with rfl | he
 ·exact aCJ
 rcases List.mem_cons.1 he with rfl | he
 ·exact aCK
 rcases List.mem_cons.1 he with rfl | he
 ·exact aCL
 rcases List.mem_cons.1 he with rfl | he
 ·exact aCM
 rcases List.mem_cons.1 he with rfl | he
 ·exact aCN
 rcases List.mem_cons.1 he with rfl | he
 ·exact aCO
 cases he
end Go.Proofs.Ythkfohoccnnphaa
