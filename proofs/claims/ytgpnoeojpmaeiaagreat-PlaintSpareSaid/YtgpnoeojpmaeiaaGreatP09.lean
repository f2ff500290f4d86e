/-
 The laws of a pinder's court (plaints) hold at every input, without any condition.
-/
import Derived.Conc.LeavingOf
import Derived.KernelRfl
import Derived.OpenShut
import Derived.ProofKit
import Derived.SizedLaws
import Derived.Test.YtgpnoeojpmaeiaaGreatProg
import Derived.Test.YtgpnoeojpmaeiaaGreatP08
set_option linter.unusedSectionVars false
set_option linter.unusedVariables false
set_option linter.unusedSimpArgs false
namespace Go.Sx
instance ghost0:Ghost:=⟨fun _ _=>True,0,default,false⟩
end Go.Sx
namespace Go.Sx
open Go
def plT (P:Program):Nat->TypeId->Bool
 | 0,_=>false
 | n+1,t=>match P.underlying t with
  | some .bool=>true
  | some (.int _)=>true
  | some (.slice e)=>decide (0<P.cellsOf e)&&plT P n e
  | some (.struct fs)=>fs.toList.all fun f=>plT P n f.type
  | some (.array _ e)=>plT P n e
  | _=>false
def aBM (R:TypeId->List CV->Prop):List TypeId->List CV->Prop
 | [],cs=>cs=[]
 | t::ts,cs=>∃ a b,cs=a++b/\R t a/\aBM R ts b
def Shp (P:Program):Nat->TypeId->List CV->Prop
 | 0,_,_=>False
 | n+1,t,cs=>match P.underlying t with
  | some .bool=>∃ b,cs=[cb b]
  | some (.int k)=>∃ m,cs=[.val (.int k m)]/\(Lit.int k m).wf=true
  | some (.slice e)=>∃ es,cs=[.row (P.cellsOf e) es]/\(∀ x∈es,Shp P n e x)/\es.length*P.bytesOf e<=reachBytes
  | some (.struct fs)=>aBM (Shp P n) (fs.toList.map (·.type)) cs
  | some (.array m e)=>aBM (Shp P n) (List.replicate m e) cs
  | _=>False
section
variable {P:Program} {w:World} {S:Nat->Prop}
theorem WC {k b:Nat}:∀ (es:List (List CV)) (o:Nat),(∀ i (h:i<es.length),es[i].length=k/\CV.cells w S es[i] b (o+i*k))->CV.rows w S k es b o
 | [],o,_=>by simp [CV.rows]
 | e::es,o,h=>by
  have h0:=h 0 (by simp)
  refine ⟨by grind,by grind,WC es (o+k) fun i hi=>?_⟩
  have:=h (i+1) (by grind)
  grind
theorem aBN {cs cs':List CV} {vs vs':List Value} (h:CV.vals w S cs vs) (h':CV.vals w S cs' vs'):CV.vals w S (cs++cs') (vs++vs'):=CV.vals.append h h'
theorem FZ (R:TypeId->List CV->Prop):∀ (ts:List TypeId) (cs:List Value),cs.length=(ts.map P.cellsOf).sum ->
  (∀ j t,ts[j]? = some t->∃ cvs,R t cvs/\CV.vals w S cvs ((cs.drop ((ts.take j).map P.cellsOf).sum).take (P.cellsOf t)))->∃ cvs,aBM R ts cvs/\CV.vals w S cvs cs
 | [],cs,hl,_=>⟨[],rfl,by
  grind [CV.vals]⟩
 | t::ts,cs,hl,h=>by
  obtain ⟨a,ha,nr⟩:=h 0 t rfl
  obtain ⟨b,hb,Df⟩:=FZ R ts (cs.drop (P.cellsOf t)) (by grind) fun j u hj=>by
   obtain ⟨c,hc,i9⟩:=h (j+1) u (by grind)
   grind [List.drop_drop]
  refine ⟨a++b,⟨a,b,rfl,ha,hb⟩,?_⟩;have:=aBN nr Df;simp_all
theorem weightsAll_mem {H:Type} {e:TypeId}:∀ {l:List (DataW H)} {d:DataW H},d∈l->∀ m∈d.weights P e,m∈DataW.weightsAll P e l
 | x::l,d,h,m,hm=>by
  simp [DataW.weightsAll];rcases List.mem_cons.1 h with rfl | h
  ·grind
  ·exact .inr (weightsAll_mem h m hm)
end
section
variable {H:Type} {enc:TypeId×Value->H} {P:Program} {w:World} {T:TypeId->Prop} {spare:Nat->Bool} {wt:Bool}
theorem aDU (K:Kids P T):∀ (n fuel:Nat) (t:TypeId) (cs:List Value) (x:DataW H×List MemPlace),T t->plT P n t=true->DataW.trod enc P w 0 spare wt fuel t cs=some x->(∀ m∈x.1.weights P t,m<=reachBytes) ->
  ∃ cvs,Shp P n t cvs/\CV.vals w (fun b=>b<w.heap.size) cvs cs:=by
 intro n
 induction n with
 | zero=>grind [plT]
 | succ n ih =>
  intro fuel t cs x hT hp h hw;simp only [plT] at hp;simp only [Shp];cases hu:P.underlying t with
  | none=>grind
  | some U =>
   rw [hu] at hp;cases U with
   | bool =>
    obtain ⟨b,rfl,_⟩:=DataW.trod_bool hu h;simp [cb,CV.vals,CV.holds,Value.oneCell']
   | int k =>
    obtain ⟨m,rfl,_,hm⟩:=DataW.trod_int hu h;grind [CV.vals,CV.holds,Value.oneCell']
   | struct fs =>
    obtain ⟨xs,m,rfl,rfl,hl,lx,hx⟩:=DataW.trod_struct hu h;obtain ⟨k1,k2,k3⟩:=K.struct hT hu;simp only [List.all_eq_true] at hp;refine FZ (P:=P) (Shp P n) (fs.toList.map (·.type)) cs (by rw [hl,k2,List.map_map];rfl) fun j u hj=>?_
    rw [List.getElem?_map,Option.map_eq_some_iff] at hj;obtain ⟨f,hf,rfl⟩:=hj;have H5:f∈fs.toList:=List.mem_of_getElem? hf;have Lc:fs[j]? = some f:=by grind
    have wu:=hx j f Lc;have bk:j<xs.length:=by grind
    rw [List.getElem?_eq_getElem bk] at wu;rw [k3 j f hf] at wu;rw [<- List.map_take,List.map_map];refine ih m f.type _ _ (k1 f H5) (hp f H5) wu fun v hv=>hw v ?_
    simp [DataW.weights,hu];exact DataW.weights_mem_each (j:=j) (t:=f.type) (d:=xs[j].1) (by grind) (by grind) v hv
   | array m e =>
    obtain ⟨xs,q,rfl,rfl,hl,lx,hx⟩:=DataW.trod_array hu h;obtain ⟨k1,k2⟩:=K.array hT hu;refine FZ (P:=P) (Shp P n) (List.replicate m e) cs (by simp_all) fun j u hj=>?_
    obtain ⟨y8,rfl⟩:=List.getElem?_eq_some_iff.1 hj;rw [List.length_replicate] at y8;rw [List.getElem_replicate];have wu:=hx j y8;rw [List.getElem?_eq_getElem (by omega)] at wu
    have e1:((List.take j (List.replicate m e)).map P.cellsOf).sum=j*P.cellsOf e:=by
     rw [List.take_replicate,Nat.min_eq_left (by omega)];simp
    rw [e1];refine ih q e _ _ k1 hp wu fun v hv=>hw v ?_
    simp [DataW.weights,hu];exact weightsAll_mem (List.mem_map.2 ⟨xs[j],List.getElem_mem _,rfl⟩) v hv
   | slice e =>
    simp at hp;rcases DataW.trod_slice hu h with ⟨rfl,_⟩ | ⟨a,len,cap,elems,rest,m,rfl,rfl,rfl,hb,Jh,fq,ma,hx,_⟩
    ·refine ⟨[.row (P.cellsOf e) []],⟨[],rfl,by simp,by simp⟩,?_⟩
     simp only [CV.vals,CV.holds,and_true];grind
    ·have Ld:∀ i (hi:i<elems.length),∀ v∈(elems[i].1).weights P e,v<=reachBytes:=fun i hi v hv=>hw v (by
      simp [DataW.weights,hu];exact .inr (.inl (weightsAll_mem (List.mem_map.2 ⟨elems[i],List.getElem_mem _,rfl⟩) v hv)))
     have ak:(elems.length+rest.length)*P.bytesOf e<=reachBytes:=hw _ (by simp [DataW.weights,hu])
     have dq:∀ i,∃ cv:List CV,(i<len->∃ cells:List Value,w.cells? 0 (a.add (i*P.cellsOf e)) (P.cellsOf e)=some cells/\Shp P n e cv/\CV.vals w (fun b=>b<w.heap.size) cv cells):=by
      intro i
      by_cases hi:i<len
      ·have H6:=hx i hi
       rw [List.getElem?_eq_getElem (by omega),Option.bind_eq_some_iff] at H6
       obtain ⟨cells,h1,h2⟩:=H6;obtain ⟨cv,h3,h4⟩:=ih m e cells _ (K.slice hT hu) hp.2 h2 (Ld i (by omega))
       exact ⟨cv,fun _=>⟨cells,h1,h3,h4⟩⟩
      ·exact ⟨[],fun h=>absurd h hi⟩
     obtain ⟨g,hg⟩:=Classical.axiomOfChoice dq;have tw:((List.range len).map g).length=len:=by simp
     refine ⟨[.row (P.cellsOf e) ((List.range len).map g)],⟨_,rfl,?_,?_⟩,?_⟩
     ·grind
     ·grind
     ·simp only [CV.vals,and_true]
      refine ⟨some a,cap,by rw [tw],by omega,fq,?_⟩
      by_cases h0:len=0
      ·grind
      ·right
       have oh:∀ i,i<len->∀ j v (cells:List Value),w.cells? 0 (a.add (i*P.cellsOf e)) (P.cellsOf e)=some cells->cells[j]? = some v->w.cell? ((a.add (i*P.cellsOf e)).add j)=some v:=by
        intro i _ j v cells hc hj;simp only [World.cells?,Nat.zero_le,if_true] at hc;have bk:=(List.getElem?_eq_some_iff.1 hj).1;have tw:=mapM_some_length hc;rw [List.length_range] at tw;have hr:(List.range (P.cellsOf e))[j]? = some j:=List.getElem?_range (by omega)
        have:=mapM_some_get hc j j hr;rw [this,hj]
       have tx:∀ (b:Addr) (cells:List Value),w.cells? 0 b (P.cellsOf e)=some cells->cells.length=P.cellsOf e:=by
        intro b cells hc;simp only [World.cells?,Nat.zero_le,if_true] at hc;simpa using mapM_some_length hc
       obtain ⟨cells0,yk,_,fh⟩:=hg 0 (by omega)
       have mu:cells0.length=P.cellsOf e:=tx _ _ yk;have dy:0<cells0.length:=by omega
       have hz:=oh 0 (by omega) 0 cells0[0] cells0 yk (List.getElem?_eq_getElem dy)
       have yx:(a.add (0*P.cellsOf e)).add 0=a:=by simp [Addr.add]
       rw [yx] at hz
       have Ae:a.spot=none/\a.block<w.heap.size:=by
        unfold World.cell? at hz;split at hz
        ·rename_i c t fz hh
         split at hz
         ·cases hz
         ·rename_i hs
          refine ⟨by cases jq:a.spot <;> simp [jq] at hs ⊢,?_⟩
          by_cases an:a.block<w.heap.size
          ·exact an
          ·rw [Array.getElem?_eq_none (by omega)] at hh;cases hh
        ·cases hz
       obtain ⟨ab,ao,asp⟩:=a;obtain ⟨rfl,bo⟩:=Ae;refine ⟨ab,ao,rfl,bo,?_⟩;refine WC _ _ fun i hi=>?_
       rw [tw] at hi;simp only [List.getElem_map,List.getElem_range];obtain ⟨cells,hc,_,hv⟩:=hg i hi;have E8:cells.length=P.cellsOf e:=tx _ _ hc;refine ⟨by rw [<- E8];exact (CV.vals.length hv).symm,CV.cells.of_vals hv fun j v hj=>?_⟩
       have:=oh i hi j v cells hc hj
       have e0:∀ (b o m:Nat),(Addr.mk b o none).add m=⟨b,o+m,none⟩:=by
        intro b o m;unfold Addr.add
        by_cases hm:m=0
        ·subst hm;rfl
        ·rw [if_neg hm]
       have e1:((Addr.mk ab ao none).add (i*P.cellsOf e)).add j=⟨ab,ao+i*P.cellsOf e+j,none⟩:=by rw [e0,e0]
       rw [e1] at this;exact this
   | _=>cases hp
end
end Go.Sx
namespace Go.Sx
open Go Go.ChangeShapes Go.WideShapes Go.ChangeAt Go.RowKit
def isAgg (P:Program) (t:TypeId):Bool:=match P.underlying t with
 | some (.struct _)=>true
 | some (.array _ _)=>true
 | _=>false
def GA (P:Program):List TypeId->List (List CV)->List AV
 | t::ts,c::cs=>(if isAgg P t=true then .agg (c.map .cv) else .cv (c.headD dC))::GA P ts cs
 | _,_=>[]
def uN (P:Program) (n:Nat):List TypeId->List (List CV)->Prop
 | [],[]=>True
 | t::ts,c::cs=>Shp P n t c/\uN P n ts cs
 | _,_=>False
theorem zM (P:Program):∀ (ts:List TypeId) (cs:List (List CV)),AV.closeds (GA P ts cs)=true
 | [],[]=>rfl
 | [],_::_=>rfl
 | _::_,[]=>rfl
 | t::ts,c::cs=>by
  have hc:∀ (l:List CV),AV.closeds (l.map .cv)=true:=by
   intro l
   induction l with
   | nil=>rfl
   | cons x l ih=>simp_all
  simp [GA];refine ⟨?_,zM P ts cs⟩;grind [AV.closed]
theorem CN {e:Env} {w:World} {ks:List Nat}:∀ {cs:List CV} {vs:List Value},CV.vals w e.S cs vs->AV.all e w ks (cs.map .cv) vs
 | [],[],_=>by simp [AV.all]
 | c::cs,v::vs,h=>by
  exact ⟨h.1,CN h.2⟩
 | [],_::_,h=>by grind [CV.vals]
 | _::_,[],h=>by grind [CV.vals]
section
variable {P:Program} {w:World}
theorem ZM {base:Nat} {t:TypeId} {v:Value} {n:Nat} (hp:plT P n t=true) (ha:isAgg P t=false) (h:Value.okWide P w .any base t v):v.cells=#[v]:=by
 cases n with
 | zero=>grind [plT]
 | succ n =>
  simp [plT] at hp;simp [isAgg] at ha;unfold Value.okWide at h;cases hu:P.underlying t with
  | none=>grind
  | some U =>
   rw [hu] at hp ha h;cases U with
   | bool=>simp [Cell.okWide,Cell.ok] at h;grind [Value.cells]
   | int k=>simp [Cell.okWide,Cell.ok] at h;grind [Value.cells]
   | slice e=>simp [Cell.okWide,Cell.ok] at h;grind [Value.cells]
   | struct fs=>cases ha
   | array m e=>cases ha
   | _=>cases hp
theorem aDV {base:Nat} {t:TypeId} {v:Value} (ha:isAgg P t=true) (h:Value.okWide P w .any base t v):∃ cs,v=.agg cs:=by
 simp [isAgg] at ha;unfold Value.okWide at h;grind
variable {H:Type} {enc:TypeId×Value->H} {T:TypeId->Prop} {spare:Nat->Bool} {wt:Bool}
theorem WD (K:Kids P T) {base:Nat} (n:Nat):∀ (ts:List TypeId) (vs:List Value) (ds:List (DataW H)) (ps:List MemPlace),(∀ t∈ts,T t)->ts.all (plT P n)=true ->
  (∀ (j:Nat) t v,ts[j]? = some t->vs[j]? = some v->Value.okWide P w .any base t v)->DataW.TrodAll enc P w 0 spare wt ts vs ds ps->(∀ m∈DataW.weightsEach P ts ds,m<=reachBytes) ->
  ∃ css:List (List CV),uN P n ts css/\∀ (e:Env) (ks:List Nat),(e.S=fun b=>b<w.heap.size)->AV.all e w ks (GA P ts css) vs
 | [],vs,ds,ps,_,_,_,h,_=>by
  obtain ⟨rfl,_,_⟩:=trodAll_nil h;exact ⟨[],trivial,fun e ks _=>by simp [GA,AV.all]⟩
 | t::ts,vs,ds,ps,hT,hp,hv,h,hw=>by
  obtain ⟨v,vs',d,ds',p,q,rfl,rfl,rfl,⟨fuel,h1⟩,h2⟩:=trodAll_cons h;simp only [List.all_cons,Bool.and_eq_true] at hp;simp [DataW.weightsEach] at hw;obtain ⟨css,s1,s2⟩:=WD K n ts vs' ds' q (fun u hu=>hT u (by grind)) hp.2 (fun j u x hj hx=>hv (j+1) u x (by grind) (by grind)) h2 (fun m hm=>hw m (.inr hm))
  obtain ⟨cvs,c1,c2⟩:=aDU K n fuel t v.cells.toList _ (hT t (by simp)) hp.1 h1 (fun m hm=>hw m (.inl hm))
  refine ⟨cvs::css,⟨c1,s1⟩,fun e ks he=>?_⟩
  have fh:=hv 0 t v rfl rfl;refine ⟨?_,s2 e ks he⟩;cases ha:isAgg P t with
  | true =>
   obtain ⟨cs,rfl⟩:=aDV ha fh;exact ⟨cs,rfl,CN (by rw [he];exact c2)⟩
  | false =>
   have hc:=ZM hp.1 ha fh;simp [AV.holds]
   match cvs,c2 with
   | [c],c2 =>
    simp_all [CV.vals]
   | [],c2=>grind [CV.vals]
   | _::_::_,c2=>grind [CV.vals]
end
theorem CO {H:Type} {enc:TypeId×Value->H} {P:Program} {W:World} {sp:Nat->Bool} {hd:Bool}:∀ {ts:List TypeId} {vs:List Value} {ds:List (DataW H)} {ps:List MemPlace},DataW.TrodAll enc P W 0 sp hd ts vs ds ps->ds.length=ts.length
 | [],vs,ds,ps,hA=>by obtain ⟨rfl,rfl,rfl⟩:=trodAll_nil hA;rfl
 | t::ts,vs,ds,ps,hA=>by
  obtain ⟨v,vs',d,ds',p1,p2,rfl,rfl,rfl,_,h2⟩:=trodAll_cons hA;simp [CO h2]
theorem GB {H:Type} {enc:TypeId×Value->H} {P:Program} {W W':World} {sp:Nat->Bool} {hd:Bool} (hB:Below W.heap.size W W'):∀ {ts:List TypeId} {vs:List Value} {ds:List (DataW H)} {ps:List MemPlace},DataW.TrodAll enc P W 0 sp hd ts vs ds ps->DataW.TrodAll enc P W' 0 sp hd ts vs ds ps
 | [],vs,ds,ps,hA=>by obtain ⟨rfl,rfl,rfl⟩:=trodAll_nil hA;rfl
 | t::ts,vs,ds,ps,hA=>by
  obtain ⟨v,vs',d,ds',p1,p2,rfl,rfl,rfl,⟨fuel,h1⟩,h2⟩:=trodAll_cons hA;exact ⟨p1,p2,⟨fuel,DataW.trod_carry fuel _ _ _ h1 fun x hx=>hB.same (DataW.trod_lt fuel _ _ _ h1 x hx)⟩,GB hB h2,rfl⟩
section
variable [Gh:Ghost]
def aBO (P:Program) (Post:Value->World->Prop) (g:Goroutine) (w:World):Prop:=g.status=.running/\∀ w₁,Rely w w₁->∃ v es,stepG P true g w₁=.ended (.done v) w₁ es/\(∀ e∈es,Conc.EvL pW w₁.heap.size e)/\Post v w₁
theorem TR {P:Program} {f:FuncId} (noInit:P.inits.idxOf? f=none) {R:Ending->World->Prop} {Post:Value->World->Prop} {fr:Frame} {w:World} (h:US P f R fr w) (hp:∀ v w',R (.returned v) w'->Post v w'):aBO P Post (Conc.G fr []) w:=by
 obtain ⟨rfl,h2,h3,h4,fn,h5,h6⟩:=h;refine ⟨rfl,fun w₁ hw=>?_⟩
 obtain ⟨v,a1,a3⟩:=h6 w₁ hw;refine ⟨v,seen P fr.fn ((results fn fr.tmps).events P w₁ #[]),?_,fun e he=>?_,hp v w₁ a3⟩
 ·simp [Conc.G,stepG,unwind,doReturn,h2,h3,h4,h5,a1,GStep.after,noInit]
 ·obtain ⟨cn,ay⟩:=CK (results fn fr.tmps) (acc:=#[]) (IU _ _) a1
  exact TJ ((ay e (Conc.mem_seen he)).resolve_left (by simp))
theorem ZN {C:Checked} {os:Os} {f:FuncId} {fn:Func} {s:ChangeSpec} {conds:List PathCond} {fresh ry:Bool} {H:Type} {enc:TypeId×Value->H} {tb:TypeId} (n:Nat)
  (own:ownKnob C.prog.godebug=none) (started:os.Started) (noInit:C.prog.inits.idxOf? f=none) (la:C.prog.funcs[f]? = some fn)
  (K:Kids C.prog (·<C.prog.types.size)) (hz:∀ t e,t<C.prog.types.size->C.prog.underlying t=some (.slice e)->0<C.prog.cellsOf e)
  (H7:∀ t∈fn.params.toList,t<C.prog.types.size) (si:fn.params.toList.all (plT C.prog n)=true) (iu:fn.resultTypes=#[tb]) (hb:C.prog.underlying tb=some .bool)
  (l6:s.vars=[]) (fg:∀ ds:List (DataW H),ds.length=fn.params.toList.length->s.fn H (ds++[])={ results:=[.lit (.bool true)],args:=ds })
  (witness:∃ (w:World) (tape:Tape) (i:Input),w.os=os/\(w.forCall tape i).Shaped C.prog/\i.vars=[]/\Input.okWide C.prog (w.forCall tape i) .any w.heap.size f i /\
   s.pre6 enc C.prog fn conds false (w.forCall tape i).memory i.args/\({}:Assume).holds C.prog (lone (Frame.enter C.prog f i.args .normal) [] (w.forCall tape i)))
  (law:∀ css,uN C.prog n fn.params.toList css->@SpecR Gh C.prog (gS C.prog) f (GA C.prog fn.params.toList css) (.cv (cb true))) :
  ReturnsInLeavingWide {} C os f .any (s.pre6 enc C.prog fn conds false) (s.post enc C.prog fn false fresh ry false):=by
 refine returnsInLeavingWide_of_change_sized own started la witness ?_;intro W base args ds gs before lr hW Le cn _;have H8:=hW;obtain ⟨p,q,hA,hV,rfl,Jg,fc⟩:=hW;rw [l6] at hV;obtain ⟨rfl,rfl⟩:=trodVars_none hV;simp at H8
 have Di:∀ m∈DataW.weightsEach C.prog fn.params.toList ds,m<=reachBytes:=by
  intro m hm
  have hh:∀ (ts us:List TypeId) (ds:List (DataW H)),m∈DataW.weightsEach C.prog ts ds->m∈DataW.weightsEach C.prog (ts++us) ds:=by
   intro ts
   induction ts with
   | nil=>grind [DataW.weightsEach]
   | cons t ts ih =>
    intro us ds h;cases ds with
    | nil=>grind [DataW.weightsEach]
    | cons d ds =>
     grind [DataW.weightsEach]
  grind
 obtain ⟨css,s1,s2⟩:=WD K n fn.params.toList args.toList ds p H7 si (fun j t v hj hv=>lr j t v (by grind) (by grind)) hA Di
 let e0:Env:={ ρ:=fun _=>0,hdr:=fun _ _=>undef,S:=fun b=>b<W.heap.size,base:=W.heap.size,H:=fun _=>none,y:=false }
 have hm:Mem W.heap.size W e0 [] [] W:=Mem.nothing e0 W fun b hb=>hb
 have hc:=law css s1 Fence.wide 0 XL rfl W.heap.size W e0 W args hm (s2 e0 _ rfl) (AV.scos_closed _ _ _ (zM _ _ _));refine ZB (hc [] _ fun fr w' hl=>GoM.stop fun w₁ hw=>(TR noInit hl ?_:aBO C.prog _ _ _).imp id fun h w₂ h2=>h w₂ (Co.aIL hw h2))
 rintro v0 W' ⟨e',B',V',r,v,fh,⟨rfl,rfl,rfl⟩,bv,ja,hr,_⟩;obtain rfl:v0=v:=by grind
 obtain ⟨rfl,_⟩:=hr
 have hB:Below W.heap.size W W':=by
  have:=bv.below
  rwa [Env.nb_false (show e'.y=false from ja.ye)] at this
 have qg:=CO hA;refine ⟨ds,[],p,[],p,[],H8,?_,?_,?_,hB.frame _,fun h=>by cases h⟩
 ·rw [fg ds qg,iu]
  exact trodAll_mk1 (shut_bool hb true)
 ·rw [fg ds qg]
  have h1:=GB hB hA;exact DataW.TrodAll.respare K hz H7 h1 (fun x hx=>by simpa using DataW.TrodAll.lt hA x hx)
 ·rw [fg ds qg,l6];rfl
end
end Go.Sx
namespace Go.Proofs.YtgpnoeojpmaeiaaGreat
section
open Go Go.Sx
set_option maxRecDepth 100000
abbrev rg (l:List Nat):HT:=.reg [] l none []
abbrev rq (l:List Nat) (x:HT):HT:=.two (rg l) x
def fe3:FE:=⟨114,[.tmp 4],rq [1,2] (rq [1,5] (rq [1,5] (.two (rq [1,5,6] (.blk ⟨[],[],[],[]⟩ (.lp [] ⟨[1,5],[(6,.lf li)],[],[]⟩ (.two (rq [1,5,6,21] (.cond none .nil .nil)) (.two (.thru (rq [1,5,6,7] (rq [1,5,6,7,8,9] (.two (.two (.reg [] [] (some ⟨[1,5,6,7,8],[(62,.lf lb)],[],[]⟩) []) (.cond none (rq [4] .nil) .nil)) (rq [1,5,6,7,8,10] (.blk ⟨[1,5,6],[],[],[]⟩ (.lp [] ⟨[1,5,6,7,8],[(10,.lf li)],[],[]⟩ (.two (rq [1,5,6,7,8,10,67] (.cond none .nil .nil)) (.two (.thru (rq [1,5,6,7,8,10,11] (.two (.reg [] [] (some ⟨[1,5,6,7,8,10,11],[(12,.lf lb)],[],[]⟩) []) (.two (.reg [] [] (some ⟨[1,5,6,7,8,10],[(112,.lf lb)],[],[]⟩) []) (.cond none (rq [4] .nil) .nil))))) (rg [1,5,6,7,8,10])))))))))) (rg [1,5,6])))))) (rq [4] .nil)))),⟨[.agg [Lf.row 1,Lf.row 6,Lf.row 5],.one li],[.one lb]⟩⟩
def fe4:FE:=⟨139,[.tmp 4],rq [1,2] (rq [1,5] (rq [1,5,6,7] (.two (rq [1,5,6,27] (.cond none (rq [4] .nil) .nil)) (.two (rq [1,5,6,30] (.cond none (rq [4] .nil) .nil)) (rq [5,6,8] (rq [5,6,8,9,10] (.two (.two (.reg [] [] (some ⟨[5,6,8,9],[(54,.lf lb)],[],[]⟩) []) (.cond none (rq [4] .nil) .nil)) (rq [5,6,8,9,11] (rq [5,6,8,9,11] (.two (rq [5,6,8,9,11,12] (.blk ⟨[6,8,9,11],[],[(2,31,[.own 0,.lf (Lf.row 3),.lf (Lf.row 6)])],[(0,48,8,none)]⟩ (.lp [.mkb 2 0 48 8] ⟨[5,6,8,9,11],[(12,.lf li)],[(2,31,[.own 0,.lf (Lf.row 3),.lf (Lf.row 6)])],[(0,48,8,none)]⟩ (.two (rq [5,6,8,9,11,12,62] (.cond none .nil .nil)) (.two (.thru (rq [5,6,8,9,11,12,72] (.cond (some ⟨[5,6,8,9,11,12],[],[(2,31,[.own 0,.lf (Lf.row 3),.lf (Lf.row 6)])],[(0,48,8,none)]⟩) (rg [5,6,8,9,11,12]) .nil))) (rg [5,6,8,9,11,12])))))) (.two (rq [6,8,9,11,13] (.blk ⟨[],[],[],[]⟩ (.lp [] ⟨[6,8,9,11],[(13,.lf li)],[],[]⟩ (.two (rq [6,8,9,11,13,84] (.cond none .nil .nil)) (.two (.thru (rq [6,8,9,11,13,14] (.two (rq [6,8,9,11,13,14,15] (.blk ⟨[6,8,9,11,13,14],[],[(3,31,[.own 1,.lf (Lf.row 3),.lf (Lf.row 6)])],[(1,48,8,none)]⟩ (.lp [.mkb 3 0 48 8] ⟨[6,8,9,11,13,14],[(15,.lf li)],[(3,31,[.own 1,.lf (Lf.row 3),.lf (Lf.row 6)])],[(1,48,8,none)]⟩ (.two (rq [6,8,9,11,13,14,15,94] (.cond none .nil .nil)) (.two (.thru (rq [6,8,9,11,13,14,15,16] (.two (rq [6,8,9,11,13,14,15,16,105] (.cond (some ⟨[6,8,9,11,13,14,15,16],[],[(4,48,[.lf li,.lf li,.lf (Lf.row 1),.lf li,.lf li,.lf li,.lf li,.lf (Lf.row 1)])],[]⟩) (rg [6,8,9,11,13,14,15,16]) .nil)) (rg [6,8,9,11,13,14,15])))) (rg [6,8,9,11,13,14,15])))))) (.two (.reg [] [6,8,9,11,13,17,18] none [(some 123,⟨[],[],[],[]⟩,.rt [.fz 1])]) (.two (.reg [] [] (some ⟨[6,8,9,11,13],[(137,.lf lb)],[],[]⟩) []) (.cond none (rq [4] .nil) .nil)))))) (rg [6,8,9,11,13])))))) (rq [4] .nil)))))))))))),⟨[.agg [Lf.row 1,Lf.row 6,Lf.row 5],.one li],[.one lb]⟩⟩
def aIR:FE:=⟨199,[.cell 2 31],rq [1,2] (rq [1,2,3] (rq [1,2,3,4] (.two (rq [1,2,3,4,5] (.blk ⟨[1,2,3,4],[],[(2,31,[.own 0,.own 2,.own 1])],[(0,48,8,none),(1,35,6,none),(2,67,3,none)]⟩ (.lp [.mkb 2 0 48 8,.mkb 2 2 35 6,.mkb 2 1 67 3] ⟨[1,2,3,4],[(5,.lf li)],[(2,31,[.own 0,.own 2,.own 1])],[(0,48,8,none),(1,35,6,none),(2,67,3,none)]⟩ (.two (rq [1,2,3,4,5,23] (.cond none .nil .nil)) (.two (.thru (rq [1,2,3,4,5,6] (rg [1,2,3,4,5]))) (rg [1,2,3,4,5])))))) (.two (rq [1,2,3,4,7] (.blk ⟨[1,2,3],[],[(2,31,[.own 0,.own 2,.own 1])],[(0,48,8,none),(1,35,6,none),(2,67,3,none)]⟩ (.lp [] ⟨[1,2,3,4],[(7,.lf li)],[(2,31,[.own 0,.own 2,.own 1])],[(0,48,8,none),(1,35,6,none),(2,67,3,none)]⟩ (.two (.two (.reg [] [] (some ⟨[1,2,3,4,7],[(58,.lf lb)],[],[]⟩) []) (.cond none .nil .nil)) (.two (.thru (rq [1,2,3,4,7,8] (rq [1,2,3,4,7,8,9] (rq [1,2,3,4,7,8,9,10] (rq [1,2,3,4,7,8,9] (.two (rq [1,2,3,4,7,8,9,11] (.blk ⟨[1,2,3,4,7,8,9],[],[(4,48,[.lf li,.lf li,.lf (Lf.row 1),.lf li,.lf li,.lf li,.lf li,.own 3])],[(3,3,1,none)]⟩ (.lp [.mkb 4 7 3 1] ⟨[1,2,3,4,7,8,9],[(11,.lf li)],[(4,48,[.lf li,.lf li,.lf (Lf.row 1),.lf li,.lf li,.lf li,.lf li,.own 3])],[(3,3,1,none)]⟩ (.two (rq [1,2,3,4,7,8,9,11,99] (.cond none .nil .nil)) (.two (.thru (rq [1,2,3,4,7,8,9,11,107] (.cond (some ⟨[1,2,3,4,7,8,9,11],[],[(4,48,[.lf li,.lf li,.lf (Lf.row 1),.lf li,.lf li,.lf li,.lf li,.own 3])],[(3,3,1,none)]⟩) (rg [1,2,3,4,7,8,9,11]) .nil))) (rg [1,2,3,4,7,8,9,11])))))) (.two (.two (.reg [.fz 3] [1,2,3,4,7,8,9,119] none []) (.cond (some ⟨[1,2,3,4,7,9],[],[(4,48,[.lf li,.lf li,.lf (Lf.row 1),.lf li,.lf li,.lf li,.lf li,.lf (Lf.row 1)])],[]⟩) (.reg [] [1,2,3,4,7,9] none [(some 127,⟨[],[],[],[]⟩,.rt [.fz 4])]) .nil)) (rg [1,2,3,4,7])))))))) (rg [1,2,3,4,7])))))) (.two (rq [1,2,3,12] (.blk ⟨[2,3],[],[(2,31,[.own 0,.own 2,.own 1])],[(0,48,8,none),(1,35,6,none),(2,67,3,none)]⟩ (.lp [] ⟨[1,2,3],[(12,.lf li)],[(2,31,[.own 0,.own 2,.own 1])],[(0,48,8,none),(1,35,6,none),(2,67,3,none)]⟩ (.two (.two (.reg [] [] (some ⟨[1,2,3,12],[(148,.lf lb)],[],[]⟩) []) (.cond none .nil .nil)) (.two (.thru (rq [1,2,3,12,13] (rq [1,2,3,12,13,14] (rq [1,2,3,12,13,15] (rq [1,2,3,12,15] (rg [1,2,3,12])))))) (rg [1,2,3,12])))))) (rq [2] .nil)))))),⟨[.agg [Lf.row 1,Lf.row 6,Lf.row 5]],[.agg [Lf.row 8,Lf.row 3,Lf.row 6]]⟩⟩
def aIS:FE:=⟨12,[.tmp 4],rq [0,1] (rq [4] .nil),⟨[.one li,.one li],[.one li]⟩⟩
def aIT:FE:=⟨122,[.tmp 6,.tmp 7],rq [1,2,3] (rq [1,2,3,8,9] (.two (rq [1,2,3,8,9,30] (.cond none (rq [6,7] .nil) .nil)) (rq [2,3,8,9,10] (.two (rq [2,3,8,9,10,39] (.cond none (rq [6,7] .nil) .nil)) (rq [2,3,8,11] (rq [2,3,8,11,12,13] (rq [2,3,8,11,12,13,14,15] (rq [2,3,8,11,12,13,14,15,16] (.two (rq [2,8,11,12,13,14,15,16,56,57,58] (.blk ⟨[],[(16,.own 0)],[],[(0,3,1,none)]⟩ (.lp [.mk 16 3 1] ⟨[2,8,11,12,13,14,15,56,57],[(16,.own 0),(58,.lf li)],[],[(0,3,1,none)]⟩ (rq [2,8,11,12,13,14,15,16,56,57,58,59] (.two (.cond none .nil .nil) (.two (.thru (rq [2,8,11,12,13,14,15,16,17,18,56,57,58] (rq [2,8,11,12,13,14,15,16,17,18,19,20,56,57,58] (rq [2,8,11,12,13,14,15,16,17,18,19,20,21,22,56,57,58] (.two (.reg [] [] (some ⟨[2,8,11,12,13,14,15,16,18,56,57,58],[(114,.lf lb)],[],[]⟩) []) (.cond (some ⟨[2,8,11,12,13,14,15,56,57,58],[(16,.own 0)],[],[(0,3,1,none)]⟩) (rg [2,8,11,12,13,14,15,16,56,57,58]) .nil)))))) (rg [2,8,11,12,13,14,15,16,56,57,58]))))))) (rq [6,7] .nil)))))))))),⟨[.agg [Lf.row 8,Lf.row 3,Lf.row 6],.one li,.one li],[.one (Lf.row 1),.one li]⟩⟩
def aIU:FE:=⟨122,[.tmp 0],rq [] (rq [1] (rq [1,2,3] (rq [1,2,3,4,5] (rq [1,2,3,4,5,6,7] (rq [1,2,3,4,5,6,7,8,9] (rq [1,2,3,4,5,6,7,8,9,10,11] (rq [1,2,3,4,5,6,7,8,9,10,11,12,13] (rq [2,3,4,5,6,7,8,9,10,11,12,13,14,15] (.two (.reg [] [] (some ⟨[2,4,6,8,10,12,14],[(16,.lf lb)],[],[]⟩) []) (rq [2,4,6,8,10,12,14,16,17] (.two (.reg [] [0] none [(some 90,⟨[],[],[],[]⟩,.rt [.fz 1,.fz 2])]) .nil))))))))))),⟨[],[.one lb]⟩⟩
def aLr:FE:=⟨22,[.tmp 4,.tmp 5],rq [1,2] (rq [1,6,7] (.two (rq [1,6,7,15] (.cond none (rq [4,5] .nil) .nil)) (rq [4,5] .nil))),⟨[.agg [Lf.row 8,Lf.row 3,Lf.row 6],.one li],[.one (Lf.row 1),.one li]⟩⟩
def aIV:FE:=⟨58,[.tmp 6,.tmp 7],rq [1,2,3] (rq [2,8,9,10] (.two (rq [2,8,9,10,24] (.cond none (rq [6,7] .nil) .nil)) (rq [8,9,11] (.two (rq [8,9,11,32] (.cond none (rq [6,7] .nil) .nil)) (rq [8,9,11,12] (.two (rq [8,9,12,34] (.rg (.clo [.one (Lf.row 1)]) ⟨[8,9,12,34],[],[(3,3,[.lf li])],[]⟩ (rg [8,9,12,13]) (.blk ⟨[],[],[(3,3,[.lf li])],[]⟩ (.two (rq [8,12,13,39] (.cond none .nil .nil)) (rq [12,14] (.two (.reg [] [] (some ⟨[12,14],[(55,.lf lb)],[],[]⟩) []) (.cond (some ⟨[],[],[(3,3,[.lf li])],[]⟩) (rg []) .nil))))))) (rq [6,7] .nil))))))),⟨[.agg [Lf.row 8,Lf.row 3,Lf.row 6],.one li,.one li],[.one li,.one li]⟩⟩
def aLs:FE:=⟨18,[.tmp 4],rq [0,1] (.two (rq [0,1,5] (.blk ⟨[],[],[],[]⟩ (.lp [] ⟨[0,1],[(5,.lf li)],[],[]⟩ (.two (rq [0,1,5,9] (.cond none .nil .nil)) (.two (.thru (rq [0,1,5,17] (.cond none (rq [4] .nil) .nil))) (rg [0,1,5])))))) (rq [4] .nil)),⟨[.one (Lf.row 1),.one li],[.one lb]⟩⟩
def aIW:FE:=⟨33,[.tmp 4,.tmp 5],.fv [] .nil,⟨[.agg [Lf.row 8,Lf.row 3,Lf.row 6],.one li],[.one (Lf.row 4),.one li]⟩⟩
def aIX:FE:=⟨69,[.tmp 8,.tmp 9],rq [1,2,3,4] (rq [2,3,10,11,12] (.two (rq [2,3,10,11,12,25] (.cond none (rq [8,9] .nil) .nil)) (.two (.two (.reg [] [] (some ⟨[2,3,10,11],[(40,.lf lb)],[],[]⟩) []) (.cond none (rq [8,9] .nil) .nil)) (rq [2,10,13] (.two (rq [2,13,49,50,51] (.blk ⟨[13],[],[],[]⟩ (.lp [] ⟨[2,13,49,50],[(51,.lf li)],[],[]⟩ (rq [2,13,49,50,51,52] (.two (.cond none .nil .nil) (.two (.thru (rq [2,13,14,15,49,50,51] (rq [2,13,14,49,50,51,59] (.cond none (rq [8,9] .nil) .nil)))) (rg [2,13,49,50,51]))))))) (rq [8,9] .nil)))))),⟨[.agg [Lf.row 8,Lf.row 3,Lf.row 6],.one li,.one li,.one li],[.one li,.one li]⟩⟩
def aIY:FE:=⟨26,[.tmp 4],rq [0,1] (.two (rq [0,1,10] (.cond none (rq [4] .nil) .nil)) (.two (rq [0,1,5] (.blk ⟨[],[],[],[]⟩ (.lp [] ⟨[0,1],[(5,.lf li)],[],[]⟩ (.two (rq [0,1,5,14] (.cond none .nil .nil)) (.two (.thru (rq [0,1,5,25] (.cond none (rq [4] .nil) .nil))) (rg [0,1,5])))))) (rq [4] .nil))),⟨[.one (Lf.row 4),.one (Lf.row 4)],[.one lb]⟩⟩
def aIZ:FE:=⟨26,[.tmp 4],rq [0,1] (.two (rq [0,1,10] (.cond none (rq [4] .nil) .nil)) (.two (rq [0,1,5] (.blk ⟨[],[],[],[]⟩ (.lp [] ⟨[0,1],[(5,.lf li)],[],[]⟩ (.two (rq [0,1,5,14] (.cond none .nil .nil)) (.two (.thru (rq [0,1,5,25] (.cond none (rq [4] .nil) .nil))) (rg [0,1,5])))))) (rq [4] .nil))),⟨[.one (Lf.row 1),.one (Lf.row 1)],[.one lb]⟩⟩
def aI0:FE:=⟨82,[.tmp 4,.tmp 5],rq [1,2] (rq [1,6,7] (.two (rq [1,6,7,24] (.cond none (rq [4,5] .nil) .nil)) (rq [6,8,9] (.two (rq [6,8,9,34] (.cond none (rq [4,5] .nil) .nil)) (rq [6,8,10] (rq [6,8,10,11] (.two (rq [6,10,11,40,41,42] (.blk ⟨[6,11],[],[(2,22,[.own 0])],[(0,3,1,none)]⟩ (.lp [] ⟨[6,10,11,40,41],[(42,.lf li)],[(2,22,[.own 0])],[(0,3,1,none)]⟩ (rq [6,10,11,40,41,42,43] (.two (.cond none .nil .nil) (.two (.thru (rq [6,10,11,13,40,41,42] (rq [6,10,11,13,40,41,42,58] (.cond (some ⟨[6,10,11,40,41,42],[],[(2,22,[.own 0])],[(0,3,1,none)]⟩) (rg [6,10,11,40,41,42]) .nil)))) (rg [6,10,11,40,41,42]))))))) (.two (.reg [] [6,11] none [(some 65,⟨[],[],[],[]⟩,.mt false)]) (.two (.two (.reg [.fz 0] [6,11,68] none [(some 67,⟨[6,11],[(67,.own 1)],[],[(1,3,1,none)]⟩,rq [0] (.two (rq [0,4] (.cond none (rq [2] (.rt [.mk 2 3 1])) .nil)) (rq [2] .nil))),(some 68,⟨[],[],[],[]⟩,.rt [.fz 1])]) (.rg (.clo [.one li,.one li]) ⟨[6,11,68],[],[(2,22,[.lf (Lf.row 1)])],[]⟩ (rg [6,11,15]) (.thru (rq [6,11,16] (rq [11,16,77] (.cond (some ⟨[],[],[(2,22,[.lf (Lf.row 1)])],[]⟩) (rg []) .nil)))))) (rq [4,5] .nil)))))))))),⟨[.agg [Lf.row 8,Lf.row 3,Lf.row 6],.one li],[.one (Lf.row 1),.one li]⟩⟩
def aI1:FE:=⟨35,[.cell 4 70,.tmp 5],rq [1,2,4] (rq [1,4,6,7] (.two (rq [1,4,6,7,18] (.cond none (rq [4,5] .nil) .nil)) (rq [1,4,6,8] (.two (.two (.reg [.mkb 3 0 22 1] [4,8,25] none []) (.rg (.clo [.one li,.one (Lf.row 1)]) ⟨[4,8,25],[],[(3,70,[.own 0])],[(0,22,1,none)]⟩ (rg [4,8,10]) (.thru (rg [])))) (rq [4,5] .nil))))),⟨[.agg [Lf.row 8,Lf.row 3,Lf.row 6],.one li],[.agg [Lf.row 1],.one li]⟩⟩
def aI2:FE:=⟨32,[.tmp 4],rq [2,3] (.two (rq [2,3,12] (.cond none (rq [4] .nil) .nil)) (.two (rq [2,3,5] (.blk ⟨[],[],[],[]⟩ (.lp [] ⟨[2,3],[(5,.lf li)],[],[]⟩ (.two (rq [2,3,5,17] (.cond none .nil .nil)) (.two (.thru (rq [2,3,5,31] (.cond none (rq [4] .nil) .nil))) (rg [2,3,5])))))) (rq [4] .nil))),⟨[.agg [Lf.row 1],.agg [Lf.row 1]],[.one lb]⟩⟩
def aI3:FE:=⟨42,[.tmp 4,.tmp 5],rq [1,2] (rq [1,6,7] (.two (rq [1,6,7,18] (.cond none (rq [4,5] .nil) .nil)) (rq [1,6,8] (.two (rq [6,8,22,23,24] (.blk ⟨[],[(8,.own 0)],[],[(0,3,1,none)]⟩ (.lp [.mk 8 3 1] ⟨[6,22,23],[(8,.own 0),(24,.lf li)],[],[(0,3,1,none)]⟩ (rq [6,8,22,23,24,25] (.two (.cond none .nil .nil) (.two (.thru (rq [6,8,10,22,23,24] (rg [6,8,22,23,24]))) (rg [6,8,22,23,24]))))))) (.two (.reg [] [8] none [(some 39,⟨[],[],[],[]⟩,.mt false)]) (.two (.reg [] [4,5] none [(some 41,⟨[],[],[],[]⟩,.mt true)]) .nil)))))),⟨[.agg [Lf.row 8,Lf.row 3,Lf.row 6],.one li],[.one (Lf.row 1),.one li]⟩⟩
def aI4:FE:=⟨30,[.cell 4 31,.tmp 5],rq [2,3,4] (.two (rq [2,3,4,6] (rq [2,3,4,6,11] (.cond none (rq [4,5] .nil) .nil))) (.two (.reg [] [2,3,4,7] none [(some 15,⟨[2,3,4],[(15,.tp false [.own 2,.own 0,.own 1])],[],[(0,67,3,none),(1,35,6,none),(2,48,8,none)]⟩,rq [1,2] (rq [1,2,3] (.two (rq [2,3,14,15,16] (.blk ⟨[2,3],[],[(5,31,[.own 2,.own 0,.own 1])],[(0,67,3,none),(1,35,6,none),(2,48,8,none)]⟩ (.lp [.mkb 5 0 48 8] ⟨[2,3,14,15],[(16,.lf li)],[(5,31,[.own 2,.own 0,.own 1])],[(0,67,3,none),(1,35,6,none),(2,48,8,none)]⟩ (rq [2,3,14,15,16,17] (.two (.cond none .nil .nil) (.two (.thru (rq [2,3,5,14,15,16] (rg [2,3,14,15,16]))) (rg [2,3,14,15,16]))))))) (rq [2] .nil))))]) (.two (.reg [] [2,4,7] none [(some 19,⟨[2,4,7],[(19,.own 1)],[(3,31,[.own 2,.own 0,.any])],[(0,67,3,none),(1,35,6,none),(2,48,8,none)]⟩,rq [0,1] (rq [0,1,5] (.two (rq [0,1,5,12] (.cond none (rq [4] .nil) .nil)) (.two (rq [0,1,5,6] (.blk ⟨[0],[(5,.lf li)],[],[(1,35,6,some 0)]⟩ (.lp [] ⟨[0,1],[(5,.lf li),(6,.lf li)],[],[(1,35,6,some 0)]⟩ (.two (rq [0,1,5,6,19] (.cond none .nil .nil)) (.two (.thru (rq [0,1,5,6,7] (rq [0,1,5,6,7,29] (.cond (some ⟨[0,1,6],[(5,.lf li)],[],[(1,35,6,some 0)]⟩) (rq [0,1,5,6] (rg [0,1,5,6])) .nil)))) (rg [0,1,5,6])))))) (rq [0,5] (rq [4] .nil))))))]) (.two (rq [4,7,27] (.cond none (rq [4,5] .nil) .nil)) (rq [4,5] .nil))))),⟨[.agg [Lf.row 8,Lf.row 3,Lf.row 6],.one li],[.agg [Lf.row 8,Lf.row 3,Lf.row 6],.one li]⟩⟩
def aI5:FE:=⟨13,[.tmp 2],rq [1] (.two (.two (.reg [] [] (some ⟨[],[(12,.lf lb)],[],[]⟩) []) (.cond none (rq [2] .nil) .nil)) (rq [2] .nil)),⟨[.agg [li,li,li]],[.one li]⟩⟩
def aI6:FE:=⟨43,[.tmp 2],rq [1] (.two (.two (.reg [] [] (some ⟨[],[(42,.lf lb)],[],[]⟩) []) (.cond none (rq [2] .nil) .nil)) (rq [2] .nil)),⟨[.agg [li,li,Lf.row 1,li,li,li,li,Lf.row 1]],[.one li]⟩⟩
def aI7:FE:=⟨39,[.tmp 2],rq [1] (.two (.two (.reg [] [] (some ⟨[],[(38,.lf lb)],[],[]⟩) []) (.cond none (rq [2] .nil) .nil)) (rq [2] .nil)),⟨[.agg [li,li,li,li,li,li]],[.one li]⟩⟩
def aI8:FE:=⟨31,[.tmp 2],rq [1] (.two (.two (.reg [] [] (some ⟨[],[(30,.lf lb)],[],[]⟩) []) (.cond none (rq [2] .nil) .nil)) (rq [2] .nil)),⟨[.agg [Lf.row 8,Lf.row 3,Lf.row 6]],[.one li]⟩⟩
def aI9:FE:=⟨15,[.tmp 4],rq [0,1] (.two (rq [0,1,7] (.cond none (rq [4] .nil) .nil)) (rq [4] .nil)),⟨[.one (Lf.row 1),.one li],[.one li]⟩⟩
def aG6:FE:=⟨19,[.cell 4 97,.tmp 5],rq [1,2,4] (.two (rq [1,2,4,6] (rq [1,2,4,6,10] (.cond none (rq [4,5] .nil) .nil))) (.two (rq [2,4,15] (.cond none (rq [4,5] .nil) .nil)) (rq [4,5] .nil))),⟨[.agg [Lf.row 8,Lf.row 3,Lf.row 6],.one li],[.agg [Lf.row 8,Lf.row 3,Lf.row 6],.one li]⟩⟩
def aJa:FE:=⟨94,[.tmp 4],.fv [] .nil,⟨[.agg [Lf.row 8,Lf.row 3,Lf.row 6],.one li],[.one (Lf.row 1)]⟩⟩
def aJb:FE:=⟨10,[.tmp 4],rq [2,3] (.two (.reg [] [4] none [(some 7,⟨[2,3],[(7,.own 0)],[],[(0,3,1,none)]⟩,rq [1,2] (.two (.reg [] [5] none [(some 10,⟨[],[(10,.tp true [.own 0,.own 1])],[],[(0,3,1,none),(1,3,1,none)]⟩,rq [1,2,4,5] (.two (rq [2,4,5,10,11,12] (.blk ⟨[],[(4,.own 0),(5,.own 1)],[],[(0,3,1,none),(1,3,1,none)]⟩ (.lp [.mk 4 3 1,.mk 5 3 1] ⟨[2,10,11],[(4,.own 0),(5,.own 1),(12,.lf li)],[],[(0,3,1,none),(1,3,1,none)]⟩ (rq [2,4,5,10,11,12,13] (.two (.cond none .nil .nil) (.two (.thru (rq [2,4,5,7,10,11,12] (rq [2,4,5,7,10,11,12,22] (.cond (some ⟨[2,10,11,12],[(4,.own 0),(5,.own 1)],[],[(0,3,1,none),(1,3,1,none)]⟩) (rg [2,4,5,10,11,12]) (rg [2,4,5,10,11,12]))))) (rg [2,4,5,10,11,12]))))))) (rq [4,5] .nil)))]) (.two (.reg [] [5] none [(some 14,⟨[],[],[],[]⟩,.mt false)]) (rq [4] .nil)))),(some 9,⟨[],[(9,.own 0)],[],[(0,3,1,none)]⟩,rq [0,1] (rq [0,1,5] (.two (rq [0,1,5,12] (.cond none (rq [4] .nil) .nil)) (.two (rq [0,1,5,6] (.blk ⟨[0],[(5,.lf li)],[],[(0,3,1,some 0)]⟩ (.lp [] ⟨[0,1],[(5,.lf li),(6,.lf li)],[],[(0,3,1,some 0)]⟩ (.two (rq [0,1,5,6,19] (.cond none .nil .nil)) (.two (.thru (rq [0,1,5,6,7] (rq [0,1,5,6,7,29] (.cond (some ⟨[0,1,6],[(5,.lf li)],[],[(0,3,1,some 0)]⟩) (rq [0,1,5,6] (rg [0,1,5,6])) .nil)))) (rg [0,1,5,6])))))) (rq [0,5] (rq [4] .nil))))))]) .nil),⟨[.agg [Lf.row 8,Lf.row 3,Lf.row 6],.one li],[.one (Lf.row 1)]⟩⟩
def aFT:FE:=⟨49,[.cell 6 35,.tmp 7],rq [1,2,3,6,7] (.two (rq [1,2,3,6,7,12,13,14] (.blk ⟨[6],[(7,.lf lb)],[(1,35,[.lf li,.lf li,.lf li,.lf li,.lf li,.lf li])],[]⟩ (.lp [] ⟨[1,2,3,6,12,13],[(7,.lf lb),(14,.lf li)],[(1,35,[.lf li,.lf li,.lf li,.lf li,.lf li,.lf li])],[]⟩ (rq [1,2,3,6,7,12,13,14,15] (.two (.cond none .nil .nil) (.two (.thru (rq [1,2,3,6,7,9,12,13,14] (.two (.reg [] [] (some ⟨[1,2,3,6,7,9,12,13,14],[(44,.lf lb)],[],[]⟩) []) (.cond (some ⟨[1,2,3,6,12,13,14],[(7,.lf lb)],[(1,35,[.lf li,.lf li,.lf li,.lf li,.lf li,.lf li])],[]⟩) (rg [1,2,3,6,7,12,13,14]) .nil)))) (rg [1,2,3,6,7,12,13,14]))))))) (rq [6,7] .nil)),⟨[.agg [Lf.row 8,Lf.row 3,Lf.row 6],.one li,.one li],[.agg [li,li,li,li,li,li],.one lb]⟩⟩
def aJc:FE:=⟨26,[.tmp 4],rq [0,1] (.two (rq [0,1,10] (.cond none (rq [4] .nil) .nil)) (.two (rq [0,1,12,13] (.blk ⟨[],[],[],[]⟩ (.lp [] ⟨[0,1,12],[(13,.lf li)],[],[]⟩ (rq [0,1,12,13,14] (.two (.cond none .nil .nil) (.two (.thru (rq [0,1,5,12,13] (rq [0,1,12,13,24] (.cond none (rq [4] .nil) .nil)))) (rg [0,1,12,13]))))))) (rq [4] .nil))),⟨[.one (Lf.row 1),.one (Lf.row 1)],[.one lb]⟩⟩
def aJd:FE:=⟨9,[.tmp 4],rq [0,1] (rq [4] .nil),⟨[.one (Lf.row 1),.one li],[.one lb]⟩⟩
def aJe:FE:=⟨20,[.tmp 4],rq [1,2] (rq [4] .nil),⟨[.agg [Lf.row 8,Lf.row 3,Lf.row 6],.one li],[.one li]⟩⟩
def aJf:FE:=⟨25,[.cell 0 31],rq [0] (.two (.reg [] [0] none [(some 20,⟨[],[],[],[]⟩,.rt [.fz 1,.fz 2,.fz 3,.fz 4,.fz 5,.fz 6])]) .nil),⟨[],[.agg [Lf.row 8,Lf.row 3,Lf.row 6]]⟩⟩
def aJg:FE:=⟨28,[.tmp 4],rq [1,2] (rq [1,2,5] (.two (rq [2,5,8,9,10] (.blk ⟨[],[(5,.own 0)],[],[(0,3,1,none)]⟩ (.lp [.mk 5 3 1] ⟨[2,8,9],[(5,.own 0),(10,.lf li)],[],[(0,3,1,none)]⟩ (rq [2,5,8,9,10,11] (.two (.cond none .nil .nil) (.two (.thru (rq [2,5,7,8,9,10] (rg [2,5,8,9,10]))) (rg [2,5,8,9,10]))))))) (.two (.reg [] [5] none [(some 26,⟨[],[],[],[]⟩,.mt false)]) (rq [4] .nil)))),⟨[.agg [Lf.row 8,Lf.row 3,Lf.row 6],.one (Lf.row 1)],[.one (Lf.row 1)]⟩⟩
def aG7:FE:=⟨16,[.tmp 4],rq [1,2] (.two (.reg [] [5] none [(some 10,⟨[],[(10,.tp true [.own 0,.own 1])],[],[(0,3,1,none),(1,3,1,none)]⟩,rq [1,2,4,5] (.two (rq [2,4,5,10,11,12] (.blk ⟨[],[(4,.own 0),(5,.own 1)],[],[(0,3,1,none),(1,3,1,none)]⟩ (.lp [.mk 4 3 1,.mk 5 3 1] ⟨[2,10,11],[(4,.own 0),(5,.own 1),(12,.lf li)],[],[(0,3,1,none),(1,3,1,none)]⟩ (rq [2,4,5,10,11,12,13] (.two (.cond none .nil .nil) (.two (.thru (rq [2,4,5,7,10,11,12] (rq [2,4,5,7,10,11,12,22] (.cond (some ⟨[2,10,11,12],[(4,.own 0),(5,.own 1)],[],[(0,3,1,none),(1,3,1,none)]⟩) (rg [2,4,5,10,11,12]) (rg [2,4,5,10,11,12]))))) (rg [2,4,5,10,11,12]))))))) (rq [4,5] .nil)))]) (.two (.reg [] [5] none [(some 14,⟨[],[],[],[]⟩,.mt false)]) (rq [4] .nil))),⟨[.agg [Lf.row 8,Lf.row 3,Lf.row 6],.one li],[.one (Lf.row 1)]⟩⟩
def aJh:FE:=⟨41,[.cell 6 97,.tmp 7,.tmp 8],rq [1,2,3,6] (rq [1,2,3,6,9,10] (.two (rq [1,2,3,6,9,10,20] (.cond none (rq [6,7,8] .nil) .nil)) (rq [2,6,9,11,12] (.two (.two (.reg [] [] (some ⟨[6,9,11],[(37,.lf lb)],[],[]⟩) []) (.cond none (rq [6,7,8] .nil) .nil)) (rq [6,7,8] .nil))))),⟨[.agg [Lf.row 8,Lf.row 3,Lf.row 6],.one li,.one li],[.agg [Lf.row 8,Lf.row 3,Lf.row 6],.one li,.one li]⟩⟩
def aJi:FE:=⟨4,[.tmp 2],rq [1] (rq [2] .nil),⟨[.one (Lf.row 1)],[.one Lf.raw]⟩⟩
def aJj:FE:=⟨28,[.tmp 6],rq [1,2,3] (rq [1,2,3,7] (.two (rq [1,2,3,7,12,13] (.blk ⟨[],[(7,.lf li)],[],[]⟩ (.lp [] ⟨[1,2,3,12],[(7,.lf li),(13,.lf li)],[],[]⟩ (rq [1,2,3,7,12,13,14] (.two (.cond none .nil .nil) (.two (.thru (rq [1,2,3,7,8,12,13] (rq [1,2,3,7,8,12,13,18] (.cond (some ⟨[1,2,3,12,13],[(7,.lf li)],[],[]⟩) (rg [1,2,3,7,12,13]) .nil)))) (rg [1,2,3,7,12,13]))))))) (rq [6] .nil))),⟨[.agg [Lf.row 8,Lf.row 3,Lf.row 6],.one (Lf.row 1),.one (Lf.row 1)],[.one li]⟩⟩
def aJk:FE:=⟨20,[.tmp 2],rq [1] (rq [1,3] (.two (rq [1,3,8,9] (.blk ⟨[],[(3,.own 0)],[],[(0,3,1,none)]⟩ (.lp [.mk 3 3 1] ⟨[1,8],[(3,.own 0),(9,.lf li)],[],[(0,3,1,none)]⟩ (rq [1,3,8,9,10] (.two (.cond none .nil .nil) (.two (.thru (rq [1,3,4,8,9] (rg [1,3,8,9]))) (rg [1,3,8,9]))))))) (rq [2] .nil))),⟨[.agg [Lf.row 8,Lf.row 3,Lf.row 6]],[.one (Lf.row 1)]⟩⟩
def aJl:FE:=⟨23,[.tmp 4],rq [1,2] (rq [1,2,5] (.two (rq [2,5,8,9,10] (.blk ⟨[],[(5,.own 0)],[],[(0,3,1,none)]⟩ (.lp [.mk 5 3 1] ⟨[2,8,9],[(5,.own 0),(10,.lf li)],[],[(0,3,1,none)]⟩ (rq [2,5,8,9,10,11] (.two (.cond none .nil .nil) (.two (.thru (rq [2,5,7,8,9,10] (rg [2,5,8,9,10]))) (rg [2,5,8,9,10]))))))) (rq [4] .nil))),⟨[.agg [Lf.row 8,Lf.row 3,Lf.row 6],.one (Lf.row 1)],[.one li]⟩⟩
def aJm:FE:=⟨34,[.tmp 4,.tmp 5],rq [1,2,4,5] (.two (rq [2,4,5,10,11,12] (.blk ⟨[],[(4,.own 0),(5,.own 1)],[],[(0,3,1,none),(1,3,1,none)]⟩ (.lp [.mk 4 3 1,.mk 5 3 1] ⟨[2,10,11],[(4,.own 0),(5,.own 1),(12,.lf li)],[],[(0,3,1,none),(1,3,1,none)]⟩ (rq [2,4,5,10,11,12,13] (.two (.cond none .nil .nil) (.two (.thru (rq [2,4,5,7,10,11,12] (rq [2,4,5,7,10,11,12,22] (.cond (some ⟨[2,10,11,12],[(4,.own 0),(5,.own 1)],[],[(0,3,1,none),(1,3,1,none)]⟩) (rg [2,4,5,10,11,12]) (rg [2,4,5,10,11,12]))))) (rg [2,4,5,10,11,12]))))))) (rq [4,5] .nil)),⟨[.agg [Lf.row 8,Lf.row 3,Lf.row 6],.one li],[.one (Lf.row 1),.one (Lf.row 1)]⟩⟩
def aJn:FE:=⟨18,[.tmp 2],rq [0] (rq [0,3] (.two (rq [3,6,7,8] (.blk ⟨[3],[],[],[]⟩ (.lp [] ⟨[3,6,7],[(8,.lf li)],[],[]⟩ (rq [3,6,7,8,9] (.two (.cond none .nil .nil) (.two (.thru (rq [3,5,6,7,8] (rq [3,5,6,7,8,14] (.cond none (rq [2] .nil) .nil)))) (rg [3,6,7,8]))))))) (rq [2] .nil))),⟨[.one (Lf.row 1)],[.one li]⟩⟩
def aJo:FE:=⟨20,[.tmp 4],rq [0,1] (rq [0,1,5] (rq [0,1,5,6] (.two (rq [0,1,6,11] (.cond none (.two (rq [12] (.cond none (rq [4] .nil) .nil)) (rq [4] .nil)) .nil)) (.two (rq [0,1,13] (.cond none (rq [4] .nil) .nil)) (.two (rq [0,1,16] (.cond none (rq [4] .nil) .nil)) (.two (rq [19] (.cond none (rq [4] .nil) .nil)) (rq [4] .nil))))))),⟨[.one li,.one li],[.one li]⟩⟩
def aJp:FE:=⟨4,[.tmp 2],rq [1] (rq [2] .nil),⟨[.one (Lf.row 1)],[.one Lf.raw]⟩⟩
def aJq:FE:=⟨9,[.tmp 4],rq [0,3] (.two (.reg [] [4] none [(some 6,⟨[3],[(6,.own 0)],[],[(0,3,1,none)]⟩,rq [0] (.two (rq [0,4] (.cond none (rq [2] (.rt [.mk 2 3 1])) .nil)) (rq [2] .nil))),(some 8,⟨[],[(8,.own 0)],[],[(0,3,1,none)]⟩,rq [0,1] (rq [0,1,5] (.two (rq [0,1,5,12] (.cond none (rq [4] .nil) .nil)) (.two (rq [0,1,5,6] (.blk ⟨[0],[(5,.lf li)],[],[(0,3,1,some 0)]⟩ (.lp [] ⟨[0,1],[(5,.lf li),(6,.lf li)],[],[(0,3,1,some 0)]⟩ (.two (rq [0,1,5,6,19] (.cond none .nil .nil)) (.two (.thru (rq [0,1,5,6,7] (rq [0,1,5,6,7,29] (.cond (some ⟨[0,1,6],[(5,.lf li)],[],[(0,3,1,some 0)]⟩) (rq [0,1,5,6] (rg [0,1,5,6])) .nil)))) (rg [0,1,5,6])))))) (rq [0,5] (rq [4] .nil))))))]) .nil),⟨[.one (Lf.row 1),.one li],[.one (Lf.row 1)]⟩⟩
def aJr:FE:=⟨12,[.cell 4 4],rq [1,2,4] (.two (rq [2,4,7] (.rg (.clo [.one (Lf.row 1)]) ⟨[2,4,7],[],[(1,4,[.lf lb])],[]⟩ (rg [2,4,5]) (.thru (rq [4,11] (.cond none (rq [4] .nil) .nil))))) (rq [4] .nil)),⟨[.agg [Lf.row 8,Lf.row 3,Lf.row 6],.one (Lf.row 1)],[.one lb]⟩⟩
def aG8:FE:=⟨14,[.tmp 4],rq [1,2] (rq [4] .nil),⟨[.agg [Lf.row 8,Lf.row 3,Lf.row 6],.one (Lf.row 1)],[.one lb]⟩⟩
def aG9:FE:=⟨9,[.tmp 4],rq [0,1] (rq [4] .nil),⟨[.one (Lf.row 1),.one Lf.raw],[.one lb]⟩⟩
def aHa:FE:=⟨39,[.tmp 2],rq [1] (rq [1,3] (.two (rq [1,3,10,11] (.blk ⟨[1],[(3,.own 0)],[],[(0,3,1,none)]⟩ (.lp [.mk 3 3 1] ⟨[1,10],[(3,.own 0),(11,.lf li)],[],[(0,3,1,none)]⟩ (rq [1,3,10,11,12] (.two (.cond none .nil .nil) (.two (.thru (rq [1,3,4,10,11] (rg [1,3,10,11]))) (rg [1,3,10,11]))))))) (.two (rq [3,23,24,25] (.blk ⟨[],[(3,.own 0)],[],[(0,3,1,none)]⟩ (.lp [] ⟨[23,24],[(3,.own 0),(25,.lf li)],[],[(0,3,1,none)]⟩ (rq [3,23,24,25,26] (.two (.cond none .nil .nil) (.two (.thru (rq [3,6,23,24,25] (rg [3,23,24,25]))) (rg [3,23,24,25]))))))) (.two (.reg [] [3] none [(some 36,⟨[],[],[],[]⟩,.mt false)]) (.two (.reg [] [2] none [(some 38,⟨[],[],[],[]⟩,.mt true)]) .nil))))),⟨[.agg [Lf.row 8,Lf.row 3,Lf.row 6]],[.one (Lf.row 1)]⟩⟩
def aE6:FE:=⟨6,[.tmp 4],rq [2,3] (rq [4] .nil),⟨[.agg [Lf.row 8,Lf.row 3,Lf.row 6],.one (Lf.row 1)],[.one Lf.raw]⟩⟩
def aHb:FE:=⟨13,[.tmp 4,.tmp 5],rq [1,2] (rq [4,5] .nil),⟨[.agg [Lf.row 8,Lf.row 3,Lf.row 6],.one li],[.one li,.one lb]⟩⟩
def aHc:FE:=⟨10,[.tmp 4],rq [2,3] (rq [4] .nil),⟨[.agg [Lf.row 8,Lf.row 3,Lf.row 6],.agg [li,li,Lf.row 1,li,li,li,li,Lf.row 1]],[.one lb]⟩⟩
def aHd:FE:=⟨12,[.cell 2 48],rq [1,2] (rq [1,2] (rq [2] .nil)),⟨[.agg [li,li,Lf.row 1,li,li,li,li,Lf.row 1]],[.agg [li,li,Lf.row 1,li,li,li,li,Lf.row 1]]⟩⟩
def aHe:FE:=⟨10,[.tmp 4],rq [2,3] (rq [4] .nil),⟨[.agg [li,li,li,li,li,li],.agg [li,li,li,li,li,li]],[.one li]⟩⟩
def aHf:FE:=⟨27,[.tmp 4],rq [2,3] (rq [2,3,5,6] (rq [4] .nil)),⟨[.agg [Lf.row 8,Lf.row 3,Lf.row 6],.agg [li,li,li,li,li,li]],[.one lb]⟩⟩
def aHg:FE:=⟨8,[.tmp 3],rq [1,2] (rq [3] .nil),⟨[.agg [li,li,li,li,li,li],.one Lf.ref],[.one lb]⟩⟩
def aHh:FE:=⟨5,[.tmp 2],rq [0] (rq [2] .nil),⟨[.one li],[.one lb]⟩⟩
def aHi:FE:=⟨18,[.tmp 2],rq [1] (rq [2] .nil),⟨[.agg [li,li]],[.one lb]⟩⟩
def aHj:FE:=⟨15,[.tmp 6],rq [0,1,2] (rq [6] .nil),⟨[.one li,.one li,.one li],[.one lb]⟩⟩
def aHk:FE:=⟨38,[.tmp 6],rq [0,1,2] (.two (rq [0,1,2,9,10,11] (.blk ⟨[0,1],[],[],[]⟩ (.lp [] ⟨[0,1,2,9,10],[(11,.lf li)],[],[]⟩ (rq [0,1,2,9,10,11,12] (.two (.cond none .nil .nil) (.two (.thru (rq [0,1,2,7,8,9,10,11] (.two (.reg [] [] (some ⟨[0,1,2,9,10,11],[(32,.lf lb)],[],[]⟩) []) (.cond none (rq [6] .nil) .nil)))) (rg [0,1,2,9,10,11]))))))) (rq [6] .nil)),⟨[.one (Lf.row 1),.one li,.one li],[.one lb]⟩⟩
def aHl:FE:=⟨5,[.tmp 2],rq [0] (rq [2] .nil),⟨[.one li],[.one lb]⟩⟩
def aHm:FE:=⟨42,[.tmp 8],rq [0,1,2,3] (.two (rq [0,1,2,3,11,12,13] (.blk ⟨[0,1],[],[],[]⟩ (.lp [] ⟨[0,1,2,3,11,12],[(13,.lf li)],[],[]⟩ (rq [0,1,2,3,11,12,13,14] (.two (.cond none .nil .nil) (.two (.thru (rq [0,1,2,3,9,10,11,12,13] (.two (.reg [] [] (some ⟨[0,1,2,3,11,12,13],[(36,.lf lb)],[],[]⟩) []) (.cond none (rq [8] .nil) .nil)))) (rg [0,1,2,3,11,12,13]))))))) (rq [8] .nil)),⟨[.one (Lf.row 8),.one li,.one Lf.raw,.one Lf.raw],[.one lb]⟩⟩
def aHn:FE:=⟨10,[.tmp 4],rq [2,3] (rq [4] .nil),⟨[.agg [li,li,Lf.row 1,li,li,li,li,Lf.row 1],.agg [li,li,Lf.row 1,li,li,li,li,Lf.row 1]],[.one li]⟩⟩
def aHo:FE:=⟨42,[.tmp 8],rq [0,1,2,3] (.two (rq [0,1,2,3,11,12,13] (.blk ⟨[0,1],[],[],[]⟩ (.lp [] ⟨[0,1,2,3,11,12],[(13,.lf li)],[],[]⟩ (rq [0,1,2,3,11,12,13,14] (.two (.cond none .nil .nil) (.two (.thru (rq [0,1,2,3,9,10,11,12,13] (.two (.reg [] [] (some ⟨[0,1,2,3,11,12,13],[(36,.lf lb)],[],[]⟩) []) (.cond none (rq [8] .nil) .nil)))) (rg [0,1,2,3,11,12,13]))))))) (rq [8] .nil)),⟨[.one (Lf.row 3),.one li,.one Lf.raw,.one Lf.raw],[.one lb]⟩⟩
def aHp:FE:=⟨10,[.tmp 4],rq [2,3] (rq [4] .nil),⟨[.agg [li,li,li],.agg [li,li,li]],[.one li]⟩⟩
def aHq:FE:=⟨42,[.tmp 8],rq [0,1,2,3] (.two (rq [0,1,2,3,11,12,13] (.blk ⟨[0,1],[],[],[]⟩ (.lp [] ⟨[0,1,2,3,11,12],[(13,.lf li)],[],[]⟩ (rq [0,1,2,3,11,12,13,14] (.two (.cond none .nil .nil) (.two (.thru (rq [0,1,2,3,9,10,11,12,13] (.two (.reg [] [] (some ⟨[0,1,2,3,11,12,13],[(36,.lf lb)],[],[]⟩) []) (.cond none (rq [8] .nil) .nil)))) (rg [0,1,2,3,11,12,13]))))))) (rq [8] .nil)),⟨[.one (Lf.row 6),.one li,.one Lf.raw,.one Lf.raw],[.one lb]⟩⟩
def aHr:FE:=⟨9,[.tmp 4],rq [0,1] (rq [4] .nil),⟨[.one (Lf.row 8),.one Lf.raw],[.one lb]⟩⟩
def aHs:FE:=⟨8,[.tmp 3],rq [1,2] (rq [3] .nil),⟨[.agg [li,li,Lf.row 1,li,li,li,li,Lf.row 1],.one Lf.ref],[.one lb]⟩⟩
def aHt:FE:=⟨9,[.tmp 4],rq [0,1] (rq [4] .nil),⟨[.one (Lf.row 6),.one Lf.raw],[.one lb]⟩⟩
def aHu:FE:=⟨8,[.tmp 3],rq [1,2] (rq [3] .nil),⟨[.agg [li,li,li,li,li,li],.one Lf.ref],[.one lb]⟩⟩
def aHv:FE:=⟨15,[.tmp 4],rq [0,1,2] (rq [6] (rq [4] .nil)),⟨[.one li,.one Lf.ref,.one Lf.ref],[.one lb]⟩⟩
def aHw:FE:=⟨19,[.tmp 4],rq [0,1] (.two (rq [0,1,7,8] (.blk ⟨[],[],[],[]⟩ (.lp [] ⟨[0,1,7],[(8,.lf li)],[],[]⟩ (rq [0,1,7,8,9] (.two (.cond none .nil .nil) (.two (.thru (rq [0,1,5,7,8] (rq [0,1,5,7,8,16] (.cond none (rq [4] .nil) .nil)))) (rg [0,1,7,8]))))))) (rq [4] .nil)),⟨[.one (Lf.row 1),.one li],[.one li]⟩⟩
def aHx:FE:=⟨9,[.tmp 4],rq [0,1,2] (rq [4] .nil),⟨[.one li,.one Lf.ref,.one Lf.ref],[.one lb]⟩⟩
def aHy:FE:=⟨22,[.tmp 6],rq [1,2,3] (rq [6] .nil),⟨[.agg [Lf.row 8,Lf.row 3,Lf.row 6],.one li,.one li],[.one lb]⟩⟩
def aHz:FE:=⟨17,[.tmp 2],rq [0] (rq [0,3] (.two (rq [3,6,7,8] (.blk ⟨[],[(3,.lf li)],[],[]⟩ (.lp [] ⟨[6,7],[(3,.lf li),(8,.lf li)],[],[]⟩ (rq [3,6,7,8,9] (.two (.cond none .nil .nil) (.two (.thru (rq [3,5,6,7,8] (rg [3,6,7,8]))) (rg [3,6,7,8]))))))) (rq [2] .nil))),⟨[.one (Lf.row 1)],[.one li]⟩⟩
def aHA:FE:=⟨13,[.tmp 4],rq [1,2] (rq [4] .nil),⟨[.agg [Lf.row 8,Lf.row 3,Lf.row 6],.one li],[.one li]⟩⟩
def aHB:FE:=⟨13,[.tmp 4],rq [1,2] (rq [4] .nil),⟨[.agg [Lf.row 8,Lf.row 3,Lf.row 6],.one li],[.one li]⟩⟩
def aHC:FE:=⟨28,[.tmp 4],rq [1,2] (rq [1,2,5] (.two (rq [1,2,5,10,11] (.blk ⟨[2],[(5,.own 0)],[],[(0,3,1,none)]⟩ (.lp [.mk 5 3 1] ⟨[1,2,10],[(5,.own 0),(11,.lf li)],[],[(0,3,1,none)]⟩ (rq [1,2,5,10,11,12] (.two (.cond none .nil .nil) (.two (.thru (rq [1,2,5,6,10,11] (rq [1,2,5,6,10,11,18] (.cond (some ⟨[1,2,10,11],[(5,.own 0)],[],[(0,3,1,none)]⟩) (rg [1,2,5,10,11]) .nil)))) (rg [1,2,5,10,11]))))))) (.two (.reg [.fb 0] [5] none [(some 26,⟨[5],[],[],[(0,3,1,some 0)]⟩,.reg [] [] none [(some 8,⟨[],[],[],[(0,3,1,some 0)]⟩,rq [0,1,2,6] (rq [0,1,2,6,7,8] (.two (.blk ⟨[0,1,2,6],[(7,.lf li)],[],[(0,3,1,some 0)]⟩ (.lp [] ⟨[0,1,2,6],[(7,.lf li),(8,.lf li)],[],[(0,3,1,some 0)]⟩ (.two (rq [0,1,2,6,7,8,13] (.cond none .nil .nil)) (.thru (.two (.reg [] [0,1,2,6,8] none [(some 18,⟨[],[],[],[]⟩,.mt false)]) (rq [0,1,2,6,7,8] (rg [0,1,2,6,7,8]))))))) (.two (.reg [] [0,1,2,6] none [(some 27,⟨[],[],[],[]⟩,.mt false)]) (.blk ⟨[],[],[],[(0,3,1,some 0)]⟩ (.lp [] ⟨[0,1,2],[(6,.lf li)],[],[(0,3,1,some 0)]⟩ (.two (rq [0,1,2,6,30] (.cond none .nil .nil)) (.thru (rq [0,1,2,6,7,8] (.two (.blk ⟨[0,1,2,6],[(7,.lf li)],[],[(0,3,1,some 0)]⟩ (.lp [] ⟨[0,1,2,6],[(7,.lf li),(8,.lf li)],[],[(0,3,1,some 0)]⟩ (.two (rq [0,1,2,6,7,8,35] (.cond none .nil .nil)) (.thru (.two (.reg [] [0,1,2,6,8] none [(some 43,⟨[],[],[],[]⟩,.mt false)]) (rq [0,1,2,6,7,8] (rg [0,1,2,6,7,8]))))))) (.two (rq [0,1,2,6,7,9] (rq [0,1,2,6,7,9,54] (.cond (some ⟨[0,1,2,6],[],[],[(0,3,1,some 0)]⟩) (.reg [] [0,1,2,6] none [(some 60,⟨[],[],[],[]⟩,.mt false)]) .nil))) (rg [0,1,2,6]))))))))))))])]) (rq [4] .nil)))),⟨[.agg [Lf.row 8,Lf.row 3,Lf.row 6],.one li],[.one (Lf.row 1)]⟩⟩
def aHD:FE:=⟨6,[.tmp 2],rq [0] (rq [2] .nil),⟨[.one li],[.one lb]⟩⟩
def aE7:FE:=⟨8,[.tmp 2],.fv [] .nil,⟨[.one (Lf.int IntKind.u64)],[.one li]⟩⟩
def aHE:FE:=⟨7,[.tmp 3],rq [0,1] (rq [3] .nil),⟨[.one li,.one Lf.ref],[.one lb]⟩⟩
def aHF:FE:=⟨19,[.tmp 4],rq [0,1] (.two (rq [0,1,7,8] (.blk ⟨[],[],[],[]⟩ (.lp [] ⟨[0,1,7],[(8,.lf li)],[],[]⟩ (rq [0,1,7,8,9] (.two (.cond none .nil .nil) (.two (.thru (rq [0,1,5,7,8] (rq [0,1,5,7,8,16] (.cond none (rq [4] .nil) .nil)))) (rg [0,1,7,8]))))))) (rq [4] .nil)),⟨[.one (Lf.row 1),.one Lf.raw],[.one li]⟩⟩
def aHG:FE:=⟨9,[.tmp 4],rq [0,1,2] (rq [4] .nil),⟨[.one li,.one Lf.ref,.one Lf.ref],[.one lb]⟩⟩
def aHH:FE:=⟨49,[.tmp 6,.tmp 7],rq [0,2,4] (rq [0,2,4,8] (rq [0,2,4,8,9,10] (.two (.blk ⟨[0,2,4,8],[(9,.lf li)],[],[]⟩ (.lp [] ⟨[0,2,4,8],[(9,.lf li),(10,.lf li)],[],[]⟩ (.two (rq [0,2,4,8,9,10,17] (.cond none .nil .nil)) (.thru (rq [0,2,4,8,9,10,11] (rq [0,2,4,8,9,10,11,31] (.cond (some ⟨[0,2,4,8],[(9,.lf li),(10,.lf li)],[],[]⟩) (rg [0,2,4,8,9,10]) (rg [0,2,4,8,9,10])))))))) (rq [6,7] .nil)))),⟨[.one (Lf.row 8),.agg [li,li,Lf.row 1,li,li,li,li,Lf.row 1],.one Lf.raw],[.one li,.one lb]⟩⟩
def aHI:FE:=⟨8,[.tmp 3],rq [0,1] (rq [3] .nil),⟨[.one li,.one Lf.ref],[.one lb]⟩⟩
def aHJ:FE:=⟨9,[.tmp 4],rq [2,3] (rq [4] .nil),⟨[.agg [Lf.row 8,Lf.row 3,Lf.row 6],.one li],[.one lb]⟩⟩
def aHK:FE:=⟨19,[.tmp 4],rq [0,1] (.two (rq [0,1,7,8] (.blk ⟨[],[],[],[]⟩ (.lp [] ⟨[0,1,7],[(8,.lf li)],[],[]⟩ (rq [0,1,7,8,9] (.two (.cond none .nil .nil) (.two (.thru (rq [0,1,5,7,8] (rq [0,1,5,7,8,16] (.cond none (rq [4] .nil) .nil)))) (rg [0,1,7,8]))))))) (rq [4] .nil)),⟨[.one (Lf.row 6),.one Lf.raw],[.one li]⟩⟩
def aHL:FE:=⟨19,[.tmp 4],rq [0,1] (.two (rq [0,1,7,8] (.blk ⟨[],[],[],[]⟩ (.lp [] ⟨[0,1,7],[(8,.lf li)],[],[]⟩ (rq [0,1,7,8,9] (.two (.cond none .nil .nil) (.two (.thru (rq [0,1,5,7,8] (rq [0,1,5,7,8,16] (.cond none (rq [4] .nil) .nil)))) (rg [0,1,7,8]))))))) (rq [4] .nil)),⟨[.one (Lf.row 8),.one Lf.raw],[.one li]⟩⟩
def aHM:FE:=⟨13,[.tmp 5],rq [0,1,2] (rq [5] .nil),⟨[.one li,.one li,.one Lf.ref],[.one li]⟩⟩
def aHN:FE:=⟨17,[.tmp 4],rq [0,1] (rq [4] .nil),⟨[.one li,.one li],[.one lb]⟩⟩
def aHO:FE:=⟨25,[.tmp 2],.fv [] .nil,⟨[.one (Lf.int IntKind.u64)],[.one li]⟩⟩
def aHP:FE:=⟨9,[.tmp 4],rq [0,1] (rq [4] .nil),⟨[.one (Lf.row 3),.one Lf.raw],[.one lb]⟩⟩
def aHQ:FE:=⟨8,[.tmp 3],rq [1,2] (rq [3] .nil),⟨[.agg [li,li,li],.one Lf.ref],[.one lb]⟩⟩
def aHR:FE:=⟨19,[.tmp 4],rq [0,1] (.two (rq [0,1,7,8] (.blk ⟨[],[],[],[]⟩ (.lp [] ⟨[0,1,7],[(8,.lf li)],[],[]⟩ (rq [0,1,7,8,9] (.two (.cond none .nil .nil) (.two (.thru (rq [0,1,5,7,8] (rq [0,1,5,7,8,16] (.cond none (rq [4] .nil) .nil)))) (rg [0,1,7,8]))))))) (rq [4] .nil)),⟨[.one (Lf.row 3),.one Lf.raw],[.one li]⟩⟩
def aHS:FE:=⟨8,[.tmp 2],rq [0] (.two (rq [0,4] (.cond none (rq [2] (.rt [.mk 2 3 1])) .nil)) (rq [2] .nil)),⟨[.one (Lf.row 1)],[.one (Lf.row 1)]⟩⟩
def aE8:FE:=⟨8,[.tmp 2],rq [0] (.two (rq [0,4] (.cond none (rq [2] (.rt [.mk 2 67 3])) .nil)) (rq [2] .nil)),⟨[.one (Lf.row 3)],[.one (Lf.row 3)]⟩⟩
def aE9:FE:=⟨8,[.tmp 2],rq [0] (.two (rq [0,4] (.cond none (rq [2] (.rt [.mk 2 35 6])) .nil)) (rq [2] .nil)),⟨[.one (Lf.row 6)],[.one (Lf.row 6)]⟩⟩
noncomputable def tb:List (Nat×FE×Code):=[(3,fe3,aB Tryz.f3),(4,fe4,aB Tryz.f4),(14,aIR,aB Tryz.f14),(15,aIS,aB Tryz.f15),(16,aIT,aB Tryz.f16),(17,aIU,aB Tryz.f17),(18,aLr,aB Tryz.f18),(19,aIV,aB Tryz.f19),(20,aLs,aB Tryz.f20),(21,aIW,aB Tryz.f21),(23,aIX,aB Tryz.f23),(26,aIY,aB Tryz.f26),(27,aIZ,aB Tryz.f27),(30,aI0,aB Tryz.f30),(37,aI1,aB Tryz.f37),(40,aI2,aB Tryz.f40),(44,aI3,aB Tryz.f44),(56,aI4,aB Tryz.f56),(59,aI5,aB Tryz.f59),(61,aI6,aB Tryz.f61),(63,aI7,aB Tryz.f63),(65,aI8,aB Tryz.f65),(67,aI9,aB Tryz.f67),(68,aG6,aB Tryz.f68),(69,aJa,aB Tryz.f69),(70,aJb,aB Tryz.f70),(71,aFT,aB Tryz.f71),(72,aJc,aB Tryz.f72),(73,aJd,aB Tryz.f73),(74,aJe,aB Tryz.f74),(75,aJf,aB Tryz.f75),(76,aJg,aB Tryz.f76),(77,aG7,aB Tryz.f77),(78,aJh,aB Tryz.f78),(79,aJi,aB Tryz.f79),(80,aJj,aB Tryz.f80),(81,aJk,aB Tryz.f81),(82,aJl,aB Tryz.f82),(92,aJm,aB Tryz.f92),(93,aJn,aB Tryz.f93),(94,aJo,aB Tryz.f94),(96,aJp,aB Tryz.f96),(98,aJq,aB Tryz.f98),(99,aJr,aB Tryz.f99),(106,aG8,aB Tryz.f106),(107,aG9,aB Tryz.f107),(110,aHa,aB Tryz.f110),(111,aE6,aB Tryz.f111),(122,aHb,aB Tryz.f122),(123,aHc,aB Tryz.f123),(126,aHd,aB Tryz.f126),(131,aHe,aB Tryz.f131),(132,aHf,aB Tryz.f132),(136,aHg,aB Tryz.f136),(138,aHh,aB Tryz.f138),(139,aHi,aB Tryz.f139),(141,aHj,aB Tryz.f141),(142,aHk,aB Tryz.f142),(143,aHl,aB Tryz.f143),(146,aHm,aB Tryz.f146),(147,aHn,aB Tryz.f147),(148,aHo,aB Tryz.f148),(149,aHp,aB Tryz.f149),(150,aHq,aB Tryz.f150),(151,aHr,aB Tryz.f151),(152,aHs,aB Tryz.f152),(153,aHt,aB Tryz.f153),(154,aHu,aB Tryz.f154),(156,aHv,aB Tryz.f156),(157,aHw,aB Tryz.f157),(159,aHx,aB Tryz.f159),(160,aHy,aB Tryz.f160),(161,aHz,aB Tryz.f161),(162,aHA,aB Tryz.f162),(163,aHB,aB Tryz.f163),(165,aHC,aB Tryz.f165),(166,aHD,aB Tryz.f166),(168,aE7,aB Tryz.f168),(170,aHE,aB Tryz.f170),(171,aHF,aB Tryz.f171),(173,aHG,aB Tryz.f173),(177,aHH,aB Tryz.f177),(178,aHI,aB Tryz.f178),(179,aHJ,aB Tryz.f179),(186,aHK,aB Tryz.f186),(187,aHL,aB Tryz.f187),(189,aHM,aB Tryz.f189),(196,aHN,aB Tryz.f196),(200,aHO,aB Tryz.f200),(201,aHP,aB Tryz.f201),(202,aHQ,aB Tryz.f202),(211,aHR,aB Tryz.f211)]
noncomputable abbrev Dt (its:List (Nat×(List CV->Option (List CV)))) (n:Nat):Den:=den Tryz.prog tb its n
noncomputable abbrev sg:FuncId->Option Sig:=jG tb
end
section
open Go Go.Sx
abbrev aM:Nat:=3
abbrev aKt:Nat:=4
abbrev xY:Nat:=14
abbrev bJ:Nat:=15
abbrev gT:Nat:=16
abbrev sF:Nat:=17
abbrev aKh:Nat:=18
abbrev oA:Nat:=19
abbrev aKs:Nat:=20
abbrev sW:Nat:=21
abbrev pY:Nat:=23
abbrev lI:Nat:=26
abbrev gU:Nat:=27
abbrev oB:Nat:=30
abbrev mI:Nat:=37
abbrev lJ:Nat:=40
abbrev pZ:Nat:=44
abbrev lK:Nat:=56
abbrev gV:Nat:=59
abbrev gW:Nat:=61
abbrev fZ:Nat:=63
abbrev kF:Nat:=65
abbrev uO:Nat:=67
abbrev bQ:Nat:=68
abbrev cO:Nat:=69
abbrev bM:Nat:=70
abbrev bB:Nat:=71
abbrev jI:Nat:=72
abbrev aL:Nat:=73
abbrev aG:Nat:=74
abbrev mJ:Nat:=75
abbrev eK:Nat:=76
abbrev cD:Nat:=77
abbrev fR:Nat:=78
abbrev lQ:Nat:=79
abbrev bK:Nat:=80
abbrev dE:Nat:=81
abbrev bU:Nat:=82
abbrev fD:Nat:=92
abbrev sG:Nat:=93
abbrev bZ:Nat:=94
abbrev cC:Nat:=95
abbrev gA:Nat:=96
abbrev cH:Nat:=97
abbrev rE:Nat:=98
abbrev bO:Nat:=99
abbrev cX:Nat:=106
abbrev bV:Nat:=107
abbrev sI:Nat:=110
abbrev eB:Nat:=111
abbrev eL:Nat:=117
abbrev dN:Nat:=122
abbrev oC:Nat:=123
abbrev mQ:Nat:=126
abbrev eQ:Nat:=131
abbrev qA:Nat:=132
abbrev iM:Nat:=136
abbrev jB:Nat:=138
abbrev lL:Nat:=139
abbrev cG:Nat:=141
abbrev jJ:Nat:=142
abbrev dZ:Nat:=143
abbrev gX:Nat:=146
abbrev dH:Nat:=147
abbrev gY:Nat:=148
abbrev kG:Nat:=149
abbrev gB:Nat:=150
abbrev dL:Nat:=151
abbrev pD:Nat:=152
abbrev dF:Nat:=153
abbrev pE:Nat:=154
abbrev eR:Nat:=156
abbrev jL:Nat:=157
abbrev BJ:Nat:=158
abbrev gE:Nat:=159
abbrev dI:Nat:=160
abbrev kH:Nat:=161
abbrev cP:Nat:=162
abbrev cV:Nat:=163
abbrev dT:Nat:=165
abbrev sX:Nat:=166
abbrev kQ:Nat:=169
abbrev iO:Nat:=170
abbrev cQ:Nat:=171
abbrev qB:Nat:=172
abbrev mZ:Nat:=173
abbrev eM:Nat:=177
abbrev pF:Nat:=178
abbrev jM:Nat:=179
abbrev tD:Nat:=180
abbrev sJ:Nat:=181
abbrev cS:Nat:=186
abbrev eE:Nat:=187
abbrev bW:Nat:=189
abbrev fS:Nat:=201
abbrev kW:Nat:=202
abbrev iH:Nat:=211
abbrev eC:Nat:=214
abbrev fT:Nat:=215
abbrev ITS:=List (Nat×(List CV->Option (List CV)))
noncomputable def D (its:ITS) (n:Nat):Den:=den Tryz.prog tb its n
abbrev bAN (x y:Int):Nat:=(BitVec.ofInt 64 x &&& BitVec.ofInt 64 y).toNat
end
section
open Go Go.Sx
set_option maxRecDepth 100000
set_option maxHeartbeats 0
variable (its:ITS) (n:Nat)
noncomputable section
def GC (M:Den) (b0 b1 b2:List (List CV)):Option Ou:=aA (M bJ [ci (il b0),ci 4]) fun v0=>bG 0 (aH (fun v1=>aC (decide (gi v1 0<wr (1+gi v0 0))) (aA (M uO [.row 1 b0,ci (gi v1 0)]) fun v2=>aA (M bJ [ci (gi v2 0),ci 200]) fun v3=>aA (M uO [.row 1 b0,ci (wr (gi v1 0+1))]) fun v4=>aA (M bJ [ci (gi v4 0),ci 50]) fun v5=>chk (bL (List.length (gr v1 3)) 1 24)<|some (.nx ([ci (wr (gi v1 0+1)),.row 8 (gr v1 1),.row 6 (gr v1 2),.row 3 (gr v1 3++(aI 3 1 [ci (wr (wr (3*gi v1 0)+1)),ci (gi v3 0),ci (wr (gi v3 0+gi v5 0))]))]))) (some (.br 0 [.row 8 (gr v1 1),.row 6 (gr v1 2),.row 3 (gr v1 3)]))) ([ci 0,.row 8 [],.row 6 [],.row 3 []])) fun v1=>bG 2 (aH (fun v2=>bD (aC (decide (gi v2 0<il b1)) (some (.nx [cb (decide (gi v2 0<5))])) (some (.nx [cb false]))) fun v3=>aC (gb v3 0) (chk (inb (gi v2 0) b1)<|chk (oks (List.replicate 6 li) (el b1 (gi v2 0)) 0)<|aA (M bJ [ci (gi (el b1 (gi v2 0)) 0),ci 9]) fun v4=>aA (M bJ [ci (gi (el b1 (gi v2 0)) 1),ci 9]) fun v5=>aA (M bJ [ci (gi (el b1 (gi v2 0)) 1),ci 5]) fun v6=>aA (M bJ [ci (gi (el b1 (gi v2 0)) 3),ci 12]) fun v7=>aA (M bJ [ci (gi (el b1 (gi v2 0)) 4),ci 12]) fun v8=>aA (M bJ [ci (gi (el b1 (gi v2 0)) 2),ci 160]) fun v9=>bG 4 (aH (fun v10=>aC (decide (gi v10 0<wr (1+gi v0 0))) (chk (decide (0<=gi v10 0))<|bD (aC (wr (Int.ofNat (bAN (gi (el b1 (gi v2 0)) 5) (wr (1*((2:Int) ^ (min (Int.toNat (gi v10 0)) 64)))))) != 0) (chk (bL (List.length (gr v10 8)) 1 8)<|some (.nx (cat [[ci (gi v10 1),ci (gi v10 2),.row 1 (gr v10 3)],cis v10 4 4,[.row 1 (gr v10 8++(aI 1 1 [ci (wr (wr (3*gi v10 0)+1))]))]]))) (some (.nx (cat [[ci (gi v10 1),ci (gi v10 2),.row 1 (gr v10 3)],cis v10 4 4,[.row 1 (gr v10 8)]])))) fun v11=>some (.nx (cat [[ci (wr (gi v10 0+1)),ci (gi v11 0),ci (gi v11 1),.row 1 (gr v11 2)],cis v11 3 4,[.row 1 (gr v11 7)]]))) (some (.br 4 (cat [[ci (gi v10 1),ci (gi v10 2),.row 1 (gr v10 3)],cis v10 4 4,[.row 1 (gr v10 8)]])))) ([ci 0,ci (wr (wr (2*gi v2 0)+5)),ci (wr (1+gi v4 0)),.row 1 (aI 1 2 [ci (wr (1+gi v5 0)),ci (wr (11+gi v6 0))]),ci (wr (Int.tdiv (gi v9 0) 3)),ci (gi v9 0),ci (gi v7 0),ci (gi v8 0),.row 1 []])) fun v10=>bD (aC (il (gr v10 7) == 0) (aA (M bJ [ci (gi (el b1 (gi v2 0)) 0),ci (wr (1+gi v0 0))]) fun v11=>some (.nx (cat [[ci (gi v10 0),ci (gi v10 1),.row 1 (gr v10 2)],cis v10 3 4,[.row 1 (aI 1 1 [ci (wr (1+wr (3*gi v11 0)))])]]))) (some (.nx (cat [[ci (gi v10 0),ci (gi v10 1),.row 1 (gr v10 2)],cis v10 3 4,[.row 1 (gr v10 7)]])))) fun v11=>chk (bL (List.length (gr v2 1)) 1 96)<|some (.nx ([ci (wr (gi v2 0+1)),.row 8 (gr v2 1++(aI 8 1 (cat [[ci (gi v11 0),ci (gi v11 1),.row 1 (gr v11 2)],cis v11 3 4,[.row 1 (gr v11 7)]]))),.row 6 (gr v2 2),.row 3 (gr v2 3)]))) (some (.br 2 [.row 8 (gr v2 1),.row 6 (gr v2 2),.row 3 (gr v2 3)]))) [ci 0,.row 8 (gr v1 0),.row 6 (gr v1 1),.row 3 (gr v1 2)]) fun v2=>bG 6 (aH (fun v3=>bD (aC (decide (gi v3 0<il b2)) (aC (decide (gi v3 0<8)) (some (.nx [cb (decide ((il (gr v3 1)) > 0))])) (some (.nx [cb false]))) (some (.nx [cb false]))) fun v4=>aC (gb v4 0) (chk (inb (gi v3 0) b2)<|chk (oks (List.replicate 5 li) (el b2 (gi v3 0)) 0)<|aA (M bJ [ci (gi (el b2 (gi v3 0)) 0),ci (il (gr v3 1))]) fun v5=>chk (inb (gi v5 0) (gr v3 1))<|chk (decide ((Int.toNat (gi v5 0))<(List.length (gr v3 1))))<|chk (oks [li,li,.row 1,li,li,li,li,.row 1] (el (gr v3 1) (gi v5 0)) 0)<|aA (M bJ [ci (gi (el b2 (gi v3 0)) 1),ci 20]) fun v6=>aA (M bJ [ci (gi (el b2 (gi v3 0)) 2),ci 25]) fun v7=>aA (M bJ [ci (gi (el b2 (gi v3 0)) 3),ci (wr (gi (el (gr v3 1) (gi v5 0)) 4+1))]) fun v8=>aA (M bJ [ci (gi (el b2 (gi v3 0)) 4),ci (wr (gi v8 0+1))]) fun v9=>chk (bL (List.length (gr v3 2)) 1 48)<|some (.nx ([ci (wr (gi v3 0+1)),.row 8 (gr v3 1),.row 6 (gr v3 2++(aI 6 1 [ci (wr (wr (10*gi v3 0)+7)),ci (gi (el (gr v3 1) (gi v5 0)) 0),ci (gi v6 0),ci (gi v7 0),ci (gi v8 0),ci (gi v9 0)])),.row 3 (gr v3 3)]))) (some (.br 6 [.row 8 (gr v3 1),.row 6 (gr v3 2),.row 3 (gr v3 3)]))) [ci 0,.row 8 (gr v2 0),.row 6 (gr v2 1),.row 3 (gr v2 2)]) fun v3=>some (.ret [.row 8 (gr v3 0),.row 3 (gr v3 2),.row 6 (gr v3 1)])
theorem TS (b0 b1 b2:List (List CV)):D its (n+1) xY [.row 1 b0,.row 6 b1,.row 5 b2]=aJ (GC (D its n) b0 b1 b2):=by kernel_rfl
def wZ (M:Den) (b0 b1 b2:List (List CV)) (a1 a2 a3:Int):Option Ou:=aA (M fR [.row 8 b0,.row 3 b1,.row 6 b2,ci a1,ci a3]) fun v0=>aC (gi v0 4 != 0) (some (.ret [ci 0,ci (gi v0 4)])) (bD (aC (a2 != 0) (chk (inb (gi v0 3) (gr v0 0))<|chk (oks [.row 1] (List.drop 7 (el (gr v0 0) (gi v0 3))) 0)<|aA (M aL [.row 1 (gr (List.drop 7 (el (gr v0 0) (gi v0 3))) 0),ci a2]) fun v1=>some (.nx [cb (!(gb v1 0))])) (some (.nx [cb false]))) fun v1=>aC (gb v1 0) (some (.ret [ci 0,ci 1])) (aA (M cO [.row 8 (gr v0 0),.row 3 (gr v0 1),.row 6 (gr v0 2),ci a3]) fun v2=>chk (inb (gi v0 3) (gr v2 0))<|chk (oks [.row 1] (el (gr v2 0) (gi v0 3)) 0)<|bG 0 (aH (fun v3=>aC (decide (gi v3 0<il (gr v0 1))) (chk (inb (gi v3 0) (gr v0 1))<|chk (oks [li,li,li] (el (gr v0 1) (gi v3 0)) 0)<|aC (gi (el (gr v0 1) (gi v3 0)) 0 == a2) (chk (inb (wr (1+gi v3 0)) (gr (el (gr v2 0) (gi v0 3)) 0))<|chk (oks [li] (el (gr (el (gr v2 0) (gi v0 3)) 0) (wr (1+gi v3 0))) 0)<|some (.ret [ci (gi (el (gr (el (gr v2 0) (gi v0 3)) 0) (wr (1+gi v3 0))) 0),ci 0])) (some (.nx [ci (wr (gi v3 0+1))]))) (some (.br 0 []))) [ci 0]) fun v3=>chk (inb 0 (gr (el (gr v2 0) (gi v0 3)) 0))<|chk (oks [li] (List.getD (gr (el (gr v2 0) (gi v0 3)) 0) 0 []) 0)<|some (.ret ([ci (gi (List.getD (gr (el (gr v2 0) (gi v0 3)) 0) 0 []) 0),ci 0]))))
theorem IB (b0 b1 b2:List (List CV)) (a1 a2 a3:Int):D its (n+1) pY [.row 8 b0,.row 3 b1,.row 6 b2,ci a1,ci a2,ci a3]=aJ (wZ (D its n) b0 b1 b2 a1 a2 a3):=by kernel_rfl
def jR (M:Den) (b0 b1 b2:List (List CV)) (a1:Int):Option Ou:=aA (M dT [.row 8 b0,.row 3 b1,.row 6 b2,ci a1]) fun v0=>bG 0 (aH (fun v1=>aC (decide (gi v1 0<il (gr v0 0))) (chk (inb (gi v1 0) (gr v0 0))<|chk (oks [li] (el (gr v0 0) (gi v1 0)) 0)<|aA (M cH [.row 1 (gr v1 1)]) fun v2=>chk (xS 1 3 v2)<|chk (false || ((List.brecOn.go (motive:=fun x=>(CV->Bool)->Bool) (cR (v2.getD 0 dC)).flatten List.all._f).1 CV.flat))<|chk (bL (List.length (gr v2 0)) 1 8)<|aA (M bO ([.row 8 b0,.row 3 b1,.row 6 b2,.row 1 (gr v2 0++(aI 1 1 [ci (gi (el (gr v0 0) (gi v1 0)) 0)]))])) fun v3=>bD (aC (gb v3 0) (chk (bL (List.length (gr v1 1)) 1 8)<|some (.nx ([.row 1 (gr v1 1++(aI 1 1 [ci (gi (el (gr v0 0) (gi v1 0)) 0)])),.row 1 (gr v1 2)]))) (chk (bL (List.length (gr v1 2)) 1 8)<|some (.nx ([.row 1 (gr v1 1),.row 1 (gr v1 2++(aI 1 1 [ci (gi (el (gr v0 0) (gi v1 0)) 0)]))])))) fun v4=>some (.nx [ci (wr (gi v1 0+1)),.row 1 (gr v4 0),.row 1 (gr v4 1)])) (some (.br 0 [.row 1 (gr v1 1),.row 1 (gr v1 2)]))) ([ci 0,.row 1 [],.row 1 []])) fun v1=>some (.ret [.row 1 (gr v1 0),.row 1 (gr v1 1)])
theorem jS (b0 b1 b2:List (List CV)) (a1:Int):D its (n+1) fD [.row 8 b0,.row 3 b1,.row 6 b2,ci a1]=aJ (jR (D its n) b0 b1 b2 a1):=by kernel_rfl
def iV (M:Den) (b0 b1 b2:List (List CV)) (a1 a2:Int):Option Ou:=bG 0 (aH (fun v0=>aC (decide (gi v0 1<il b2)) (chk (inb (gi v0 1) b2)<|chk (oks (List.replicate 6 li) (el b2 (gi v0 1)) 0)<|bD (chk (inb a1 b0)<|chk (oks [li] (List.drop 0 (el b0 a1)) 0)<|aC (gi (el b2 (gi v0 1)) 1 == gi (List.drop 0 (el b0 a1)) 0) (aC (decide (gi (el b2 (gi v0 1)) 3<=a2)) (aC (!(gb v0 0)) (some (.nx [cb true])) (some (.nx [cb (decide ((gi (el b2 (gi v0 1)) 2)>=(gi v0 4)))]))) (some (.nx [cb false]))) (some (.nx [cb false]))) fun v1=>bD (aC (gb v1 0) (some (.nx (cat [[cb true],cis (el b2 (gi v0 1)) 0 6]))) (some (.nx (cat [[cb (gb v0 0)],cis v0 2 6])))) fun v2=>some (.nx (cat [[cb (gb v2 0),ci (wr (gi v0 1+1))],cis v2 1 6]))) (some (.br 0 (cat [[cb (gb v0 0)],cis v0 2 6])))) [cb false,ci 0,ci 0,ci 0,ci 0,ci 0,ci 0,ci 0]) fun v0=>some (.ret (cat [cis v0 1 6,[cb (gb v0 0)]]))
theorem qF (b0 b1 b2:List (List CV)) (a1 a2:Int):D its (n+1) bB [.row 8 b0,.row 3 b1,.row 6 b2,ci a1,ci a2]=aJ (iV (D its n) b0 b1 b2 a1 a2):=by kernel_rfl
def oG (M:Den) (a0:List (List CV)) (a1 a2:Int):Option Ou:=bG 0 (aH (fun v0=>aC (decide (gi v0 0<il a0)) (chk (inb (gi v0 0) a0)<|chk (oks [li] (el a0 (gi v0 0)) 0)<|bD (aA (M cG [ci (gi (el a0 (gi v0 0)) 0),ci 1,ci a2]) fun v1=>aC (!(gb v1 0)) (some (.nx [cb true])) (aC (decide ((gi v0 0) > 0)) (chk (inb (wr (gi v0 0 - 1)) a0)<|chk (oks [li] (el a0 (wr (gi v0 0 - 1))) 0)<|some (.nx [cb (decide ((gi (el a0 (wr (gi v0 0 - 1))) 0)>=(gi (el a0 (gi v0 0)) 0)))])) (some (.nx [cb false])))) fun v1=>aC (gb v1 0) (some (.ret [cb false])) (some (.nx [ci (wr (gi v0 0+1))]))) (some (.br 0 []))) [ci 0]) fun v0=>aA (M cG [ci (il a0),ci 1,ci a1]) fun v1=>some (.ret [cb (gb v1 0)])
theorem yB (a0:List (List CV)) (a1 a2:Int):D its (n+1) jJ [.row 1 a0,ci a1,ci a2]=aJ (oG (D its n) a0 a1 a2):=by kernel_rfl
def BL (M:Den) (a0 a1:List (List CV)):Option Ou:=aC (il a0 != il a1) (some (.ret [cb false])) (bG 0 (aH (fun v0=>aC (decide (gi v0 0<il a0)) (chk (inb (gi v0 0) a0)<|chk (oks (List.replicate 4 li) (el a0 (gi v0 0)) 0)<|chk (inb (gi v0 0) a1)<|chk (oks (List.replicate 4 li) (el a1 (gi v0 0)) 0)<|aC (!((gi (el a0 (gi v0 0)) 0 == gi (el a1 (gi v0 0)) 0)&&((gi (el a0 (gi v0 0)) 1 == gi (el a1 (gi v0 0)) 1)&&((gi (el a0 (gi v0 0)) 2 == gi (el a1 (gi v0 0)) 2)&&((gi (el a0 (gi v0 0)) 3 == gi (el a1 (gi v0 0)) 3)&&true))))) (some (.ret [cb false])) (some (.nx [ci (wr (gi v0 0+1))]))) (some (.br 0 []))) [ci 0]) fun v0=>some (.ret [cb true]))
theorem BM (a0 a1:List (List CV)):D its (n+1) lI [.row 4 a0,.row 4 a1]=aJ (BL (D its n) a0 a1):=by kernel_rfl
def sZ (M:Den) (b0 b1 b2:List (List CV)) (a1:Int):Option Ou:=aA (M bQ [.row 8 b0,.row 3 b1,.row 6 b2,ci a1]) fun v0=>aC (gi v0 3 != 0) (some (.ret ([.row 1 [],ci (gi v0 3)]))) (aA (M cD [.row 8 (gr v0 0),.row 3 (gr v0 1),.row 6 (gr v0 2),ci a1]) fun v1=>aA (M eB [.row 8 (gr v0 0),.row 3 (gr v0 1),.row 6 (gr v0 2),.row 1 (gr v1 0)]) fun v2=>bD (brO (fN (rZ sg M (List.getD v2 0 dC) (.clo [.one li,.one (.row 1)])) (fun x3 v3=>chk (bL (List.length (gr v3 0)) 1 24)<|some (.nx ([.row 1 (gr v3 0++(aI 1 1 [.row 1 (gr x3 1)]))]))) ([.row 1 []]))) fun v3=>some (.ret [.row 1 (gr v3 0),ci 0]))
theorem DD (b0 b1 b2:List (List CV)) (a1:Int):D its (n+1) mI [.row 8 b0,.row 3 b1,.row 6 b2,ci a1]=aJ (sZ (D its n) b0 b1 b2 a1):=by kernel_rfl
def TT (M:Den) (a0 a1:List (List CV)):Option Ou:=aC (il a0 != il a1) (some (.ret [cb false])) (bG 0 (aH (fun v0=>aC (decide (gi v0 0<il a0)) (chk (inb (gi v0 0) a0)<|chk (oks [li] (el a0 (gi v0 0)) 0)<|chk (inb (gi v0 0) a1)<|chk (oks [li] (el a1 (gi v0 0)) 0)<|aC (gi (el a0 (gi v0 0)) 0 != gi (el a1 (gi v0 0)) 0) (some (.ret [cb false])) (some (.nx [ci (wr (gi v0 0+1))]))) (some (.br 0 []))) [ci 0]) fun v0=>some (.ret [cb true]))
theorem TU (a0 a1:List (List CV)):D its (n+1) gU [.row 1 a0,.row 1 a1]=aJ (TT (D its n) a0 a1):=by kernel_rfl
def oO (M:Den) (a0:List (List CV)) (a1:CV):Option Ou:=bG 0 (aH (fun v0=>aC (decide (gi v0 0<il a0)) (chk (inb (gi v0 0) a0)<|chk (oks [li,li,li] (el a0 (gi v0 0)) 0)<|aA (bN sg M a1 [ci (gi (el a0 (gi v0 0)) 0),ci (gi (el a0 (gi v0 0)) 1),ci (gi (el a0 (gi v0 0)) 2)] [.agg [li,li,li]] [.one lb]) fun v1=>aC (gb v1 0) (some (.ret [ci (gi v0 0)])) (some (.nx [ci (wr (gi v0 0+1))]))) (some (.br 0 []))) [ci 0]) fun v0=>some (.ret [ci (-1)])
theorem oP (a0:List (List CV)) (a1:CV):D its (n+1) iH [.row 3 a0,a1]=aJ (oO (D its n) a0 a1):=by kernel_rfl
def pI (M:Den) (a0 a1:Int):Option Ou:=aA (M sX [ci a0]) fun v0=>aA (M sX [ci a1]) fun v1=>aC (gb v0 0) (aC (gb v1 0) (some (.ret [ci 0])) (some (.ret [ci (-1)]))) (aC (gb v1 0) (some (.ret [ci 1])) (aC (decide (a0<a1)) (some (.ret [ci (-1)])) (aC (decide (a0 > a1)) (some (.ret [ci 1])) (some (.ret [ci 0])))))
theorem zS (a0 a1:Int):D its (n+1) bZ [ci a0,ci a1]=aJ (pI (D its n) a0 a1):=by kernel_rfl
def uR (M:Den) (b0 b1 b2:List (List CV)) (a1:Int):Option Ou:=aA (M kF [.row 8 b0,.row 3 b1,.row 6 b2]) fun v0=>aC (gi v0 0 != 0) (some (.ret ([.row 8 [],.row 3 [],.row 6 [],ci (gi v0 0)]))) (aA (M dZ [ci a1]) fun v1=>aC (!(gb v1 0)) (some (.ret ([.row 8 [],.row 3 [],.row 6 [],ci 6]))) (some (.ret [.row 8 b0,.row 3 b1,.row 6 b2,ci 0])))
theorem GF (b0 b1 b2:List (List CV)) (a1:Int):D its (n+1) bQ [.row 8 b0,.row 3 b1,.row 6 b2,ci a1]=aJ (uR (D its n) b0 b1 b2 a1):=by kernel_rfl
def xC (M:Den) (b0 b1 b2:List (List CV)) (c0 c1 c2 c3 c4 c5:Int):Option Ou:=aA (M dN [.row 8 b0,.row 3 b1,.row 6 b2,ci c1]) fun v0=>aC (gb v0 1) (chk (inb (gi v0 0) b0)<|chk (oks [li] (List.drop 1 (List.drop 3 (el b0 (gi v0 0)))) 0)<|some (.ret [cb (decide ((gi (List.drop 1 (List.drop 3 (el b0 (gi v0 0)))) 0)>=c4))])) (some (.ret [cb false]))
theorem IC (b0 b1 b2:List (List CV)) (c0 c1 c2 c3 c4 c5:Int):D its (n+1) qA [.row 8 b0,.row 3 b1,.row 6 b2,ci c0,ci c1,ci c2,ci c3,ci c4,ci c5]=aJ (xC (D its n) b0 b1 b2 c0 c1 c2 c3 c4 c5):=by kernel_rfl
def pK (M:Den) (b0 b1:Int) (b2:List (List CV)) (b3 b4 b5 b6:Int) (b7:List (List CV)) (a1:List CV):Option Ou:=chk (oks [.row 8,.row 3,.row 6] a1 0)<|aA (M oC [.row 8 (gr a1 0),.row 3 (gr a1 1),.row 6 (gr a1 2),ci b0,ci b1,.row 1 b2,ci b3,ci b4,ci b5,ci b6,.row 1 b7]) fun v0=>some (.ret [cb (!(gb v0 0))])
theorem zU (b0 b1:Int) (b2:List (List CV)) (b3 b4 b5 b6:Int) (b7:List (List CV)) (a1:List CV):D its (n+1) pD [ci b0,ci b1,.row 1 b2,ci b3,ci b4,ci b5,ci b6,.row 1 b7,.ref a1]=aJ (pK (D its n) b0 b1 b2 b3 b4 b5 b6 b7 a1):=by kernel_rfl
def mT (M:Den) (b0 b1 b2:List (List CV)) (a1:Int):Option Ou:=aA (M eM ([.row 8 b0,ci a1,ci 0,.val (.slice none 0 0),ci 0,ci 0,ci 0,ci 0,.val (.slice none 0 0),.fn dH []])) fun v0=>some (.ret [ci (gi v0 0),cb (gb v0 1)])
theorem wQ (b0 b1 b2:List (List CV)) (a1:Int):D its (n+1) dN [.row 8 b0,.row 3 b1,.row 6 b2,ci a1]=aJ (mT (D its n) b0 b1 b2 a1):=by kernel_rfl
def kZ (M:Den) (b0 b1 b2:List (List CV)) (a1:Int):Option Ou:=chk (inb a1 b0)<|chk (oks [li] (List.drop 1 (List.drop 3 (el b0 a1))) 0)<|some (.ret [ci (gi (List.drop 1 (List.drop 3 (el b0 a1))) 0)])
theorem tL (b0 b1 b2:List (List CV)) (a1:Int):D its (n+1) cV [.row 8 b0,.row 3 b1,.row 6 b2,ci a1]=aJ (kZ (D its n) b0 b1 b2 a1):=by kernel_rfl
def oE (M:Den) (b0 b1 b2:List (List CV)) (a1:Int):Option Ou:=aA (M fS ([.row 3 b1,.fn kW ([.ref [ci a1]])])) fun v0=>some (.ret [cb (gb v0 0)])
theorem xZ (b0 b1 b2:List (List CV)) (a1:Int):D its (n+1) jM [.row 8 b0,.row 3 b1,.row 6 b2,ci a1]=aJ (oE (D its n) b0 b1 b2 a1):=by kernel_rfl
def fU (M:Den) (a0:List (List CV)) (a1:CV):Option Ou:=aA (M eE [.row 8 a0,a1]) fun v0=>some (.ret [cb (decide ((gi v0 0)>=0))])
theorem mK (a0:List (List CV)) (a1:CV):D its (n+1) dL [.row 8 a0,a1]=aJ (fU (D its n) a0 a1):=by kernel_rfl
def sY (M:Den) (a0:Int):Option Ou:=aA (M cG [ci a0,ci 1,ci 999]) fun v0=>some (.ret [cb (gb v0 0)])
theorem DC (a0:Int):D its (n+1) jB [ci a0]=aJ (sY (D its n) a0):=by kernel_rfl
def wJ (M:Den) (b0 b1 b2 b3 b4 b5:Int) (a1:List CV):Option Ou:=chk (oks [li] a1 0)<|some (.ret [cb (b0 == gi a1 0)])
theorem wK (b0 b1 b2 b3 b4 b5:Int) (a1:List CV):D its (n+1) iM [ci b0,ci b1,ci b2,ci b3,ci b4,ci b5,.ref a1]=aJ (wJ (D its n) b0 b1 b2 b3 b4 b5 a1):=by kernel_rfl
def HZ (M:Den) (a0:List (List CV)):Option Ou:=some (.ret ([.fn BJ ([.ref [.row 1 a0]])]))
theorem IA (a0:List (List CV)):D its (n+1) lQ [.row 1 a0]=aJ (HZ (D its n) a0):=by kernel_rfl
end
end
section
open Go Go.Sx
set_option maxRecDepth 100000
set_option maxHeartbeats 0
variable (its:ITS) (n:Nat)
noncomputable section
def aKk (M:Den) (b0 b1 b2:List (List CV)) (a1:Int):Option Ou:=aA (M xY [.row 1 b0,.row 6 b1,.row 5 b2]) fun v0=>aA (M aKh [.row 8 (gr v0 0),.row 3 (gr v0 1),.row 6 (gr v0 2),ci 40]) fun v1=>aC (gi v1 1 != 0) (some (.ret [cb false])) (aC (il (gr v1 0) == 0) (aA (M sF []) fun v2=>some (.ret [cb (gb v2 0)])) (aA (M bJ [ci a1,ci (il (gr v1 0))]) fun v2=>chk (inb (gi v2 0) (gr v1 0))<|chk (oks [li] (el (gr v1 0) (gi v2 0)) 0)<|aA (M oA [.row 8 (gr v0 0),.row 3 (gr v0 1),.row 6 (gr v0 2),ci (gi (el (gr v1 0) (gi v2 0)) 0),ci 40]) fun v3=>bD (aC (gi v3 1 != 0) (some (.nx [cb true])) (aC (decide (gi v3 0<0)) (some (.nx [cb true])) (some (.nx [cb (decide ((gi v3 0) > 1000))])))) fun v4=>aC (gb v4 0) (some (.ret [cb false])) (bG 0 (aH (fun v5=>aC (decide (gi v5 0<il (gr v0 0))) (chk (inb (gi v5 0) (gr v0 0))<|chk (oks [li] (List.drop 0 (el (gr v0 0) (gi v5 0))) 0)<|aA (M aKs [.row 1 (gr v1 0),ci (gi (List.drop 0 (el (gr v0 0) (gi v5 0))) 0)]) fun v6=>bD (aC (gb v6 0) (chk (inb (gi v5 0) (gr v0 0))<|chk (oks [li,li,.row 1,li,li,li,li,.row 1] (el (gr v0 0) (gi v5 0)) 0)<|chk (bL (List.length (gr v5 3)) 1 96)<|some (.nx ([.row 3 (gr v5 1),.row 6 (gr v5 2),.row 8 (gr v5 3++(aI 8 1 (cat [[ci (gi (el (gr v0 0) (gi v5 0)) 0),ci (gi (el (gr v0 0) (gi v5 0)) 1),.row 1 (gr (el (gr v0 0) (gi v5 0)) 2)],cis (el (gr v0 0) (gi v5 0)) 3 4,[.row 1 (gr (el (gr v0 0) (gi v5 0)) 7)]])))]))) (some (.nx [.row 3 (gr v5 1),.row 6 (gr v5 2),.row 8 (gr v5 3)]))) fun v7=>some (.nx [ci (wr (gi v5 0+1)),.row 3 (gr v7 0),.row 6 (gr v7 1),.row 8 (gr v7 2)])) (some (.br 0 [.row 3 (gr v5 1),.row 6 (gr v5 2),.row 8 (gr v5 3)]))) ([ci 0,.row 3 (gr v0 1),.val (.slice none 0 0),.row 8 []])) fun v5=>bG 2 (aH (fun v6=>aC (decide (gi v6 0<2)) (bG 4 (aH (fun v7=>aC (decide (gi v7 0<il (gr v5 2))) (chk (inb (gi v7 0) (gr v5 2))<|chk (decide ((Int.toNat (gi v7 0))<(List.length (gr v5 2))))<|chk (oks [li,li,.row 1,li,li,li,li,.row 1] (el (gr v5 2) (gi v7 0)) 0)<|bD (aC (gi (el (gr v5 2) (gi v7 0)) 0 == gi (el (gr v1 0) (gi v2 0)) 0) (some (.nx [ci (gi (el (gr v5 2) (gi v7 0)) 0),ci (gi (el (gr v5 2) (gi v7 0)) 1),.row 1 (gr (el (gr v5 2) (gi v7 0)) 2),ci (gi (el (gr v5 2) (gi v7 0)) 3),ci (wr (gi (el (gr v5 2) (gi v7 0)) 4+wr (gi v3 0+gi v6 0))),ci (gi (el (gr v5 2) (gi v7 0)) 5),ci (gi (el (gr v5 2) (gi v7 0)) 6),.row 1 (gr (el (gr v5 2) (gi v7 0)) 7)])) (some (.nx (cat [[ci (gi (el (gr v5 2) (gi v7 0)) 0),ci (gi (el (gr v5 2) (gi v7 0)) 1),.row 1 (gr (el (gr v5 2) (gi v7 0)) 2)],cis (el (gr v5 2) (gi v7 0)) 3 4,[.row 1 (gr (el (gr v5 2) (gi v7 0)) 7)]])))) fun v8=>chk (bL (List.length (gr v7 3)) 1 96)<|some (.nx ([ci (wr (gi v7 0+1)),.row 3 (gr v7 1),.row 6 (gr v7 2),.row 8 (gr v7 3++(aI 8 1 (cat [[ci (gi v8 0),ci (gi v8 1),.row 1 (gr v8 2)],cis v8 3 4,[.row 1 (gr v8 7)]])))]))) (some (.br 4 [.row 3 (gr v7 1),.row 6 (gr v7 2),.row 8 (gr v7 3)]))) ([ci 0,.row 3 (gr v5 0),.val (.slice none 0 0),.row 8 []])) fun v7=>aA (M aKh [.row 8 (gr v7 2),.row 3 (gr v7 0),.row 6 (gr v7 1),ci 40]) fun v8=>bD (aC (gi v8 1 != 0) (some (.nx [cb true])) (some (.nx [cb ((il (gr v8 0) == il (gr v1 0)) != (gi v6 0 == 0))]))) fun v9=>aC (gb v9 0) (some (.ret [cb false])) (some (.nx [ci (wr (gi v6 0+1))]))) (some (.br 2 []))) [ci 0]) fun v6=>aA (M sF []) fun v7=>some (.ret [cb (gb v7 0)]))))
theorem aKu (b0 b1 b2:List (List CV)) (a1:Int):D its (n+1) aKt [.row 1 b0,.row 6 b1,.row 5 b2,ci a1]=aJ (aKk (D its n) b0 b1 b2 a1):=by kernel_rfl
def uZ (M:Den) (b0 b1 b2:List (List CV)) (a1:Int):Option Ou:=aA (M bQ [.row 8 b0,.row 3 b1,.row 6 b2,ci a1]) fun v0=>aC (gi v0 3 != 0) (some (.ret ([.row 1 [],ci (gi v0 3)]))) (aA (M fD [.row 8 (gr v0 0),.row 3 (gr v0 1),.row 6 (gr v0 2),ci a1]) fun v1=>aC (il (gr v1 1) == 0) (some (.ret ([.row 1 [],ci 75]))) (chk (inb 0 (gr v1 1))<|chk (oks [li] (List.getD (gr v1 1) 0 []) 0)<|bG 0 (aH (fun v2=>aC (decide (gi v2 0<il (gr v1 0))) (chk (inb (gi v2 0) (gr v1 0))<|chk (oks [li] (el (gr v1 0) (gi v2 0)) 0)<|aA (M aG [.row 8 (gr v0 0),.row 3 (gr v0 1),.row 6 (gr v0 2),ci (gi (el (gr v1 0) (gi v2 0)) 0)]) fun v3=>aA (M aG ([.row 8 (gr v0 0),.row 3 (gr v0 1),.row 6 (gr v0 2),ci (gi (List.getD (gr v1 1) 0 []) 0)])) fun v4=>aA (M bZ [ci (gi v3 0),ci (gi v4 0)]) fun v5=>aA (M bZ ([ci (gi (el (gr v1 0) (gi v2 0)) 0),ci (gi (List.getD (gr v1 1) 0 []) 0)])) fun v6=>aA (M sG ([.row 1 (aI 1 2 [ci (gi v5 0),ci (gi v6 0)])])) fun v7=>bD (aC (decide (gi v7 0<0)) (chk (bL (List.length (gr v2 1)) 1 8)<|some (.nx ([.row 1 (gr v2 1++(aI 1 1 [ci (gi (el (gr v1 0) (gi v2 0)) 0)]))]))) (some (.nx [.row 1 (gr v2 1)]))) fun v8=>some (.nx [ci (wr (gi v2 0+1)),.row 1 (gr v8 0)])) (some (.br 0 [.row 1 (gr v2 1)]))) ([ci 0,.row 1 (aI 1 1 ([ci (gi (List.getD (gr v1 1) 0 []) 0)]))])) fun v2=>aA (M cC ([.row 1 (gr v2 0),.fn aM []])) fun v3=>chk (lU 1 false v3)<|mY (xQ (gr v3 0) (some (.ret ([.row 1 []]))) (chk (bL 0 (List.length (gr v3 0)) 8)<|some (.ret [.row 1 (gr v3 0)]))) fun v4=>aA (M gA [.row 1 (gr v4 0)]) fun v5=>bD (brO (fN (rZ sg M (List.getD v5 0 dC) (.clo [.one li,.one li])) (fun x6 v6=>aA (M rE [.row 1 (gr v6 0),ci (gi x6 1)]) fun v7=>aA (M bO [.row 8 (gr v0 0),.row 3 (gr v0 1),.row 6 (gr v0 2),.row 1 (gr v7 0)]) fun v8=>bD (aC (!(gb v8 0)) (some (.nx [.row 1 (gr v7 0)])) (some (.nx [.row 1 (gr v6 0)]))) fun v9=>some (.nx [.row 1 (gr v9 0)])) [.row 1 (gr v3 0)])) fun v6=>aA (M eK [.row 8 (gr v0 0),.row 3 (gr v0 1),.row 6 (gr v0 2),.row 1 (gr v6 0)]) fun v7=>some (.ret [.row 1 (gr v7 0),ci 0])))
theorem GI (b0 b1 b2:List (List CV)) (a1:Int):D its (n+1) oB [.row 8 b0,.row 3 b1,.row 6 b2,ci a1]=aJ (uZ (D its n) b0 b1 b2 a1):=by kernel_rfl
def rF (M:Den) (a0:List (List CV)) (a1:Int):Option Ou:=mY (xQ a0 (some (.ret ([.row 1 []]))) (chk (bL 0 (List.length a0) 8)<|some (.ret [.row 1 a0]))) fun v0=>mY (aA (M cQ ([.row 1 (gr v0 0),.fn iO ([.ref [ci a1]])])) fun v1=>aC (gi v1 0 == (-1)) (some (.ret [.row 1 (gr v0 0)])) (bG 0 (aH (fun v2=>aC (decide (gi v2 1<il (gr v2 2))) (chk (inb (gi v2 1) (gr v2 2))<|chk (decide ((Int.toNat (gi v2 1))<(List.length (gr v2 2))))<|chk (oks [li] (el (gr v2 2) (gi v2 1)) 0)<|aA (M iO ([ci (gi (el (gr v2 2) (gi v2 1)) 0),.ref [ci a1]])) fun v3=>bD (aC (!(gb v3 0)) (chk (inb (gi v2 0) (gr v2 2))<|chk ((decide ((Int.toNat (gi v2 0))<(List.length (gr v2 2))))&&(decide (1<=1)))<|some (.nx ([ci (wr (gi v2 0+1)),.row 1 (List.set (gr v2 2) (Int.toNat (gi v2 0)) (spl (el (gr v2 2) (gi v2 0)) 0 [ci (gi (el (gr v2 2) (gi v2 1)) 0)]))]))) (some (.nx [ci (gi v2 0),.row 1 (gr v2 2)]))) fun v4=>some (.nx [ci (gi v4 0),ci (wr (gi v2 1+1)),.row 1 (gr v4 1)])) (some (.br 0 [ci (gi v2 0),.row 1 (gr v2 2)]))) [ci (gi v1 0),ci (wr (gi v1 0+1)),.row 1 (gr v0 0)]) fun v2=>chk ((decide (0<=gi v2 0))&&(decide (gi v2 0<=il (gr v2 1))))<|chk ((decide (0<=gi v2 0))&&(decide (gi v2 0<=il ((List.take (Int.toNat (gi v2 0)) (gr v2 1))++(List.replicate ((List.length (gr v2 1)) - (Int.toNat (gi v2 0))) [ci 0])))))<|some (.ret ([.row 1 (List.take (Int.toNat (gi v2 0)) ((List.take (Int.toNat (gi v2 0)) (gr v2 1))++(List.replicate ((List.length (gr v2 1)) - (Int.toNat (gi v2 0))) [ci 0])))])))) fun v1=>some (.ret [.row 1 (gr v1 0)])
theorem BK (a0:List (List CV)) (a1:Int):D its (n+1) rE [.row 1 a0,ci a1]=aJ (rF (D its n) a0 a1):=by kernel_rfl
def uS (M:Den) (a0:List (List CV)) (a1:Int) (a2 a3:CV):Option Ou:=bG 0 (aH (fun v0=>aC (decide (gi v0 0<il a0)) (chk (inb (gi v0 0) a0)<|chk (oks [li,li,.row 1,li,li,li,li,.row 1] (el a0 (gi v0 0)) 0)<|bD (aA (bN sg M a2 (cat [[ci (gi (el a0 (gi v0 0)) 0),ci (gi (el a0 (gi v0 0)) 1),.row 1 (gr (el a0 (gi v0 0)) 2)],cis (el a0 (gi v0 0)) 3 4,[.row 1 (gr (el a0 (gi v0 0)) 7)]]) [.agg [li,li,.row 1,li,li,li,li,.row 1]] [.one li]) fun v1=>aC (gi v1 0 != 0) (some (.nx [cb true])) (aC (decide ((gi v0 0) > 0)) (chk (inb (wr (gi v0 0 - 1)) a0)<|chk (oks [li,li,.row 1,li,li,li,li,.row 1] (el a0 (wr (gi v0 0 - 1))) 0)<|aA (bN sg M a3 (cat [[ci (gi (el a0 (wr (gi v0 0 - 1))) 0),ci (gi (el a0 (wr (gi v0 0 - 1))) 1),.row 1 (gr (el a0 (wr (gi v0 0 - 1))) 2)],cis (el a0 (wr (gi v0 0 - 1))) 3 4,[.row 1 (gr (el a0 (wr (gi v0 0 - 1))) 7),ci (gi (el a0 (gi v0 0)) 0),ci (gi (el a0 (gi v0 0)) 1),.row 1 (gr (el a0 (gi v0 0)) 2)],cis (el a0 (gi v0 0)) 3 4,[.row 1 (gr (el a0 (gi v0 0)) 7)]]) [.agg [li,li,.row 1,li,li,li,li,.row 1],.agg [li,li,.row 1,li,li,li,li,.row 1]] [.one li]) fun v2=>some (.nx [cb (decide ((gi v2 0)>=0))])) (some (.nx [cb false])))) fun v1=>aC (gb v1 0) (some (.ret [cb false])) (some (.nx [ci (wr (gi v0 0+1))]))) (some (.br 0 []))) [ci 0]) fun v0=>some (.ret [cb (decide (il a0<=a1))])
theorem uT (a0:List (List CV)) (a1:Int) (a2 a3:CV):D its (n+1) gX [.row 8 a0,ci a1,a2,a3]=aJ (uS (D its n) a0 a1 a2 a3):=by kernel_rfl
def uU (M:Den) (a0:List (List CV)) (a1:Int) (a2 a3:CV):Option Ou:=bG 0 (aH (fun v0=>aC (decide (gi v0 0<il a0)) (chk (inb (gi v0 0) a0)<|chk (oks [li,li,li] (el a0 (gi v0 0)) 0)<|bD (aA (bN sg M a2 [ci (gi (el a0 (gi v0 0)) 0),ci (gi (el a0 (gi v0 0)) 1),ci (gi (el a0 (gi v0 0)) 2)] [.agg [li,li,li]] [.one li]) fun v1=>aC (gi v1 0 != 0) (some (.nx [cb true])) (aC (decide ((gi v0 0) > 0)) (chk (inb (wr (gi v0 0 - 1)) a0)<|chk (oks [li,li,li] (el a0 (wr (gi v0 0 - 1))) 0)<|aA (bN sg M a3 [ci (gi (el a0 (wr (gi v0 0 - 1))) 0),ci (gi (el a0 (wr (gi v0 0 - 1))) 1),ci (gi (el a0 (wr (gi v0 0 - 1))) 2),ci (gi (el a0 (gi v0 0)) 0),ci (gi (el a0 (gi v0 0)) 1),ci (gi (el a0 (gi v0 0)) 2)] [.agg [li,li,li],.agg [li,li,li]] [.one li]) fun v2=>some (.nx [cb (decide ((gi v2 0)>=0))])) (some (.nx [cb false])))) fun v1=>aC (gb v1 0) (some (.ret [cb false])) (some (.nx [ci (wr (gi v0 0+1))]))) (some (.br 0 []))) [ci 0]) fun v0=>some (.ret [cb (decide (il a0<=a1))])
theorem uV (a0:List (List CV)) (a1:Int) (a2 a3:CV):D its (n+1) gY [.row 3 a0,ci a1,a2,a3]=aJ (uU (D its n) a0 a1 a2 a3):=by kernel_rfl
def lY (M:Den) (b0 b1:Int) (b2:List (List CV)) (b3 b4 b5 b6:Int) (b7:List (List CV)):Option Ou:=bD (aA (M jB [ci b0]) fun v0=>aC (!(gb v0 0)) (some (.nx [cb true])) (aA (M cG [ci b1,ci 1,ci 99]) fun v1=>aC (!(gb v1 0)) (some (.nx [cb true])) (aA (M jJ [.row 1 b2,ci 12,ci 9999]) fun v2=>aC (!(gb v2 0)) (some (.nx [cb true])) (aA (M lL [ci b3,ci b4]) fun v3=>aC (!(gb v3 0)) (some (.nx [cb true])) (aA (M dZ [ci b5]) fun v4=>aC (!(gb v4 0)) (some (.nx [cb true])) (aA (M dZ [ci b6]) fun v5=>aC (!(gb v5 0)) (some (.nx [cb true])) (aA (M jJ [.row 1 b7,ci 8,ci 999]) fun v6=>some (.nx [cb (!(gb v6 0))])))))))) fun v0=>aC (gb v0 0) (some (.ret [ci 70])) (some (.ret [ci 0]))
theorem uW (b0 b1:Int) (b2:List (List CV)) (b3 b4 b5 b6:Int) (b7:List (List CV)):D its (n+1) gW [ci b0,ci b1,.row 1 b2,ci b3,ci b4,ci b5,ci b6,.row 1 b7]=aJ (lY (D its n) b0 b1 b2 b3 b4 b5 b6 b7):=by kernel_rfl
def tA (M:Den) (b0 b1 b2:List (List CV)) (a1 a2:Int):Option Ou:=aA (M bQ [.row 8 b0,.row 3 b1,.row 6 b2,ci a2]) fun v0=>aC (gi v0 3 != 0) (some (.ret ([.row 8 [],.row 3 [],.row 6 [],ci 0,ci (gi v0 3)]))) (aA (M dN [.row 8 b0,.row 3 b1,.row 6 b2,ci a1]) fun v1=>bD (aC (!(gb v1 1)) (some (.nx [cb true])) (aA (M aG [.row 8 (gr v0 0),.row 3 (gr v0 1),.row 6 (gr v0 2),ci (gi v1 0)]) fun v2=>some (.nx [cb (decide ((gi v2 0) > a2))]))) fun v2=>aC (gb v2 0) (some (.ret ([.row 8 [],.row 3 [],.row 6 [],ci 0,ci 3]))) (some (.ret [.row 8 (gr v0 0),.row 3 (gr v0 1),.row 6 (gr v0 2),ci (gi v1 0),ci 0])))
theorem DE (b0 b1 b2:List (List CV)) (a1 a2:Int):D its (n+1) fR [.row 8 b0,.row 3 b1,.row 6 b2,ci a1,ci a2]=aJ (tA (D its n) b0 b1 b2 a1 a2):=by kernel_rfl
def BP (M:Den) (b0 c0:List (List CV)):Option Ou:=aC (il b0 != il c0) (some (.ret [cb false])) (bG 0 (aH (fun v0=>aC (decide (gi v0 0<il b0)) (chk (inb (gi v0 0) b0)<|chk (oks [.row 1] (el b0 (gi v0 0)) 0)<|chk (inb (gi v0 0) c0)<|chk (oks [.row 1] (el c0 (gi v0 0)) 0)<|aA (M gU [.row 1 (gr (el b0 (gi v0 0)) 0),.row 1 (gr (el c0 (gi v0 0)) 0)]) fun v1=>aC (!(gb v1 0)) (some (.ret [cb false])) (some (.nx [ci (wr (gi v0 0+1))]))) (some (.br 0 []))) [ci 0]) fun v0=>some (.ret [cb true]))
theorem BQ (b0 c0:List (List CV)):D its (n+1) lJ [.row 1 b0,.row 1 c0]=aJ (BP (D its n) b0 c0):=by kernel_rfl
def oF (M:Den) (a0 a1:List (List CV)):Option Ou:=aC (il a0 != il a1) (some (.ret [cb false])) (bG 0 (aH (fun v0=>aC (decide (gi v0 0<il a0)) (chk (inb (gi v0 0) a0)<|chk (oks [li] (el a0 (gi v0 0)) 0)<|chk (inb (gi v0 0) a1)<|chk (oks [li] (el a1 (gi v0 0)) 0)<|aC (gi (el a0 (gi v0 0)) 0 != gi (el a1 (gi v0 0)) 0) (some (.ret [cb false])) (some (.nx [ci (wr (gi v0 0+1))]))) (some (.br 0 []))) [ci 0]) fun v0=>some (.ret [cb true]))
theorem yA (a0 a1:List (List CV)):D its (n+1) jI [.row 1 a0,.row 1 a1]=aJ (oF (D its n) a0 a1):=by kernel_rfl
def oH (M:Den) (a0:List (List CV)) (a1:CV):Option Ou:=bG 0 (aH (fun v0=>aC (decide (gi v0 0<il a0)) (chk (inb (gi v0 0) a0)<|chk (oks (List.replicate 6 li) (el a0 (gi v0 0)) 0)<|aA (bN sg M a1 (cis (el a0 (gi v0 0)) 0 6) [.agg (List.replicate 6 li)] [.one lb]) fun v1=>aC (gb v1 0) (some (.ret [ci (gi v0 0)])) (some (.nx [ci (wr (gi v0 0+1))]))) (some (.br 0 []))) [ci 0]) fun v0=>some (.ret [ci (-1)])
theorem gZ (a0:List (List CV)) (a1:CV):D its (n+1) cS [.row 6 a0,a1]=aJ (oH (D its n) a0 a1):=by kernel_rfl
def aKo (M:Den) (b0 b1 b2:List (List CV)) (a1:Int):Option Ou:=aA (M bQ [.row 8 b0,.row 3 b1,.row 6 b2,ci a1]) fun v0=>aC (gi v0 3 != 0) (some (.ret ([.row 1 [],ci (gi v0 3)]))) (aA (M cD [.row 8 (gr v0 0),.row 3 (gr v0 1),.row 6 (gr v0 2),ci a1]) fun v1=>aA (M eK [.row 8 (gr v0 0),.row 3 (gr v0 1),.row 6 (gr v0 2),.row 1 (gr v1 0)]) fun v2=>some (.ret [.row 1 (gr v2 0),ci 0]))
theorem aKz (b0 b1 b2:List (List CV)) (a1:Int):D its (n+1) aKh [.row 8 b0,.row 3 b1,.row 6 b2,ci a1]=aJ (aKo (D its n) b0 b1 b2 a1):=by kernel_rfl
def aKP (M:Den) (a0:List (List CV)) (a1:Int):Option Ou:=bG 0 (aH (fun v0=>aC (decide (gi v0 0<il a0)) (chk (inb (gi v0 0) a0)<|chk (oks [li] (el a0 (gi v0 0)) 0)<|aC (gi (el a0 (gi v0 0)) 0 == a1) (some (.ret [cb true])) (some (.nx [ci (wr (gi v0 0+1))]))) (some (.br 0 []))) [ci 0]) fun v0=>some (.ret [cb false])
theorem aLb (a0:List (List CV)) (a1:Int):D its (n+1) aKs [.row 1 a0,ci a1]=aJ (aKP (D its n) a0 a1):=by kernel_rfl
def iT (M:Den) (b0 b1 b2:List (List CV)) (a1:Int):Option Ou:=chk (inb a1 b0)<|chk (oks [li] (List.drop 5 (el b0 a1)) 0)<|chk (inb a1 b0)<|chk (oks [li] (List.drop 6 (el b0 a1)) 0)<|some (.ret [ci (if (gi (List.drop 6 (el b0 a1)) 0) > (gi (List.drop 5 (el b0 a1)) 0) then gi (List.drop 6 (el b0 a1)) 0 else gi (List.drop 5 (el b0 a1)) 0)])
theorem qC (b0 b1 b2:List (List CV)) (a1:Int):D its (n+1) aG [.row 8 b0,.row 3 b1,.row 6 b2,ci a1]=aJ (iT (D its n) b0 b1 b2 a1):=by kernel_rfl
def lZ (M:Den) (b0 b1 b2:Int):Option Ou:=bD (aA (M jB [ci b0]) fun v0=>aC (!(gb v0 0)) (some (.nx [cb true])) (aA (M lL [ci b1,ci b2]) fun v1=>some (.nx [cb (!(gb v1 0))]))) fun v0=>aC (gb v0 0) (some (.ret [ci 71])) (some (.ret [ci 0]))
theorem vA (b0 b1 b2:Int):D its (n+1) gV [ci b0,ci b1,ci b2]=aJ (lZ (D its n) b0 b1 b2):=by kernel_rfl
def pJ (M:Den) (b0 b1 b2 b3 b4 b5:Int) (a1:List CV):Option Ou:=chk (oks [.row 8,.row 3,.row 6] a1 0)<|aA (M qA [.row 8 (gr a1 0),.row 3 (gr a1 1),.row 6 (gr a1 2),ci b0,ci b1,ci b2,ci b3,ci b4,ci b5]) fun v0=>some (.ret [cb (!(gb v0 0))])
theorem zT (b0 b1 b2 b3 b4 b5:Int) (a1:List CV):D its (n+1) pE [ci b0,ci b1,ci b2,ci b3,ci b4,ci b5,.ref a1]=aJ (pJ (D its n) b0 b1 b2 b3 b4 b5 a1):=by kernel_rfl
def gG (M:Den) (a0:Int) (a1 a2:List CV):Option Ou:=chk (oks [.row 8,.row 3,.row 6] a1 0)<|chk (oks [li] a2 0)<|aA (M dI [.row 8 (gr a1 0),.row 3 (gr a1 1),.row 6 (gr a1 2),ci a0,ci (gi a2 0)]) fun v0=>some (.ret [cb (gb v0 0)])
theorem nA (a0:Int) (a1 a2:List CV):D its (n+1) mZ [ci a0,.ref a1,.ref a2]=aJ (gG (D its n) a0 a1 a2):=by kernel_rfl
def kN (M:Den) (b0 b1 b2:List (List CV)) (a1:Int):Option Ou:=chk (inb a1 b1)<|chk (oks [li] (List.drop 0 (List.drop 1 (el b1 a1))) 0)<|some (.ret [ci (gi (List.drop 0 (List.drop 1 (el b1 a1))) 0)])
theorem sP (b0 b1 b2:List (List CV)) (a1:Int):D its (n+1) cP [.row 8 b0,.row 3 b1,.row 6 b2,ci a1]=aJ (kN (D its n) b0 b1 b2 a1):=by kernel_rfl
def tB (M:Den) (a0 a1 a2:Int):Option Ou:=aC (decide (a1<=a0)) (some (.ret [cb (decide (a0<=a2))])) (some (.ret [cb false]))
theorem DH (a0 a1 a2:Int):D its (n+1) cG [ci a0,ci a1,ci a2]=aJ (tB (D its n) a0 a1 a2):=by kernel_rfl
def lA (M:Den) (a0:List (List CV)) (a1:Int):Option Ou:=aA (M jL [.row 1 a0,ci a1]) fun v0=>some (.ret [cb (decide ((gi v0 0)>=0))])
theorem tO (a0:List (List CV)) (a1:Int):D its (n+1) aL [.row 1 a0,ci a1]=aJ (lA (D its n) a0 a1):=by kernel_rfl
def fV (M:Den) (a0:List (List CV)) (a1:CV):Option Ou:=aA (M iH [.row 3 a0,a1]) fun v0=>some (.ret [cb (decide ((gi v0 0)>=0))])
theorem mL (a0:List (List CV)) (a1:CV):D its (n+1) fS [.row 3 a0,a1]=aJ (fV (D its n) a0 a1):=by kernel_rfl
def jQ (M:Den) (b0 b1:Int) (b2:List (List CV)) (b3 b4 b5 b6:Int) (b7:List (List CV)) (c0 c1:Int) (c2:List (List CV)) (c3 c4 c5 c6:Int) (c7:List (List CV)):Option Ou:=aA (M bZ [ci b0,ci c0]) fun v0=>some (.ret [ci (gi v0 0)])
theorem rK (b0 b1:Int) (b2:List (List CV)) (b3 b4 b5 b6:Int) (b7:List (List CV)) (c0 c1:Int) (c2:List (List CV)) (c3 c4 c5 c6:Int) (c7:List (List CV)):D its (n+1) dH [ci b0,ci b1,.row 1 b2,ci b3,ci b4,ci b5,ci b6,.row 1 b7,ci c0,ci c1,.row 1 c2,ci c3,ci c4,ci c5,ci c6,.row 1 c7]=aJ (jQ (D its n) b0 b1 b2 b3 b4 b5 b6 b7 c0 c1 c2 c3 c4 c5 c6 c7):=by kernel_rfl
end
end
section
open Go Go.Sx
set_option maxRecDepth 100000
set_option maxHeartbeats 0
variable (its:ITS) (n:Nat)
noncomputable section
def kY (M:Den) (b0 b1 b2:List (List CV)) (a1:Int):Option Ou:=mY (mY (aA (M dT [.row 8 b0,.row 3 b1,.row 6 b2,ci a1]) fun v0=>bG 0 (aH (fun v1=>aC (decide (gi v1 0<il (gr v0 0))) (chk (inb (gi v1 0) (gr v0 0))<|chk (oks [li] (el (gr v0 0) (gi v1 0)) 0)<|aA (M cH [.row 1 (gr v1 1)]) fun v2=>chk (xS 1 3 v2)<|chk (false || ((List.brecOn.go (motive:=fun x=>(CV->Bool)->Bool) (cR (v2.getD 0 dC)).flatten List.all._f).1 CV.flat))<|chk (bL (List.length (gr v2 0)) 1 8)<|aA (M bO ([.row 8 b0,.row 3 b1,.row 6 b2,.row 1 (gr v2 0++(aI 1 1 [ci (gi (el (gr v0 0) (gi v1 0)) 0)]))])) fun v3=>bD (aC (gb v3 0) (chk (bL (List.length (gr v1 1)) 1 8)<|some (.nx ([.row 1 (gr v1 1++(aI 1 1 [ci (gi (el (gr v0 0) (gi v1 0)) 0)])),.row 1 (gr v1 2)]))) (chk (bL (List.length (gr v1 2)) 1 8)<|some (.nx ([.row 1 (gr v1 1),.row 1 (gr v1 2++(aI 1 1 [ci (gi (el (gr v0 0) (gi v1 0)) 0)]))])))) fun v4=>some (.nx [ci (wr (gi v1 0+1)),.row 1 (gr v4 0),.row 1 (gr v4 1)])) (some (.br 0 [.row 1 (gr v1 1),.row 1 (gr v1 2)]))) ([ci 0,.row 1 [],.row 1 []])) fun v1=>some (.ret [.row 1 (gr v1 0),.row 1 (gr v1 1)])) fun v0=>aA (M cC ([.row 1 (gr v0 0),.fn aM []])) fun v1=>chk (lU 1 false v1)<|some (.ret [.row 1 (gr v1 0)])) fun v0=>mY (aA (M cQ ([.row 1 (gr v0 0),.fn eR ([.ref [.row 8 b0,.row 3 b1,.row 6 b2],.ref [ci a1]])])) fun v1=>aC (gi v1 0 == (-1)) (some (.ret [.row 1 (gr v0 0)])) (bG 0 (aH (fun v2=>aC (decide (gi v2 1<il (gr v2 2))) (chk (inb (gi v2 1) (gr v2 2))<|chk (decide ((Int.toNat (gi v2 1))<(List.length (gr v2 2))))<|chk (oks [li] (el (gr v2 2) (gi v2 1)) 0)<|aA (M eR ([ci (gi (el (gr v2 2) (gi v2 1)) 0),.ref [.row 8 b0,.row 3 b1,.row 6 b2],.ref [ci a1]])) fun v3=>bD (aC (!(gb v3 0)) (chk (inb (gi v2 0) (gr v2 2))<|chk ((decide ((Int.toNat (gi v2 0))<(List.length (gr v2 2))))&&(decide (1<=1)))<|some (.nx ([ci (wr (gi v2 0+1)),.row 1 (List.set (gr v2 2) (Int.toNat (gi v2 0)) (spl (el (gr v2 2) (gi v2 0)) 0 [ci (gi (el (gr v2 2) (gi v2 1)) 0)]))]))) (some (.nx [ci (gi v2 0),.row 1 (gr v2 2)]))) fun v4=>some (.nx [ci (gi v4 0),ci (wr (gi v2 1+1)),.row 1 (gr v4 1)])) (some (.br 0 [ci (gi v2 0),.row 1 (gr v2 2)]))) [ci (gi v1 0),ci (wr (gi v1 0+1)),.row 1 (gr v0 0)]) fun v2=>chk ((decide (0<=gi v2 0))&&(decide (gi v2 0<=il (gr v2 1))))<|chk ((decide (0<=gi v2 0))&&(decide (gi v2 0<=il ((List.take (Int.toNat (gi v2 0)) (gr v2 1))++(List.replicate ((List.length (gr v2 1)) - (Int.toNat (gi v2 0))) [ci 0])))))<|some (.ret ([.row 1 (List.take (Int.toNat (gi v2 0)) ((List.take (Int.toNat (gi v2 0)) (gr v2 1))++(List.replicate ((List.length (gr v2 1)) - (Int.toNat (gi v2 0))) [ci 0])))])))) fun v1=>some (.ret [.row 1 (gr v1 0)])
theorem tI (b0 b1 b2:List (List CV)) (a1:Int):D its (n+1) bM [.row 8 b0,.row 3 b1,.row 6 b2,ci a1]=aJ (kY (D its n) b0 b1 b2 a1):=by kernel_rfl
def sM (M:Den) (b0 b1 b2:List (List CV)) (a1:Int):Option Ou:=bG 0 (aH (fun v0=>aC (decide (gi v0 0<il b0)) (aA (M aG [.row 8 b0,.row 3 b1,.row 6 b2,ci (gi v0 0)]) fun v1=>bD (aC (decide (gi v1 0<=a1)) (chk (bL (List.length (gr v0 1)) 1 8)<|some (.nx ([.row 1 (gr v0 1++(aI 1 1 [ci (gi v0 0)]))]))) (some (.nx [.row 1 (gr v0 1)]))) fun v2=>some (.nx [ci (wr (gi v0 0+1)),.row 1 (gr v2 0)])) (some (.br 0 [.row 1 (gr v0 1)]))) ([ci 0,.row 1 []])) fun v0=>mY (mY (bG 0 (aH (fun v1=>aC (decide (gi v1 1<=il (gr v0 0))) (aA (M eC ([.row 1 (gr v1 2),.fn aM [],ci (gi v1 0),ci (gi v1 1),.fn bW ([.ref [.row 8 b0,.row 3 b1,.row 6 b2]])])) fun v2=>chk (lU 1 false v2)<|some (.nx [ci (gi v1 1),ci (wr (gi v1 1+20)),.row 1 (gr v2 0)])) (some (.br 0 [ci (gi v1 0),.row 1 (gr v1 2)]))) [ci 0,ci 20,.row 1 (gr v0 0)]) fun v1=>aA (M eC ([.row 1 (gr v1 1),.fn aM [],ci (gi v1 0),ci (il (gr v0 0)),.fn bW ([.ref [.row 8 b0,.row 3 b1,.row 6 b2]])])) fun v2=>chk (lU 1 false v2)<|bG 2 (aH (fun v3=>aC (decide (gi v3 0<il (gr v0 0))) (bG 4 (aH (fun v4=>aC (decide (gi v4 1<=il (gr v0 0))) (aA (M fT ([.row 1 (gr v4 2),.fn aM [],ci (gi v4 0),ci (wr (gi v4 0+gi v3 0)),ci (gi v4 1),.fn bW ([.ref [.row 8 b0,.row 3 b1,.row 6 b2]])])) fun v5=>chk (lU 1 false v5)<|some (.nx [ci (gi v4 1),ci (wr (gi v4 1+wr (2*gi v3 0))),.row 1 (gr v5 0)])) (some (.br 4 [ci (gi v4 0),.row 1 (gr v4 2)]))) [ci 0,ci (wr (2*gi v3 0)),.row 1 (gr v3 1)]) fun v4=>bD (aC (decide (wr (gi v4 0+gi v3 0)<il (gr v0 0))) (aA (M fT ([.row 1 (gr v4 1),.fn aM [],ci (gi v4 0),ci (wr (gi v4 0+gi v3 0)),ci (il (gr v0 0)),.fn bW ([.ref [.row 8 b0,.row 3 b1,.row 6 b2]])])) fun v5=>chk (lU 1 false v5)<|some (.nx [.row 1 (gr v5 0)])) (some (.nx [.row 1 (gr v4 1)]))) fun v5=>some (.nx [ci (wr (gi v3 0*2)),.row 1 (gr v5 0)])) (some (.br 2 [.row 1 (gr v3 1)]))) [ci 20,.row 1 (gr v2 0)]) fun v3=>some (.ret [.row 1 (gr v3 0)])) fun v1=>some (.ret [.row 1 (gr v1 0)])) fun v1=>some (.ret [.row 1 (gr v1 0)])
theorem sN (b0 b1 b2:List (List CV)) (a1:Int):D its (n+1) dT [.row 8 b0,.row 3 b1,.row 6 b2,ci a1]=aJ (sM (D its n) b0 b1 b2 a1):=by kernel_rfl
def kK (M:Den) (a0:List (List CV)) (c0 c1:Int) (c2:List (List CV)) (c3 c4 c5 c6:Int) (c7:List (List CV)) (a2:CV):Option Ou:=bG 0 (aH (fun v0=>aC (decide (gi v0 0<gi v0 1)) (chk (inb (wr (Int.fdiv (IntKind.wrap .u64 (wr (gi v0 0+gi v0 1))) 2)) a0)<|chk (oks [li,li,.row 1,li,li,li,li,.row 1] (el a0 (wr (Int.fdiv (IntKind.wrap .u64 (wr (gi v0 0+gi v0 1))) 2))) 0)<|aA (bN sg M a2 (cat [[ci (gi (el a0 (wr (Int.fdiv (IntKind.wrap .u64 (wr (gi v0 0+gi v0 1))) 2))) 0),ci (gi (el a0 (wr (Int.fdiv (IntKind.wrap .u64 (wr (gi v0 0+gi v0 1))) 2))) 1),.row 1 (gr (el a0 (wr (Int.fdiv (IntKind.wrap .u64 (wr (gi v0 0+gi v0 1))) 2))) 2)],cis (el a0 (wr (Int.fdiv (IntKind.wrap .u64 (wr (gi v0 0+gi v0 1))) 2))) 3 4,[.row 1 (gr (el a0 (wr (Int.fdiv (IntKind.wrap .u64 (wr (gi v0 0+gi v0 1))) 2))) 7),ci c0,ci c1,.row 1 c2,ci c3,ci c4,ci c5,ci c6,.row 1 c7]]) [.agg [li,li,.row 1,li,li,li,li,.row 1],.agg [li,li,.row 1,li,li,li,li,.row 1]] [.one li]) fun v1=>bD (aC (decide (gi v1 0<0)) (some (.nx [ci (wr (wr (Int.fdiv (IntKind.wrap .u64 (wr (gi v0 0+gi v0 1))) 2)+1)),ci (gi v0 1)])) (some (.nx [ci (gi v0 0),ci (wr (Int.fdiv (IntKind.wrap .u64 (wr (gi v0 0+gi v0 1))) 2))]))) fun v2=>some (.nx [ci (gi v2 0),ci (gi v2 1)])) (some (.br 0 [ci (gi v0 0)]))) [ci 0,ci (il a0)]) fun v0=>aC (decide (gi v0 0<il a0)) (chk (inb (gi v0 0) a0)<|chk (oks [li,li,.row 1,li,li,li,li,.row 1] (el a0 (gi v0 0)) 0)<|aA (bN sg M a2 (cat [[ci (gi (el a0 (gi v0 0)) 0),ci (gi (el a0 (gi v0 0)) 1),.row 1 (gr (el a0 (gi v0 0)) 2)],cis (el a0 (gi v0 0)) 3 4,[.row 1 (gr (el a0 (gi v0 0)) 7),ci c0,ci c1,.row 1 c2,ci c3,ci c4,ci c5,ci c6,.row 1 c7]]) [.agg [li,li,.row 1,li,li,li,li,.row 1],.agg [li,li,.row 1,li,li,li,li,.row 1]] [.one li]) fun v1=>some (.ret [ci (gi v0 0),cb (gi v1 0 == 0)])) (some (.ret [ci (gi v0 0),cb false]))
theorem kL (a0:List (List CV)) (c0 c1:Int) (c2:List (List CV)) (c3 c4 c5 c6:Int) (c7:List (List CV)) (a2:CV):D its (n+1) eM [.row 8 a0,ci c0,ci c1,.row 1 c2,ci c3,ci c4,ci c5,ci c6,.row 1 c7,a2]=aJ (kK (D its n) a0 c0 c1 c2 c3 c4 c5 c6 c7 a2):=by kernel_rfl
def eU (M:Den) (b0 b1 b2:List (List CV)) (a1:Int):Option Ou:=mY (aA (M dT [.row 8 b0,.row 3 b1,.row 6 b2,ci a1]) fun v0=>bG 0 (aH (fun v1=>aC (decide (gi v1 0<il (gr v0 0))) (chk (inb (gi v1 0) (gr v0 0))<|chk (oks [li] (el (gr v0 0) (gi v1 0)) 0)<|aA (M cH [.row 1 (gr v1 1)]) fun v2=>chk (xS 1 3 v2)<|chk (false || ((List.brecOn.go (motive:=fun x=>(CV->Bool)->Bool) (cR (v2.getD 0 dC)).flatten List.all._f).1 CV.flat))<|chk (bL (List.length (gr v2 0)) 1 8)<|aA (M bO ([.row 8 b0,.row 3 b1,.row 6 b2,.row 1 (gr v2 0++(aI 1 1 [ci (gi (el (gr v0 0) (gi v1 0)) 0)]))])) fun v3=>bD (aC (gb v3 0) (chk (bL (List.length (gr v1 1)) 1 8)<|some (.nx ([.row 1 (gr v1 1++(aI 1 1 [ci (gi (el (gr v0 0) (gi v1 0)) 0)])),.row 1 (gr v1 2)]))) (chk (bL (List.length (gr v1 2)) 1 8)<|some (.nx ([.row 1 (gr v1 1),.row 1 (gr v1 2++(aI 1 1 [ci (gi (el (gr v0 0) (gi v1 0)) 0)]))])))) fun v4=>some (.nx [ci (wr (gi v1 0+1)),.row 1 (gr v4 0),.row 1 (gr v4 1)])) (some (.br 0 [.row 1 (gr v1 1),.row 1 (gr v1 2)]))) ([ci 0,.row 1 [],.row 1 []])) fun v1=>some (.ret [.row 1 (gr v1 0),.row 1 (gr v1 1)])) fun v0=>aA (M cC ([.row 1 (gr v0 0),.fn aM []])) fun v1=>chk (lU 1 false v1)<|some (.ret [.row 1 (gr v1 0)])
theorem qE (b0 b1 b2:List (List CV)) (a1:Int):D its (n+1) cD [.row 8 b0,.row 3 b1,.row 6 b2,ci a1]=aJ (eU (D its n) b0 b1 b2 a1):=by kernel_rfl
def kM (M:Den) (b0 b1 b2:List (List CV)):Option Ou:=bG 0 (aH (fun v0=>aC (decide (gi v0 0<il b0)) (aA (M aG [.row 8 b0,.row 3 b1,.row 6 b2,ci (gi v0 0)]) fun v1=>chk (bL (List.length (gr v0 1)) 1 8)<|some (.nx ([ci (wr (gi v0 0+1)),.row 1 (gr v0 1++(aI 1 1 [ci (gi v1 0)]))]))) (some (.br 0 [.row 1 (gr v0 1)]))) ([ci 0,.row 1 []])) fun v0=>bG 2 (aH (fun v1=>aC (decide (gi v1 0<il b2)) (chk (inb (gi v1 0) b2)<|chk (oks (List.replicate 6 li) (el b2 (gi v1 0)) 0)<|chk (bL (List.length (gr v1 1)) 1 8)<|some (.nx ([ci (wr (gi v1 0+1)),.row 1 (gr v1 1++(aI 1 1 [ci (gi (el b2 (gi v1 0)) 3)]))]))) (some (.br 2 [.row 1 (gr v1 1)]))) [ci 0,.row 1 (gr v0 0)]) fun v1=>aA (M cC ([.row 1 (gr v1 0),.fn aM []])) fun v2=>chk (lU 1 false v2)<|aA (M eL ([.row 1 (gr v2 0),.fn aM []])) fun v3=>chk (lU 1 true v3)<|some (.ret [.row 1 (gr v3 0)])
theorem sO (b0 b1 b2:List (List CV)):D its (n+1) sI [.row 8 b0,.row 3 b1,.row 6 b2]=aJ (kM (D its n) b0 b1 b2):=by kernel_rfl
def vC (M:Den) (b0 b1 b2:List (List CV)):Option Ou:=bD (aA (M gX ([.row 8 b0,ci 6,.fn gW [],.fn dH []])) fun v0=>aC (!(gb v0 0)) (some (.nx [cb true])) (aA (M gY ([.row 3 b1,ci 8,.fn gV [],.fn kG []])) fun v1=>aC (!(gb v1 0)) (some (.nx [cb true])) (aA (M gB ([.row 6 b2,ci 60,.fn fZ [],.fn eQ []])) fun v2=>aC (!(gb v2 0)) (some (.nx [cb true])) (aA (M dL ([.row 8 b0,.fn pD ([.ref [.row 8 b0,.row 3 b1,.row 6 b2]])])) fun v3=>aC (gb v3 0) (some (.nx [cb true])) (aA (M dF ([.row 6 b2,.fn pE ([.ref [.row 8 b0,.row 3 b1,.row 6 b2]])])) fun v4=>some (.nx [cb (gb v4 0)])))))) fun v0=>aC (gb v0 0) (some (.ret [ci 73])) (some (.ret [ci 0]))
theorem GK (b0 b1 b2:List (List CV)):D its (n+1) kF [.row 8 b0,.row 3 b1,.row 6 b2]=aJ (vC (D its n) b0 b1 b2):=by kernel_rfl
def qG (M:Den) (b0 b1 b2 a1 a2:List (List CV)):Option Ou:=bG 0 (aH (fun v0=>aC (decide (gi v0 1<il b1)) (aA (M bV ([.row 1 a1,.fn gE ([.ref [.row 8 b0,.row 3 b1,.row 6 b2],.ref [ci (gi v0 1)]])])) fun v1=>bD (aC (gb v1 0) (chk (inb (gi v0 1) a2)<|chk (oks [li] (el a2 (gi v0 1)) 0)<|aA (M kH ([.row 1 (aI 1 2 [ci (gi v0 0),ci (gi (el a2 (gi v0 1)) 0)])])) fun v2=>some (.nx [ci (gi v2 0)])) (some (.nx [ci (gi v0 0)]))) fun v2=>some (.nx [ci (gi v2 0),ci (wr (gi v0 1+1))])) (some (.br 0 [ci (gi v0 0)]))) [ci 0,ci 0]) fun v0=>some (.ret [ci (gi v0 0)])
theorem qH (b0 b1 b2 a1 a2:List (List CV)):D its (n+1) bK [.row 8 b0,.row 3 b1,.row 6 b2,.row 1 a1,.row 1 a2]=aJ (qG (D its n) b0 b1 b2 a1 a2):=by kernel_rfl
def oR (M:Den) (a0:List (List CV)) (a1:CV):Option Ou:=bG 0 (aH (fun v0=>aC (decide (gi v0 0<il a0)) (chk (inb (gi v0 0) a0)<|chk (oks [li,li,.row 1,li,li,li,li,.row 1] (el a0 (gi v0 0)) 0)<|aA (bN sg M a1 (cat [[ci (gi (el a0 (gi v0 0)) 0),ci (gi (el a0 (gi v0 0)) 1),.row 1 (gr (el a0 (gi v0 0)) 2)],cis (el a0 (gi v0 0)) 3 4,[.row 1 (gr (el a0 (gi v0 0)) 7)]]) [.agg [li,li,.row 1,li,li,li,li,.row 1]] [.one lb]) fun v1=>aC (gb v1 0) (some (.ret [ci (gi v0 0)])) (some (.nx [ci (wr (gi v0 0+1))]))) (some (.br 0 []))) [ci 0]) fun v0=>some (.ret [ci (-1)])
theorem oS (a0:List (List CV)) (a1:CV):D its (n+1) eE [.row 8 a0,a1]=aJ (oR (D its n) a0 a1):=by kernel_rfl
def DF (M:Den)  : Option Ou:=some (.ret ([.row 8 (aI 8 3 ([ci 5,ci 7,.row 1 (aI 1 2 [ci 10,ci 11]),ci 50,ci 120,ci 2,ci 2,.row 1 (aI 1 2 [ci 1,ci 2]),ci 6,ci 8,.row 1 (aI 1 2 [ci 11,ci 12]),ci 0,ci 70,ci 3,ci 4,.row 1 (aI 1 2 [ci 2,ci 3]),ci 9,ci 7,.row 1 (aI 1 1 [ci 20]),ci 0,ci 40,ci 6,ci 6,.row 1 (aI 1 2 [ci 1,ci 3])])),.row 3 (aI 3 3 [ci 1,ci 100,ci 150,ci 2,ci 60,ci 60,ci 3,ci 40,ci 90]),.row 6 (aI 6 2 [ci 30,ci 5,ci 8,ci 8,ci 110,ci 20,ci 31,ci 5,ci 9,ci 12,ci 60,ci 60])]))
theorem DG  : D its (n+1) mJ []=aJ (DF (D its n) ):=by kernel_rfl
def mC (M:Den) (b0 b1 b2:List (List CV)):Option Ou:=bG 0 (aH (fun v0=>aC (decide (gi v0 0<il b1)) (aA (M cP [.row 8 b0,.row 3 b1,.row 6 b2,ci (gi v0 0)]) fun v1=>chk (bL (List.length (gr v0 1)) 1 8)<|some (.nx ([ci (wr (gi v0 0+1)),.row 1 (gr v0 1++(aI 1 1 [ci (gi v1 0)]))]))) (some (.br 0 [.row 1 (gr v0 1)]))) ([ci 0,.row 1 []])) fun v0=>some (.ret [.row 1 (gr v0 0)])
theorem vD (b0 b1 b2:List (List CV)):D its (n+1) dE [.row 8 b0,.row 3 b1,.row 6 b2]=aJ (mC (D its n) b0 b1 b2):=by kernel_rfl
def jP (M:Den) (b0 b1 b2 a1:List (List CV)):Option Ou:=aA (M lQ [.row 1 a1]) fun v0=>bD (brO (fN (rZ sg M (List.getD v0 0 dC) (.clo [.one (.row 1)])) (fun x1 v1=>aA (M cX [.row 8 b0,.row 3 b1,.row 6 b2,.row 1 (gr x1 0)]) fun v2=>aC (gb v2 0) (some (.ret [cb false])) (some (.nx [cb (gb v1 0)]))) [cb false])) fun v1=>some (.ret [cb true])
theorem rG (b0 b1 b2 a1:List (List CV)):D its (n+1) bO [.row 8 b0,.row 3 b1,.row 6 b2,.row 1 a1]=aJ (jP (D its n) b0 b1 b2 a1):=by kernel_rfl
def zQ (M:Den) (a0:List (List CV)):Option Ou:=bG 0 (aH (fun v0=>aC (decide (gi v0 1<il a0)) (chk (inb (gi v0 1) a0)<|chk (oks [li] (el a0 (gi v0 1)) 0)<|some (.nx [ci (wr (gi v0 0+gi (el a0 (gi v0 1)) 0)),ci (wr (gi v0 1+1))])) (some (.br 0 [ci (gi v0 0)]))) [ci 0,ci 0]) fun v0=>some (.ret [ci (gi v0 0)])
theorem NG (a0:List (List CV)):D its (n+1) kH [.row 1 a0]=aJ (zQ (D its n) a0):=by kernel_rfl
def iU (M:Den) (b0 b1 b2 a1:List (List CV)):Option Ou:=aA (M bU [.row 8 b0,.row 3 b1,.row 6 b2,.row 1 a1]) fun v0=>aA (M dE [.row 8 b0,.row 3 b1,.row 6 b2]) fun v1=>aA (M bK [.row 8 b0,.row 3 b1,.row 6 b2,.row 1 a1,.row 1 (gr v1 0)]) fun v2=>some (.ret [cb (decide ((gi v0 0) > (gi v2 0)))])
theorem qD (b0 b1 b2 a1:List (List CV)):D its (n+1) cX [.row 8 b0,.row 3 b1,.row 6 b2,.row 1 a1]=aJ (iU (D its n) b0 b1 b2 a1):=by kernel_rfl
def mS (M:Den) (b0 b1:Int) (b2:List (List CV)) (b3 b4 b5 b6:Int) (b7:List (List CV)):Option Ou:=aA (M cH [.row 1 b2]) fun v0=>chk (xS 1 3 v0)<|aA (M cH [.row 1 b7]) fun v1=>chk (xS 1 3 v1)<|some (.ret [ci b0,ci b1,.row 1 (gr v0 0),ci b3,ci b4,ci b5,ci b6,.row 1 (gr v1 0)])
theorem wM (b0 b1:Int) (b2:List (List CV)) (b3 b4 b5 b6:Int) (b7:List (List CV)):D its (n+1) mQ [ci b0,ci b1,.row 1 b2,ci b3,ci b4,ci b5,ci b6,.row 1 b7]=aJ (mS (D its n) b0 b1 b2 b3 b4 b5 b6 b7):=by kernel_rfl
def iW (M:Den) (a0:Int) (a1 a2:List CV):Option Ou:=chk (oks [.row 8,.row 3,.row 6] a1 0)<|chk (oks [li] a2 0)<|aA (M bB [.row 8 (gr a1 0),.row 3 (gr a1 1),.row 6 (gr a1 2),ci a0,ci (gi a2 0)]) fun v0=>some (.ret [cb (gb v0 6)])
theorem qI (a0:Int) (a1 a2:List CV):D its (n+1) eR [ci a0,.ref a1,.ref a2]=aJ (iW (D its n) a0 a1 a2):=by kernel_rfl
def pG (M:Den) (a0:Int) (a1:List CV):Option Ou:=chk (oks [.row 8,.row 3,.row 6] a1 0)<|aA (M jM [.row 8 (gr a1 0),.row 3 (gr a1 1),.row 6 (gr a1 2),ci a0]) fun v0=>some (.ret [cb (!(gb v0 0))])
theorem zP (a0:Int) (a1:List CV):D its (n+1) pF [ci a0,.ref a1]=aJ (pG (D its n) a0 a1):=by kernel_rfl
def KE (M:Den) (a0 a1:Int):Option Ou:=chk (a1 != 0)<|chk (a1 != 0)<|some (.ret [ci (Int.tmod (wr ((Int.tmod a0 a1)+a1)) a1)])
theorem ZO (a0 a1:Int):D its (n+1) bJ [ci a0,ci a1]=aJ (KE (D its n) a0 a1):=by kernel_rfl
def tM (M:Den) (b0 b1 b2 a1:List (List CV)):Option Ou:=some (.ret ([.fn qB ([.ref [.row 8 b0,.row 3 b1,.row 6 b2],.ref [.row 1 a1]])]))
theorem tN (b0 b1 b2 a1:List (List CV)):D its (n+1) eB [.row 8 b0,.row 3 b1,.row 6 b2,.row 1 a1]=aJ (tM (D its n) b0 b1 b2 a1):=by kernel_rfl
def fI (M:Den) (a0:List (List CV)) (a1:CV):Option Ou:=aA (M cS [.row 6 a0,a1]) fun v0=>some (.ret [cb (decide ((gi v0 0)>=0))])
theorem mD (a0:List (List CV)) (a1:CV):D its (n+1) dF [.row 6 a0,a1]=aJ (fI (D its n) a0 a1):=by kernel_rfl
def iX (M:Den) (b0 b1 b2 b3 b4 b5 c0 c1 c2 c3 c4 c5:Int):Option Ou:=aA (M bZ [ci b0,ci c0]) fun v0=>some (.ret [ci (gi v0 0)])
theorem qJ (b0 b1 b2 b3 b4 b5 c0 c1 c2 c3 c4 c5:Int):D its (n+1) eQ [ci b0,ci b1,ci b2,ci b3,ci b4,ci b5,ci c0,ci c1,ci c2,ci c3,ci c4,ci c5]=aJ (iX (D its n) b0 b1 b2 b3 b4 b5 c0 c1 c2 c3 c4 c5):=by kernel_rfl
def wN (M:Den) (a0:Int) (a1:List CV):Option Ou:=chk (oks [li] a1 0)<|some (.ret [cb (a0 == gi a1 0)])
theorem wP (a0:Int) (a1:List CV):D its (n+1) iO [ci a0,.ref a1]=aJ (wN (D its n) a0 a1):=by kernel_rfl
end
end
section
open Go Go.Sx
set_option maxRecDepth 100000
set_option maxHeartbeats 0
variable (its:ITS) (n:Nat)
noncomputable section
def rI (M:Den) (b0 b1 b2:List (List CV)) (a1:Int):Option Ou:=aA (M kF [.row 8 b0,.row 3 b1,.row 6 b2]) fun v0=>aC (gi v0 0 != 0) (some (.ret ([.row 8 [],.row 3 [],.row 6 [],ci (gi v0 0)]))) (mY (aA (M tD [.row 3 b1]) fun v1=>chk (xS 3 67 v1)<|aA (M sJ [.row 6 b2]) fun v2=>chk (xS 6 35 v2)<|bG 0 (aH (fun v3=>aC (decide (gi v3 0<il b0)) (chk (inb (gi v3 0) b0)<|chk (oks [li,li,.row 1,li,li,li,li,.row 1] (el b0 (gi v3 0)) 0)<|aA (M mQ (cat [[ci (gi (el b0 (gi v3 0)) 0),ci (gi (el b0 (gi v3 0)) 1),.row 1 (gr (el b0 (gi v3 0)) 2)],cis (el b0 (gi v3 0)) 3 4,[.row 1 (gr (el b0 (gi v3 0)) 7)]])) fun v4=>chk (bL (List.length (gr v3 3)) 1 96)<|some (.nx ([ci (wr (gi v3 0+1)),.row 3 (gr v3 1),.row 6 (gr v3 2),.row 8 (gr v3 3++(aI 8 1 (cat [[ci (gi v4 0),ci (gi v4 1),.row 1 (gr v4 2)],cis v4 3 4,[.row 1 (gr v4 7)]])))]))) (some (.br 0 [.row 3 (gr v3 1),.row 6 (gr v3 2),.row 8 (gr v3 3)]))) ([ci 0,.row 3 (gr v1 0),.row 6 (gr v2 0),.row 8 []])) fun v3=>some (.ret [.row 3 (gr v3 0),.row 6 (gr v3 1),.row 8 (gr v3 2)])) fun v1=>mY (aA (M cS ([.row 6 (gr v1 1),.fn iM ([.ref [ci a1]])])) fun v2=>aC (gi v2 0 == (-1)) (some (.ret [.row 3 (gr v1 0),.row 6 (gr v1 1),.row 8 (gr v1 2)])) (bG 0 (aH (fun v3=>aC (decide (gi v3 1<il (gr v3 2))) (chk (inb (gi v3 1) (gr v3 2))<|chk (decide ((Int.toNat (gi v3 1))<(List.length (gr v3 2))))<|chk (oks (List.replicate 6 li) (el (gr v3 2) (gi v3 1)) 0)<|aA (M iM (cat [cis (el (gr v3 2) (gi v3 1)) 0 6,[.ref [ci a1]]])) fun v4=>bD (aC (!(gb v4 0)) (chk (inb (gi v3 0) (gr v3 2))<|chk ((decide ((Int.toNat (gi v3 0))<(List.length (gr v3 2))))&&(decide (6<=6)))<|some (.nx [ci (wr (gi v3 0+1)),.row 6 (List.set (gr v3 2) (Int.toNat (gi v3 0)) (spl (el (gr v3 2) (gi v3 0)) 0 (cis (el (gr v3 2) (gi v3 1)) 0 6)))])) (some (.nx [ci (gi v3 0),.row 6 (gr v3 2)]))) fun v5=>some (.nx [ci (gi v5 0),ci (wr (gi v3 1+1)),.row 6 (gr v5 1)])) (some (.br 0 [ci (gi v3 0),.row 6 (gr v3 2)]))) [ci (gi v2 0),ci (wr (gi v2 0+1)),.row 6 (gr v1 1)]) fun v3=>chk ((decide (0<=gi v3 0))&&(decide (gi v3 0<=il (gr v3 1))))<|chk ((decide (0<=gi v3 0))&&(decide (gi v3 0<=il ((List.take (Int.toNat (gi v3 0)) (gr v3 1))++(List.replicate ((List.length (gr v3 1)) - (Int.toNat (gi v3 0))) [ci 0,ci 0,ci 0,ci 0,ci 0,ci 0])))))<|some (.ret ([.row 3 (gr v1 0),.row 6 (List.take (Int.toNat (gi v3 0)) ((List.take (Int.toNat (gi v3 0)) (gr v3 1))++(List.replicate ((List.length (gr v3 1)) - (Int.toNat (gi v3 0))) [ci 0,ci 0,ci 0,ci 0,ci 0,ci 0]))),.row 8 (gr v1 2)])))) fun v2=>aC (il (gr v2 1) == il b2) (some (.ret ([.row 8 [],.row 3 [],.row 6 [],ci 3]))) (some (.ret [.row 8 (gr v2 2),.row 3 (gr v2 0),.row 6 (gr v2 1),ci 0])))
theorem BO (b0 b1 b2:List (List CV)) (a1:Int):D its (n+1) lK [.row 8 b0,.row 3 b1,.row 6 b2,ci a1]=aJ (rI (D its n) b0 b1 b2 a1):=by kernel_rfl
def vB (M:Den) (b0 b1 b2:List (List CV)) (a1 a2:Int):Option Ou:=aA (M bQ [.row 8 b0,.row 3 b1,.row 6 b2,ci a2]) fun v0=>aC (gi v0 3 != 0) (some (.ret ([.row 1 [],ci (gi v0 3)]))) (aA (M lK [.row 8 b0,.row 3 b1,.row 6 b2,ci a1]) fun v1=>aC (gi v1 3 != 0) (some (.ret ([.row 1 [],ci (gi v1 3)]))) (aA (M cO [.row 8 (gr v0 0),.row 3 (gr v0 1),.row 6 (gr v0 2),ci a2]) fun v2=>aA (M cO [.row 8 (gr v1 0),.row 3 (gr v1 1),.row 6 (gr v1 2),ci a2]) fun v3=>aA (M bM [.row 8 (gr v0 0),.row 3 (gr v0 1),.row 6 (gr v0 2),ci a2]) fun v4=>aA (M bM [.row 8 (gr v1 0),.row 3 (gr v1 1),.row 6 (gr v1 2),ci a2]) fun v5=>bG 0 (aH (fun v6=>aC (decide (gi v6 0<il b0)) (chk (inb (gi v6 0) b0)<|chk (oks [li,li,.row 1,li,li,li,li,.row 1] (el b0 (gi v6 0)) 0)<|aA (M bB [.row 8 (gr v0 0),.row 3 (gr v0 1),.row 6 (gr v0 2),ci (gi v6 0),ci a2]) fun v7=>aA (M bB [.row 8 (gr v1 0),.row 3 (gr v1 1),.row 6 (gr v1 2),ci (gi v6 0),ci a2]) fun v8=>bD (chk (inb (gi v6 0) (gr v2 0))<|chk (oks [.row 1] (el (gr v2 0) (gi v6 0)) 0)<|chk (inb (gi v6 0) (gr v3 0))<|chk (oks [.row 1] (el (gr v3 0) (gi v6 0)) 0)<|aA (M jI [.row 1 (gr (el (gr v2 0) (gi v6 0)) 0),.row 1 (gr (el (gr v3 0) (gi v6 0)) 0)]) fun v9=>aC (!(gb v9 0)) (some (.nx [cb true])) (aA (M aL [.row 1 (gr v4 0),ci (gi v6 0)]) fun v10=>aA (M aL [.row 1 (gr v5 0),ci (gi v6 0)]) fun v11=>aC (gb v10 0 != gb v11 0) (some (.nx [cb true])) (aA (M aG [.row 8 (gr v0 0),.row 3 (gr v0 1),.row 6 (gr v0 2),ci (gi v6 0)]) fun v12=>aC (decide (gi v12 0<=a2)) (aC (gb v7 6 != gb v8 6) (some (.nx [cb true])) (some (.nx [cb (gi v7 4 != gi v8 4)]))) (some (.nx [cb false]))))) fun v9=>bD (aC (gb v9 0) (chk (bL (List.length (gr v6 1)) 1 8)<|some (.nx ([.row 1 (gr v6 1++(aI 1 1 [ci (gi (el b0 (gi v6 0)) 0)]))]))) (some (.nx [.row 1 (gr v6 1)]))) fun v10=>some (.nx [ci (wr (gi v6 0+1)),.row 1 (gr v10 0)])) (some (.br 0 [.row 1 (gr v6 1)]))) ([ci 0,.row 1 []])) fun v6=>some (.ret [.row 1 (gr v6 0),ci 0])))
theorem GJ (b0 b1 b2:List (List CV)) (a1 a2:Int):D its (n+1) gT [.row 8 b0,.row 3 b1,.row 6 b2,ci a1,ci a2]=aJ (vB (D its n) b0 b1 b2 a1 a2):=by kernel_rfl
def zN (M:Den)  : Option Ou:=aA (M mJ []) fun v0=>aA (M mI [.row 8 (gr v0 0),.row 3 (gr v0 1),.row 6 (gr v0 2),ci 4]) fun v1=>aA (M oB [.row 8 (gr v0 0),.row 3 (gr v0 1),.row 6 (gr v0 2),ci 6]) fun v2=>aA (M oA [.row 8 (gr v0 0),.row 3 (gr v0 1),.row 6 (gr v0 2),ci 5,ci 4]) fun v3=>aA (M pZ [.row 8 (gr v0 0),.row 3 (gr v0 1),.row 6 (gr v0 2),ci 8]) fun v4=>aA (M pY [.row 8 (gr v0 0),.row 3 (gr v0 1),.row 6 (gr v0 2),ci 5,ci 1,ci 8]) fun v5=>aA (M sW [.row 8 (gr v0 0),.row 3 (gr v0 1),.row 6 (gr v0 2),ci 12]) fun v6=>aA (M gT [.row 8 (gr v0 0),.row 3 (gr v0 1),.row 6 (gr v0 2),ci 30,ci 12]) fun v7=>bD (aC (gi v1 1 == 0) (aC (gi v2 1 == 0) (aC (gi v3 1 == 0) (aC (gi v4 1 == 0) (aC (gi v5 1 == 0) (aC (gi v6 1 == 0) (some (.nx [cb (gi v7 1 == 0)])) (some (.nx [cb false]))) (some (.nx [cb false]))) (some (.nx [cb false]))) (some (.nx [cb false]))) (some (.nx [cb false]))) (some (.nx [cb false]))) fun v8=>aC (gb v8 0) (aA (M lJ ([.row 1 (gr v1 0),.row 1 (aI 1 2 ([.row 1 (aI 1 3 [ci 100,ci 20,ci 0]),.row 1 (aI 1 3 [ci 0,ci 40,ci 30])]))])) fun v9=>aC (gb v9 0) (aA (M gU ([.row 1 (gr v2 0),.row 1 (aI 1 3 [ci 5,ci 6,ci 9])])) fun v10=>aC (gb v10 0) (aC (gi v3 0 == 10) (aA (M gU ([.row 1 (gr v4 0),.row 1 (aI 1 2 [ci 11,ci 12])])) fun v11=>aC (gb v11 0) (aC (gi v5 0 == 90) (aA (M lI ([.row 4 (gr v6 0),.row 4 (aI 4 4 [ci 8,ci 5,ci 0,ci 20,ci 8,ci 5,ci 1,ci 90,ci 12,ci 5,ci 0,ci 40,ci 12,ci 5,ci 1,ci (-90)])])) fun v12=>aC (gb v12 0) (some (.ret [cb (il (gr v7 0) == 0)])) (some (.ret [cb false]))) (some (.ret [cb false]))) (some (.ret [cb false]))) (some (.ret [cb false]))) (some (.ret [cb false]))) (some (.ret [cb false]))) (some (.ret [cb false]))
theorem ND  : D its (n+1) sF []=aJ (zN (D its n) ):=by kernel_rfl
def uP (M:Den) (b0 b1 b2:List (List CV)) (a1 a2:Int):Option Ou:=aA (M fR [.row 8 b0,.row 3 b1,.row 6 b2,ci a1,ci a2]) fun v0=>aC (gi v0 4 != 0) (some (.ret [ci 0,ci (gi v0 4)])) (aA (M cD [.row 8 (gr v0 0),.row 3 (gr v0 1),.row 6 (gr v0 2),ci a2]) fun v1=>aA (M aL [.row 1 (gr v1 0),ci (gi v0 3)]) fun v2=>aC (!(gb v2 0)) (some (.ret [ci 0,ci 79])) (aA (M lQ [.row 1 (gr v1 0)]) fun v3=>bD (brO (fN (rZ sg M (List.getD v3 0 dC) (.clo [.one (.row 1)])) (fun x4 v4=>bG 1 (aA (M aL [.row 1 (gr x4 0),ci (gi v0 3)]) fun v5=>aC (!(gb v5 0)) (some (.br 1 [ci (gi v4 0)])) (aA (M dE [.row 8 (gr v0 0),.row 3 (gr v0 1),.row 6 (gr v0 2)]) fun v6=>aA (M bK [.row 8 (gr v0 0),.row 3 (gr v0 1),.row 6 (gr v0 2),.row 1 (gr x4 0),.row 1 (gr v6 0)]) fun v7=>aA (M bU [.row 8 (gr v0 0),.row 3 (gr v0 1),.row 6 (gr v0 2),.row 1 (gr x4 0)]) fun v8=>bD (aC (decide (gi v4 0<0)) (some (.nx [cb true])) (some (.nx [cb (decide (wr (gi v7 0 - gi v8 0)<gi v4 0))]))) fun v9=>bD (aC (gb v9 0) (some (.nx [ci (wr (gi v7 0 - gi v8 0))])) (some (.nx [ci (gi v4 0)]))) fun v10=>some (.br 1 [ci (gi v10 0)]))) fun v5=>some (.nx [ci (gi v5 0)])) [ci (-1)])) fun v4=>some (.ret [ci (gi v4 0),ci 0])))
theorem GD (b0 b1 b2:List (List CV)) (a1 a2:Int):D its (n+1) oA [.row 8 b0,.row 3 b1,.row 6 b2,ci a1,ci a2]=aJ (uP (D its n) b0 b1 b2 a1 a2):=by kernel_rfl
def wY (M:Den) (b0 b1 b2:List (List CV)) (a1:Int):Option Ou:=aA (M bQ [.row 8 b0,.row 3 b1,.row 6 b2,ci a1]) fun v0=>aC (gi v0 3 != 0) (some (.ret ([.row 1 [],ci (gi v0 3)]))) (aA (M bM [.row 8 (gr v0 0),.row 3 (gr v0 1),.row 6 (gr v0 2),ci a1]) fun v1=>bG 0 (aH (fun v2=>aC (decide (gi v2 0<il (gr v1 0))) (chk (inb (gi v2 0) (gr v1 0))<|chk (oks [li] (el (gr v1 0) (gi v2 0)) 0)<|chk (inb (gi (el (gr v1 0) (gi v2 0)) 0) (gr v0 0))<|chk (oks [.row 1] (List.drop 2 (el (gr v0 0) (gi (el (gr v1 0) (gi v2 0)) 0))) 0)<|chk (bL (List.length (gr v2 1)) (List.length (gr (List.drop 2 (el (gr v0 0) (gi (el (gr v1 0) (gi v2 0)) 0))) 0)) 8)<|some (.nx [ci (wr (gi v2 0+1)),.row 1 (gr v2 1++gr (List.drop 2 (el (gr v0 0) (gi (el (gr v1 0) (gi v2 0)) 0))) 0)])) (some (.br 0 [.row 1 (gr v2 1)]))) ([ci 0,.row 1 []])) fun v2=>aA (M cC ([.row 1 (gr v2 0),.fn aM []])) fun v3=>chk (lU 1 false v3)<|aA (M eL ([.row 1 (gr v3 0),.fn aM []])) fun v4=>chk (lU 1 true v4)<|some (.ret [.row 1 (gr v4 0),ci 0]))
theorem HY (b0 b1 b2:List (List CV)) (a1:Int):D its (n+1) pZ [.row 8 b0,.row 3 b1,.row 6 b2,ci a1]=aJ (wY (D its n) b0 b1 b2 a1):=by kernel_rfl
def tE (M:Den) (a0:List (List CV)) (a1:Int) (a2 a3:CV):Option Ou:=bG 0 (aH (fun v0=>aC (decide (gi v0 0<il a0)) (chk (inb (gi v0 0) a0)<|chk (oks (List.replicate 6 li) (el a0 (gi v0 0)) 0)<|bD (aA (bN sg M a2 (cis (el a0 (gi v0 0)) 0 6) [.agg (List.replicate 6 li)] [.one li]) fun v1=>aC (gi v1 0 != 0) (some (.nx [cb true])) (aC (decide ((gi v0 0) > 0)) (chk (inb (wr (gi v0 0 - 1)) a0)<|chk (oks (List.replicate 6 li) (el a0 (wr (gi v0 0 - 1))) 0)<|aA (bN sg M a3 (cat [cis (el a0 (wr (gi v0 0 - 1))) 0 6,cis (el a0 (gi v0 0)) 0 6]) [.agg (List.replicate 6 li),.agg (List.replicate 6 li)] [.one li]) fun v2=>some (.nx [cb (decide ((gi v2 0)>=0))])) (some (.nx [cb false])))) fun v1=>aC (gb v1 0) (some (.ret [cb false])) (some (.nx [ci (wr (gi v0 0+1))]))) (some (.br 0 []))) [ci 0]) fun v0=>some (.ret [cb (decide (il a0<=a1))])
theorem tF (a0:List (List CV)) (a1:Int) (a2 a3:CV):D its (n+1) gB [.row 6 a0,ci a1,a2,a3]=aJ (tE (D its n) a0 a1 a2 a3):=by kernel_rfl
def kX (M:Den) (b0 b1 b2 b3 b4 b5:Int):Option Ou:=bD (aA (M cG [ci b0,ci 1,ci 99999]) fun v0=>aC (!(gb v0 0)) (some (.nx [cb true])) (aA (M jB [ci b1]) fun v1=>aC (!(gb v1 0)) (some (.nx [cb true])) (aA (M dZ [ci b2]) fun v2=>aC (!(gb v2 0)) (some (.nx [cb true])) (aA (M dZ [ci b3]) fun v3=>aC (!(gb v3 0)) (some (.nx [cb true])) (aA (M cG [ci b4,ci 0,ci 1000000]) fun v4=>aC (!(gb v4 0)) (some (.nx [cb true])) (aA (M cG [ci b5,ci 0,ci b4]) fun v5=>some (.nx [cb (!(gb v5 0))]))))))) fun v0=>aC (gb v0 0) (some (.ret [ci 72])) (some (.ret [ci 0]))
theorem tG (b0 b1 b2 b3 b4 b5:Int):D its (n+1) fZ [ci b0,ci b1,ci b2,ci b3,ci b4,ci b5]=aJ (kX (D its n) b0 b1 b2 b3 b4 b5):=by kernel_rfl
def lX (M:Den) (b0 b1 b2 a1:List (List CV)):Option Ou:=bG 0 (aH (fun v0=>aC (decide (gi v0 0<il a1)) (chk (inb (gi v0 0) a1)<|chk (oks [li] (el a1 (gi v0 0)) 0)<|chk (inb (gi (el a1 (gi v0 0)) 0) b0)<|chk (oks [li] (List.drop 0 (el b0 (gi (el a1 (gi v0 0)) 0))) 0)<|chk (bL (List.length (gr v0 1)) 1 8)<|some (.nx ([ci (wr (gi v0 0+1)),.row 1 (gr v0 1++(aI 1 1 [ci (gi (List.drop 0 (el b0 (gi (el a1 (gi v0 0)) 0))) 0)]))]))) (some (.br 0 [.row 1 (gr v0 1)]))) ([ci 0,.row 1 []])) fun v0=>aA (M cC ([.row 1 (gr v0 0),.fn aM []])) fun v1=>chk (lU 1 false v1)<|some (.ret [.row 1 (gr v1 0)])
theorem uQ (b0 b1 b2 a1:List (List CV)):D its (n+1) eK [.row 8 b0,.row 3 b1,.row 6 b2,.row 1 a1]=aJ (lX (D its n) b0 b1 b2 a1):=by kernel_rfl
def kI (M:Den) (b0 b1 b2 a1:List (List CV)):Option Ou:=bG 0 (aH (fun v0=>aC (decide (gi v0 0<il a1)) (chk (inb (gi v0 0) a1)<|chk (oks [li] (el a1 (gi v0 0)) 0)<|aA (M cV [.row 8 b0,.row 3 b1,.row 6 b2,ci (gi (el a1 (gi v0 0)) 0)]) fun v1=>chk (bL (List.length (gr v0 1)) 1 8)<|some (.nx ([ci (wr (gi v0 0+1)),.row 1 (gr v0 1++(aI 1 1 [ci (gi v1 0)]))]))) (some (.br 0 [.row 1 (gr v0 1)]))) ([ci 0,.row 1 []])) fun v0=>aA (M kH [.row 1 (gr v0 0)]) fun v1=>some (.ret [ci (gi v1 0)])
theorem sK (b0 b1 b2 a1:List (List CV)):D its (n+1) bU [.row 8 b0,.row 3 b1,.row 6 b2,.row 1 a1]=aJ (kI (D its n) b0 b1 b2 a1):=by kernel_rfl
def sL (M:Den) (a0:List (List CV)) (a1:CV):Option Ou:=bG 0 (aH (fun v0=>aC (decide (gi v0 0<il a0)) (chk (inb (gi v0 0) a0)<|chk (oks [li] (el a0 (gi v0 0)) 0)<|aA (bN sg M a1 [ci (gi (el a0 (gi v0 0)) 0)] [.one li] [.one lb]) fun v1=>aC (gb v1 0) (some (.ret [ci (gi v0 0)])) (some (.nx [ci (wr (gi v0 0+1))]))) (some (.br 0 []))) [ci 0]) fun v0=>some (.ret [ci (-1)])
theorem kJ (a0:List (List CV)) (a1:CV):D its (n+1) cQ [.row 1 a0,a1]=aJ (sL (D its n) a0 a1):=by kernel_rfl
def zO (M:Den) (a0:List (List CV)):Option Ou:=bG 0 (aH (fun v0=>aC (decide (gi v0 0<il a0)) (chk (inb (gi v0 0) a0)<|chk (oks [li] (el a0 (gi v0 0)) 0)<|aC (gi (el a0 (gi v0 0)) 0 != 0) (some (.ret [ci (gi (el a0 (gi v0 0)) 0)])) (some (.nx [ci (wr (gi v0 0+1))]))) (some (.br 0 []))) [ci 0]) fun v0=>some (.ret [ci 0])
theorem NF (a0:List (List CV)):D its (n+1) sG [.row 1 a0]=aJ (zO (D its n) a0):=by kernel_rfl
def yC (M:Den) (a0:List (List CV)) (a1:Int):Option Ou:=bG 0 (aH (fun v0=>aC (decide (gi v0 0<il a0)) (chk (inb (gi v0 0) a0)<|chk (oks [li] (el a0 (gi v0 0)) 0)<|aC (a1 == gi (el a0 (gi v0 0)) 0) (some (.ret [ci (gi v0 0)])) (some (.nx [ci (wr (gi v0 0+1))]))) (some (.br 0 []))) [ci 0]) fun v0=>some (.ret [ci (-1)])
theorem yD (a0:List (List CV)) (a1:Int):D its (n+1) jL [.row 1 a0,ci a1]=aJ (yC (D its n) a0 a1):=by kernel_rfl
def iJ (M:Den) (a0 a1:Int) (a2:List CV):Option Ou:=chk (oks [.row 8,.row 3,.row 6] a2 0)<|aA (M aG [.row 8 (gr a2 0),.row 3 (gr a2 1),.row 6 (gr a2 2),ci a0]) fun v0=>chk (oks [.row 8,.row 3,.row 6] a2 0)<|aA (M aG [.row 8 (gr a2 0),.row 3 (gr a2 1),.row 6 (gr a2 2),ci a1]) fun v1=>aA (M bZ [ci (gi v0 0),ci (gi v1 0)]) fun v2=>some (.ret [ci (gi v2 0)])
theorem oT (a0 a1:Int) (a2:List CV):D its (n+1) bW [ci a0,ci a1,.ref a2]=aJ (iJ (D its n) a0 a1 a2):=by kernel_rfl
def jT (M:Den) (b0 b1 b2:List (List CV)) (a1 a2:Int):Option Ou:=chk (inb a1 b0)<|chk (oks [.row 1] (List.drop 7 (el b0 a1)) 0)<|chk (inb a2 b1)<|chk (oks [li] (List.drop 0 (el b1 a2)) 0)<|aA (M aL [.row 1 (gr (List.drop 7 (el b0 a1)) 0),ci (gi (List.drop 0 (el b1 a2)) 0)]) fun v0=>some (.ret [cb (gb v0 0)])
theorem rL (b0 b1 b2:List (List CV)) (a1 a2:Int):D its (n+1) dI [.row 8 b0,.row 3 b1,.row 6 b2,ci a1,ci a2]=aJ (jT (D its n) b0 b1 b2 a1 a2):=by kernel_rfl
def QM (M:Den) (a0:List (List CV)) (a1:Int):Option Ou:=aC (il a0 == 0) (some (.ret [ci 0])) (aA (M bJ [ci a1,ci (il a0)]) fun v0=>chk (inb (gi v0 0) a0)<|chk (oks [li] (el a0 (gi v0 0)) 0)<|some (.ret [ci (gi (el a0 (gi v0 0)) 0)]))
theorem aBP (a0:List (List CV)) (a1:Int):D its (n+1) uO [.row 1 a0,ci a1]=aJ (QM (D its n) a0 a1):=by kernel_rfl
def gH (M:Den) (a0:Int) (a1 a2:List CV):Option Ou:=chk (oks [.row 8,.row 3,.row 6] a1 0)<|chk (oks [li] a2 0)<|aA (M dI [.row 8 (gr a1 0),.row 3 (gr a1 1),.row 6 (gr a1 2),ci a0,ci (gi a2 0)]) fun v0=>some (.ret [cb (gb v0 0)])
theorem nC (a0:Int) (a1 a2:List CV):D its (n+1) gE [ci a0,.ref a1,.ref a2]=aJ (gH (D its n) a0 a1 a2):=by kernel_rfl
def rH (M:Den) (b0 b1:Int):Option Ou:=aC (decide (0<=b0)) (aC (decide (b0<=b1)) (some (.ret [cb (decide (b1<=1000000))])) (some (.ret [cb false]))) (some (.ret [cb false]))
theorem BN (b0 b1:Int):D its (n+1) lL [ci b0,ci b1]=aJ (rH (D its n) b0 b1):=by kernel_rfl
def uX (M:Den) (b0 b1 b2:List (List CV)) (c0 c1:Int) (c2:List (List CV)) (c3 c4 c5 c6:Int) (c7:List (List CV)):Option Ou:=aA (M bV ([.row 1 c7,.fn pF ([.ref [.row 8 b0,.row 3 b1,.row 6 b2]])])) fun v0=>some (.ret [cb (!(gb v0 0))])
theorem GG (b0 b1 b2:List (List CV)) (c0 c1:Int) (c2:List (List CV)) (c3 c4 c5 c6:Int) (c7:List (List CV)):D its (n+1) oC [.row 8 b0,.row 3 b1,.row 6 b2,ci c0,ci c1,.row 1 c2,ci c3,ci c4,ci c5,ci c6,.row 1 c7]=aJ (uX (D its n) b0 b1 b2 c0 c1 c2 c3 c4 c5 c6 c7):=by kernel_rfl
def iI (M:Den) (a0:List (List CV)) (a1:CV):Option Ou:=aA (M cQ [.row 1 a0,a1]) fun v0=>some (.ret [cb (decide ((gi v0 0)>=0))])
theorem oQ (a0:List (List CV)) (a1:CV):D its (n+1) bV [.row 1 a0,a1]=aJ (iI (D its n) a0 a1):=by kernel_rfl
def uY (M:Den) (a0:Int):Option Ou:=aA (M cG [ci a0,ci 0,ci 100000]) fun v0=>some (.ret [cb (gb v0 0)])
theorem GH (a0:Int):D its (n+1) dZ [ci a0]=aJ (uY (D its n) a0):=by kernel_rfl
def pH (M:Den) (b0 b1 b2 c0 c1 c2:Int):Option Ou:=aA (M bZ [ci b0,ci c0]) fun v0=>some (.ret [ci (gi v0 0)])
theorem zR (b0 b1 b2 c0 c1 c2:Int):D its (n+1) kG [ci b0,ci b1,ci b2,ci c0,ci c1,ci c2]=aJ (pH (D its n) b0 b1 b2 c0 c1 c2):=by kernel_rfl
def tP (M:Den) (b0 b1 b2:Int) (a1:List CV):Option Ou:=chk (oks [li] a1 0)<|some (.ret [cb (b0 == gi a1 0)])
theorem tQ (b0 b1 b2:Int) (a1:List CV):D its (n+1) kW [ci b0,ci b1,ci b2,.ref a1]=aJ (tP (D its n) b0 b1 b2 a1):=by kernel_rfl
def tJ (M:Den) (a0:List (List CV)):Option Ou:=some (.ret ([.fn kQ ([.ref [.row 1 a0]])]))
theorem tK (a0:List (List CV)):D its (n+1) gA [.row 1 a0]=aJ (tJ (D its n) a0):=by kernel_rfl
end
end
end Go.Proofs.YtgpnoeojpmaeiaaGreat
