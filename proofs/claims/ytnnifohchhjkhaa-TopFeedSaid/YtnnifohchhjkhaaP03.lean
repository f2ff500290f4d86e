/-
 What the beasts of a pound have lU by their pens is what they are charged for, and those who stand in the pens are those who are inside: at every input, without any condition.
-/
import Derived.Laws.CopyRow
import Derived.Laws.MakeOwn
import Derived.WideKeyRuns
import Derived.Test.YtnnifohchhjkhaaP02
namespace Go.Sx
open Go Go.RowKit
variable [G:Ghost]
section
variable {P:Program}
theorem sO {A:Type} (l:List A):∀ (n i:Nat),i<n→(((List.replicate n l).flatten.drop (i*l.length)).take l.length)=l
 | 0,i,h=>by have _:=G;omega
 | n+1,0,_=>by simp [List.replicate_succ]
 | n+1,i+1,h=>by
  have:=sO l n i (by omega)
  rw [List.replicate_succ,List.flatten_cons,Nat.add_mul,Nat.one_mul,Nat.add_comm (i*l.length),← List.drop_drop,List.drop_left]
  exact this
theorem eB (em:Bool):∀ (d:Nat) (T:TypeId) (l:List LK),eqK P d T=some l→∀ (n:Nat) (w:World) (x:Value),d≤n→shp P T x→x.cells.toList.map kOf=l.map some→(Instr.checkKey em n T x).run P w=.ok () w
 | 0,T,l,h=>by simp [eqK] at h
 | d+1,T,l,h=>by
  intro n w x hn sx hx
  obtain ⟨n,rfl⟩:∃ k,n=k+1:=⟨n - 1,by omega⟩
  have hdn:d≤n:=by omega
  unfold eqK at h
  unfold shp at sx
  cases hu:P.underlying T with
  | none=>simp [hu] at h
  | some kd =>
   rw [hu] at sx
   cases kd <;> simp only [hu,reduceCtorEq,Option.some.injEq] at h
   case bool =>
    subst h
    simp only at sx
    rw [sx] at hx
    cases x <;> simp [kOf] at hx
    simp [Instr.checkKey,Sem.run_bind,run_underlying hu]
   case int q =>
    subst h
    simp only at sx
    rw [sx] at hx
    cases x <;> simp [kOf] at hx
    simp [Instr.checkKey,Sem.run_bind,run_underlying hu]
   case array n' e =>
    obtain ⟨xs,rfl⟩:=sx
    split at h
    ·rename_i l1 hl1
     split at h
     ·rename_i hc
      injection h with h
      subst h
      have hsz:=mI (P:=P) (T:=e) (by omega)
      rw [Instr.checkKey]
      simp only [Sem.run_bind,run_underlying hu,Result.andThen_ok]
      simp only [Std.Legacy.Range.forIn_eq_forIn_range',Std.Legacy.Range.size,Nat.sub_zero,Nat.add_one_sub_one,Nat.div_one]
      simp only [Value.cells] at hx
      have each:∀ j∈List.range' 0 n',((xs.toList.drop (j*P.cellsOf e)).take l1.length).map kOf=l1.map some:=by
       intro j hj
       have hjn:j<n':=by simp [List.mem_range'] at hj;omega
       rw [← hc.1,List.map_take,List.map_drop,hx,← List.map_drop,← List.map_take,sO l1 n' j hjn]
      generalize List.range' 0 n'=is at each
      induction is with
      | nil=>simp
      | cons j is ih =>
       obtain ⟨a,p1,p2,p3⟩:=jD hl1 hc.1 hc.2 (each j (by simp)) w
       have p4:=eB em d e l1 hl1 n w a hdn p2 (by rw [p3];exact each j (by simp))
       simp only [List.forIn_cons,Sem.run_bind,hsz,Result.andThen_ok,p1,p4,Sem.run_pure]
       exact ih (fun y hy=>each y (by simp [hy]))
     ·cases h
    ·cases h
   case struct fs =>
    obtain ⟨xs,rfl⟩:=sx
    split at h
    ·cases h
    ·rename_i hs
     rw [Instr.checkKey]
     simp only [Sem.run_bind,run_underlying hu,Result.andThen_ok]
     rw [← Array.forIn_toList]
     simp only [Value.cells] at hx
     have go:∀ (L:List Field) (off:Nat) (l:List LK),QC P (eqK P d) off L=some l→((xs.toList.drop off).take l.length).map kOf=l.map some →
       (forIn L PUnit.unit (fun f _=>do if f.name ≠ "_" then (do Instr.checkKey em n f.type (← part f.type xs f.offset);pure (ForInStep.yield PUnit.unit)) else pure (ForInStep.yield PUnit.unit)):Sem PUnit).run P w=.ok PUnit.unit w:=by
      intro L
      induction L with
      | nil=>intro off l _ _;simp
      | cons f L ih =>
       intro off l h hx
       simp only [QC] at h
       split at h
       ·rename_i hf
        obtain ⟨hnm,rfl⟩:=hf
        split at h
        ·rename_i l1 hl1
         split at h
         ·rename_i hc
          simp only [Option.map_eq_some_iff] at h
          obtain ⟨l2,hl2,rfl⟩:=h
          rw [List.length_append,fJ,List.map_append,List.map_append] at hx
          have hlx:(((xs.toList.drop f.offset).take l1.length).map kOf).length=l1.length:=by
           have h1:=congrArg List.length hx
           simp only [List.length_append,List.length_map,List.length_take,List.length_drop] at h1 ⊢
           omega
          obtain ⟨hx1,hx2⟩:=List.append_inj hx (by rw [hlx];simp)
          obtain ⟨a,p1,p2,p3⟩:=jD hl1 hc.1 hc.2 hx1 w
          have p4:=eB em d f.type l1 hl1 n w a hdn p2 (by rw [p3];exact hx1)
          simp only [List.forIn_cons,Sem.run_bind,hnm,ne_eq,not_false_eq_true,if_true,Result.andThen_ok,p1,p4,Sem.run_pure]
          exact ih (f.offset+l1.length) l2 hl2 hx2
         ·cases h
        ·cases h
       ·cases h
     have hlx:xs.toList.length=l.length:=by have:=congrArg List.length hx;simpa using this
     have tx:(xs.toList.drop 0).take l.length=xs.toList:=by rw [List.drop_zero,← hlx,List.take_length]
     have:=go fs.toList 0 l h (by rw [tx];exact hx)
     simp only [ne_eq,ite_not,bind_pure_comp] at this ⊢
     simp at this ⊢
     rw [this]
     rfl
def pA (key:List Value):List MapEntry→Nat→Option (Nat×Value)
 | [],_=>none
 | m::ms,i=>if eqB key m.key.cells.toList=true then some (i,m.val) else pA key ms (i+1)
theorem jQ {T:TypeId} {l:List LK} (hk:eqK P 100 T=some l) {key:Value} (sk:shp P T key) (hkey:key.cells.toList.map kOf=l.map some) (es:List MapEntry)
  (hes:∀ m∈es,shp P T m.key∧m.key.cells.toList.map kOf=l.map some) (w:World):(Instr.findKey T key es).run P w=.ok (pA key.cells.toList es 0) w:=by
 have asking:∀ (es:List MapEntry) (i:Nat),(∀ m∈es,shp P T m.key∧m.key.cells.toList.map kOf=l.map some)→(Instr.findAsking T key es i).run P w=.ok (pA key.cells.toList es i) w:=by
  intro es
  induction es with
  | nil=>intro i _;simp [Instr.findAsking,pA]
  | cons m ms ih =>
   intro i h
   obtain ⟨s1,s2⟩:=h m (by simp)
   have hE:(Op.equal T key m.key).run P w=.ok (eqB key.cells.toList m.key.cells.toList) w:=rK 100 9900 T l hk w key m.key sk s1 hkey s2
   rw [Instr.findAsking]
   simp only [Sem.run_bind,hE,Result.andThen_ok,pA]
   cases eqB key.cells.toList m.key.cells.toList with
   | true=>simp
   | false=>simpa using ih (i+1) fun m hm=>h m (by simp [hm])
 have hk0:=hk
 unfold eqK at hk
 cases hu:P.underlying T with
 | none=>simp [hu] at hk
 | some kd =>
  unfold shp at sk
  rw [hu] at sk
  cases kd <;> simp only [hu,reduceCtorEq,Option.some.injEq] at hk
  case array n e=>exact (run_findKey_eq w (k:=T) (by rw [hu]) key es).trans (asking es 0 hes)
  case struct fs=>exact (run_findKey_eq w (k:=T) (by rw [hu]) key es).trans (asking es 0 hes)
  case bool =>
   subst hk
   simp only at sk
   rw [sk] at hkey
   cases key <;> simp [kOf] at hkey
   rename_i b
   have now:∀ (es:List MapEntry) (i:Nat),(∀ m∈es,shp P T m.key∧m.key.cells.toList.map kOf=[some LK.bool])→Instr.findNow .bool (.bool b) es i=some (pA [.bool b] es i):=by
    intro es
    induction es with
    | nil=>intro i _;rfl
    | cons m ms ih =>
     intro i h
     obtain ⟨s1,s2⟩:=h m (by simp)
     unfold shp at s1
     rw [hu] at s1
     simp only at s1
     obtain ⟨mk,mv,mb⟩:=m
     simp only at s1 s2
     rw [s1] at s2
     cases mk <;> simp [kOf] at s2
     rename_i c
     simp only [Instr.findNow,Instr.sameNow,pA,Value.cells,eqB,vEq,Bool.and_true]
     cases hbc:(b == c) with
     | true=>simp
     | false=>simpa using ih (i+1) fun m hm=>h m (by simp [hm])
   simp only [Instr.findKey,Sem.run_bind,run_underlying hu,Result.andThen_ok]
   rw [now es 0 (by simpa using hes)]
   simp [Value.cells]
  case int q =>
   subst hk
   simp only at sk
   rw [sk] at hkey
   cases key <;> simp [kOf] at hkey
   rename_i q' a
   subst hkey
   have now:∀ (es:List MapEntry) (i:Nat),(∀ m∈es,shp P T m.key∧m.key.cells.toList.map kOf=[some (LK.int q')])→Instr.findNow (.int q') (.int q' a) es i=some (pA [.int q' a] es i):=by
    intro es
    induction es with
    | nil=>intro i _;rfl
    | cons m ms ih =>
     intro i h
     obtain ⟨s1,s2⟩:=h m (by simp)
     unfold shp at s1
     rw [hu] at s1
     simp only at s1
     obtain ⟨mk,mv,mb⟩:=m
     simp only at s1 s2
     rw [s1] at s2
     cases mk <;> simp [kOf] at s2
     rename_i q2 c
     subst s2
     simp only [Instr.findNow,Instr.sameNow,pA,Value.cells,eqB,vEq,Bool.and_true,if_true]
     cases hbc:(a == c) with
     | true=>simp
     | false=>simpa using ih (i+1) fun m hm=>h m (by simp [hm])
   simp only [Instr.findKey,Sem.run_bind,run_underlying hu,Result.andThen_ok]
   rw [now es 0 (by simpa using hes)]
   simp [Value.cells]
theorem MC:∀ {xs ys:List Value} {l:List LK},xs.map kOf=l.map some→ys.map kOf=l.map some→eqB xs ys=true→xs=ys
 | [],[],l,_,_,_=>have _:=G;rfl
 | [],y::ys,l,hx,hy,_=>by have h1:=congrArg List.length hx;have h2:=congrArg List.length hy;simp at h1 h2;omega
 | x::xs,[],l,hx,hy,_=>by have h1:=congrArg List.length hx;have h2:=congrArg List.length hy;simp at h1 h2;omega
 | x::xs,y::ys,[],hx,hy,_=>by simp at hx
 | x::xs,y::ys,q::l,hx,hy,h=>by
  simp only [List.map_cons,List.cons.injEq] at hx hy
  simp only [eqB,Bool.and_eq_true] at h
  rw [MC hx.2 hy.2 h.2]
  congr 1
  have h1:=hx.1
  have h2:=hy.1
  have h3:=h.1
  clear hx hy h
  cases x <;> simp [kOf] at h1
  ·subst h1
   cases y <;> simp [kOf] at h2
   simp_all [vEq]
  ·subst h1
   cases y <;> simp [kOf] at h2
   simp_all [vEq]
theorem CF {x:Value} {l:List LK} {T:TypeId} (s:shp P T x) (h:x.cells.toList.map kOf=l.map some):Instr.sameBits 10000 x x=true:=by
 have _:=G
 have one:∀ (n:Nat) (y:Value) (q:LK),kOf y=some q→Instr.sameBits n y y=true:=by
  intro n y q h
  cases y <;> simp [kOf] at h <;> cases n <;> simp [Instr.sameBits]
 cases x with
 | agg xs =>
  simp only [Value.cells] at h
  rw [show (10000:Nat)=9999+1 from rfl,Instr.sameBits]
  simp only [BEq.rfl,Bool.true_and]
  have:∀ (ys:List Value) (l:List LK),ys.map kOf=l.map some→((ys.zip ys).all fun (x,y)=>Instr.sameBits 9999 x y)=true:=by
   intro ys
   induction ys with
   | nil=>intro l _;rfl
   | cons y ys ih =>
    intro l h
    cases l with
    | nil=>simp at h
    | cons q l =>
     simp only [List.map_cons,List.cons.injEq] at h
     simp only [List.zip_cons_cons,List.all_cons,Bool.and_eq_true]
     exact ⟨one _ _ _ h.1,ih l h.2⟩
  exact this _ _ h
 | _ =>
  cases l with
  | nil=>simp [Value.cells] at h
  | cons q l=>simp [Value.cells,kOf] at h <;> exact one _ _ q (by simp [kOf,h])
end
end Go.Sx
namespace Go.Sx
open Go Go.RowKit
variable [G:Ghost]
def cvV:CV→Value
 | .val v=>v
 | _=>undef
def kC:CV→Option LK
 | .val v=>kOf v
 | _=>none
structure MI where
 kT:TypeId
 eT:TypeId
 kl:List LK
 vl:LK
 z:Value
def aEn (P:Program) (k:TypeId):Bool:=match P.underlying k with
 | some (.struct _)=>true
 | some (.array _ _)=>true
 | _=>false
def gD (P:Program) (T:TypeId):Option MI:=match P.underlying T with
 | some (.map k e)=>match eqK P 100 k,P.info? e with
  | some kl,some i=>match i.zero with
   | some z=>match kOf z with
    | some vl=>if (aEn P k == (kl.length != 1)&&kl.length != 0&&decide (T<aI))=true then some ⟨k,e,kl,vl,z⟩ else none
    | none=>none
   | none=>none
  | _,_=>none
 | _=>none
def MI.tag (m:MI) (T:TypeId):Nat:=aI*(m.kl.length+1)+T
def okE (m:MI) (e:List CV):Bool:=e.map kC == (m.kl++[m.vl]).map some
def gZ (m:MI) (ks:List CV):Bool:=ks.map kC == m.kl.map some
def bD (kn:Nat) (key:List CV):List (List CV)→Nat
 | []=>0
 | e::es=>if eqB (key.map cvV) ((e.take kn).map cvV)=true then 0 else bD kn key es+1
def bO (kn:Nat) (key:List CV) (z:Value) (es:List (List CV)):CV:=(es.getD (bD kn key es) []).getD kn (.val z)
def mG (kn:Nat) (key:List CV) (z:Value) (es:List (List CV)):List (List CV):=if bD kn key es<es.length then es else es++[key++[.val z]]
def jY (kn:Nat) (e:List CV) (i:Nat):MapEntry:={ key:=mkV ((e.map cvV).take kn),val:=mkV ((e.map cvV).drop kn),born:=i }
def aF (kn:Nat):List (List CV)→Nat→List MapEntry
 | [],_=>[]
 | e::es,i=>jY kn e i::aF kn es (i+1)
theorem fL (kn:Nat):∀ (es:List (List CV)) (i:Nat),(aF kn es i).length=es.length
 | [],_=>have _:=G;rfl
 | e::es,i=>by simp [aF,fL kn es]
theorem bQ (kn:Nat):∀ (es:List (List CV)) (i j:Nat),(aF kn es i)[j]? = (es[j]?).map fun e=>jY kn e (i+j)
 | [],_,_=>have _:=G;rfl
 | e::es,i,0=>by simp [aF]
 | e::es,i,j+1=>by simp only [aF,List.getElem?_cons_succ,bQ kn es (i+1) j];rw [show i+1+j=i+(j+1) by omega]
theorem lL (kn:Nat):∀ (es es':List (List CV)) (i:Nat),aF kn (es++es') i=aF kn es i++aF kn es' (i+es.length)
 | [],es',i=>by have _:=G;simp [aF]
 | e::es,es',i=>by simp only [List.cons_append,aF,lL kn es es' (i+1),List.length_cons];rw [show i+1+es.length=i+(es.length+1) by omega]
section
variable {P:Program} {T:TypeId} {mi:MI}
theorem dB (h:gD P T=some mi):P.underlying T=some (.map mi.kT mi.eT)∧eqK P 100 mi.kT=some mi.kl∧(∃ i,P.info? mi.eT=some i∧i.zero=some mi.z)∧kOf mi.z=some mi.vl∧(aEn P mi.kT=true↔mi.kl.length≠1)∧mi.kl.length≠0∧T<aI:=by
 have _:=G
 unfold gD at h
 split at h
 ·rename_i k e hu
  split at h
  ·rename_i kl i hk hi
   split at h
   ·rename_i z hz
    split at h
    ·rename_i vl hv
     split at h
     ·rename_i hc
      cases h
      simp only [Bool.and_eq_true,beq_iff_eq,bne_iff_ne,decide_eq_true_eq] at hc
      refine ⟨hu,hk,⟨i,hi,hz⟩,hv,?_,hc.1.2,hc.2⟩
      rw [hc.1.1]
      simp
     ·cases h
    ·cases h
   ·cases h
  ·cases h
 ·cases h
theorem MI.tag_div (h:T<aI):mi.tag T / aI - 1=mi.kl.length:=by
 have _:=G
 unfold MI.tag
 have:(aI*(mi.kl.length+1)+T) / aI=mi.kl.length+1:=by
  rw [Nat.mul_add_div (by decide),Nat.div_eq_of_lt h,Nat.add_zero]
 rw [this];rfl
theorem MI.tag_lt (h:mi.kl.length≠0):aI<mi.tag T:=by
 have _:=G
 unfold MI.tag
 have:aI*2≤aI*(mi.kl.length+1):=Nat.mul_le_mul_left _ (by omega)
 have:aI=1048576:=rfl
 omega
theorem MI.tag_le:aI≤mi.tag T:=by
 have _:=G
 unfold MI.tag
 have:aI*1≤aI*(mi.kl.length+1):=Nat.mul_le_mul_left _ (by omega)
 omega
theorem wX {v:Value} {q:LK} (h:kOf v=some q):v.cells.toList=[v]:=by have _:=G;cases v <;> simp [kOf] at h <;> rfl
theorem nE {xs:List Value} {l:List LK} (h:xs.map kOf=l.map some):(mkV xs).cells.toList=xs:=by
 match xs,l,h with
 | [],_,_=>rfl
 | [x],l,h =>
  cases l with
  | nil=>simp at h
  | cons q l=>simp at h;exact wX h.1
 | x::y::r,_,_=>rfl
theorem mK (h:gD P T=some mi) {xs:List Value} (hx:xs.map kOf=mi.kl.map some):shp P mi.kT (mkV xs):=by
 obtain ⟨_,hk,_,_,h1,h2,_⟩:=dB h
 have hlen:xs.length=mi.kl.length:=by have:=congrArg List.length hx;simpa using this
 unfold shp
 unfold aEn at h1
 unfold eqK at hk
 cases hu:P.underlying mi.kT with
 | none=>simp [hu] at hk
 | some kd =>
  rw [hu] at h1
  have agg:mi.kl.length≠1→∃ a,mkV xs=.agg a:=by
   intro hne
   match xs with
   | []=>exact ⟨_,rfl⟩
   | [x]=>simp at hlen;omega
   | x::y::r=>exact ⟨_,rfl⟩
  cases kd <;> simp only [hu,reduceCtorEq,Option.some.injEq] at hk
  case bool=>rw [← hk] at hx;exact (by
   match xs,hx with
   | [x],hx=>simp at hx;exact wX hx
   | x::y::r,hx=>simp at hx)
  case int q=>rw [← hk] at hx;exact (by
   match xs,hx with
   | [x],hx=>simp at hx;exact wX hx
   | x::y::r,hx=>simp at hx)
  case array n e=>exact agg (h1.1 rfl)
  case struct fs=>exact agg (h1.1 rfl)
theorem oK {c:CV} {q:LK} (h:kC c=some q):c=.val (cvV c)∧kOf (cvV c)=some q:=by
 have _:=G
 cases c <;> simp [kC] at h
 exact ⟨rfl,h⟩
theorem wY {cs:List CV} {l:List LK} (h:cs.map kC=l.map some):(cs.map cvV).map kOf=l.map some∧cs=(cs.map cvV).map .val:=by
 induction cs generalizing l with
 | nil=>cases l <;> simp_all
 | cons c cs ih =>
  cases l with
  | nil=>simp at h
  | cons q l =>
   simp only [List.map_cons,List.cons.injEq] at h ⊢
   obtain ⟨h1,h2⟩:=oK h.1
   obtain ⟨h3,h4⟩:=ih h.2
   exact ⟨⟨h2,h3⟩,h1,h4⟩
theorem JC {w:World} {S:Nat→Prop}:∀ {cs:List CV} {xs:List Value},(∀ c∈cs,(kC c).isSome=true)→CV.vals w S cs xs→xs=cs.map cvV
 | [],[],_,_=>rfl
 | c::cs,x::xs,h,hv=>by
  simp only [CV.vals] at hv
  have h1:=h c (by simp)
  cases hk:kC c with
  | none=>rw [hk] at h1;cases h1
  | some q =>
   obtain ⟨e,_⟩:=oK hk
   rw [e] at hv
   simp only [CV.holds] at hv
   rw [List.map_cons,JC (fun c hc=>h c (by simp [hc])) hv.2,← hv.1.1]
 | [],_::_,_,hv=>by simp [CV.vals] at hv
 | _::_,[],_,hv=>by simp [CV.vals] at hv
theorem AX {v:Value} {q:LK} (h:kOf v=some q):v.oneCell'=true:=by have _:=G;cases v <;> simp [kOf] at h <;> rfl
theorem CG {w:World} {S:Nat→Prop}:∀ {cs:List CV},(∀ c∈cs,(kC c).isSome=true)→CV.vals w S cs (cs.map cvV)
 | [],_=>by simp [CV.vals]
 | c::cs,h=>by
  have h1:=h c (by simp)
  cases hk:kC c with
  | none=>rw [hk] at h1;cases h1
  | some q =>
   obtain ⟨e,hq⟩:=oK hk
   simp only [List.map_cons,CV.vals]
   refine ⟨?_,CG fun c hc=>h c (by simp [hc])⟩
   rw [e]
   simp only [CV.holds,cvV]
   exact ⟨trivial,AX hq⟩
theorem gH {e:List CV} (h:okE mi e=true):e.length=mi.kl.length+1∧((e.take mi.kl.length).map kC=mi.kl.map some)∧kC (e.getD mi.kl.length (.val mi.z))=some mi.vl∧(e.drop mi.kl.length=[e.getD mi.kl.length (.val mi.z)])∧∀ c∈e,(kC c).isSome=true:=by
 have _:=G
 unfold okE at h
 simp only [beq_iff_eq] at h
 have hlen:e.length=mi.kl.length+1:=by have:=congrArg List.length h;simpa using this
 have h1:(e.take mi.kl.length).map kC=mi.kl.map some:=by rw [List.map_take,h];simp
 have h2:(e.drop mi.kl.length).map kC=[some mi.vl]:=by rw [List.map_drop,h];simp
 have h3:∃ c,e.drop mi.kl.length=[c]:=by
  match hd:e.drop mi.kl.length with
  | []=>rw [hd] at h2;simp at h2
  | [c]=>exact ⟨c,rfl⟩
  | a::b::r=>rw [hd] at h2;simp at h2
 obtain ⟨c,hc⟩:=h3
 have h4:e.getD mi.kl.length (.val mi.z)=c:=by
  have:e[mi.kl.length]? = some c:=by rw [← List.head?_drop,hc];rfl
  simp [List.getD,this]
 refine ⟨hlen,h1,?_,by rw [h4,hc],fun c hc=>?_⟩
 ·rw [h4];rw [hc] at h2;simpa using h2
 ·have:kC c∈e.map kC:=List.mem_map.2 ⟨c,hc,rfl⟩
  rw [h] at this
  obtain ⟨q,_,hq⟩:=List.mem_map.1 this
  rw [← hq];rfl
theorem pZ {A:Type} {k:Nat}:∀ (es:List (List A)) (i:Nat),(∀ l∈es,l.length=k)→i<es.length→(es.flatten.drop (i*k)).take k=es.getD i []
 | [],i,_,h=>by have _:=G;simp at h
 | e::es,0,hk,_=>by simp [← hk e (by simp)]
 | e::es,i+1,hk,h=>by
  have:=pZ es i (fun l hl=>hk l (by simp [hl])) (by simpa using h)
  rw [List.flatten_cons,Nat.add_mul,Nat.one_mul,Nat.add_comm (i*k),← List.drop_drop]
  rw [show (e++es.flatten).drop k=es.flatten by rw [← hk e (by simp)];exact List.drop_left]
  simpa using this
theorem OwnsM.get (hm:gD P T=some mi) {w:World} {n0:Nat} {S:Nat→Prop} {v:Value} {es:List (List CV)} {xs:List Value} (h:OwnsM w n0 (mi.tag T) (mi.kl.length+1) v es.length xs) (hv:CV.vals w S es.flatten xs) (hok:es.all (okE mi)=true) :
  ∃ b,v=.map (some b)∧n0≤b∧w.heap[b]? = some (.map (aF mi.kl.length es 0).toArray es.length):=by
 obtain ⟨_,b,arr,h1,h2,h3,h4,h5,h6⟩:=h
 have hT:=(dB hm).2.2.2.2.2.2
 rw [MI.tag_div hT] at h6
 rw [List.all_eq_true] at hok
 have hlen:∀ l∈es,l.length=mi.kl.length+1:=fun l hl=>(gH (hok l hl)).1
 have hxs:xs=es.flatten.map cvV:=JC (fun c hc=>by
  obtain ⟨l,hl,hc⟩:=List.mem_flatten.1 hc
  exact (gH (hok l hl)).2.2.2.2 c hc) hv
 refine ⟨b,h1,h2,?_⟩
 rw [h3]
 congr 2
 apply Array.ext_getElem?
 intro i
 by_cases hi:i<es.length
 ·rw [h6 i hi]
  have hg:es[i]? = some (es.getD i []):=by simp [List.getD,hi]
  simp only [List.getElem?_toArray,bQ,hg,Option.map_some,jY,Nat.zero_add]
  have hseg:=pZ es i hlen hi
  have e1:(xs.drop (i*(mi.kl.length+1))).take (mi.kl.length+1)=(es.getD i []).map cvV:=by
   rw [hxs,← List.map_drop,← List.map_take,hseg]
  have e2:(xs.drop (i*(mi.kl.length+1))).take mi.kl.length=((es.getD i []).map cvV).take mi.kl.length:=by
   rw [← e1,List.take_take,Nat.min_eq_left (by omega)]
  rw [e1,e2]
 ·rw [Array.getElem?_eq_none (by omega)]
  have hg:es[i]? = none:=by simp;omega
  simp [bQ,hg]
theorem OwnsM.of (hm:gD P T=some mi) {w:World} {n0 b:Nat} {es:List (List CV)} (hb:n0≤b) (hok:es.all (okE mi)=true) (h:w.heap[b]? = some (.map (aF mi.kl.length es 0).toArray es.length)) :
  OwnsM w n0 (mi.tag T) (mi.kl.length+1) (.map (some b)) es.length (es.flatten.map cvV):=by
 have hT:=(dB hm).2.2.2.2.2.2
 rw [List.all_eq_true] at hok
 have hlen:∀ l∈es,l.length=mi.kl.length+1:=fun l hl=>(gH (hok l hl)).1
 refine ⟨MI.tag_lt (dB hm).2.2.2.2.2.1,b,_,rfl,hb,h,by simp [fL],?_,fun i hi=>?_⟩
 ·rw [List.length_map]
  clear hok h
  induction es with
  | nil=>simp
  | cons e es ih=>rw [List.flatten_cons,List.length_append,ih fun l hl=>hlen l (by simp [hl]),hlen e (by simp),List.length_cons,Nat.add_mul,Nat.one_mul];omega
 ·rw [MI.tag_div hT]
  have hg:es[i]? = some (es.getD i []):=by simp [List.getD,hi]
  have hseg:=pZ es i hlen hi
  have e1:((es.flatten.map cvV).drop (i*(mi.kl.length+1))).take (mi.kl.length+1)=(es.getD i []).map cvV:=by
   rw [← List.map_drop,← List.map_take,hseg]
  have e2:((es.flatten.map cvV).drop (i*(mi.kl.length+1))).take mi.kl.length=((es.getD i []).map cvV).take mi.kl.length:=by
   rw [← e1,List.take_take,Nat.min_eq_left (by omega)]
  simp only [List.getElem?_toArray,bQ,hg,Option.map_some,jY,Nat.zero_add,e1,e2]
theorem nF {e:List CV} (h:okE mi e=true) (i:Nat):(jY mi.kl.length e i).key.cells.toList=(e.take mi.kl.length).map cvV∧((e.take mi.kl.length).map cvV).map kOf=mi.kl.map some:=by
 obtain ⟨_,h1,_⟩:=gH h
 obtain ⟨h2,_⟩:=wY h1
 simp only [jY,← List.map_take]
 exact ⟨nE h2,h2⟩
theorem ZZ {e:List CV} (h:okE mi e=true) (i:Nat):(jY mi.kl.length e i).val=cvV (e.getD mi.kl.length (.val mi.z)):=by
 obtain ⟨_,_,_,h1,_⟩:=gH h
 simp only [jY,← List.map_drop,h1,List.map_cons,List.map_nil,mkV]
theorem nG {key:List CV}:∀ (es:List (List CV)) (i:Nat),es.all (okE mi)=true →
  pA (key.map cvV) (aF mi.kl.length es i) i=if bD mi.kl.length key es<es.length then some (i+bD mi.kl.length key es,cvV (bO mi.kl.length key mi.z es)) else none
 | [],i,_=>by simp [aF,pA,bD]
 | e::es,i,h=>by
  simp only [List.all_cons,Bool.and_eq_true] at h
  simp only [aF,pA,bD,(nF h.1 i).1]
  split
  ·rename_i he
   simp only [bO,bD,if_pos he,ZZ h.1,List.getD_cons_zero]
   simp
  ·rename_i he
   rw [nG es (i+1) h.2]
   simp only [bO,bD,if_neg he,List.length_cons,List.getD_cons_succ]
   by_cases hp:bD mi.kl.length key es<es.length
   ·rw [if_pos hp,if_pos (by omega)]
    congr 2
    omega
   ·rw [if_neg hp,if_neg (by omega)]
theorem TW {kn:Nat} {key:List CV}:∀ (es:List (List CV)),bD kn key es≤es.length
 | []=>by have _:=G;simp [bD]
 | e::es=>by
  simp only [bD,List.length_cons]
  split
  ·omega
  ·have:=TW (kn:=kn) (key:=key) es;omega
theorem JD {key:List CV} (hk:gZ mi key=true):∀ {es:List (List CV)},es.all (okE mi)=true→bD mi.kl.length key es<es.length→((es.getD (bD mi.kl.length key es) []).take mi.kl.length).map cvV=key.map cvV
 | [],_,h=>by simp at h
 | e::es,hok,h=>by
  simp only [List.all_cons,Bool.and_eq_true] at hok
  simp only [bD] at h ⊢
  split
  ·rename_i he
   simp only [List.getD_cons_zero]
   unfold gZ at hk
   exact (MC (wY (beq_iff_eq.1 hk)).1 (nF hok.1 0).2 he).symm
  ·rename_i he
   rw [if_neg he] at h
   simp only [List.getD_cons_succ]
   exact JD hk hok.2 (by simpa using h)
end
end Go.Sx
namespace Go.Sx
open Go Go.RowKit
variable [G:Ghost]
section
variable {P:Program} {T:TypeId} {mi:MI}
theorem gT {w:World} {b:Nat} {arr:Array MapEntry} {n:Nat} (h:w.heap[b]? = some (.map arr n)):(getObj b).run P w=.ok (.map arr n) w:=by
 have _:=G
 simp [getObj,Sem.run,h]
theorem lM {w:World} {b:Nat} {arr:Array MapEntry} {n:Nat} {o:Obj} (hb:w.heap[b]? = some (.map arr n)):(setObj b o).run P w=.ok () (w.putObj b o):=by
 have _:=G
 simp [setObj,Sem.run,World.putObj,hb]
theorem wZ (h:gD P T=some mi) (w:World):(zeroValue mi.eT).run P w=.ok mi.z w:=by
 obtain ⟨_,_,⟨i,h1,h2⟩,_⟩:=dB h
 simp [zeroValue,typeInfo,Sem.run_bind,h1,h2]
def iY (mi:MI) (x:AV):Option (List CV):=match x with
 | .cv c=>if mi.kl.length=1 then some [c] else none
 | .agg xs=>if mi.kl.length≠1 then cV xs else none
 | _=>none
theorem AY {e:Env} {w:World} {ks:List Nat} {x:AV} {cs:List CV} {v:Value} (h:iY mi x=some cs) (hk:gZ mi cs=true) (hv:AV.holds e w ks x v):v=mkV (cs.map cvV):=by
 unfold gZ at hk
 have hk:=beq_iff_eq.1 hk
 have hlen:cs.length=mi.kl.length:=by have:=congrArg List.length hk;simpa using this
 have hsome:∀ c∈cs,(kC c).isSome=true:=by
  intro c hc
  have:kC c∈cs.map kC:=List.mem_map.2 ⟨c,hc,rfl⟩
  rw [hk] at this
  obtain ⟨q,_,hq⟩:=List.mem_map.1 this
  rw [← hq];rfl
 unfold iY at h
 split at h
 ·rename_i c
  split at h
  ·cases h
   simp only [AV.holds] at hv
   have:=hsome c (by simp)
   cases hq:kC c with
   | none=>rw [hq] at this;cases this
   | some q =>
    obtain ⟨h1,_⟩:=oK hq
    rw [h1] at hv
    simp only [CV.holds] at hv
    rw [List.map_singleton,mkV,hv.1]
  ·cases h
 ·rename_i xs
  split at h
  ·rename_i hne
   simp only [AV.holds] at hv
   obtain ⟨vs,rfl,hall⟩:=hv
   rw [gG h] at hall
   have h1:=JC hsome (fK hall)
   have:vs=(cs.map cvV).toArray:=by rw [← h1]
   rw [this]
   match cs,hlen with
   | [],_=>rfl
   | [c],hl=>simp at hl;exact absurd hl.symm hne
   | a::b::r,_=>rfl
  ·cases h
 ·cases h
theorem CH (hm:gD P T=some mi) {w:World} {b:Nat} {es:List (List CV)} {cs:List CV} (hh:w.heap[b]? = some (.map (aF mi.kl.length es 0).toArray es.length)) (hok:es.all (okE mi)=true) (hk:gZ mi cs=true) :
  (Instr.lookup T (.map (some b)) (mkV (cs.map cvV)) false).run P w=.ok (cvV (bO mi.kl.length cs mi.z es)) w:=by
 obtain ⟨hu,he,_⟩:=dB hm
 have hkk:=(wY (beq_iff_eq.1 hk)).1
 have hs:=mK hm hkk
 have hc:=nE hkk
 have hck:=eB (P:=P) (es.isEmpty) 100 mi.kT mi.kl he 10000 w _ (by omega) hs (by rw [hc];exact hkk)
 have hall:∀ m∈aF mi.kl.length es 0,shp P mi.kT m.key∧m.key.cells.toList.map kOf=mi.kl.map some:=by
  intro m hm'
  obtain ⟨j,hj,rfl⟩:=List.mem_iff_getElem.1 hm'
  have hg:=bQ mi.kl.length es 0 j
  rw [List.getElem?_eq_getElem hj] at hg
  cases hes:es[j]? with
  | none=>rw [hes] at hg;cases hg
  | some e =>
   rw [hes] at hg
   injection hg with hg
   rw [hg]
   have hoe:okE mi e=true:=List.all_eq_true.1 hok e (List.mem_of_getElem? hes)
   obtain ⟨k1,k2⟩:=nF hoe (0+j)
   refine ⟨?_,by rw [k1];exact k2⟩
   have:=mK hm k2
   simpa [jY,List.map_take] using this
 have hf:=jQ he hs (by rw [hc];exact hkk) (aF mi.kl.length es 0) hall w
 rw [hc,nG es 0 hok] at hf
 have hemp:(aF mi.kl.length es 0).toArray.isEmpty=es.isEmpty:=by cases es <;> simp [aF]
 simp only [Instr.lookup,Sem.run_bind,run_underlying hu,Result.andThen_ok,gT hh,Sem.run_pure,hemp,hck,hf]
 by_cases hp:bD mi.kl.length cs es<es.length
 ·simp [if_pos hp]
 ·have hz:bO mi.kl.length cs mi.z es=.val mi.z:=by
   unfold bO
   have:es[bD mi.kl.length cs es]? = none:=by simp;omega
   simp [List.getD,this]
  simp [if_neg hp,Sem.run_bind,wZ hm,hz,cvV]
theorem xC (hm:gD P T=some mi) {w:World} {b:Nat} {es:List (List CV)} {cs:List CV} (hh:w.heap[b]? = some (.map (aF mi.kl.length es 0).toArray es.length)) (hok:es.all (okE mi)=true) (hk:gZ mi cs=true) :
  ∃ w',(Instr.mapEntry T (.map (some b)) (mkV (cs.map cvV))).run P w=.ok (.tuple #[cvV (bO mi.kl.length cs mi.z es),goInt (bD mi.kl.length cs es)]) w'∧w.grownBy w' (some b) ∧
   w'.heap[b]? = some (.map (aF mi.kl.length (mG mi.kl.length cs mi.z es) 0).toArray (mG mi.kl.length cs mi.z es).length):=by
 obtain ⟨hu,he,_⟩:=dB hm
 have hkk:=(wY (beq_iff_eq.1 hk)).1
 have hs:=mK hm hkk
 have hc:=nE hkk
 have hblt:b<w.heap.size:=(Array.getElem?_eq_some_iff.1 hh).1
 have hck:=eB (P:=P) false 100 mi.kT mi.kl he 10000 w _ (by omega) hs (by rw [hc];exact hkk)
 have hall:∀ m∈aF mi.kl.length es 0,shp P mi.kT m.key∧m.key.cells.toList.map kOf=mi.kl.map some:=by
  intro m hm'
  obtain ⟨j,hj,rfl⟩:=List.mem_iff_getElem.1 hm'
  have hg:=bQ mi.kl.length es 0 j
  rw [List.getElem?_eq_getElem hj] at hg
  cases hes:es[j]? with
  | none=>rw [hes] at hg;cases hg
  | some e =>
   rw [hes] at hg
   injection hg with hg
   rw [hg]
   have hoe:okE mi e=true:=List.all_eq_true.1 hok e (List.mem_of_getElem? hes)
   obtain ⟨k1,k2⟩:=nF hoe (0+j)
   refine ⟨?_,by rw [k1];exact k2⟩
   have:=mK hm k2
   simpa [jY,List.map_take] using this
 have hf:=jQ he hs (by rw [hc];exact hkk) (aF mi.kl.length es 0) hall w
 rw [hc,nG es 0 hok] at hf
 by_cases hp:bD mi.kl.length cs es<es.length
 ·rw [if_pos hp] at hf
  have hent:mG mi.kl.length cs mi.z es=es:=by unfold mG;rw [if_pos hp]
  have hg:es[bD mi.kl.length cs es]? = some (es.getD (bD mi.kl.length cs es) []):=by simp [List.getD,hp]
  have hge:((aF mi.kl.length es 0).toArray)[bD mi.kl.length cs es]? = some (jY mi.kl.length (es.getD (bD mi.kl.length cs es) []) (bD mi.kl.length cs es)):=by
   simp only [List.getElem?_toArray,bQ,hg,Option.map_some,Nat.zero_add]
  have hkey:(jY mi.kl.length (es.getD (bD mi.kl.length cs es) []) (bD mi.kl.length cs es)).key=mkV (cs.map cvV):=by
   have:=JD hk hok hp
   simp only [jY,← List.map_take,this]
  have hmod:(aF mi.kl.length es 0).toArray.modify (bD mi.kl.length cs es) (fun e=>{ e with key:=mkV (cs.map cvV) })=(aF mi.kl.length es 0).toArray:=by
   apply Array.ext_getElem?
   intro j
   rw [Array.getElem?_modify]
   split
   ·rename_i hj
    subst hj
    rw [hge,Option.map_some,← hkey]
   ·rfl
  have hsb:=CF hs (by rw [hc];exact hkk)
  refine ⟨w.putObj b (.map (aF mi.kl.length es 0).toArray es.length),?_,grownBy_putObj' w b _,?_⟩
  ·simp only [Instr.mapEntry,Sem.run_bind,run_underlying hu,Result.andThen_ok,gT hh,hck,hf,Nat.zero_add,hge,Option.map_some,Option.getD_some,hkey,Instr.keyThatStays,hsb,if_true,Sem.run_pure,hmod,lM hh]
   rfl
  ·rw [hent];exact World.putObj_heap_same hblt
 ·rw [if_neg hp] at hf
  have hent:mG mi.kl.length cs mi.z es=es++[cs++[.val mi.z]]:=by unfold mG;rw [if_neg hp]
  have hpe:bD mi.kl.length cs es=es.length:=Nat.le_antisymm (TW es) (Nat.not_lt.1 hp)
  have hz:bO mi.kl.length cs mi.z es=.val mi.z:=by
   unfold bO
   have:es[bD mi.kl.length cs es]? = none:=by simp;omega
   simp [List.getD,this]
  have hcl:cs.length=mi.kl.length:=by have:=congrArg List.length (beq_iff_eq.1 hk);simpa using this
  have hpush:(aF mi.kl.length es 0).toArray.push { key:=mkV (cs.map cvV),val:=mi.z,born:=es.length }=(aF mi.kl.length (es++[cs++[.val mi.z]]) 0).toArray:=by
   rw [lL]
   simp only [aF,jY,Nat.zero_add,List.map_append,List.map_cons,List.map_nil,cvV]
   rw [← List.length_map cvV] at hcl
   rw [← hcl,List.take_left,List.drop_left]
   simp [mkV]
  refine ⟨w.putObj b (.map ((aF mi.kl.length es 0).toArray.push { key:=mkV (cs.map cvV),val:=mi.z,born:=es.length }) (es.length+1)),?_,grownBy_putObj' w b _,?_⟩
  ·simp only [Instr.mapEntry,Sem.run_bind,run_underlying hu,Result.andThen_ok,gT hh,hck,hf,wZ hm,lM hh,Sem.run_pure,hz,hpe,cvV]
  ·rw [hent,World.putObj_heap_same hblt,hpush];simp
theorem tJ (hm:gD P T=some mi) {w:World} {b:Nat} {es:List (List CV)} {q:IntKind} {c:Int} {x:CV} (hh:w.heap[b]? = some (.map (aF mi.kl.length es 0).toArray es.length)) (hok:es.all (okE mi)=true) (h0:0≤c) (hc:c.toNat<es.length) :
  ∃ w',(Instr.entryStore T (.map (some b)) (.int q c) (cvV x)).run P w=.ok () w'∧w.grownBy w' (some b) ∧
   w'.heap[b]? = some (.map (aF mi.kl.length (es.set c.toNat ((es.getD c.toNat []).take mi.kl.length++[x])) 0).toArray (es.set c.toNat ((es.getD c.toNat []).take mi.kl.length++[x])).length):=by
 have hblt:b<w.heap.size:=(Array.getElem?_eq_some_iff.1 hh).1
 have hg:es[c.toNat]? = some (es.getD c.toNat []):=by simp [List.getD,hc]
 have hfind:(aF mi.kl.length es 0).toArray.findIdx? (fun e=>(e.born:Int) == c)=some c.toNat:=by
  rw [Array.findIdx?_eq_some_iff_getElem]
  refine ⟨by simpa [fL] using hc,?_,fun j hj=>?_⟩
  ·have h1:((aF mi.kl.length es 0).toArray)[c.toNat]? = some (jY mi.kl.length (es.getD c.toNat []) (0+c.toNat)):=by simp only [List.getElem?_toArray,bQ,hg,Option.map_some]
   rw [Array.getElem?_eq_getElem (by simpa [fL] using hc)] at h1
   injection h1 with h1
   rw [h1]
   simp only [jY,Nat.zero_add,beq_iff_eq]
   omega
  ·have hjl:j<es.length:=by omega
   have hgj:es[j]? = some (es.getD j []):=by simp [List.getD,hjl]
   have h1:((aF mi.kl.length es 0).toArray)[j]? = some (jY mi.kl.length (es.getD j []) (0+j)):=by simp only [List.getElem?_toArray,bQ,hgj,Option.map_some]
   rw [Array.getElem?_eq_getElem (by simpa [fL] using hjl)] at h1
   injection h1 with h1
   rw [h1]
   simp only [jY,Nat.zero_add,beq_iff_eq]
   omega
 refine ⟨w.putObj b (.map ((aF mi.kl.length es 0).toArray.modify c.toNat fun e=>{ e with val:=cvV x }) es.length),?_,grownBy_putObj' w b _,?_⟩
 ·simp only [Instr.entryStore,Sem.run_bind,gT hh,Result.andThen_ok,asInt,asIntOf,Sem.run_pure,hfind,lM hh]
 ·rw [World.putObj_heap_same hblt,List.length_set]
  congr 2
  apply Array.ext_getElem?
  intro j
  rw [Array.getElem?_modify]
  simp only [List.getElem?_toArray,bQ,List.getElem?_set]
  by_cases hj:c.toNat=j
  ·subst hj
   simp only [if_true,hg,Option.map_some,hc,Option.some.injEq,jY]
   have hlen:((es.getD c.toNat []).take mi.kl.length).length=mi.kl.length:=by
    have:=(gH (List.all_eq_true.1 hok _ (List.mem_of_getElem? hg))).1
    rw [List.length_take,this];omega
   simp only [List.map_append,List.map_cons,List.map_nil]
   generalize hk:((es.getD c.toNat []).take mi.kl.length).map cvV=ks at *
   have hlen':ks.length=mi.kl.length:=by rw [← hk,List.length_map];exact hlen
   have h1:(ks++[cvV x]).take mi.kl.length=ks:=by rw [← hlen'];exact List.take_left
   have h2:(ks++[cvV x]).drop mi.kl.length=[cvV x]:=by rw [← hlen'];exact List.drop_left
   rw [h1,h2,← hk,List.map_take]
   rfl
  ·simp [hj]
end
end Go.Sx
namespace Go.Sx
open Go Go.RowKit
variable [G:Ghost]
section
variable {P:Program} {T:TypeId} {mi:MI}
theorem jZ (hm:gD P T=some mi) {cs:List CV} {es:List (List CV)} (hok:es.all (okE mi)=true):kC (bO mi.kl.length cs mi.z es)=some mi.vl:=by
 unfold bO
 by_cases hp:bD mi.kl.length cs es<es.length
 ·have hg:es[bD mi.kl.length cs es]? = some (es.getD (bD mi.kl.length cs es) []):=by simp [List.getD,hp]
  exact (gH (List.all_eq_true.1 hok _ (List.mem_of_getElem? hg))).2.2.1
 ·have:es[bD mi.kl.length cs es]? = none:=by simp;omega
  obtain ⟨_,_,_,hz,_⟩:=dB hm
  simpa [List.getD,this,kC] using hz
theorem TX (hm:gD P T=some mi) {cs:List CV} {es:List (List CV)} (hok:es.all (okE mi)=true) (hk:gZ mi cs=true):(mG mi.kl.length cs mi.z es).all (okE mi)=true:=by
 unfold mG
 split
 ·exact hok
 ·obtain ⟨_,_,_,hz,_⟩:=dB hm
  rw [List.all_append,hok]
  simp only [List.all_cons,List.all_nil,Bool.and_true,Bool.true_and,okE,beq_iff_eq,List.map_append,List.map_cons,List.map_nil,kC,hz]
  rw [beq_iff_eq.1 hk]
theorem aCt {es:List (List CV)} (hok:es.all (okE mi)=true):∀ l∈es,l.length=mi.kl.length+1:=fun l hl=>(gH (List.all_eq_true.1 hok l hl)).1
theorem aAa {w:World} {S:Nat→Prop} {es:List (List CV)} (hok:es.all (okE mi)=true):CV.vals w S es.flatten (es.flatten.map cvV):=CG fun c hc=>by
 obtain ⟨l,hl,hc⟩:=List.mem_flatten.1 hc
 exact (gH (List.all_eq_true.1 hok l hl)).2.2.2.2 c hc
theorem JE {o:Oper} {st:St} (hm:gD P T=some mi) (hop:o.op=.makeMap T none):Step P o st (.own st.V.length 0) st.B (st.V++[⟨true,mi.tag T,mi.kl.length+1,0,[]⟩]):=by
 intro n0 w0 e a w hr
 have hown:OwnsM (w.alloc (.map #[] 0)) n0 (mi.tag T) (mi.kl.length+1) (.map (some w.heap.size)) 0 []:=
  OwnsM.of (es:=[]) hm hr.mem.base rfl (World.alloc_heap_new w _)
 obtain ⟨e',b1,b2,b3,_⟩:=hr.mem.newVec (w':=w.alloc (.map #[] 0)) (mi.tag T) (mi.kl.length+1) (.map (some w.heap.size)) [] [] (.inr hown) (by simp [CV.vals]) (by simp) (World.grownBy_alloc _ _ _) (fun g hg=>by simp only [aX,Option.some.injEq] at hg;omega)
 refine ⟨.value (.map (some w.heap.size)),.map (some w.heap.size),_,e',?_,.inl rfl,b1,b2,by simp [AV.holds,b3,Value.oneCell'],by simp [AV.sco,List.getD,vers]⟩
 simp [execOp,hop,run_makeMap]
structure IsM (mi:MI) (T:TypeId) (v:Vec):Prop where
 live:v.live=true
 T:v.T=mi.tag T
 k:v.k=mi.kl.length+1
 ok:v.es.all (okE mi)=true
theorem IsM.get (hm:gD P T=some mi) {v:Vec} (h:IsM mi T v) {n0:Nat} {w0:World} {e:Env} {B:List Box} {V:List Vec} {w:World} (hmem:Mem n0 w0 e B V w) {i:Nat} (hi:V[i]? = some v) :
  ∃ b,e.hdr i v.ver=.map (some b)∧n0≤b∧w.heap[b]? = some (.map (aF mi.kl.length v.es 0).toArray v.es.length):=by
 obtain ⟨xs,q1,q2,_⟩:=hmem.vec i v hi h.live
 rw [h.T,h.k] at q1
 exact (q1.m MI.tag_le).get hm q2 h.ok
theorem IsM.set (hm:gD P T=some mi) {v:Vec} (h:IsM mi T v) {n0:Nat} {w0:World} {e:Env} {B:List Box} {V:List Vec} {w w':World} (hmem:Mem n0 w0 e B V w) {i:Nat} (hi:V[i]? = some v) {b:Nat} (hh:e.hdr i v.ver=.map (some b)) (hb:n0≤b)
  {es':List (List CV)} (hok:es'.all (okE mi)=true) (hg:w.grownBy w' (some b)) (hw:w'.heap[b]? = some (.map (aF mi.kl.length es' 0).toArray es'.length)) :
  Mem n0 w0 e B (V.set i { v with es:=es' }) w'∧Ext e w B.length (vers V) (kss V) e w' B.length (vers (V.set i { v with es:=es' })) (kss (V.set i { v with es:=es' })):=by
 refine hmem.vecSet hi h.live es' (es'.flatten.map cvV) ?_ (aAa hok) (by rw [h.k];exact aCt hok) (by rw [hh];exact hg)
 rw [h.T,h.k,hh]
 exact .inr (OwnsM.of hm hb hok hw)
theorem uW {o:Oper} {st:St} {x k:Operand} {i u:Nat} {v:Vec} {cs:List CV} (hm:gD P T=some mi) (hop:o.op=.lookup T x k false) (hx:st.ev x=.own i u) (hv:st.V[i]? = some v) (hI:IsM mi T v) (hu:v.ver=u) (hk:iY mi (st.ev k)=some cs) (hok:gZ mi cs=true) :
  Step P o st (.cv (bO mi.kl.length cs mi.z v.es)) st.B st.V:=by
 subst hu
 refine Step.pure fun n0 w0 e a w hr=>?_
 obtain ⟨b,h1,h2,h3⟩:=hI.get hm hr.mem hv
 have hxv:=(hr.ev x).1
 rw [hx] at hxv
 simp only [AV.holds] at hxv
 have hkv:=AY hk hok (hr.ev k).1
 have hrun:=CH hm h3 hI.ok hok
 obtain ⟨e1,e2⟩:=oK (jZ hm (cs:=cs) hI.ok)
 refine ⟨cvV (bO mi.kl.length cs mi.z v.es),?_,?_,by simp [AV.sco]⟩
 ·simp [execOp,hop,hxv.1,h1,hkv,hrun]
 ·rw [e1];simp only [AV.holds,CV.holds,cvV];exact ⟨trivial,AX e2⟩
theorem yW {o:Oper} {st:St} {x k:Operand} {i u:Nat} {v:Vec} {cs:List CV} (hm:gD P T=some mi) (hop:o.op=.mapEntry T x k) (hx:st.ev x=.own i u) (hv:st.V[i]? = some v) (hI:IsM mi T v) (hu:v.ver=u) (hk:iY mi (st.ev k)=some cs) (hok:gZ mi cs=true) :
  Step P o st (.tup [.cv (bO mi.kl.length cs mi.z v.es),.cv (.val (.int .i64 (bD mi.kl.length cs v.es)))]) st.B (st.V.set i { v with es:=mG mi.kl.length cs mi.z v.es }):=by
 subst hu
 intro n0 w0 e a w hr
 obtain ⟨b,h1,h2,h3⟩:=hI.get hm hr.mem hv
 have hxv:=(hr.ev x).1
 rw [hx] at hxv
 simp only [AV.holds] at hxv
 have hkv:=AY hk hok (hr.ev k).1
 obtain ⟨w',hrun,hg,hw⟩:=xC hm h3 hI.ok hok
 obtain ⟨m1,m2⟩:=hI.set hm hr.mem hv h1 h2 (TX hm hI.ok hok) hg hw
 obtain ⟨e1,e2⟩:=oK (jZ hm (cs:=cs) hI.ok)
 refine ⟨.value (.tuple #[cvV (bO mi.kl.length cs mi.z v.es),goInt (bD mi.kl.length cs v.es)]),.tuple #[cvV (bO mi.kl.length cs mi.z v.es),goInt (bD mi.kl.length cs v.es)],w',e,?_,.inl rfl,m1,m2,?_,by simp [AV.sco,AV.scos]⟩
 ·simp [execOp,hop,hxv.1,h1,hkv,hrun]
 ·simp only [AV.holds]
  refine ⟨_,rfl,?_⟩
  simp only [AV.all]
  refine ⟨?_,?_,trivial⟩
  ·rw [e1];simp only [AV.holds,CV.holds,cvV];exact ⟨trivial,AX e2⟩
  ·simp [AV.holds,CV.holds,goInt,Value.oneCell']
theorem uX {o:Oper} {st:St} {x s y:Operand} {i u:Nat} {v:Vec} {q:IntKind} {c:Int} {d:CV} (hm:gD P T=some mi) (hop:o.op=.entryStore T x s y) (hx:st.ev x=.own i u) (hv:st.V[i]? = some v) (hI:IsM mi T v) (hu:v.ver=u)
  (hs:st.ev s=.cv (.val (.int q c))) (hy:st.ev y=.cv d) (hd:kC d=some mi.vl) (h0:0≤c) (hc:c.toNat<v.es.length) :
  Step P o st .any st.B (st.V.set i { v with es:=v.es.set c.toNat ((v.es.getD c.toNat []).take mi.kl.length++[d]) }):=by
 subst hu
 intro n0 w0 e a w hr
 obtain ⟨b,h1,h2,h3⟩:=hI.get hm hr.mem hv
 have hxv:=(hr.ev x).1
 rw [hx] at hxv
 simp only [AV.holds] at hxv
 have hsv:=(hr.ev s).1
 rw [hs] at hsv
 simp only [AV.holds,CV.holds] at hsv
 have hyv:=(hr.ev y).1
 rw [hy] at hyv
 simp only [AV.holds] at hyv
 obtain ⟨e1,e2⟩:=oK hd
 have hyv':a.eval y=cvV d:=by rw [e1] at hyv;simp only [CV.holds] at hyv;exact hyv.1
 have hg0:v.es[c.toNat]? = some (v.es.getD c.toNat []):=by simp [List.getD,hc]
 have hoe:okE mi (v.es.getD c.toNat [])=true:=List.all_eq_true.1 hI.ok _ (List.mem_of_getElem? hg0)
 have hok':(v.es.set c.toNat ((v.es.getD c.toNat []).take mi.kl.length++[d])).all (okE mi)=true:=by
  rw [List.all_eq_true]
  intro l hl
  rcases List.mem_or_eq_of_mem_set hl with hl | rfl
  ·exact List.all_eq_true.1 hI.ok l hl
  ·obtain ⟨_,h5,_⟩:=gH hoe
   simp only [okE,beq_iff_eq,List.map_append,List.map_cons,List.map_nil,h5,hd]
 obtain ⟨w',hrun,hg,hw⟩:=tJ (q:=q) (x:=d) hm h3 hI.ok h0 hc
 obtain ⟨m1,m2⟩:=hI.set hm hr.mem hv h1 h2 hok' hg hw
 refine ⟨.skip,undef,w',e,?_,.inr ⟨rfl,rfl⟩,m1,m2,by simp [AV.holds],by simp [AV.sco]⟩
 simp [execOp,hop,hxv.1,h1,hsv.1,hyv',hrun]
end
end Go.Sx
namespace Go.Sx
open Go Go.RowKit
variable [G:Ghost]
section
variable {P:Program} {T:TypeId} {mi:MI}
theorem AF (hm:gD P T=some mi) {w:World} {b:Nat} {es:List (List CV)} {cs:List CV} (hh:w.heap[b]? = some (.map (aF mi.kl.length es 0).toArray es.length)) (hok:es.all (okE mi)=true) (hk:gZ mi cs=true) :
  (Instr.lookup T (.map (some b)) (mkV (cs.map cvV)) true).run P w=.ok (.tuple #[cvV (bO mi.kl.length cs mi.z es),.bool (decide (bD mi.kl.length cs es<es.length))]) w:=by
 obtain ⟨hu,he,_⟩:=dB hm
 have hkk:=(wY (beq_iff_eq.1 hk)).1
 have hs:=mK hm hkk
 have hc:=nE hkk
 have hck:=eB (P:=P) (es.isEmpty) 100 mi.kT mi.kl he 10000 w _ (by omega) hs (by rw [hc];exact hkk)
 have hall:∀ m∈aF mi.kl.length es 0,shp P mi.kT m.key∧m.key.cells.toList.map kOf=mi.kl.map some:=by
  intro m hm'
  obtain ⟨j,hj,rfl⟩:=List.mem_iff_getElem.1 hm'
  have hg:=bQ mi.kl.length es 0 j
  rw [List.getElem?_eq_getElem hj] at hg
  cases hes:es[j]? with
  | none=>rw [hes] at hg;cases hg
  | some e =>
   rw [hes] at hg
   injection hg with hg
   rw [hg]
   have hoe:okE mi e=true:=List.all_eq_true.1 hok e (List.mem_of_getElem? hes)
   obtain ⟨k1,k2⟩:=nF hoe (0+j)
   refine ⟨?_,by rw [k1];exact k2⟩
   have:=mK hm k2
   simpa [jY,List.map_take] using this
 have hf:=jQ he hs (by rw [hc];exact hkk) (aF mi.kl.length es 0) hall w
 rw [hc,nG es 0 hok] at hf
 have hemp:(aF mi.kl.length es 0).toArray.isEmpty=es.isEmpty:=by cases es <;> simp [aF]
 simp only [Instr.lookup,Sem.run_bind,run_underlying hu,Result.andThen_ok,gT hh,Sem.run_pure,hemp,hck,hf]
 by_cases hp:bD mi.kl.length cs es<es.length
 ·simp [if_pos hp,hp]
 ·have hz:bO mi.kl.length cs mi.z es=.val mi.z:=by
   unfold bO
   have:es[bD mi.kl.length cs es]? = none:=by simp;omega
   simp [List.getD,this]
  simp [if_neg hp,hp,Sem.run_bind,wZ hm,hz,cvV]
def mV (n:Nat) (cs:List CV) (d:CV) (es:List (List CV)):List (List CV):=
 if bD n cs es<es.length then es.set (bD n cs es) (cs++[d]) else es++[cs++[d]]
theorem aCu {cs:List CV} {d:CV} {es:List (List CV)} (hok:es.all (okE mi)=true) (hk:gZ mi cs=true) (hd:kC d=some mi.vl):(mV mi.kl.length cs d es).all (okE mi)=true:=by
 have _:=G
 have h1:okE mi (cs++[d])=true:=by
  simp only [okE,beq_iff_eq,List.map_append,List.map_cons,List.map_nil,hd]
  rw [beq_iff_eq.1 hk]
 unfold mV
 split
 ·rw [List.all_eq_true]
  intro l hl
  rcases List.mem_or_eq_of_mem_set hl with hl | rfl
  ·exact List.all_eq_true.1 hok l hl
  ·exact h1
 ·rw [List.all_append,hok];simp [h1]
theorem uY (hm:gD P T=some mi) {w:World} {b:Nat} {es:List (List CV)} {cs:List CV} {d:CV} (hh:w.heap[b]? = some (.map (aF mi.kl.length es 0).toArray es.length)) (hok:es.all (okE mi)=true) (hk:gZ mi cs=true) :
  ∃ w',(Instr.mapUpdate T (.map (some b)) (mkV (cs.map cvV)) (cvV d)).run P w=.ok () w'∧w.grownBy w' (some b) ∧
   w'.heap[b]? = some (.map (aF mi.kl.length (mV mi.kl.length cs d es) 0).toArray (mV mi.kl.length cs d es).length):=by
 obtain ⟨hu,he,_⟩:=dB hm
 have hkk:=(wY (beq_iff_eq.1 hk)).1
 have hs:=mK hm hkk
 have hc:=nE hkk
 have hblt:b<w.heap.size:=(Array.getElem?_eq_some_iff.1 hh).1
 have hck:=eB (P:=P) false 100 mi.kT mi.kl he 10000 w _ (by omega) hs (by rw [hc];exact hkk)
 have hall:∀ m∈aF mi.kl.length es 0,shp P mi.kT m.key∧m.key.cells.toList.map kOf=mi.kl.map some:=by
  intro m hm'
  obtain ⟨j,hj,rfl⟩:=List.mem_iff_getElem.1 hm'
  have hg:=bQ mi.kl.length es 0 j
  rw [List.getElem?_eq_getElem hj] at hg
  cases hes:es[j]? with
  | none=>rw [hes] at hg;cases hg
  | some e =>
   rw [hes] at hg
   injection hg with hg
   rw [hg]
   have hoe:okE mi e=true:=List.all_eq_true.1 hok e (List.mem_of_getElem? hes)
   obtain ⟨k1,k2⟩:=nF hoe (0+j)
   refine ⟨?_,by rw [k1];exact k2⟩
   have:=mK hm k2
   simpa [jY,List.map_take] using this
 have hf:=jQ he hs (by rw [hc];exact hkk) (aF mi.kl.length es 0) hall w
 rw [hc,nG es 0 hok] at hf
 have hcl:cs.length=mi.kl.length:=by have:=congrArg List.length (beq_iff_eq.1 hk);simpa using this
 have hent:∀ j,jY mi.kl.length (cs++[d]) j={ key:=mkV (cs.map cvV),val:=cvV d,born:=j }:=by
  intro j
  simp only [jY,List.map_append,List.map_cons,List.map_nil]
  have h1:(cs.map cvV++[cvV d]).take mi.kl.length=cs.map cvV:=by rw [← hcl,← List.length_map cvV];exact List.take_left
  have h2:(cs.map cvV++[cvV d]).drop mi.kl.length=[cvV d]:=by rw [← hcl,← List.length_map cvV];exact List.drop_left
  rw [h1,h2]
  rfl
 by_cases hp:bD mi.kl.length cs es<es.length
 ·rw [if_pos hp] at hf
  have hg:es[bD mi.kl.length cs es]? = some (es.getD (bD mi.kl.length cs es) []):=by simp [List.getD,hp]
  have hge:((aF mi.kl.length es 0).toArray)[bD mi.kl.length cs es]? = some (jY mi.kl.length (es.getD (bD mi.kl.length cs es) []) (bD mi.kl.length cs es)):=by
   simp only [List.getElem?_toArray,bQ,hg,Option.map_some,Nat.zero_add]
  have hkey:(jY mi.kl.length (es.getD (bD mi.kl.length cs es) []) (bD mi.kl.length cs es)).key=mkV (cs.map cvV):=by
   have:=JD hk hok hp
   simp only [jY,← List.map_take,this]
  have hsb:=CF hs (by rw [hc];exact hkk)
  have hmod:(aF mi.kl.length es 0).toArray.modify (bD mi.kl.length cs es) (fun e=>{ e with key:=mkV (cs.map cvV),val:=cvV d })=(aF mi.kl.length (mV mi.kl.length cs d es) 0).toArray:=by
   apply Array.ext_getElem?
   intro j
   rw [Array.getElem?_modify]
   unfold mV
   rw [if_pos hp]
   simp only [List.getElem?_toArray,bQ,List.getElem?_set]
   by_cases hj:bD mi.kl.length cs es=j
   ·subst hj
    simp only [if_true,hg,Option.map_some,hp,Nat.zero_add,hent]
    rfl
   ·simp [hj]
  refine ⟨w.putObj b (.map (aF mi.kl.length (mV mi.kl.length cs d es) 0).toArray es.length),?_,grownBy_putObj' w b _,?_⟩
  ·simp only [Instr.mapUpdate,Sem.run_bind,run_underlying hu,Result.andThen_ok,gT hh,hck,hf,Nat.zero_add,hge,Option.map_some,Option.getD_some,hkey,Instr.keyThatStays,hsb,if_true,Sem.run_pure,hmod,lM hh]
  ·rw [World.putObj_heap_same hblt]
   have:(mV mi.kl.length cs d es).length=es.length:=by unfold mV;rw [if_pos hp,List.length_set]
   rw [this]
 ·rw [if_neg hp] at hf
  have hpush:(aF mi.kl.length es 0).toArray.push { key:=mkV (cs.map cvV),val:=cvV d,born:=es.length }=(aF mi.kl.length (es++[cs++[d]]) 0).toArray:=by
   rw [lL]
   simp only [aF,Nat.zero_add,hent]
   simp
  refine ⟨w.putObj b (.map ((aF mi.kl.length es 0).toArray.push { key:=mkV (cs.map cvV),val:=cvV d,born:=es.length }) (es.length+1)),?_,grownBy_putObj' w b _,?_⟩
  ·simp only [Instr.mapUpdate,Sem.run_bind,run_underlying hu,Result.andThen_ok,gT hh,hck,hf,lM hh]
  ·unfold mV
   rw [if_neg hp,World.putObj_heap_same hblt,hpush];simp
theorem FH {o:Oper} {st:St} {x k:Operand} {i u:Nat} {v:Vec} {cs:List CV} (hm:gD P T=some mi) (hop:o.op=.lookup T x k true) (hx:st.ev x=.own i u) (hv:st.V[i]? = some v) (hI:IsM mi T v) (hu:v.ver=u) (hk:iY mi (st.ev k)=some cs) (hok:gZ mi cs=true) :
  Step P o st (.tup [.cv (bO mi.kl.length cs mi.z v.es),.cv (.val (.bool (decide (bD mi.kl.length cs v.es<v.es.length))))]) st.B st.V:=by
 subst hu
 refine Step.pure fun n0 w0 e a w hr=>?_
 obtain ⟨b,h1,h2,h3⟩:=hI.get hm hr.mem hv
 have hxv:=(hr.ev x).1
 rw [hx] at hxv
 simp only [AV.holds] at hxv
 have hkv:=AY hk hok (hr.ev k).1
 have hrun:=AF hm h3 hI.ok hok
 obtain ⟨e1,e2⟩:=oK (jZ hm (cs:=cs) hI.ok)
 refine ⟨.tuple #[cvV (bO mi.kl.length cs mi.z v.es),.bool (decide (bD mi.kl.length cs v.es<v.es.length))],?_,?_,by simp [AV.sco,AV.scos]⟩
 ·simp [execOp,hop,hxv.1,h1,hkv,hrun]
 ·simp only [AV.holds]
  refine ⟨_,rfl,?_⟩
  simp only [AV.all]
  refine ⟨?_,?_,trivial⟩
  ·rw [e1];simp only [AV.holds,CV.holds,cvV];exact ⟨trivial,AX e2⟩
  ·simp [AV.holds,CV.holds,Value.oneCell']
theorem MD {o:Oper} {st:St} {x k y:Operand} {i u:Nat} {v:Vec} {cs:List CV} {d:CV} (hm:gD P T=some mi) (hop:o.op=.mapUpdate T x k y) (hx:st.ev x=.own i u) (hv:st.V[i]? = some v) (hI:IsM mi T v) (hu:v.ver=u) (hk:iY mi (st.ev k)=some cs) (hok:gZ mi cs=true)
  (hy:st.ev y=.cv d) (hd:kC d=some mi.vl) :
  Step P o st .any st.B (st.V.set i { v with es:=mV mi.kl.length cs d v.es }):=by
 subst hu
 intro n0 w0 e a w hr
 obtain ⟨b,h1,h2,h3⟩:=hI.get hm hr.mem hv
 have hxv:=(hr.ev x).1
 rw [hx] at hxv
 simp only [AV.holds] at hxv
 have hkv:=AY hk hok (hr.ev k).1
 have hyv:=(hr.ev y).1
 rw [hy] at hyv
 simp only [AV.holds] at hyv
 obtain ⟨e1,e2⟩:=oK hd
 have hyv':a.eval y=cvV d:=by rw [e1] at hyv;simp only [CV.holds] at hyv;exact hyv.1
 obtain ⟨w',hrun,hg,hw⟩:=uY (d:=d) hm h3 hI.ok hok
 obtain ⟨m1,m2⟩:=hI.set hm hr.mem hv h1 h2 (aCu hI.ok hok hd) hg hw
 refine ⟨.skip,undef,w',e,?_,.inr ⟨rfl,rfl⟩,m1,m2,by simp [AV.holds],by simp [AV.sco]⟩
 simp [execOp,hop,hxv.1,h1,hkv,hyv',hrun]
end
section
variable {P:Program} {T:TypeId}
theorem QN {o:Oper} {st:St} {x y:Operand} {k1 k2:IntKind} {l c:Int} {s e' k by_:Nat} {z:List Value} {te:TI} (hop:o.op=.makeSlice T x y) (hx:st.ev x=.cv (.val (.int k1 l))) (hy:st.ev y=.cv (.val (.int k2 c)))
  (hti:bM P T=some ⟨s,z,.slc e' k by_⟩) (hk0:k≠0) (hte:bM P e'=some te) (hzl:te.zero.length=k) (hz1:te.zero.all Value.oneCell'=true) (h0:0≤l) (h1:l≤c) (h2:c.toNat*by_≤140737488355328) (h3:c.toNat≤maxLen) :
  Step P o st (.own st.V.length 0) st.B (st.V++[⟨true,e',k,0,List.replicate l.toNat (te.zero.map .val)⟩]):=by
 intro n0 w0 e a w hr
 obtain ⟨hT,hkc,hby⟩:=dI hti
 have hlt:=eK hti
 obtain ⟨i,d,i1,i2,i3,i4,i5⟩:=fA hte
 have hzne:te.zero≠[]:=by intro h;rw [h] at hzl;exact hk0 hzl.symm
 have hxv:=(hr.ev x).1
 rw [hx] at hxv
 simp only [AV.holds,CV.holds] at hxv
 have hyv:=(hr.ev y).1
 rw [hy] at hyv
 simp only [AV.holds,CV.holds] at hyv
 obtain ⟨zv,hzv,hzc⟩:∃ zv,i.zero=some zv∧zv.cells.toList=te.zero:=by
  cases hi:i.zero with
  | none=>rw [hi] at i4;exact absurd i4 hzne
  | some zv=>exact ⟨zv,rfl,by rw [i4,hi]⟩
 have hsz:i.size=k:=by rw [hkc];simp [Program.cellsOf,i1]
 have hbytes:i.bytes=by_:=by rw [hby];simp [Program.bytesOf,i1]
 have hcn:((c.toNat:Nat):Int)=c:=by omega
 have hrun:=run_make (P:=P) w T e' i zv hT i1 hzv k1 k2 l c h0 h1 (by
  rw [hbytes]
  have h4:((c.toNat*by_:Nat):Int)≤140737488355328:=by omega
  rw [Int.natCast_mul,hcn,Int.mul_comm] at h4
  omega) (by have h5:=h3;simp [maxLen] at h5;omega)
 have hcs:zv.cells.size=k:=by have:=congrArg List.length hzc;rw [hzl] at this;simpa using this
 have hcells:(madeCells zv.cells (c.toNat*i.size)).toList=eQ te.zero c.toNat:=by
  unfold madeCells
  rw [hsz,← hzc]
  rw [show c.toNat*k=c.toNat*zv.cells.size by rw [hcs]]
  exact oI zv.cells (by rw [hcs];exact hk0) c.toNat
 have hln:l.toNat≤c.toNat:=by omega
 have hrep:(List.replicate l.toNat (te.zero.map CV.val)).length=l.toNat:=List.length_replicate
 have htake:(eQ te.zero c.toNat).take (l.toNat*k)=eQ te.zero l.toNat:=by
  have hadd:∀ (a b:Nat),eQ te.zero (a+b)=eQ te.zero a++eQ te.zero b:=by
   intro a b
   induction a with
   | zero=>simp [eQ]
   | succ a ih=>rw [Nat.succ_add];simp only [eQ,ih,List.append_assoc]
  obtain ⟨r,hr'⟩:∃ r,c.toNat=l.toNat+r:=⟨c.toNat - l.toNat,by omega⟩
  rw [hr',hadd]
  have hl:(eQ te.zero l.toNat).length=l.toNat*k:=by rw [gX,hzl]
  rw [← hl];exact List.take_left
 have hzv':CV.vals w e.S (te.zero.map CV.val) te.zero:=by
  have:∀ (l:List Value),l.all Value.oneCell'=true→CV.vals w e.S (l.map CV.val) l:=by
   intro l
   induction l with
   | nil=>intro _;simp [CV.vals]
   | cons y l ih =>
    intro hl
    simp only [List.all_cons,Bool.and_eq_true] at hl
    simp only [List.map_cons,CV.vals,CV.holds]
    exact ⟨⟨trivial,hl.1⟩,ih hl.2⟩
  exact this _ hz1
 have hrows:∀ m,CV.vals w e.S (List.replicate m (te.zero.map CV.val)).flatten (eQ te.zero m):=by
  intro m
  induction m with
  | zero=>simp [eQ,CV.vals]
  | succ m ih=>simp only [List.replicate_succ,List.flatten_cons,eQ];exact CV.vals.append hzv' ih
 have hnew:(w.alloc (.cells (madeCells zv.cells (c.toNat*i.size)) e')).heap[w.heap.size]? = some (.cells (madeCells zv.cells (c.toNat*i.size)) e' (0,0)):=World.alloc_heap_new w _
 have hlen:(eQ te.zero l.toNat).length=l.toNat*k:=by rw [gX,hzl]
 have hown:OwnsS (w.alloc (.cells (madeCells zv.cells (c.toNat*i.size)) e')) n0 e' k (.slice (some ⟨w.heap.size,0,none⟩) l.toNat c.toNat) l.toNat (eQ te.zero l.toNat):=by
  by_cases hc0:c.toNat=0
  ·have hl0:l.toNat=0:=by omega
   left
   refine ⟨_,by rw [hc0,hl0],hl0,by rw [hl0];rfl⟩
  ·right
   refine ⟨⟨hlen,.inr ⟨w.heap.size,c.toNat,_,rfl,hr.mem.base,hnew,hln,h3,?_,?_⟩⟩,w.heap.size,?_,rfl⟩
   ·rw [size_madeCells,hsz]
   ·rw [hcells,htake]
   ·obtain ⟨c',hc'⟩:∃ c',c.toNat=c'+1:=⟨c.toNat - 1,by omega⟩
    rw [hc'];rfl
 obtain ⟨e1,b1,b2,b3,_⟩:=hr.mem.newVec (w':=w.alloc (.cells (madeCells zv.cells (c.toNat*i.size)) e')) e' k (.slice (some ⟨w.heap.size,0,none⟩) l.toNat c.toNat) (List.replicate l.toNat (te.zero.map .val)) (eQ te.zero l.toNat)
  (.inl ⟨hlt,by rw [hrep];exact hown⟩) (hrows _) (by intro y hy;simp only [List.mem_replicate] at hy;rw [hy.2];simp [hzl]) (World.grownBy_alloc _ _ _)
  (fun g hg=>by
   have:g=w.heap.size:=by
    cases hc:c.toNat with
    | zero=>rw [hc] at hg;simp [aX] at hg
    | succ q=>rw [hc] at hg;simp only [aX,Option.some.injEq] at hg;exact hg.symm
   omega)
 refine ⟨.value (.slice (some ⟨w.heap.size,0,none⟩) l.toNat c.toNat),.slice (some ⟨w.heap.size,0,none⟩) l.toNat c.toNat,_,e1,?_,.inl rfl,b1,b2,by simp [AV.holds,b3,Value.oneCell'],by simp [AV.sco,List.getD,vers]⟩
 simp [execOp,hop,hxv.1,hyv.1,hrun]
theorem CI {w:World} {S:Nat→Prop} {k:Nat}:∀ {es:List (List CV)} {b o:Nat},CV.rows w S k es b o→∃ news,CV.vals w S es.flatten news∧(∀ l∈es,l.length=k)∧∀ j u,news[j]? = some u→w.cell? ⟨b,o+j,none⟩=some u
 | [],b,o,_=>have _:=G;⟨[],by simp [CV.vals],by simp,by simp⟩
 | l::es,b,o,hrows=>by
  simp only [CV.rows] at hrows
  obtain ⟨r1,r2,r3⟩:=hrows
  obtain ⟨vs1,c1,c2,c3⟩:=r2.vals
  obtain ⟨vs2,d1,d2,d3⟩:=CI r3
  refine ⟨vs1++vs2,by simpa using c1.append d1,fun m hm=>(List.mem_cons.1 hm).elim (fun h=>h▸r1) (d2 m),?_⟩
  intro j u hj
  rw [List.getElem?_append] at hj
  split at hj
  ·exact c3 j u hj
  ·rename_i hj'
   have:=d3 _ u hj
   rw [show o+k+(j - vs1.length)=o+j by omega] at this
   exact this
theorem CJ {k:Nat}:∀ {l:List (List CV)},(∀ m∈l,m.length=k)→l.flatten.length=l.length*k
 | [],_=>by have _:=G;simp
 | m::l,hl=>by simp [hl m (by simp),CJ (l:=l) (fun q hq=>hl q (by simp [hq])),Nat.add_mul];omega
theorem WM {o:Oper} {st:St} {x y:Operand} {T':TypeId} {i u s e' k by_:Nat} {z:List Value} {v:Vec} {es:List (List CV)} (hop:o.op=.call { callee:=.builtin .copy,args:=#[x,y],argTypes:=#[T,T'] }) (hx:st.ev x=.own i u) (hy:st.ev y=.cv (.row k es))
  (hv:st.V[i]? = some v) (hsl:v.sl=true) (hu:v.ver=u) (hti:bM P T=some ⟨s,z,.slc e' k by_⟩) (hk:k=v.k) (hk0:k≠0) (hle:es.length≤v.es.length) :
  Step P o st (.cv (.val (.int .i64 es.length))) st.B (st.V.set i { v with es:=es++v.es.drop es.length }):=by
 intro n0 w0 e a w hr
 subst hu
 obtain ⟨hT,hkc,hby⟩:=dI hti
 have hk0':P.cellsOf e'≠0:=by rw [← hkc];exact hk0
 have hl:=Vec.sl_live hsl
 obtain ⟨xs,q1',q2,q3⟩:=hr.mem.vec i v hv hl
 have q1:=q1'.s (Vec.sl_T hsl)
 have hxv:=(hr.ev x).1
 rw [hx] at hxv
 simp only [AV.holds] at hxv
 have hyv:=(hr.ev y).1
 rw [hy] at hyv
 simp only [AV.holds,CV.holds] at hyv
 obtain ⟨ao,cap,hsrc,hlc,hcm,hes⟩:=hyv
 have hsz:=aM (P:=P) hk0'
 obtain ⟨ad,c,hs,hdc,hdm⟩:=q1.slice
 have fin:∀ (w':World),(execOp a.eval o).run P w=.ok (.value (goInt es.length)) w'→Mem n0 w0 e st.B (st.V.set i { v with es:=es++v.es.drop es.length }) w'→Ext e w st.B.length (vers st.V) (kss st.V) e w' st.B.length (vers (st.V.set i { v with es:=es++v.es.drop es.length })) (kss (st.V.set i { v with es:=es++v.es.drop es.length })) →
   ∃ nx v' w' e',(execOp a.eval o).run P w=.ok nx w'∧(nx=.value v'∨(nx=.skip∧v'=undef))∧Mem n0 w0 e' st.B (st.V.set i { v with es:=es++v.es.drop es.length }) w'∧ExtS e st w e' st.B (st.V.set i { v with es:=es++v.es.drop es.length }) w'∧AV.holds e' w' (kss (st.V.set i { v with es:=es++v.es.drop es.length })) (.cv (.val (.int .i64 es.length))) v'∧AV.sco st.B.length (vers (st.V.set i { v with es:=es++v.es.drop es.length })) (.cv (.val (.int .i64 es.length))):=
  fun w' h1 h2 h3=>⟨_,_,w',e,h1,.inl rfl,h2,h3,by simp [AV.holds,CV.holds,goInt,Value.oneCell'],by simp [AV.sco]⟩
 by_cases he0:es=[]
 ·subst he0
  have hset:st.V.set i { v with es:=[]++v.es.drop ([]:List (List CV)).length }=st.V:=by
   refine List.ext_getElem? fun j=>?_
   rw [List.getElem?_set]
   split
   ·rename_i hj;subst hj;rw [hv,if_pos (List.getElem?_eq_some_iff.1 hv).1];simp
   ·rfl
  have hrun:(execOp a.eval o).run P w=.ok (.value (goInt ([]:List (List CV)).length)) w:=by
   have:(Builtin.copy_ #[T,T'] o.type #[.slice ad v.es.length c,.slice ao 0 cap]).run P w=.ok (goInt 0) w:=by
    cases ad <;> cases ao <;> simp [Builtin.copy_,run_underlying hT,Builtin.lenOf,Builtin.firstCells,hsz,storeCells,loadCells,loadCellsFrom]
   simp only [List.length_nil] at hsrc ⊢
   simp [execOp,hop,resolve,invoke,builtin,hxv.1,hs,hsrc,this]
  refine fin w hrun ?_ ?_
  ·rw [hset];exact hr.mem
  ·rw [hset];exact Ext.refl _ _ _ _ _
 ·obtain ⟨b,off,rfl,hS,hrows⟩:∃ b off,ao=some ⟨b,off,none⟩∧e.S b∧CV.rows w e.S k es b off:=by
   rcases hes with h | ⟨b,off,h1,h2,h3⟩
   ·exact absurd h he0
   ·exact ⟨b,off,h1,h2,h3⟩
  obtain ⟨news,d1,d2,d3⟩:=CI hrows
  have hnl:news.length=es.length*k:=by rw [d1.length];exact CJ d2
  have hne:0<es.length:=List.length_pos_iff.2 he0
  have hfit:0+news.length≤v.es.length*v.k:=by rw [hnl,hk];have:=Nat.mul_le_mul_right v.k hle;omega
  obtain ⟨g,cap',hg,hvv,w',hst,hown,AA⟩:=q1.store (P:=P) (Vec.sl_T hsl) hfit (by omega) d1.one
  rw [hs] at hvv
  simp only [Value.slice.injEq] at hvv
  obtain ⟨rfl,_,rfl⟩:=hvv
  have hl2:=run_loadCells_list (P:=P) w ⟨b,off,none⟩ news (fun j u hj=>by rw [addr_add];exact d3 j u hj)
  have hmin:Nat.min es.length v.es.length=es.length:=Nat.min_eq_left hle
  have hrun:(execOp a.eval o).run P w=.ok (.value (goInt es.length)) w':=by
   have:(Builtin.copy_ #[T,T'] o.type #[.slice (some ⟨g,0,none⟩) v.es.length c,.slice (some ⟨b,off,none⟩) es.length cap]).run P w=.ok (goInt es.length) w':=by
    have hsz':∀ w,(sizeOf e').run P w=.ok k w:=fun w=>by rw [hkc];exact hsz w
    simp [Builtin.copy_,run_underlying hT,Builtin.lenOf,Builtin.firstCells,hsz',hmin,← hnl,hl2,hst]
   simp [execOp,hop,resolve,invoke,builtin,hxv.1,hs,hsrc,this]
  have hvals:CV.vals w e.S (es++v.es.drop es.length).flatten (xs.take 0++news++xs.drop (0+news.length)):=by
   rw [List.flatten_append]
   simp only [List.take_zero,List.nil_append,Nat.zero_add]
   refine d1.append ?_
   have hsp:v.es.flatten=(v.es.take es.length).flatten++(v.es.drop es.length).flatten:=by rw [← List.flatten_append,List.take_append_drop]
   rw [hsp] at q2
   have:=(eM q2).2
   rw [CJ (k:=v.k) fun l hl=>q3 l (List.mem_of_mem_take hl),List.length_take,Nat.min_eq_left hle] at this
   rw [hnl,hk];exact this
  obtain ⟨m1,m2⟩:=hr.mem.vecSet hv hl (es++v.es.drop es.length) _ (by
   have:(es++v.es.drop es.length).length=v.es.length:=by simp;omega
   rw [this];exact hown) hvals (by
    intro l hl
    rcases List.mem_append.1 hl with hl | hl
    ·rw [← hk];exact d2 l hl
    ·exact q3 l (List.mem_of_mem_drop hl)) (by rw [hg];exact AA)
  exact fin w' hrun m1 m2
end
end Go.Sx
namespace Go.Sx
open Go Go.RowKit
variable [G:Ghost]
inductive Lf where
 | int (k:IntKind)
 | bool
 | row (k:Nat)
 | ref
 | raw
 deriving DecidableEq
def cF:CV→List CV
 | .ref cs=>cs
 | _=>[]
def cI:CV→Int
 | .val (.int _ n)=>n
 | _=>0
def cB:CV→Bool
 | .val (.bool b)=>b
 | _=>false
def cR:CV→List (List CV)
 | .row _ es=>es
 | _=>[]
def dC:CV:=.val (.bool false)
def Lf.ok:Lf→CV→Bool
 | .int k,.val (.int k' _)=>decide (k=k')
 | .bool,.val (.bool _)=>true
 | .row k,.row k' _=>k == k'
 | .row _,.val (.slice none 0 0)=>true
 | .ref,.ref _=>true
 | .raw,_=>true
 | _,_=>false
def Lf.av:Lf→CV→AV
 | .int k,c=>.cv (.val (.int k (cI c)))
 | .bool,c=>.cv (.val (.bool (cB c)))
 | .row k,c=>.cv (.row k (cR c))
 | .ref,c=>.cv (.ref (cF c))
 | .raw,c=>.cv c
theorem Lf.le {l:Lf} {c:CV} (h:l.ok c=true):AV.le (.cv c) (l.av c):=by
 unfold Lf.ok at h
 split at h
 ·simp only [decide_eq_true_eq] at h;subst h;exact AV.le_refl _
 ·exact AV.le_refl _
 ·simp only [beq_iff_eq] at h;subst h;exact AV.le_refl _
 ·intro e w ks v hv
  simp only [AV.holds,CV.holds] at hv
  simp only [Lf.av,cR,AV.holds,CV.holds]
  exact ⟨none,0,hv.1,Nat.le_refl _,Nat.zero_le _,.inl trivial⟩
 ·exact AV.le_refl _
 ·exact AV.le_refl _
 ·cases h
theorem Lf.av_cv (l:Lf) (c:CV):∃ d,l.av c=.cv d:=by have _:=G;cases l <;> exact ⟨_,rfl⟩
structure Emb where
 bm:List Nat
 vm:List Nat
 vb:List Nat
def Emb.fb (m:Emb) (i:Nat):Nat:=m.bm.getD i 0
def Emb.fv (m:Emb) (i:Nat):Nat:=m.vm.getD i 0
def Emb.fo (m:Emb) (i:Nat):Nat:=m.vb.getD i 0
mutual
def AV.cz (m:Emb):AV→AV
 | .any=>.any
 | .cv c=>.cv c
 | .ptr i o=>.ptr (m.fb i) o
 | .own i g=>.own (m.fv i) (m.fo i+g)
 | .opt i g el o=>.opt (m.fv i) (m.fo i+g) el o
 | .agg xs=>.agg (AV.czs m xs)
 | .tup xs=>.tup (AV.czs m xs)
 | .fn f xs=>.fn f (AV.czs m xs)
 | .gd [] x=>AV.cz m x
 | .gd (b::L) x=>.gd (b::L) (AV.cz m x)
def AV.czs (m:Emb):List AV→List AV
 | []=>[]
 | x::xs=>AV.cz m x::AV.czs m xs
end
theorem AV.czs_eq (m:Emb):∀ (xs:List AV),AV.czs m xs=xs.map (AV.cz m)
 | []=>by have _:=G;simp [AV.czs]
 | x::xs=>by simp [AV.czs,AV.czs_eq m xs]
mutual
def AV.inn (nb nv:Nat):AV→Bool
 | .any=>true
 | .cv _=>true
 | .ptr i _=>decide (i<nb)
 | .own i _=>decide (i<nv)
 | .opt i _ _ _=>decide (i<nv)
 | .agg xs=>AV.inns nb nv xs
 | .tup xs=>AV.inns nb nv xs
 | .fn _ xs=>AV.inns nb nv xs
 | .gd _ x=>AV.inn nb nv x
def AV.inns (nb nv:Nat):List AV→Bool
 | []=>true
 | x::xs=>AV.inn nb nv x&&AV.inns nb nv xs
end
theorem AV.inn_mono {nb nv nb' nv':Nat} (h1:nb≤nb') (h2:nv≤nv') (x:AV):AV.inn nb nv x=true→AV.inn nb' nv' x=true:=by
 have _:=G
 refine AV.rec (motive_1:=fun x=>AV.inn nb nv x=true→AV.inn nb' nv' x=true) (motive_2:=fun xs=>AV.inns nb nv xs=true→AV.inns nb' nv' xs=true) ?_ ?_ ?_ ?_ ?_ ?_ ?_ ?_ ?_ ?_ ?_ x
 all_goals (intros;simp_all [AV.inn,AV.inns])
 all_goals omega
theorem AV.inns_eq (nb nv:Nat):∀ (xs:List AV),AV.inns nb nv xs=xs.all (AV.inn nb nv)
 | []=>by have _:=G;simp [AV.inns]
 | x::xs=>by simp [AV.inns,AV.inns_eq nb nv xs]
structure Emb.Up (m m':Emb):Prop where
 bl:m.bm.length≤m'.bm.length
 b:∀ i,i<m.bm.length→m'.fb i=m.fb i
 vl:m.vm.length≤m'.vm.length
 v:∀ i,i<m.vm.length→m'.fv i=m.fv i
theorem Emb.Up.refl (m:Emb):m.Up m:=have _:=G;⟨Nat.le_refl _,fun _ _=>rfl,Nat.le_refl _,fun _ _=>rfl⟩
theorem Emb.Up.trans {m m' m'':Emb} (h:m.Up m') (h':m'.Up m''):m.Up m'':=have _:=G;
 ⟨Nat.le_trans h.bl h'.bl,fun i hi=>(h'.b i (Nat.lt_of_lt_of_le hi h.bl)).trans (h.b i hi),Nat.le_trans h.vl h'.vl,fun i hi=>(h'.v i (Nat.lt_of_lt_of_le hi h.vl)).trans (h.v i hi)⟩
mutual
theorem AV.cz_up {m m':Emb} (h:m.Up m') (hv:∀ i,i<m.vm.length→m'.fo i=m.fo i):∀ (x:AV),AV.inn m.bm.length m.vm.length x=true→x.cz m'=x.cz m
 | .any,_=>by have _:=G;simp [AV.cz]
 | .cv _,_=>by simp [AV.cz]
 | .ptr i _,hx=>by simp only [AV.inn,decide_eq_true_eq] at hx;simp [AV.cz,h.b i hx]
 | .own i _,hx=>by simp only [AV.inn,decide_eq_true_eq] at hx;simp [AV.cz,h.v i hx,hv i hx]
 | .opt i _ _ _,hx=>by simp only [AV.inn,decide_eq_true_eq] at hx;simp [AV.cz,h.v i hx,hv i hx]
 | .agg xs,hx=>by simp only [AV.inn] at hx;simp only [AV.cz,AV.czs_up h hv xs hx]
 | .tup xs,hx=>by simp only [AV.inn] at hx;simp only [AV.cz,AV.czs_up h hv xs hx]
 | .fn _ xs,hx=>by simp only [AV.inn] at hx;simp only [AV.cz,AV.czs_up h hv xs hx]
 | .gd [] x,hx=>by simp only [AV.inn] at hx;simp only [AV.cz,AV.cz_up h hv x hx]
 | .gd (_::_) x,hx=>by simp only [AV.inn] at hx;simp only [AV.cz,AV.cz_up h hv x hx]
theorem AV.czs_up {m m':Emb} (h:m.Up m') (hv:∀ i,i<m.vm.length→m'.fo i=m.fo i):∀ (xs:List AV),AV.inns m.bm.length m.vm.length xs=true→AV.czs m' xs=AV.czs m xs
 | [],_=>by have _:=G;simp [AV.czs]
 | x::xs,hx=>by
  simp only [AV.inns,Bool.and_eq_true] at hx
  simp only [AV.czs,AV.cz_up h hv x hx.1,AV.czs_up h hv xs hx.2]
end
structure SS where
 n:Nat
 t:List (Nat×AV)
 B:List Box
 V:List Vec
def SS.get (s:SS) (d:Nat):AV:=if d<s.n then lk s.t d else .any
def SS.ev (s:SS):Operand→AV
 | .tmp t=>s.get t
 | .const v=>rJ v
 | .global _=>.any
 | .func f=>.cv (.fn f [])
def SS.put (s:SS) (d:Option Nat) (x:AV) (B:List Box) (V:List Vec):SS:=
 ⟨s.n,match d with | some d=>(d,x)::s.t | none=>s.t,B,V⟩
def Box.cz (m:Emb) (b:Box):Box:=⟨b.live,b.T,AV.czs m b.cs⟩
def Vec.cz (m:Emb) (i:Nat) (v:Vec):Vec:=⟨v.live,v.T,v.k,m.fo i+v.ver,v.es⟩
structure EmM (m:Emb) (B:List Box) (V:List Vec) (B1:List Box) (V1:List Vec):Prop where
 bl:m.bm.length=B.length
 vl:m.vm.length=V.length
 ol:m.vb.length=V.length
 b:∀ i b,B[i]? = some b→B1[m.fb i]? = some (b.cz m)∧AV.inns B.length V.length b.cs=true
 v:∀ i v,V[i]? = some v→v.live=true∨v.T=ghT→V1[m.fv i]? = some (v.cz m i)
 vlt:∀ i,i<V.length→m.fv i<V1.length
 bi:∀ i j,i<B.length→j<B.length→m.fb i=m.fb j→i=j
 vi:∀ i j,i<V.length→j<V.length→m.fv i=m.fv j→i=j
structure Em (m:Emb) (s:SS) (st:St):Prop where
 t:st.t=mkT s.n (s.t.map fun p=>(p.1,p.2.cz m))
 ti:∀ p∈s.t,AV.inn s.B.length s.V.length p.2=true
 m:EmM m s.B s.V st.B st.V
structure Stp (m:Emb) (B:List Box) (V:List Vec) (m':Emb) (B':List Box) (V':List Vec):Prop where
 up:m.Up m'
 bl:B.length≤B'.length
 vl:V.length≤V'.length
 bn:∀ j∈m'.bm,j∈m.bm∨B.length≤j
 vn:∀ j∈m'.vm,j∈m.vm∨V.length≤j
 bf:∀ j,j<B.length→j ∉ m.bm→B'[j]? = B[j]?
 vf:∀ j,j<V.length→j ∉ m.vm→V'[j]? = V[j]?
theorem Stp.refl (m:Emb) (B:List Box) (V:List Vec):Stp m B V m B V:=
 ⟨Emb.Up.refl _,Nat.le_refl _,Nat.le_refl _,fun _ h=>.inl h,fun _ h=>.inl h,fun _ _ _=>rfl,fun _ _ _=>rfl⟩
theorem Stp.trans {m m' m'':Emb} {B B' B'':List Box} {V V' V'':List Vec} (h:Stp m B V m' B' V') (h':Stp m' B' V' m'' B'' V''):Stp m B V m'' B'' V'':=by
 refine ⟨h.up.trans h'.up,Nat.le_trans h.bl h'.bl,Nat.le_trans h.vl h'.vl,fun j hj=>?_,fun j hj=>?_,fun j hj hn=>?_,fun j hj hn=>?_⟩
 ·rcases h'.bn j hj with h1 | h1
  ·exact h.bn j h1
  ·exact .inr (Nat.le_trans h.bl h1)
 ·rcases h'.vn j hj with h1 | h1
  ·exact h.vn j h1
  ·exact .inr (Nat.le_trans h.vl h1)
 ·rw [h'.bf j (Nat.lt_of_lt_of_le hj h.bl) fun hm=>?_,h.bf j hj hn]
  rcases h.bn j hm with h1 | h1
  ·exact hn h1
  ·omega
 ·rw [h'.vf j (Nat.lt_of_lt_of_le hj h.vl) fun hm=>?_,h.vf j hj hn]
  rcases h.vn j hm with h1 | h1
  ·exact hn h1
  ·omega
theorem Em.get {m:Emb} {s:SS} {st:St} (h:Em m s st) (d:Nat):st.t.getD d .any=(s.get d).cz m:=by
 rw [h.t]
 simp only [List.getD,uV,SS.get]
 split
 ·simp only [Option.getD_some]
  exact lK (AV.cz m) (by simp [AV.cz]) s.t d
 ·simp [AV.cz]
theorem Em.ev {m:Emb} {s:SS} {st:St} (h:Em m s st) (x:Operand):st.ev x=(s.ev x).cz m:=by
 cases x with
 | tmp t=>exact h.get t
 | const v=>simp only [St.ev,SS.ev,rJ];split <;> simp [AV.cz]
 | global g=>simp [St.ev,SS.ev,AV.cz]
 | func f=>simp [St.ev,SS.ev,AV.cz]
theorem aAb:∀ (l:List (Nat×AV)) (d:Nat),lk l d=.any∨(d,lk l d)∈l
 | [],d=>have _:=G;.inl rfl
 | (k,x)::l,d=>by
  simp only [jP]
  split
  ·rename_i h;subst h;exact .inr (by simp)
  ·rcases aAb l d with h | h
   ·exact .inl h
   ·exact .inr (by simp [h])
theorem Em.inn {m:Emb} {s:SS} {st:St} (h:Em m s st) (d:Nat):AV.inn s.B.length s.V.length (s.get d)=true:=by
 unfold SS.get
 split
 ·rcases aAb s.t d with h' | h'
  ·rw [h'];rfl
  ·exact h.ti _ h'
 ·rfl
theorem Em.innEv {m:Emb} {s:SS} {st:St} (h:Em m s st) (x:Operand):AV.inn s.B.length s.V.length (s.ev x)=true:=by
 cases x with
 | tmp t=>exact h.inn t
 | const v=>simp only [SS.ev,rJ];split <;> rfl
 | global g=>rfl
 | func f=>rfl
theorem Em.put {m m':Emb} {s:SS} {st:St} (h:Em m s st) {B:List Box} {V:List Vec} {B1:List Box} {V1:List Vec} (hm:EmM m' B V B1 V1) (hu:m.Up m') (hvb:∀ i,i<m.vm.length→m'.fo i=m.fo i)
  (hBl:s.B.length≤B.length) (hVl:s.V.length≤V.length) {x:AV} (hx:AV.inn B.length V.length x=true) (d:Option Nat):Em m' (s.put d x B V) (st.put d (x.cz m') B1 V1):=by
 have hold:∀ y,AV.inn s.B.length s.V.length y=true→AV.inn B.length V.length y=true:=by
  intro y hy
  exact AV.inn_mono hBl hVl y hy
 have hcz:∀ p∈s.t,p.2.cz m'=p.2.cz m:=fun p hp=>AV.cz_up hu hvb p.2 (by rw [h.m.bl,h.m.vl];exact h.ti p hp)
 have ht:s.t.map (fun p=>(p.1,p.2.cz m'))=s.t.map (fun p=>(p.1,p.2.cz m)):=List.map_congr_left fun p hp=>by rw [hcz p hp]
 cases d with
 | none =>
  refine ⟨?_,fun p hp=>hold _ (h.ti p hp),hm⟩
  simp only [St.put,SS.put,h.t,ht]
 | some d =>
  refine ⟨?_,fun p hp=>?_,hm⟩
  ·simp only [St.put,SS.put,h.t,List.map_cons,ht,TU]
  ·simp only [SS.put,List.mem_cons] at hp
   rcases hp with rfl | hp
   ·exact hx
   ·exact hold _ (h.ti p hp)
end Go.Sx
namespace Go.Sx
open Go Go.RowKit
variable [G:Ghost]
section
variable {P:Program} {m:Emb}
theorem AV.cz_cv (c:CV):(AV.cv c).cz m=.cv c:=by have _:=G;simp [AV.cz]
theorem AV.cells_cz {x:AV} {cs:List AV} (h:x.cells=some cs):(x.cz m).cells=some (cs.map (AV.cz m)):=by
 cases x <;> simp only [AV.cells,Option.some.injEq,reduceCtorEq] at h <;> subst h <;> simp [AV.cz,AV.cells,AV.czs_eq]
theorem AV.one_cz {x:AV} (h:AV.one x=true):AV.one (x.cz m)=true:=by
 have _:=G
 cases x <;> simp [AV.one] at h <;> simp [AV.cz,AV.one]
theorem AZ {xs:List AV} (h:xs.all AV.one=true):(xs.map (AV.cz m)).all AV.one=true:=by
 rw [List.all_eq_true] at h ⊢
 intro y hy
 obtain ⟨x,hx,rfl⟩:=List.mem_map.1 hy
 exact AV.one_cz (h x hx)
theorem GC (l new:List AV) (off:Nat):(splice l off new).map (AV.cz m)=splice (l.map (AV.cz m)) off (new.map (AV.cz m)):=by
 have _:=G
 simp [splice,List.map_take,List.map_drop]
theorem rN {place:Nat→Option (Nat×Nat)}:∀ {parts:List (Nat×AV)} {cells out:List AV},dJ place cells parts=some out →
  dJ place (cells.map (AV.cz m)) (parts.map fun p=>(p.1,p.2.cz m))=some (out.map (AV.cz m))
 | [],cells,out,h=>by simp only [dJ,Option.some.injEq] at h;subst h;simp [dJ]
 | (i,x)::rest,cells,out,h=>by
  simp only [dJ] at h
  split at h
  ·rename_i o s new hp hnew
   split at h
   ·rename_i hc
    have:=rN h
    simp only [List.map_cons,dJ,hp,AV.cells_cz hnew]
    simp only [Bool.and_eq_true,beq_iff_eq,decide_eq_true_eq] at hc
    rw [if_pos (by simp only [List.length_map,Bool.and_eq_true,beq_iff_eq,decide_eq_true_eq];exact ⟨hc.1,AZ hc.2⟩)]
    rw [← GC];exact this
   ·cases h
  ·cases h
theorem tK {nb nv:Nat} {place:Nat→Option (Nat×Nat)}:∀ {parts:List (Nat×AV)} {cells out:List AV},dJ place cells parts=some out →
  cells.all (AV.inn nb nv)=true→(parts.all fun p=>AV.inn nb nv p.2)=true→out.all (AV.inn nb nv)=true
 | [],cells,out,h,hc,_=>by simp only [dJ,Option.some.injEq] at h;subst h;exact hc
 | (i,x)::rest,cells,out,h,hc,hp=>by
  simp only [dJ] at h
  simp only [List.all_cons,Bool.and_eq_true] at hp
  split at h
  ·rename_i o s new hpl hnew
   split at h
   ·refine tK h ?_ hp.2
    have hn:new.all (AV.inn nb nv)=true:=by
     have h1:=hp.1
     cases x <;> simp only [AV.cells,Option.some.injEq,reduceCtorEq] at hnew <;> subst hnew <;> simp_all [AV.inn,AV.inns_eq]
    rw [List.all_eq_true] at hc hn ⊢
    intro y hy
    simp only [splice,List.mem_append] at hy
    rcases hy with (hy | hy) | hy
    ·exact hc y (List.mem_of_mem_take hy)
    ·exact hn y hy
    ·exact hc y (List.mem_of_mem_drop hy)
   ·cases h
  ·cases h
theorem rO (z:List Value):(cW z).map (AV.cz m)=cW z:=by have _:=G;simp [cW,AV.cz]
theorem tL (nb nv:Nat) (z:List Value):(cW z).all (AV.inn nb nv)=true:=by have _:=G;simp [cW,AV.inn]
theorem QO {T:TypeId} {parts:List (Nat×AV)} {av:AV} (h:jO P T parts=some av):jO P T (parts.map fun p=>(p.1,p.2.cz m))=some (av.cz m):=by
 unfold jO at h ⊢
 split at h
 ·rename_i ti hti
  split at h
  ·rename_i hz
   rw [if_pos hz]
   split at h
   ·rename_i fs hk
    split at h
    ·rename_i hfs
     rw [if_pos hfs]
     simp only [Option.map_eq_some_iff] at h ⊢
     obtain ⟨out,h1,rfl⟩:=h
     have:=rN (m:=m) h1
     rw [rO] at this
     exact ⟨_,this,by simp [AV.cz,AV.czs_eq]⟩
    ·cases h
   ·rename_i hk
    split at h
    ·cases h
    ·rename_i hk0
     rw [if_neg hk0]
     simp only [Option.map_eq_some_iff] at h ⊢
     obtain ⟨out,h1,rfl⟩:=h
     have:=rN (m:=m) h1
     rw [rO] at this
     exact ⟨_,this,by simp [AV.cz,AV.czs_eq]⟩
   ·cases h
  ·cases h
 ·cases h
theorem ME {nb nv:Nat} {T:TypeId} {parts:List (Nat×AV)} {av:AV} (h:jO P T parts=some av) (hp:(parts.all fun p=>AV.inn nb nv p.2)=true):AV.inn nb nv av=true:=by
 unfold jO at h
 split at h
 ·split at h
  ·split at h
   ·split at h
    ·simp only [Option.map_eq_some_iff] at h
     obtain ⟨out,h1,rfl⟩:=h
     simpa [AV.inn,AV.inns_eq] using tK h1 (tL _ _ _) hp
    ·cases h
   ·split at h
    ·cases h
    ·simp only [Option.map_eq_some_iff] at h
     obtain ⟨out,h1,rfl⟩:=h
     simpa [AV.inn,AV.inns_eq] using tK h1 (tL _ _ _) hp
   ·cases h
  ·cases h
 ·cases h
theorem cM {xs:List AV} {cs:List CV} (h:cV xs=some cs):xs.map (AV.cz m)=cs.map .cv:=by
 rw [gG h];simp [AV.cz]
theorem aCv {op:UnOp} {x a:AV} (h:EZ op x=some a):EZ op (x.cz m)=some (a.cz m)∧∃ c,a=.cv c:=by
 have _:=G
 unfold EZ at h
 split at h
 ·cases h;exact ⟨by simp [AV.cz,EZ],_,rfl⟩
 ·cases h;exact ⟨by simp [AV.cz,EZ],_,rfl⟩
 ·cases h
theorem aAc {l:List LK} {xs ys:List AV} {b:Bool} (h:iX l xs ys=some b):iX l (AV.czs m xs) (AV.czs m ys)=some b:=by
 have _:=G
 induction l generalizing xs ys b with
 | nil=>cases xs <;> cases ys <;> simp_all [iX,AV.czs]
 | cons k l ih =>
  cases xs with
  | nil=>simp [iX] at h
  | cons x xs =>
   cases ys with
   | nil=>simp [iX] at h
   | cons y ys =>
    simp only [AV.czs]
    cases x <;> first | (simp [iX] at h;done) | skip
    rename_i c
    cases y <;> first | (simp [iX] at h;done) | skip
    rename_i d
    simp only [AV.cz]
    unfold iX at h ⊢
    split at h
    ·rename_i h1 h2
     rw [ih h2]
     simp_all
    ·cases h
theorem aAd {op:BinOp} {T:TypeId} {x y a:AV} (h:mJ P op T x y=some a):mJ P op T (x.cz m) (y.cz m)=some (a.cz m)∧∃ c,a=.cv c:=by
 unfold mJ at h
 split at h
 ·rename_i k a' k' b
  have hr:∃ c,a=.cv c:=by
   split at h
   ·obtain ⟨_,rfl,_⟩:=sJ (P:=P) (k':=k') h T (.const undef) (.const undef) default;exact ⟨_,rfl⟩
   ·rename_i hs
    split at h
    ·obtain ⟨_,rfl,_⟩:=pX (P:=P) h hs T (.const undef) (.const undef) default;exact ⟨_,rfl⟩
    ·cases h
  obtain ⟨c,rfl⟩:=hr
  exact ⟨by simpa only [AV.cz,mJ] using h,_,rfl⟩
 ·split at h
  ·rename_i s z hti
   split at h
   ·cases h;exact ⟨by simp [AV.cz,mJ,hti],_,rfl⟩
   ·cases h;exact ⟨by simp [AV.cz,mJ,hti],_,rfl⟩
   ·cases h
  ·cases h
 ·rename_i xs ys
  split at h
  ·rename_i l hl
   split at h
   ·rename_i b hb
    simp only [AV.cz,mJ,hl,aAc hb]
    split at h
    ·cases h;exact ⟨rfl,_,rfl⟩
    ·cases h;exact ⟨rfl,_,rfl⟩
    ·cases h
   ·cases h
  ·cases h
 ·cases h
theorem qA {T:TypeId} {x a:AV} {f:Nat} (h:cP P T x f=some a):cP P T (x.cz m) f=some (a.cz m)∧(∀ nb nv,AV.inn nb nv x=true→AV.inn nb nv a=true):=by
 have _:=G
 unfold cP at h
 split at h
 ·rename_i s z fs hti
  split at h
  ·rename_i o s' hf
   split at h
   ·cases h
   ·rename_i hs
    split at h <;> simp only [Option.some.injEq,reduceCtorEq] at h
    all_goals (subst h;refine ⟨?_,fun nb nv hx=>by simp [AV.inn] at hx ⊢;try exact hx⟩;simp [AV.cz,cP,hti,hf,hs])
  ·cases h
 ·cases h
theorem JF {x a:AV} {i:Nat} (h:fS x i=some a):fS (x.cz m) i=some (a.cz m)∧(∀ nb nv,AV.inn nb nv x=true→AV.inn nb nv a=true):=by
 unfold fS at h
 split at h
 ·rename_i vs
  refine ⟨by simp [AV.cz,fS,AV.czs_eq,h],fun nb nv hx=>?_⟩
  simp only [AV.inn,AV.inns_eq,List.all_eq_true] at hx
  exact hx a (List.mem_of_getElem? h)
 ·cases h
theorem WN {T T':TypeId} {x a:AV} (h:tE P T T' x=some a):tE P T T' (x.cz m)=some (a.cz m)∧(∀ nb nv,AV.inn nb nv a=true):=by
 have _:=G
 unfold tE at h ⊢
 split at h
 ·split at h
  ·injection h with h;subst h
   exact ⟨by simp [AV.cz, *],fun _ _=>rfl⟩
  ·cases h
 ·cases h
def hC:List AV→Bool
 | .gd _ _::_=>true
 | _=>false
omit G in
theorem CK (m:Emb) {xs:List AV} (h:hC xs=false):gQ (AV.czs m xs)=false:=by
 match xs with
 | []=>rfl
 | .gd _ _::_=>simp [hC] at h
 | .any::_=>simp [AV.czs,AV.cz,gQ]
 | .cv _::_=>simp [AV.czs,AV.cz,gQ]
 | .ptr _ _::_=>simp [AV.czs,AV.cz,gQ]
 | .own _ _::_=>simp [AV.czs,AV.cz,gQ]
 | .opt _ _ _ _::_=>simp [AV.czs,AV.cz,gQ]
 | .agg _::_=>simp [AV.czs,AV.cz,gQ]
 | .tup _::_=>simp [AV.czs,AV.cz,gQ]
 | .fn _ _::_=>simp [AV.czs,AV.cz,gQ]
theorem aAe {x a:AV} (h:sL x=some a):sL (x.cz m)=some (a.cz m)∧(∀ nb nv,AV.inn nb nv x=true→AV.inn nb nv a=true):=by
 have _:=G
 unfold sL at h
 split at h <;> cases h <;> exact ⟨by simp [AV.cz,sL],fun _ _ h=>h⟩
theorem aAf {T:TypeId} {x a:AV} {f:Nat} (h:uQ P T x f=some a):uQ P T (x.cz m) f=some (a.cz m)∧(∀ nb nv,AV.inn nb nv x=true→AV.inn nb nv a=true):=by
 unfold uQ at h
 split at h
 ·rename_i fs hT
  split at h
  ·rename_i fd hfd
   split at h
   ·rename_i te cs hte
    split at h
    ·rename_i hagg
     split at h
     ·rename_i hlen
      injection h with h;subst h
      refine ⟨?_,fun nb nv hx=>?_⟩
      ·simp only [uQ,hT,hfd,hte,AV.cz,AV.czs_eq,List.length_map,if_pos hagg,if_pos hlen,List.map_drop,List.map_take]
      simp only [AV.inn,AV.inns_eq,List.all_eq_true] at hx ⊢
      exact fun y hy=>hx y (List.mem_of_mem_drop (List.mem_of_mem_take hy))
     ·cases h
    ·rename_i hagg
     refine ⟨?_,fun nb nv hx=>?_⟩
     ·simp only [uQ,hT,hfd,hte,AV.cz,AV.czs_eq,if_neg hagg,List.getElem?_map,h,Option.map_some]
     simp only [AV.inn,AV.inns_eq,List.all_eq_true] at hx
     exact hx a (List.mem_of_getElem? h)
   ·cases h
  ·cases h
 ·cases h
theorem TY {mx:Bool} {xs:List AV} {a:AV} (h:BX mx xs=some a):BX mx (xs.map (AV.cz m))=some (a.cz m)∧∃ c,a=.cv c:=by
 have _:=G
 unfold BX at h
 split at h
 ·split at h
  ·cases h
   rename_i hk
   subst hk
   exact ⟨by simp [AV.cz,BX],_,rfl⟩
  ·cases h
 ·cases h
end
end Go.Sx
namespace Go.Sx
open Go Go.RowKit
variable [G:Ghost]
inductive Ou where
 | nx (vs:List CV)
 | br (id:Nat) (vs:List CV)
 | ret (vs:List CV)
def aB (b:Bool) (x y:Option Ou):Option Ou:=match b with
 | true=>x
 | false=>y
def chk (b:Bool) (x:Option Ou):Option Ou:=match b with
 | true=>x
 | false=>none
theorem aH {b:Bool} {x:Option Ou} {r:Ou} (h:chk b x=some r):b=true∧x=some r:=by have _:=G;cases b <;> simp_all [chk]
def lfT (P:Program):Nat→TypeId→List Lf
 | 0,_=>[]
 | d+1,T=>match P.underlying T with
  | some (.struct fs)=>fs.toList.flatMap fun f=>lfT P d f.type
  | some (.array n e)=>(List.replicate n (lfT P d e)).flatten
  | some (.slice e)=>[.row (P.cellsOf e)]
  | some .bool=>[.bool]
  | some (.int k)=>[.int k]
  | _=>[.raw]
def oks:List Lf→List CV→Nat→Bool
 | [],_,_=>true
 | l::ls,cs,o=>(match cs[o]? with | some c=>l.ok c | none=>false)&&oks ls cs (o+1)
def avs:List Lf→List CV→Nat→List AV
 | [],_,_=>[]
 | l::ls,cs,o=>l.av (cs.getD o dC)::avs ls cs (o+1)
def aAg (agg:Bool) (size:Nat) (lfs:List Lf) (cs:List CV) (off:Nat) (K:AV→Option Ou):Option Ou:=
 if lfs.length=size then
  chk (oks lfs cs off) (match agg,lfs with
   | true,_::_=>K (.agg (avs lfs cs off))
   | false,[l]=>K (l.av (cs.getD off dC))
   | _,_=>none)
 else none
def MF (P:Program) (B:List Box) (V:List Vec) (T:TypeId) (x:AV) (K:AV→Option Ou):Option Ou:=
 match bM P T with
 | none=>none
 | some ti =>
  match x with
  | .ptr i off=>match bZ P ⟨[],B,V⟩ T (.ptr i off) with
   | some a=>K a
   | none=>none
  | .gd [] (.ptr i off)=>match B[i]? with
   | some b=>match b.live,cV b.cs with
    | true,some cs=>aAg ti.kind.agg ti.size (lfT P 20 T) cs off K
    | _,_=>none
   | none=>none
  | .cv (.ref cs)=>aAg ti.kind.agg ti.size (lfT P 20 T) cs 0 K
  | .opt i g el o=>match V[i]? with
   | some v=>if (v.sl&&v.ver == g)=true then chk (decide (el<v.es.length)) (aAg ti.kind.agg ti.size (lfT P 20 T) (v.es.getD el []) o K) else none
   | none=>none
  | _=>none
theorem mL:∀ {ls:List Lf} {cs:List CV} {o:Nat},oks ls cs o=true→∀ j l,ls[j]? = some l→∃ c,cs[o+j]? = some c∧l.ok c=true
 | [],_,_,_,j,l,h=>by have _:=G;simp at h
 | l'::ls,cs,o,h,j,l,hl=>by
  simp only [oks,Bool.and_eq_true] at h
  cases j with
  | zero =>
   simp only [List.getElem?_cons_zero,Option.some.injEq] at hl
   subst hl
   have h1:=h.1
   split at h1
   ·rename_i c hc;exact ⟨c,hc,h1⟩
   ·cases h1
  | succ j =>
   obtain ⟨c,h1,h2⟩:=mL h.2 j l (by simpa using hl)
   exact ⟨c,by rw [← h1];congr 1;omega,h2⟩
theorem BA:∀ {ls:List Lf} {cs:List CV} {o:Nat},oks ls cs o=true→AV.les (((cs.drop o).take ls.length).map .cv) (avs ls cs o)
 | [],cs,o,_=>by simp [avs];exact .nil
 | l::ls,cs,o,h=>by
  obtain ⟨c,h1,h2⟩:=mL h 0 l (by simp)
  simp only [oks,Bool.and_eq_true] at h
  have ih:=BA h.2
  simp only [Nat.add_zero] at h1
  have hd:cs.drop o=c::cs.drop (o+1):=by
   obtain ⟨h3,h4⟩:=List.getElem?_eq_some_iff.1 h1
   rw [List.drop_eq_getElem_cons h3,h4]
  simp only [avs,hd,List.length_cons,List.take_succ_cons,List.map_cons]
  refine .cons ?_ ih
  simp only [List.getD,h1,Option.getD_some]
  exact Lf.le h2
theorem AV.le_agg {xs ys:List AV} (h:AV.les xs ys):AV.le (.agg xs) (.agg ys):=by
 intro e w ks v hv
 simp only [AV.holds] at hv ⊢
 obtain ⟨vs,h1,h2⟩:=hv
 exact ⟨vs,h1,h.all h2⟩
def AV.clo:AV→Bool
 | .cv _=>true
 | .agg xs=>xs.all fun x=>match x with | .cv _=>true | _=>false
 | _=>false
theorem AV.clo_spec {x:AV} (h:x.clo=true):(∀ m,x.cz m=x)∧(∀ nb nv,AV.inn nb nv x=true)∧(∀ nb vs,AV.sco nb vs x):=by
 unfold AV.clo at h
 split at h
 ·exact ⟨fun m=>by simp [AV.cz],fun _ _=>rfl,fun _ _=>by simp [AV.sco]⟩
 ·rename_i xs
  have hx:∀ x∈xs,∃ c,x=.cv c:=by
   intro x hx
   have:=List.all_eq_true.1 h x hx
   split at this
   ·exact ⟨_,rfl⟩
   ·cases this
  refine ⟨fun m=>?_,fun nb nv=>?_,fun nb vs=>?_⟩
  ·simp only [AV.cz,AV.czs_eq]
   congr 1
   refine (List.map_congr_left fun x hxm=>?_).trans (List.map_id xs)
   obtain ⟨c,rfl⟩:=hx x hxm
   simp [AV.cz]
  ·simp only [AV.inn,AV.inns_eq,List.all_eq_true]
   intro x hxm
   obtain ⟨c,rfl⟩:=hx x hxm
   rfl
  ·simp only [AV.sco,AV.scos_iff]
   intro x hxm
   obtain ⟨c,rfl⟩:=hx x hxm
   simp [AV.sco]
 ·cases h
theorem TZ:∀ (ls:List Lf) (cs:List CV) (o:Nat),(AV.agg (avs ls cs o)).clo=true
 | [],_,_=>rfl
 | l::ls,cs,o=>by
  have:=TZ ls cs (o+1)
  obtain ⟨d,hd⟩:=l.av_cv (cs.getD o dC)
  simp only [AV.clo,avs,List.all_cons,hd,Bool.true_and] at this ⊢
  exact this
theorem xD {agg:Bool} {size:Nat} {lfs:List Lf} {cs:List CV} {off:Nat} {K:AV→Option Ou} {r:Ou} (h:aAg agg size lfs cs off K=some r) :
  ∃ x,K x=some r∧x.clo=true∧(agg=true→off+size≤cs.length∧AV.le (.agg (((cs.drop off).take size).map .cv)) x)∧(agg=false→∃ c,cs[off]? = some c∧AV.le (.cv c) x):=by
 unfold aAg at h
 split at h
 ·rename_i hl
  obtain ⟨h1,h2⟩:=aH h
  split at h2
  ·rename_i l ls
   refine ⟨_,h2,TZ _ _ _,fun _=>⟨?_,?_⟩,fun hc=>by cases hc⟩
   ·obtain ⟨c,h3,_⟩:=mL h1 ls.length ((l::ls)[ls.length]'(by simp)) (by simp)
    have:=(List.getElem?_eq_some_iff.1 h3).1
    simp at hl
    omega
   ·rw [← hl]
    exact AV.le_agg (BA h1)
  ·rename_i l
   obtain ⟨c,h3,h4⟩:=mL h1 0 l (by simp)
   simp only [Nat.add_zero] at h3
   obtain ⟨d,hd⟩:=l.av_cv (cs.getD off dC)
   refine ⟨_,h2,(by rw [hd];rfl),(fun hc=>by cases hc),fun _=>⟨c,h3,?_⟩⟩
   simp only [List.getD,h3,Option.getD_some]
   exact Lf.le h4
  ·cases h2
 ·cases h
section
variable {P:Program} {m:Emb} {s:SS} {st:St}
theorem QP (hE:Em m s st) {T:TypeId} {x:AV} {K:AV→Option Ou} {r:Ou} (hx:AV.inn s.B.length s.V.length x=true) (h:MF P s.B s.V T x K=some r) :
  ∃ a y,bZ P st T (x.cz m)=some a∧AV.le a (y.cz m)∧((y.clo=true)∨a=y.cz m)∧AV.inn s.B.length s.V.length y=true∧K y=some r:=by
 unfold MF at h
 cases hti:bM P T with
 | none=>simp [hti] at h
 | some ti =>
  simp only [hti] at h
  have fin:∀ {a:AV},(∃ x,K x=some r∧x.clo=true∧AV.le a x)→∃ y,AV.le a (y.cz m)∧((y.clo=true)∨a=y.cz m)∧AV.inn s.B.length s.V.length y=true∧K y=some r:=by
   rintro a ⟨y,h1,h2,h3⟩
   obtain ⟨c1,c2,_⟩:=AV.clo_spec h2
   exact ⟨y,by rw [c1];exact h3,.inl h2,c2 _ _,h1⟩
  split at h
  ·rename_i i off
   split at h
   ·rename_i a ha
    unfold bZ at ha
    simp only [hti] at ha
    split at ha
    ·rename_i b hb
     obtain ⟨hb1,hb2⟩:=hE.m.b i b hb
     rw [AV.inns_eq,List.all_eq_true] at hb2
     split at ha
     ·rename_i hl
      have key:bZ P st T ((AV.ptr i off).cz m)=some (a.cz m)∧AV.inn s.B.length s.V.length a=true:=by
       simp only [AV.cz,bZ,hti,hb1,Box.cz,hl,if_true,AV.czs_eq,List.length_map]
       split at ha
       ·rename_i hagg
        split at ha
        ·rename_i hsz
         injection ha with ha;subst ha
         rw [if_pos hagg,if_pos hsz]
         refine ⟨by simp [AV.cz,AV.czs_eq,List.map_take,List.map_drop],?_⟩
         simp only [AV.inn,AV.inns_eq,List.all_eq_true]
         intro y hy
         exact hb2 y (List.mem_of_mem_drop (List.mem_of_mem_take hy))
        ·cases ha
       ·rename_i hagg
        rw [if_neg hagg]
        exact ⟨by simp [ha],hb2 _ (List.mem_of_getElem? ha)⟩
      exact ⟨_,a,key.1,AV.le_refl _,.inr rfl,key.2,h⟩
     ·cases ha
    ·cases ha
   ·cases h
  ·rename_i i off
   split at h
   ·rename_i b hb
    split at h
    ·rename_i cs hl hcs
     obtain ⟨y,h1,h2,h3,h4⟩:=xD h
     obtain ⟨hb1,_⟩:=hE.m.b i b hb
     have hbc:(b.cz m).cs=cs.map .cv:=by simp only [Box.cz,AV.czs_eq];exact cM hcs
     have hbl:(b.cz m).live=true:=hl
     cases hagg:ti.kind.agg with
     | true =>
      obtain ⟨h5,h6⟩:=h3 hagg
      obtain ⟨y',q1,q2,q3,q4⟩:=fin ⟨y,h1,h2,h6⟩
      refine ⟨_,y',?_,q1,q2,q3,q4⟩
      simp only [AV.cz,bZ,hti,hb1,hbl,hbc,hagg,if_true,List.length_map,h5]
      simp [List.map_take,List.map_drop]
     | false =>
      obtain ⟨c,h5,h6⟩:=h4 hagg
      obtain ⟨y',q1,q2,q3,q4⟩:=fin ⟨y,h1,h2,h6⟩
      refine ⟨_,y',?_,q1,q2,q3,q4⟩
      simp only [AV.cz,bZ,hti,hb1,hbl,hbc,hagg,if_true,Bool.false_eq_true,if_false,List.getElem?_map,h5,Option.map_some]
    ·cases h
   ·cases h
  ·rename_i cs
   obtain ⟨y,h1,h2,h3,h4⟩:=xD h
   cases hagg:ti.kind.agg with
   | true =>
    obtain ⟨h5,h6⟩:=h3 hagg
    obtain ⟨y',q1,q2,q3,q4⟩:=fin ⟨y,h1,h2,h6⟩
    refine ⟨_,y',?_,q1,q2,q3,q4⟩
    simp only [AV.cz,bZ,hti,hagg,if_true]
    rw [if_pos (by omega)]
    simp
   | false =>
    obtain ⟨c,h5,h6⟩:=h4 hagg
    obtain ⟨y',q1,q2,q3,q4⟩:=fin ⟨y,h1,h2,h6⟩
    refine ⟨_,y',?_,q1,q2,q3,q4⟩
    simp only [AV.cz,bZ,hti,hagg,Bool.false_eq_true,if_false,h5,Option.map_some]
  ·rename_i i g el o
   split at h
   ·rename_i v hv
    split at h
    ·rename_i hc
     simp only [Bool.and_eq_true,beq_iff_eq] at hc
     obtain ⟨hl,rfl⟩:=hc
     obtain ⟨hel,h⟩:=aH h
     simp only [decide_eq_true_eq] at hel
     obtain ⟨y,h1,h2,h3,h4⟩:=xD h
     have hv1:=hE.m.v i v hv (.inl (Vec.sl_live hl))
     have hsm:=Vec.sl_mk hl v.k (m.fo i+v.ver) v.es
     have hes:v.es[el]? = some (v.es.getD el []):=by simp [List.getD,hel]
     cases hagg:ti.kind.agg with
     | true =>
      obtain ⟨h5,h6⟩:=h3 hagg
      obtain ⟨y',q1,q2,q3,q4⟩:=fin ⟨y,h1,h2,h6⟩
      refine ⟨_,y',?_,q1,q2,q3,q4⟩
      simp only [AV.cz,bZ,hti,hv1,Vec.cz,hsm,hagg,if_true,hes,beq_self_eq_true,Bool.and_self,h5]
     | false =>
      obtain ⟨c,h5,h6⟩:=h4 hagg
      obtain ⟨y',q1,q2,q3,q4⟩:=fin ⟨y,h1,h2,h6⟩
      refine ⟨_,y',?_,q1,q2,q3,q4⟩
      simp only [AV.cz,bZ,hti,hv1,Vec.cz,hsm,hagg,if_true,hes,beq_self_eq_true,Bool.and_self,h5,Option.map_some]
      rfl
    ·cases h
   ·cases h
  ·cases h
end
end Go.Sx
namespace Go.Sx
open Go Go.RowKit
variable [G:Ghost]
structure Lk where
 t:List Nat
 b:List Nat
 v:List Nat
 o:List Nat
section
variable {P:Program}
def aFj (op:BinOp) (k:IntKind) (a b:Int) (K:AV→Option Ou):Option Ou:=
 match op with
 | .quo=>chk (b != 0) (K (.cv (.val (.int k (k.wrap (a.tdiv b))))))
 | .rem=>chk (b != 0) (K (.cv (.val (.int k (a.tmod b)))))
 | .shl=>chk (decide (0≤b)) (K (.cv (.val (.int k (k.wrap (a*2 ^ (min b.toNat k.bits)))))))
 | .shr=>chk (decide (0≤b)) (K (.cv (.val (.int k (a.fdiv (2 ^ (min b.toNat k.bits)))))))
 | op=>match BW op k a b with
  | some x=>K x
  | none=>none
def aEo (P:Program) (op:BinOp) (T:TypeId) (x y:AV) (K:AV→Option Ou):Option Ou:=
 match x,y with
 | .cv (.val (.int k a)),.cv (.val (.int k' b))=>if k=k'∨op=.shl∨op=.shr then aFj op k a b K else none
 | x,y=>match mJ P op T x y with
  | some r=>K r
  | none=>none
theorem WO {op:BinOp} {T:TypeId} {x y:AV} {K:AV→Option Ou} {r:Ou} (h:aEo P op T x y K=some r) (m:Emb) :
  ∃ c,mJ P op T (x.cz m) (y.cz m)=some (.cv c)∧K (.cv c)=some r:=by
 unfold aEo at h
 split at h
 ·rename_i k a k' b
  simp only [AV.cz,mJ]
  split at h
  ·rename_i hk
   unfold aFj at h
   split at h
   ·obtain ⟨h1,h2⟩:=aH h
    rw [if_neg (by decide),if_pos (by simpa using hk)]
    simp only [bne_iff_ne] at h1
    exact ⟨_,by simp [BW,h1],h2⟩
   ·obtain ⟨h1,h2⟩:=aH h
    rw [if_neg (by decide),if_pos (by simpa using hk)]
    simp only [bne_iff_ne] at h1
    exact ⟨_,by simp [BW,h1],h2⟩
   ·obtain ⟨h1,h2⟩:=aH h
    rw [if_pos (by simp)]
    simp only [decide_eq_true_eq] at h1
    exact ⟨_,by simp [rL,Int.not_lt.2 h1],h2⟩
   ·obtain ⟨h1,h2⟩:=aH h
    rw [if_pos (by simp)]
    simp only [decide_eq_true_eq] at h1
    exact ⟨_,by simp [rL,Int.not_lt.2 h1],h2⟩
   ·rename_i hq hr hs1 hs2
    have hs:¬(op=.shl∨op=.shr):=fun h'=>h'.elim hs1 hs2
    split at h
    ·rename_i x hx
     obtain ⟨_,rfl,_⟩:=pX (P:=P) hx hs T (.const undef) (.const undef) default
     rw [if_neg hs,if_pos (by rcases hk with hk | hk | hk;exact hk;exact absurd hk hs1;exact absurd hk hs2)]
     exact ⟨_,hx,h⟩
    ·cases h
  ·cases h
 ·split at h
  ·rename_i r' hr
   obtain ⟨h1,c,rfl⟩:=aAd (m:=m) hr
   exact ⟨c,by simpa [AV.cz] using h1,h⟩
  ·cases h
def aCw (K:Nat→Option Ou) (n:Int):Nat→Nat→Option Ou
 | q,0=>K q
 | q,f+1=>aB (n == Int.ofNat q) (K q) (aCw K n (q+1) f)
theorem GD {K:Nat→Option Ou} {n:Int} {r:Ou}:∀ (f q:Nat),(q:Int)≤n→n≤(q+f:Nat)→aCw K n q f=some r→K n.toNat=some r
 | 0,q,h1,h2,h=>by
  have _:=G
  have:n.toNat=q:=by omega
  rw [this];exact h
 | f+1,q,h1,h2,h=>by
  simp only [aCw] at h
  cases hc:(n == Int.ofNat q) with
  | true =>
   rw [hc] at h
   have:n.toNat=q:=by have:=beq_iff_eq.1 hc;rw [this];rfl
   rw [this];exact h
  | false =>
   rw [hc] at h
   have hne:n≠(q:Int):=fun e=>by rw [e] at hc;simp at hc
   exact GD f (q+1) (by omega) (by omega) h
def tM (P:Program) (V:List Vec) (T:TypeId) (lit:Bool) (x i:AV) (K:AV→Option Ou):Option Ou:=
 match i with
 | .cv (.val (.int _ n)) =>
  match bM P T with
  | some ⟨_,_,.arr len _ k⟩ =>
   if k=0 then none else
   match x with
   | .ptr j off=>if lit=true then (if 0≤n∧n<len then K (.ptr j (off+n.toNat*k)) else none) else chk (decide (0≤n)&&decide (n<len)) (K (.gd [] (.ptr j (off+n.toNat*k))))
   | .gd [] (.ptr j off)=>chk (decide (0≤n)&&decide (n<len)) (K (.gd [] (.ptr j (off+n.toNat*k))))
   | .cv (.ref cs)=>chk (decide (0≤n)&&decide (n<len)) (K (.cv (.ref (cs.drop (n.toNat*k)))))
   | .opt j u el off=>chk (decide (0≤n)&&decide (n<len)) (K (.opt j u el (off+n.toNat*k)))
   | _=>none
  | some ⟨_,_,.slc _ k _⟩ =>
   if k=0 then none else
   match x with
   | .cv (.row k' es)=>if k'=k then chk (decide (0≤n)&&decide (n<es.length)) (K (.cv (.ref (es.getD n.toNat [])))) else none
   | .own j u =>
    match V[j]? with
    | some v=>if (v.sl&&v.ver == u&&v.k == k)=true then chk (decide (0≤n)&&decide (n<v.es.length)) (K (.opt j u n.toNat 0)) else none
    | none=>none
   | .fn len [.gd [false] .any,.any,.ptr j off]=>chk (decide (0≤n)&&decide (n<Int.ofNat len)) (aCw (fun q=>K (.ptr j (off+q*k))) n 0 (Nat.pred len))
   | _=>none
  | _=>none
 | _=>none
variable {m:Emb} {s:SS} {st:St}
theorem AG (hE:Em m s st) {T:TypeId} {lit:Bool} {x i:AV} {K:AV→Option Ou} {r:Ou} (hx:AV.inn s.B.length s.V.length x=true) (h:tM P s.V T lit x i K=some r) :
  ∃ y,dA P st T (x.cz m) (i.cz m)=some (y.cz m)∧AV.inn s.B.length s.V.length y=true∧K y=some r:=by
 unfold tM at h
 split at h
 ·rename_i kk n
  simp only [AV.cz,dA]
  split at h
  ·rename_i a1 a2 len a3 k hti
   simp only [hti]
   split at h
   ·cases h
   ·rename_i hk
    simp only [if_neg hk]
    split at h
    ·rename_i j off
     simp only [AV.cz]
     split at h
     ·split at h
      ·rename_i hn
       exact ⟨.ptr j (off+n.toNat*k),by rw [if_pos hn];simp [AV.cz],by simpa [AV.inn] using hx,h⟩
      ·cases h
     ·obtain ⟨h1,h2⟩:=aH h
      simp only [Bool.and_eq_true,decide_eq_true_eq] at h1
      exact ⟨_,by rw [if_pos h1];simp [AV.cz],by simpa [AV.inn] using hx,h2⟩
    all_goals first
     | cases h;done
     | (obtain ⟨h1,h2⟩:=aH h
        simp only [Bool.and_eq_true,decide_eq_true_eq] at h1
        refine ⟨_,?_,?_,h2⟩
        ·simp only [AV.cz];rw [if_pos h1]
        ·first | rfl | (simp only [AV.inn] at hx ⊢;exact hx))
  ·rename_i a1 a2 a3 k a4 hti
   simp only [hti]
   split at h
   ·cases h
   ·rename_i hk
    simp only [if_neg hk]
    split at h
    ·rename_i k' es
     split at h
     ·rename_i hkk
      obtain ⟨h1,h2⟩:=aH h
      simp only [Bool.and_eq_true,decide_eq_true_eq] at h1
      exact ⟨_,by simp only [AV.cz];rw [if_pos hkk,if_pos h1],rfl,h2⟩
     ·cases h
    ·rename_i j u
     split at h
     ·rename_i v hv
      split at h
      ·rename_i hc
       simp only [Bool.and_eq_true,beq_iff_eq] at hc
       obtain ⟨⟨hl,rfl⟩,hk2⟩:=hc
       obtain ⟨h1,h2⟩:=aH h
       simp only [Bool.and_eq_true,decide_eq_true_eq] at h1
       have hv1:=hE.m.v j v hv (.inl (Vec.sl_live hl))
       have hsm:(v.live&&decide (v.T<aI))=true:=hl
       refine ⟨_,?_,by simpa [AV.inn] using hx,h2⟩
       simp only [AV.cz,hv1,Vec.cz,Vec.sl,hsm,hk2,beq_self_eq_true,Bool.and_self,if_true]
       rw [if_pos h1]
      ·cases h
     ·cases h
    ·rename_i len j off
     obtain ⟨h1,h2⟩:=aH h
     simp only [Bool.and_eq_true,decide_eq_true_eq] at h1
     have h1':0≤n∧n<((len:Nat):Int):=h1
     have h3:=GD (Nat.pred len) 0 (by simpa using h1.1) (by have:Nat.pred len=len - 1:=rfl;omega) h2
     exact ⟨.ptr j (off+n.toNat*k),by simp only [AV.cz,AV.czs];rw [if_pos h1'],by simp only [AV.inn,AV.inns,Bool.true_and,Bool.and_true] at hx ⊢;exact hx,h3⟩
    ·cases h
  ·cases h
 ·cases h
def QQ (P:Program) (T:TypeId) (x:AV) (f:Nat):Option AV:=
 match x with
 | .gd [] y=>(cP P T y f).map fun z=>.gd [] z
 | x=>cP P T x f
theorem MG {T:TypeId} {x y:AV} {f:Nat} (h:QQ P T x f=some y):cP P T (x.cz m) f=some (y.cz m)∧(∀ nb nv,AV.inn nb nv x=true→AV.inn nb nv y=true):=by
 unfold QQ at h
 split at h
 ·rename_i z
  simp only [Option.map_eq_some_iff] at h
  obtain ⟨q,h1,rfl⟩:=h
  obtain ⟨h2,h3⟩:=qA (m:=m) h1
  exact ⟨by simpa [AV.cz] using h2,fun nb nv hx=>by simp only [AV.inn] at hx ⊢;exact h3 nb nv hx⟩
 ·exact qA h
def QR (P:Program) (T:TypeId) (lit:Bool) (x i:AV) (K:AV→Option Ou):Option Ou:=
 match bM P T,x,i with
 | some ⟨_,_,.arr n et 1⟩,.agg cs,.cv (.val (.int _ j)) =>
  match bM P et with
  | some te=>if te.kind.agg=true then none else
   if lit=true then (if 0≤j∧j<n then (match cs[j.toNat]? with | some x=>K x | none=>none) else none) else
   match cV cs,lfT P 20 et with
   | some ds,[l]=>chk (decide (0≤j)&&decide (j<n)&&oks [l] ds j.toNat) (K (l.av (ds.getD j.toNat dC)))
   | _,_=>none
  | none=>none
 | _,_,_=>none
theorem MH {T:TypeId} {lit:Bool} {x i:AV} {K:AV→Option Ou} {r:Ou} {nb nv:Nat} (hx:AV.inn nb nv x=true) (h:QR P T lit x i K=some r) :
  ∃ a y,GA P T (x.cz m) (i.cz m)=some a∧AV.le a (y.cz m)∧((y.clo=true)∨a=y.cz m)∧AV.inn nb nv y=true∧K y=some r:=by
 unfold QR at h
 split at h
 ·rename_i a1 a2 n et cs kk j hti
  split at h
  ·rename_i te hte
   split at h
   ·cases h
   ·rename_i hagg
    split at h
    ·split at h
     ·rename_i hj
      split at h
      ·rename_i y hy
       simp only [AV.inn,AV.inns_eq,List.all_eq_true] at hx
       refine ⟨_,y,?_,AV.le_refl _,.inr rfl,hx y (List.mem_of_getElem? hy),h⟩
       simp only [AV.cz,GA,hti,hte,if_neg hagg,if_pos hj,AV.czs_eq,List.getElem?_map,hy,Option.map_some]
      ·cases h
     ·cases h
    ·split at h
     ·rename_i ds l hds hl
      obtain ⟨h1,h2⟩:=aH h
      simp only [Bool.and_eq_true,decide_eq_true_eq] at h1
      obtain ⟨c,h3,h4⟩:=mL h1.2 0 l (by simp)
      simp only [Nat.add_zero] at h3
      obtain ⟨d,hd⟩:=l.av_cv (ds.getD j.toNat dC)
      refine ⟨.cv c,_,?_,?_,.inl (by rw [hd];rfl),by rw [hd];rfl,h2⟩
      ·simp only [AV.cz,GA,hti,hte,if_neg hagg,if_pos h1.1,AV.czs_eq,cM hds,List.getElem?_map,h3,Option.map_some]
      ·rw [hd,AV.cz_cv,← hd]
       simp only [List.getD,h3,Option.getD_some]
       exact Lf.le h4
     ·cases h
  ·cases h
 ·cases h
def aEp:Option AV→Option Int
 | none=>some 0
 | some (.cv (.val (.int _ n)))=>some n
 | _=>none
def aEq (n:Nat):Option AV→Option Int
 | none=>some n
 | some (.cv (.val (.int _ n)))=>some n
 | _=>none
theorem aAh {lo:Option AV} {l:Int} (h:aEp lo=some l):(lo=none∧l=0)∨∃ k,lo=some (.cv (.val (.int k l))):=by
 have _:=G
 unfold aEp at h
 split at h
 ·cases h;exact .inl ⟨rfl,rfl⟩
 ·cases h;exact .inr ⟨_,rfl⟩
 ·cases h
theorem aAi {n:Nat} {lo:Option AV} {l:Int} (h:aEq n lo=some l):(lo=none∧l=n)∨∃ k,lo=some (.cv (.val (.int k l))):=by
 have _:=G
 unfold aEq at h
 split at h
 ·cases h;exact .inl ⟨rfl,rfl⟩
 ·cases h;exact .inr ⟨_,rfl⟩
 ·cases h
def JG (P:Program) (T:TypeId) (x:AV) (lo hi:Option AV) (K:AV→Option Ou):Option Ou:=
 match bM P T with
 | some ⟨_,_,.slc _ k _⟩ =>
  if k=0 then none else
  match x with
  | .cv (.row k' es) =>
   if k'=k then
    match aEp lo,aEq es.length hi with
    | some l,some h=>chk (decide (0≤l)&&decide (l≤h)&&decide (h≤es.length)) (K (.cv (.row k ((es.take h.toNat).drop l.toNat))))
    | _,_=>none
   else none
  | _=>none
 | some ⟨_,_,.arr n _ k⟩ =>
  match x,lo,hi with
  | .cv (.ref cs),none,none=>if k≠0∧n≤maxLen then chk (decide (n*k≤cs.length)) (K (.cv (.row k (aS k n (cs.take (n*k)))))) else none
  | _,_,_=>none
 | _=>none
theorem yX {T:TypeId} {x:AV} {lo hi:Option AV} {K:AV→Option Ou} {r:Ou} (h:JG P T x lo hi K=some r) :
  ∃ c,kR P T (x.cz m) (lo.map (AV.cz m)) (hi.map (AV.cz m))=some (.cv c)∧K (.cv c)=some r:=by
 unfold JG at h
 split at h
 ·rename_i a1 a2 a3 k a4 hti
  split at h
  ·cases h
  ·rename_i hk
   split at h
   ·rename_i k' es
    split at h
    ·rename_i hkk
     split at h
     ·rename_i l hh hl hhi
      obtain ⟨h1,h2⟩:=aH h
      simp only [Bool.and_eq_true,decide_eq_true_eq] at h1
      refine ⟨_,?_,h2⟩
      rcases aAh hl with ⟨rfl,rfl⟩ | ⟨kl,rfl⟩ <;> rcases aAi hhi with ⟨rfl,rfl⟩ | ⟨kh,rfl⟩
      all_goals
       simp only [Option.map_none,Option.map_some,AV.cz,kR,hti,if_neg hk,if_pos hkk]
       rw [if_pos ⟨h1.1.1,h1.1.2,h1.2⟩]
     ·cases h
    ·cases h
   ·cases h
 ·rename_i a1 a2 n a3 k hti
  split at h
  ·rename_i cs
   split at h
   ·rename_i hc
    obtain ⟨h1,h2⟩:=aH h
    simp only [decide_eq_true_eq] at h1
    refine ⟨_,?_,h2⟩
    simp only [AV.cz,kR,hti,Option.map_none]
    rw [if_pos ⟨hc.1,h1,hc.2⟩]
   ·cases h
  ·cases h
 ·cases h
def JH (P:Program) (T:TypeId) (x:AV) (lo:Option AV) (hi mx:AV) (K:AV→Option Ou):Option Ou:=
 match hi,mx with
 | .cv (.val (.int k n)),.cv (.val (.int _ m))=>match x with
  | .cv (.row k' es)=>chk (decide (n=m)) (JG P T (.cv (.row k' es)) lo (some (.cv (.val (.int k n)))) K)
  | _=>none
 | _,_=>none
theorem JI {T:TypeId} {x hi mx:AV} {lo:Option AV} {K:AV→Option Ou} {r:Ou} (h:JH P T x lo hi mx K=some r) :
  ∃ c,pY P T (x.cz m) (lo.map (AV.cz m)) (hi.cz m) (mx.cz m)=some (.cv c)∧K (.cv c)=some r:=by
 unfold JH at h
 split at h
 ·rename_i k n q mm
  split at h
  ·rename_i k' es
   obtain ⟨h1,h2⟩:=aH h
   simp only [decide_eq_true_eq] at h1
   obtain ⟨c,h3,h4⟩:=yX (m:=m) h2
   refine ⟨c,?_,h4⟩
   simp only [AV.cz,Option.map_some] at h3
   simp only [AV.cz,pY,if_pos h1]
   exact h3
  ·cases h
 ·cases h
end
end Go.Sx
namespace Go.Sx
open Go Go.RowKit
variable [G:Ghost]
section
variable {P:Program} {m:Emb} {B B1:List Box} {V V1:List Vec}
theorem EmM.lt_b (h:EmM m B V B1 V1) {i:Nat} (hi:i<B.length):m.fb i<B1.length:=by
 have _:=G
 obtain ⟨h1,_⟩:=h.b i B[i] (by simp [hi])
 exact (List.getElem?_eq_some_iff.1 h1).1
theorem EmM.lt_v (h:EmM m B V B1 V1) {i:Nat} (hi:i<V.length):m.fv i<V1.length:=by
 have _:=G
 exact h.vlt i hi
theorem Emb.fb_mem {m:Emb} {i:Nat} (h:i<m.bm.length):m.fb i∈m.bm:=by
 have _:=G
 simp only [Emb.fb,List.getD,List.getElem?_eq_getElem h,Option.getD_some];exact List.getElem_mem h
theorem Emb.fv_mem {m:Emb} {i:Nat} (h:i<m.vm.length):m.fv i∈m.vm:=by
 have _:=G
 simp only [Emb.fv,List.getD,List.getElem?_eq_getElem h,Option.getD_some];exact List.getElem_mem h
theorem EmM.setB (h:EmM m B V B1 V1) {i:Nat} {b:Box} (hi:i<B.length) (hb:AV.inns B.length V.length b.cs=true):EmM m (B.set i b) V (B1.set (m.fb i) (b.cz m)) V1:=by
 refine ⟨by simp [h.bl],h.vl,h.ol,fun j c hj=>?_,fun j v hv=>h.v j v hv,h.vlt,?_,?_⟩
 ·rw [List.getElem?_set] at hj
  split at hj
  ·rename_i hij
   subst hij
   simp only [hi,if_true,Option.some.injEq] at hj
   subst hj
   exact ⟨by rw [List.getElem?_set_self (h.lt_b hi)],by simpa using hb⟩
  ·rename_i hij
   obtain ⟨h1,h2⟩:=h.b j c hj
   have hjl:=(List.getElem?_eq_some_iff.1 hj).1
   refine ⟨?_,by simpa using h2⟩
   rw [List.getElem?_set_ne fun he=>hij (h.bi i j hi hjl he)]
   exact h1
 ·intro j k hj hk;exact h.bi j k (by simpa using hj) (by simpa using hk)
 ·exact h.vi
theorem EmM.setV (h:EmM m B V B1 V1) {i:Nat} {v:Vec} (hi:i<V.length):EmM m B (V.set i v) B1 (V1.set (m.fv i) (v.cz m i)):=by
 refine ⟨h.bl,by simp [h.vl],by simp [h.ol],fun j c hj=>by simpa using h.b j c hj,fun j c hj hcl=>?_,fun j hj=>by simpa using h.vlt j (by simpa using hj),h.bi,?_⟩
 ·rw [List.getElem?_set] at hj
  split at hj
  ·rename_i hij
   subst hij
   simp only [hi,if_true,Option.some.injEq] at hj
   subst hj
   rw [List.getElem?_set_self (h.lt_v hi)]
  ·rename_i hij
   have hjl:=(List.getElem?_eq_some_iff.1 hj).1
   rw [List.getElem?_set_ne fun he=>hij (h.vi i j hi hjl he)]
   exact h.v j c hj hcl
 ·intro j k hj hk;exact h.vi j k (by simpa using hj) (by simpa using hk)
def Emb.pushB (m:Emb) (k:Nat):Emb:=⟨m.bm++[k],m.vm,m.vb⟩
def Emb.pushV (m:Emb) (k:Nat):Emb:=⟨m.bm,m.vm++[k],m.vb++[0]⟩
theorem Emb.pushB_up (m:Emb) (k:Nat):m.Up (m.pushB k):=by
 have _:=G
 refine ⟨by simp [Emb.pushB],fun i hi=>?_,Nat.le_refl _,fun _ _=>rfl⟩
 simp [Emb.pushB,Emb.fb,List.getD,List.getElem?_append_left hi]
theorem Emb.pushV_up (m:Emb) (k:Nat):m.Up (m.pushV k):=by
 have _:=G
 refine ⟨Nat.le_refl _,fun _ _=>rfl,by simp [Emb.pushV],fun i hi=>?_⟩
 simp [Emb.pushV,Emb.fv,List.getD,List.getElem?_append_left hi]
theorem Emb.pushV_fo {m:Emb} (k:Nat) (h:m.vb.length=m.vm.length):∀ i,i<m.vm.length→(m.pushV k).fo i=m.fo i:=by
 have _:=G
 intro i hi
 simp [Emb.pushV,Emb.fo,List.getD,List.getElem?_append_left (show i<m.vb.length by omega)]
theorem Emb.pushB_new (m:Emb) (k:Nat):(m.pushB k).fb m.bm.length=k:=by have _:=G;simp [Emb.pushB,Emb.fb,List.getD]
theorem Emb.pushV_new (m:Emb) (k:Nat):(m.pushV k).fv m.vm.length=k:=by have _:=G;simp [Emb.pushV,Emb.fv,List.getD]
theorem Emb.pushV_new0 {m:Emb} (k:Nat) (h:m.vb.length=m.vm.length):(m.pushV k).fo m.vm.length=0:=by have _:=G;simp [Emb.pushV,Emb.fo,List.getD,h]
theorem EmM.up_b (h:EmM m B V B1 V1) {m':Emb} (hu:m.Up m') (ho:∀ i,i<m.vm.length→m'.fo i=m.fo i) {i:Nat} {b:Box} (hb:B[i]? = some b):b.cz m'=b.cz m:=by
 simp only [Box.cz,AV.czs_up hu ho b.cs (by rw [h.bl,h.vl];exact (h.b i b hb).2)]
theorem EmM.pushB (h:EmM m B V B1 V1) {b:Box} (hb:AV.inns B.length V.length b.cs=true):EmM (m.pushB B1.length) (B++[b]) V (B1++[b.cz (m.pushB B1.length)]) V1:=by
 have hu:=Emb.pushB_up m B1.length
 refine ⟨by simp [Emb.pushB,h.bl],h.vl,h.ol,fun i c hi=>?_,fun i v hv=>?_,h.vlt,fun i j hi hj he=>?_,h.vi⟩
 ·by_cases hil:i<B.length
  ·rw [List.getElem?_append_left hil] at hi
   obtain ⟨h1,h2⟩:=h.b i c hi
   rw [hu.b i (by rw [h.bl];exact hil),h.up_b hu (fun _ _=>rfl) hi,List.getElem?_append_left (h.lt_b hil)]
   refine ⟨h1,?_⟩
   rw [AV.inns_eq,List.all_eq_true] at h2 ⊢
   exact fun x hx=>AV.inn_mono (by simp) (Nat.le_refl _) x (h2 x hx)
  ·rw [List.getElem?_append_right (by omega)] at hi
   have hi0:i - B.length=0:=by
    have:=(List.getElem?_eq_some_iff.1 hi).1
    simp at this
    omega
   obtain rfl:i=B.length:=by omega
   simp only [Nat.sub_self,List.getElem?_cons_zero,Option.some.injEq] at hi
   subst hi
   rw [← h.bl,Emb.pushB_new]
   refine ⟨by simp,?_⟩
   rw [AV.inns_eq,List.all_eq_true] at hb ⊢
   exact fun x hx=>AV.inn_mono (by simp [h.bl]) (Nat.le_refl _) x (hb x hx)
 ·have:=h.v i v hv
  exact this
 ·simp only [List.length_append,List.length_cons,List.length_nil] at hi hj
  by_cases h1:i<B.length <;> by_cases h2:j<B.length
  ·rw [hu.b i (by rw [h.bl];exact h1),hu.b j (by rw [h.bl];exact h2)] at he
   exact h.bi i j h1 h2 he
  ·obtain rfl:j=B.length:=by omega
   rw [hu.b i (by rw [h.bl];exact h1),← h.bl,Emb.pushB_new] at he
   have:=h.lt_b h1
   omega
  ·obtain rfl:i=B.length:=by omega
   rw [hu.b j (by rw [h.bl];exact h2),← h.bl,Emb.pushB_new] at he
   have:=h.lt_b h2
   omega
  ·omega
theorem EmM.pushV (h:EmM m B V B1 V1) {v:Vec}:EmM (m.pushV V1.length) B (V++[v]) B1 (V1++[⟨v.live,v.T,v.k,v.ver,v.es⟩]):=by
 have hu:=Emb.pushV_up m V1.length
 have hl:m.vb.length=m.vm.length:=by rw [h.ol,h.vl]
 have ho:=Emb.pushV_fo (m:=m) V1.length hl
 refine ⟨h.bl,by simp [Emb.pushV,h.vl],by simp [Emb.pushV,h.ol],fun i c hi=>?_,fun i c hi hcl=>?_,fun i hi=>?_,h.bi,fun i j hi hj he=>?_⟩
 ·obtain ⟨h1,h2⟩:=h.b i c hi
  rw [h.up_b hu ho hi]
  refine ⟨h1,?_⟩
  rw [AV.inns_eq,List.all_eq_true] at h2 ⊢
  exact fun x hx=>AV.inn_mono (Nat.le_refl _) (by simp) x (h2 x hx)
 ·by_cases hil:i<V.length
  ·rw [List.getElem?_append_left hil] at hi
   have h1:=h.v i c hi hcl
   rw [hu.v i (by rw [h.vl];exact hil),List.getElem?_append_left (h.lt_v hil),h1]
   simp only [Vec.cz,ho i (by rw [h.vl];exact hil)]
  ·rw [List.getElem?_append_right (by omega)] at hi
   have hi0:i - V.length=0:=by
    have:=(List.getElem?_eq_some_iff.1 hi).1
    simp at this
    omega
   obtain rfl:i=V.length:=by omega
   simp only [Nat.sub_self,List.getElem?_cons_zero,Option.some.injEq] at hi
   subst hi
   rw [← h.vl,Emb.pushV_new]
   simp [Vec.cz,Emb.pushV_new0 _ hl]
 ·simp only [List.length_append,List.length_cons,List.length_nil] at hi ⊢
  by_cases h1:i<V.length
  ·rw [hu.v i (by rw [h.vl];exact h1)];have:=h.vlt i h1;omega
  ·obtain rfl:i=V.length:=by omega
   rw [← h.vl,Emb.pushV_new];omega
 ·simp only [List.length_append,List.length_cons,List.length_nil] at hi hj
  by_cases h1:i<V.length <;> by_cases h2:j<V.length
  ·rw [hu.v i (by rw [h.vl];exact h1),hu.v j (by rw [h.vl];exact h2)] at he
   exact h.vi i j h1 h2 he
  ·obtain rfl:j=V.length:=by omega
   rw [hu.v i (by rw [h.vl];exact h1),← h.vl,Emb.pushV_new] at he
   have:=h.lt_v h1
   omega
  ·obtain rfl:i=V.length:=by omega
   rw [hu.v j (by rw [h.vl];exact h2),← h.vl,Emb.pushV_new] at he
   have:=h.lt_v h2
   omega
  ·omega
theorem Stp.setB (h:EmM m B V B1 V1) {i:Nat} (hi:i<B.length) (b:Box):Stp m B1 V1 m (B1.set (m.fb i) b) V1:=by
 refine ⟨Emb.Up.refl _,by simp,Nat.le_refl _,fun _ h=>.inl h,fun _ h=>.inl h,fun j hj hn=>?_,fun _ _ _=>rfl⟩
 rw [List.getElem?_set_ne]
 rintro rfl
 exact hn (Emb.fb_mem (by rw [h.bl];exact hi))
theorem Stp.setV (h:EmM m B V B1 V1) {i:Nat} (hi:i<V.length) (v:Vec):Stp m B1 V1 m B1 (V1.set (m.fv i) v):=by
 refine ⟨Emb.Up.refl _,Nat.le_refl _,by simp,fun _ h=>.inl h,fun _ h=>.inl h,fun _ _ _=>rfl,fun j hj hn=>?_⟩
 rw [List.getElem?_set_ne]
 rintro rfl
 exact hn (Emb.fv_mem (by rw [h.vl];exact hi))
theorem Stp.pushB (b:Box):Stp m B1 V1 (m.pushB B1.length) (B1++[b]) V1:=by
 refine ⟨Emb.pushB_up _ _,by simp,Nat.le_refl _,fun j hj=>?_,fun _ h=>.inl h,fun j hj hn=>?_,fun _ _ _=>rfl⟩
 ·simp only [Emb.pushB,List.mem_append,List.mem_singleton] at hj
  rcases hj with hj | rfl
  ·exact .inl hj
  ·exact .inr (Nat.le_refl _)
 ·rw [List.getElem?_append_left hj]
theorem Stp.pushV (v:Vec):Stp m B1 V1 (m.pushV V1.length) B1 (V1++[v]):=by
 refine ⟨Emb.pushV_up _ _,Nat.le_refl _,by simp,fun _ h=>.inl h,fun j hj=>?_,fun _ _ _=>rfl,fun j hj hn=>?_⟩
 ·simp only [Emb.pushV,List.mem_append,List.mem_singleton] at hj
  rcases hj with hj | rfl
  ·exact .inl hj
  ·exact .inr (Nat.le_refl _)
 ·rw [List.getElem?_append_left hj]
end
end Go.Sx
namespace Go.Sx
open Go Go.RowKit
variable [G:Ghost]
def cX (n k by_:Nat):Bool:=decide ((n+k)*by_≤140737488355328)&&decide (n+k≤maxLen)
def Lf.flatK:Lf→Bool
 | .int _=>true
 | .bool=>true
 | _=>false
def Lf.sel (l:Lf) (b:Bool) (c c':CV):CV:=
 match l with
 | .int k=>.val (.int k (if b then cI c else cI c'))
 | .bool=>.val (.bool (if b then cB c else cB c'))
 | _=>c'
def FI (l:Lf) (off:Nat) (c:CV):List CV→Nat→List CV
 | [],_=>[]
 | c'::cs,j=>(if l.ok c'=true then l.sel (decide (j=off)) c c' else c')::FI l off c cs (j+1)
theorem Lf.sel_eq {l:Lf} {b:Bool} {c c':CV} (hf:l.flatK=true) (hc:l.ok c=true) (hc':l.ok c'=true):l.sel b c c'=if b then c else c':=by
 have _:=G
 cases l with
 | int k =>
  unfold Lf.ok at hc hc'
  cases c <;> try simp at hc
  rename_i v
  cases v <;> try simp at hc
  cases c' <;> try simp at hc'
  rename_i v'
  cases v' <;> try simp at hc'
  subst hc;subst hc'
  cases b <;> simp [Lf.sel,cI]
 | bool =>
  unfold Lf.ok at hc hc'
  cases c <;> try simp at hc
  rename_i v
  cases v <;> try simp at hc
  cases c' <;> try simp at hc'
  rename_i v'
  cases v' <;> try simp at hc'
  cases b <;> simp [Lf.sel,cB]
 | row k=>simp [Lf.flatK] at hf
 | ref=>simp [Lf.flatK] at hf
 | raw=>simp [Lf.flatK] at hf
theorem JJ {l:Lf} {c:CV} (hf:l.flatK=true) (hc:l.ok c=true):∀ (cs:List CV) (j off:Nat),(∀ c',cs[off]? = some c'→l.ok c'=true)→FI l (j+off) c cs j=cs.set off c
 | [],j,off,_=>by simp [FI]
 | c'::cs,j,off,h=>by
  simp only [FI]
  cases off with
  | zero =>
   have h0:=h c' (by simp)
   have hrest:∀ (cs:List CV) (i:Nat),j<i→FI l j c cs i=cs:=by
    intro cs
    induction cs with
    | nil=>intro i _;rfl
    | cons d cs ih =>
     intro i hi
     simp only [FI,ih (i+1) (by omega)]
     split
     ·rename_i hd
      rw [Lf.sel_eq hf hc hd]
      simp [show ¬i=j by omega]
     ·rfl
   simp only [Nat.add_zero,List.set_cons_zero,hrest cs (j+1) (by omega),h0,if_true,Lf.sel_eq hf hc h0,decide_true]
  | succ off =>
   have ih:=JJ hf hc cs (j+1) off (fun d hd=>h d (by simpa using hd))
   rw [show j+(off+1)=j+1+off by omega,ih]
   simp only [List.set_cons_succ]
   congr 1
   split
   ·rename_i hd
    rw [Lf.sel_eq hf hc hd]
    simp [show ¬j=j+1+off by omega]
   ·rfl
def MJ:List Lf→Nat→List CV→List CV→List CV
 | l::ls,off,c::new,cs=>MJ ls (off+1) new (FI l off c cs 0)
 | _,_,_,cs=>cs
theorem UA {c:CV}:∀ {ls:List Lf} {cs:List CV} {o off:Nat},off<o→oks ls (cs.set off c) o=oks ls cs o
 | [],_,_,_,_=>have _:=G;rfl
 | l::ls,cs,o,off,h=>by
  simp only [oks]
  rw [List.getElem?_set_ne (by omega),UA (ls:=ls) (cs:=cs) (by omega)]
theorem MK:∀ {ls:List Lf} {off:Nat} {new cs:List CV},ls.all Lf.flatK=true→new.length=ls.length→((ls.zip new).all fun p=>p.1.ok p.2)=true→oks ls cs off=true→off+new.length≤cs.length →
  MJ ls off new cs=cs.take off++new++cs.drop (off+new.length)
 | [],off,new,cs,_,hn,_,_,_=>by
  obtain rfl:new=[]:=List.eq_nil_of_length_eq_zero (by simpa using hn)
  simp [MJ]
 | l::ls,off,[],cs,_,hn,_,_,_=>by simp at hn
 | l::ls,off,c::new,cs,hf,hn,ho,hk,hl=>by
  simp only [List.all_cons,Bool.and_eq_true,List.zip_cons_cons,List.length_cons] at hf hn ho hl
  obtain ⟨c0,h3,h4⟩:=mL hk 0 l (by simp)
  simp only [Nat.add_zero] at h3
  have hup:FI l off c cs 0=cs.set off c:=by
   have:=JJ hf.1 ho.1 cs 0 off (fun c' hc'=>by rw [h3] at hc';cases hc';exact h4)
   simpa using this
  have hk2:oks ls (cs.set off c) (off+1)=true:=by
   rw [UA (by omega)]
   simp only [oks,Bool.and_eq_true] at hk
   exact hk.2
  simp only [MJ,hup]
  rw [MK hf.2 (by omega) ho.2 hk2 (by simp;omega)]
  have h1:(cs.set off c).take (off+1)=cs.take off++[c]:=by
   rw [List.take_set,List.take_add_one,h3]
   have:(cs.take off).length=off:=by simp;omega
   simp only [Option.toList_some]
   rw [List.set_append_right _ _ (by omega),this,Nat.sub_self]
   rfl
  have h2:(cs.set off c).drop (off+1+new.length)=cs.drop (off+(new.length+1)):=by
   rw [List.drop_set_of_lt (by omega)]
   congr 1;omega
  rw [h1,h2]
  simp
section
variable {P:Program}
def CL (P:Program) (lk:Lk) (B:List Box) (V:List Vec) (T:TypeId) (x y:AV) (K:List Box→List Vec→Option Ou):Option Ou:=
 match x with
 | .ptr i off=>if lk.b.contains i=true then none else match eP P ⟨[],B,V⟩ T (.ptr i off) y with
  | some (B',V')=>K B' V'
  | none=>none
 | .gd [] (.ptr i off)=>if lk.b.contains i=true then none else
  match bM P T,y,B[i]?,lfT P 20 T with
  | some ti,.cv c,some b,[l] =>
   if (b.live&&ti.size == 1&&l.flatK&&l.ok c)=true then
    match cV b.cs with
    | some cs=>chk (oks [l] cs off) (K (B.set i ⟨b.live,b.T,(FI l off c cs 0).map .cv⟩) V)
    | none=>none
   else none
  | some ti,.agg ys,some b,ls =>
   if (b.live&&ti.size == ls.length&&ti.size != 0&&ls.all Lf.flatK)=true then
    match cV ys,cV b.cs with
    | some new,some cs=>if (new.length == ls.length&&(ls.zip new).all fun p=>p.1.ok p.2)=true then chk (oks ls cs off) (K (B.set i ⟨b.live,b.T,(MJ ls off new cs).map .cv⟩) V) else none
    | _,_=>none
   else none
  | _,_,_,_=>none
 | _=>none
def uZ (P:Program) (lk:Lk) (B:List Box) (V:List Vec) (T:TypeId) (s x:AV) (K:AV→List Box→List Vec→Option Ou):Option Ou:=
 match bM P T,s with
 | some ⟨_,_,.slc e k by_⟩,.own i u=>if lk.v.contains i=true then none else
  match bM P e,V[i]?,oZ ⟨[],B,V⟩ k x with
  | some te,some v,some new =>
   if (v.sl&&v.ver == u&&v.k == k&&v.T == e)=true∧te.zero.length=k∧te.size=k∧k≠0 then
    chk (cX v.es.length new.length by_) (K (.own i (v.ver+1)) B (V.set i ⟨v.live,v.T,v.k,v.ver+1,v.es++new⟩))
   else none
  | _,_,_=>none
 | _,_=>none
def QS (x:AV):Option AV:=match x with
 | .gd [] (.ptr i o)=>some (.gd [] (.ptr i o))
 | x=>sL x
theorem WP {m:Emb} {x a:AV} (h:QS x=some a):sL (x.cz m)=some (a.cz m)∧(∀ nb nv,AV.inn nb nv x=true→AV.inn nb nv a=true):=by
 unfold QS at h
 split at h
 ·cases h;exact ⟨by simp [AV.cz,sL],fun _ _ h=>h⟩
 ·exact aAe h
def isLit:Operand→Bool
 | .const _=>true
 | _=>false
def sOp (P:Program) (lk:Lk) (s:SS) (op:Op) (K:AV→List Box→List Vec→Option Ou):Option Ou:=
 match op with
 | .move x=>K (s.ev x) s.B s.V
 | .assign x=>K (s.ev x) s.B s.V
 | .pick c a b=>match s.ev c with
  | .cv (.val (.bool x))=>aB x (K (s.ev a) s.B s.V) (K (s.ev b) s.B s.V)
  | _=>none
 | .alloc T=>match iK P ⟨[],s.B,s.V⟩ T with
  | some (a,B,V)=>K a B V
  | none=>none
 | .box T x=>match sK ⟨[],s.B,s.V⟩ T (s.ev x) with
  | some (a,B,V)=>K a B V
  | none=>none
 | .build T parts=>match jO P T (parts.toList.map fun p=>(p.1,s.ev p.2)) with
  | some a=>K a s.B s.V
  | none=>none
 | .buildSlice T len parts=>match bA P ⟨[],s.B,s.V⟩ T len (parts.toList.map fun p=>(p.1,s.ev p.2)) with
  | some (a,B,V)=>K a B V
  | none=>none
 | .load T a=>MF P s.B s.V T (s.ev a) fun x=>K x s.B s.V
 | .store T a x=>CL P lk s.B s.V T (s.ev a) (s.ev x) fun B V=>K .any B V
 | .binOp op T x y _=>aEo P op T (s.ev x) (s.ev y) fun r=>K r s.B s.V
 | .unOp op _ x=>match EZ op (s.ev x) with
  | some a=>K a s.B s.V
  | none=>none
 | .fieldAddr T x f=>match QQ P T (s.ev x) f with
  | some a=>K a s.B s.V
  | none=>none
 | .indexAddr T x i=>tM P s.V T (isLit i) (s.ev x) (s.ev i) fun r=>K r s.B s.V
 | .index T x i=>QR P T (isLit i) (s.ev x) (s.ev i) fun r=>K r s.B s.V
 | .extract x i=>match fS (s.ev x) i with
  | some a=>K a s.B s.V
  | none=>none
 | .convert T T' x=>match tE P T T' (s.ev x) with
  | some a=>K a s.B s.V
  | none=>none
 | .field T x f=>match uQ P T (s.ev x) f with
  | some a=>K a s.B s.V
  | none=>none
 | .nilCheck x=>match QS (s.ev x) with
  | some a=>K a s.B s.V
  | none=>none
 | .makeFunc (.func f) first caps=>if hC (caps.toList.map s.ev)=true then none else
  if first.size=0 then K (.fn f (caps.toList.map s.ev)) s.B s.V else if caps.size=0∧first.size=1 then K (.fn f (.gd [false] .any::first.toList.map s.ev)) s.B s.V else none
 | .slice T x lo hi none=>JG P T (s.ev x) (lo.map s.ev) (hi.map s.ev) fun r=>K r s.B s.V
 | .slice T x none (some (.const (.int _ 0))) (some (.const (.int _ 0)))=>match lH P ⟨[],s.B,s.V⟩ T (s.ev x) with
  | some (a,B,V)=>K a B V
  | none=>none
 | .slice T x lo (some (.tmp p)) (some (.tmp q))=>JH P T (s.ev x) (lo.map s.ev) (s.ev (.tmp p)) (s.ev (.tmp q)) fun r=>K r s.B s.V
 | .call { callee:=.builtin .len,args,argTypes } =>
  match args.toList,argTypes.toList with
  | [x],[T]=>match kN P ⟨[],s.B,s.V⟩ T (s.ev x) with
   | some a=>K a s.B s.V
   | none=>none
  | _,_=>none
 | .call { callee:=.builtin .append,args,argTypes } =>
  match args.toList,argTypes.toList with
  | [a,x],[T,T']=>if T=T' then uZ P lk s.B s.V T (s.ev a) (s.ev x) K else none
  | _,_=>none
 | .call { callee:=.builtin .max,args,.. }=>match BX true (args.toList.map s.ev) with
  | some a=>K a s.B s.V
  | none=>none
 | .call { callee:=.builtin .min,args,.. }=>match BX false (args.toList.map s.ev) with
  | some a=>K a s.B s.V
  | none=>none
 | _=>none
def OpOK (P:Program) (m:Emb) (lk:Lk) (s:SS) (st:St) (op:Op) (K:AV→List Box→List Vec→Option Ou) (r:Ou):Prop:=
 ∃ a x B V B' V' m',bC P st op=some (a,B',V')∧AV.le a (x.cz m')∧(x.clo=true∨a=x.cz m')∧K x B V=some r ∧
  EmM m' B V B' V'∧Stp m st.B st.V m' B' V'∧(∀ i,i<m.vm.length→m'.fo i=m.fo i)∧AV.inn B.length V.length x=true∧s.B.length≤B.length∧s.V.length≤V.length ∧
  (∀ i∈lk.b,i<s.B.length→B[i]? = s.B[i]?)∧(∀ i∈lk.v,i<s.V.length→V[i]? = s.V[i]?)
variable {m:Emb} {lk:Lk} {s:SS} {st:St} {K:AV→List Box→List Vec→Option Ou} {r:Ou}
theorem OpOK.pure (hE:Em m s st) {op:Op} {a x:AV} (h:bC P st op=some (a,st.B,st.V)) (hle:AV.le a (x.cz m)) (hc:x.clo=true∨a=x.cz m) (hin:AV.inn s.B.length s.V.length x=true) (hK:K x s.B s.V=some r) :
  OpOK P m lk s st op K r:=
 ⟨a,x,s.B,s.V,st.B,st.V,m,h,hle,hc,hK,hE.m,Stp.refl _ _ _,fun _ _=>rfl,hin,Nat.le_refl _,Nat.le_refl _,fun _ _ _=>rfl,fun _ _ _=>rfl⟩
theorem OpOK.pureE (hE:Em m s st) {op:Op} {x:AV} (h:bC P st op=some (x.cz m,st.B,st.V)) (hin:AV.inn s.B.length s.V.length x=true) (hK:K x s.B s.V=some r) :
  OpOK P m lk s st op K r:=OpOK.pure hE h (AV.le_refl _) (.inr rfl) hin hK
theorem GF (hE:Em m s st) (parts:List (Nat×Operand)):parts.map (fun p=>(p.1,st.ev p.2))=(parts.map fun p=>(p.1,s.ev p.2)).map fun p=>(p.1,p.2.cz m):=by
 simp only [List.map_map]
 exact List.map_congr_left fun p _=>by simp [-St.ev,hE.ev]
theorem GG {nb nv:Nat} {x:AV} {cs:List AV} (h:x.cells=some cs) (hx:AV.inn nb nv x=true):AV.inns nb nv cs=true:=by
 have _:=G
 cases x <;> simp only [AV.cells,Option.some.injEq,reduceCtorEq] at h <;> subst h <;> simp_all [AV.inn,AV.inns]
theorem aAj (hE:Em m s st) {k:Nat} {x:AV} {es:List (List CV)} (h:oZ ⟨[],s.B,s.V⟩ k x=some es):oZ st k (x.cz m)=some es:=by
 have _:=G
 unfold oZ at h
 split at h
 ·simp only [AV.cz,oZ];exact h
 ·simp only [AV.cz,oZ];exact h
 ·rename_i j u
  split at h
  ·rename_i v hv
   split at h
   ·rename_i hc
    simp only [Bool.and_eq_true,beq_iff_eq] at hc
    obtain ⟨⟨c1,rfl⟩,c3⟩:=hc
    have h1:=hE.m.v j v hv (.inl (Vec.sl_live c1))
    simp only [AV.cz,oZ,h1,Vec.cz]
    have hsm:(v.live&&decide (v.T<aI))=true:=c1
    simp only [Vec.sl,hsm,c3,beq_self_eq_true,Bool.and_self,if_true]
    exact h
   ·cases h
  ·cases h
 ·cases h
theorem aAk (hE:Em m s st) {T:TypeId} {x a:AV} (h:kN P ⟨[],s.B,s.V⟩ T x=some a):kN P st T (x.cz m)=some a∧∃ c,a=.cv c:=by
 have _:=G
 unfold kN at h
 split at h
 ·rename_i a1 a2 a3 a4 a5 hti
  split at h
  ·cases h;exact ⟨by simp [AV.cz,kN,hti],_,rfl⟩
  ·cases h;exact ⟨by simp [AV.cz,kN,hti],_,rfl⟩
  ·rename_i i u
   split at h
   ·rename_i v hv
    split at h
    ·rename_i hc
     cases h
     simp only [Bool.and_eq_true,beq_iff_eq] at hc
     obtain ⟨c1,rfl⟩:=hc
     have h1:=hE.m.v i v hv (.inl (Vec.sl_live c1))
     exact ⟨by simp [AV.cz,kN,hti,h1,Vec.cz,Vec.sl_mk c1 v.k (m.fo i+v.ver) v.es],_,rfl⟩
    ·cases h
   ·cases h
  ·cases h
 ·rename_i hti;cases h;exact ⟨by simp [kN,hti],_,rfl⟩
 ·cases h
theorem gI {l:List Nat} {A:Type} {i:Nat} {xs:List A} {y:A} (h:¬l.contains i=true):∀ j∈l,j<xs.length→(xs.set i y)[j]? = xs[j]?:=by
 have _:=G
 intro j hj _
 rw [List.getElem?_set_ne]
 rintro rfl
 exact h (by simpa using hj)
theorem QT {cs:List CV} {off:Nat} {c:CV} (h:off<cs.length):splice (cs.map .cv) off [.cv c]=(cs.set off c).map .cv:=by
 have _:=G
 simp only [splice,List.length_singleton]
 rw [List.set_eq_take_append_cons_drop]
 simp [h,List.map_take,List.map_drop]
theorem hQ:∀ (cs:List CV),cV (cs.map .cv)=some cs
 | []=>have _:=G;rfl
 | c::cs=>by simp [cV,hQ cs]
theorem lN (hE:Em m s st) {op:Op} (h:sOp P lk s op K=some r):OpOK P m lk s st op K r:=by
 have hev:=hE.ev
 have hin:=hE.innEv
 unfold sOp at h
 split at h
 ·rename_i x
  exact OpOK.pureE hE (x:=s.ev x) (by simp only [bC,hev]) (hin x) h
 ·rename_i x
  exact OpOK.pureE hE (x:=s.ev x) (by simp only [bC,hev]) (hin x) h
 ·rename_i c a b
  split at h
  ·rename_i x hc
   cases x with
   | true =>
    refine OpOK.pureE hE (x:=s.ev a) ?_ (hin a) h
    simp only [bC,hev,hc,AV.cz,wT]
    split <;> simp_all
   | false =>
    refine OpOK.pureE hE (x:=s.ev b) ?_ (hin b) h
    simp only [bC,hev,hc,AV.cz,wT]
    split <;> simp_all
  ·cases h
 ·rename_i T
  split at h
  ·rename_i a B V ha
   unfold iK at ha
   split at ha
   ·rename_i ti hti
    split at ha
    ·rename_i hz
     simp only [Option.some.injEq,Prod.mk.injEq] at ha
     obtain ⟨rfl,rfl,rfl⟩:=ha
     refine ⟨_,_,_,_,st.B++[⟨true,T,cW ti.zero⟩],st.V,m.pushB st.B.length,?_,AV.le_refl _,.inr rfl,h,?_,Stp.pushB _,fun _ _=>rfl,by simp [AV.inn],by simp,Nat.le_refl _,fun i _ hi=>by rw [List.getElem?_append_left hi],fun _ _ _=>rfl⟩
     ·simp only [bC,iK,hti]
      rw [if_pos hz]
      simp only [AV.cz]
      rw [← hE.m.bl,Emb.pushB_new]
     ·have:=hE.m.pushB (b:=⟨true,T,cW ti.zero⟩) (by rw [AV.inns_eq];exact tL _ _ _)
      simp only [Box.cz,AV.czs_eq,rO] at this
      exact this
    ·cases ha
   ·cases ha
  ·cases h
 ·rename_i T x
  split at h
  ·rename_i a B V ha
   unfold sK at ha
   split at ha
   ·rename_i cs hcs
    split at ha
    ·rename_i ho
     simp only [Option.some.injEq,Prod.mk.injEq] at ha
     obtain ⟨rfl,rfl,rfl⟩:=ha
     have hci:=GG hcs (hin x)
     have hu:=Emb.pushB_up m st.B.length
     have hcz:AV.czs (m.pushB st.B.length) cs=cs.map (AV.cz m):=by rw [AV.czs_up hu (fun _ _=>rfl) cs (by rw [hE.m.bl,hE.m.vl];exact hci),AV.czs_eq]
     refine ⟨_,_,_,_,st.B++[⟨true,T,cs.map (AV.cz m)⟩],st.V,m.pushB st.B.length,?_,AV.le_refl _,.inr rfl,h,?_,Stp.pushB _,fun _ _=>rfl,by simp [AV.inn],by simp,Nat.le_refl _,fun i _ hi=>by rw [List.getElem?_append_left hi],fun _ _ _=>rfl⟩
     ·simp only [bC,hev,sK,AV.cells_cz hcs]
      rw [if_pos (AZ ho)]
      simp only [AV.cz]
      rw [← hE.m.bl,Emb.pushB_new]
     ·have:=hE.m.pushB (b:=⟨true,T,cs⟩) hci
      simpa [Box.cz,hcz] using this
    ·cases ha
   ·cases ha
  ·cases h
 ·rename_i T parts
  split at h
  ·rename_i a ha
   refine OpOK.pureE hE (x:=a) ?_ (ME ha ?_) h
   ·simp only [bC,GF hE,QO ha,Option.map_some]
   ·simp only [List.all_eq_true,List.mem_map]
    rintro p ⟨q,_,rfl⟩
    exact hin q.2
  ·cases h
 ·rename_i T len parts
  split at h
  ·rename_i a B V ha
   unfold bA at ha
   split at ha
   ·rename_i a1 a2 e k a3 hti
    split at ha
    ·rename_i te hte
     split at ha
     ·rename_i hc
      split at ha
      ·rename_i out hout
       simp only [Option.map_eq_some_iff,Prod.mk.injEq] at ha
       obtain ⟨cs,hcs,rfl,rfl,rfl⟩:=ha
       have hl:m.vb.length=m.vm.length:=by rw [hE.m.ol,hE.m.vl]
       refine ⟨_,_,_,_,st.B,st.V++[⟨true,e,k,0,aS k len cs⟩],m.pushV st.V.length,?_,AV.le_refl _,.inr rfl,h,?_,Stp.pushV _,Emb.pushV_fo _ hl,by simp [AV.inn],Nat.le_refl _,by simp,fun _ _ _=>rfl,fun i _ hi=>by rw [List.getElem?_append_left hi]⟩
       ·simp only [bC,bA,hti,hte]
        rw [if_pos hc]
        have:=rN (m:=m) hout
        rw [rO,← GF hE] at this
        simp only [this,cM hcs,hQ,Option.map_some,AV.cz]
        rw [← hE.m.vl,Emb.pushV_new,Emb.pushV_new0 _ hl]
       ·exact hE.m.pushV (v:=⟨true,e,k,0,aS k len cs⟩)
      ·cases ha
     ·cases ha
    ·cases ha
   ·cases ha
  ·cases h
 ·rename_i T a
  obtain ⟨q,y,h1,h2,h3,h4,h5⟩:=QP hE (hin a) h
  exact OpOK.pure hE (by simp only [bC,hev,h1,Option.map_some]) h2 h3 h4 h5
 ·rename_i T a x
  unfold CL at h
  split at h
  ·rename_i i off hx
   split at h
   ·cases h
   ·rename_i hlk
    split at h
    ·rename_i B' V' hs
     unfold eP at hs
     split at hs
     ·rename_i ti i' off' new hti hp hnew
      injection hp with hp1 hp2
      subst hp1;subst hp2
      split at hs
      ·rename_i b hb
       split at hs
       ·rename_i hc
        simp only [Bool.and_eq_true,beq_iff_eq,decide_eq_true_eq] at hc
        obtain ⟨⟨⟨c1,c2⟩,c3⟩,c4⟩:=hc
        have c3':=c3
        rw [c2] at c3'
        simp only [Option.some.injEq,Prod.mk.injEq] at hs
        obtain ⟨rfl,rfl⟩:=hs
        have hil:=(List.getElem?_eq_some_iff.1 hb).1
        obtain ⟨hb1,hb2⟩:=hE.m.b i b hb
        have hinn:AV.inns s.B.length s.V.length (splice b.cs off new)=true:=by
         have hn:=GG hnew (hin x)
         rw [AV.inns_eq,List.all_eq_true] at hb2 hn ⊢
         intro y hy
         simp only [splice,List.mem_append] at hy
         rcases hy with (hy | hy) | hy
         ·exact hb2 y (List.mem_of_mem_take hy)
         ·exact hn y hy
         ·exact hb2 y (List.mem_of_mem_drop hy)
        refine ⟨.any,.any,_,_,st.B.set (m.fb i) ((⟨b.live,b.T,splice b.cs off new⟩:Box).cz m),st.V,m,?_,AV.le_refl _,.inr (by simp [AV.cz]),h,hE.m.setB hil hinn,Stp.setB hE.m hil _,fun _ _=>rfl,rfl,by simp,Nat.le_refl _,gI hlk,fun _ _ _=>rfl⟩
        simp only [bC,hev,hx,AV.cz,eP,hti,AV.cells_cz hnew,hb1,Box.cz,c1,c2,AV.czs_eq,List.length_map,GC,AZ c4,c3',decide_true,beq_self_eq_true,Bool.and_self,if_true,Option.map_some]
       ·cases hs
      ·cases hs
     ·cases hs
    ·cases h
  ·rename_i i off hx
   split at h
   ·cases h
   ·rename_i hlk
    split at h
    ·rename_i ti c b l hti hy hb hl
     split at h
     ·rename_i hc
      simp only [Bool.and_eq_true,beq_iff_eq] at hc
      obtain ⟨⟨⟨c1,c2⟩,c3⟩,c4⟩:=hc
      split at h
      ·rename_i cs hcs
       obtain ⟨h1,h2⟩:=aH h
       obtain ⟨d,h3,h4⟩:=mL h1 0 l (by simp)
       simp only [Nat.add_zero] at h3
       have hil:=(List.getElem?_eq_some_iff.1 hb).1
       have hol:=(List.getElem?_eq_some_iff.1 h3).1
       obtain ⟨hb1,hb2⟩:=hE.m.b i b hb
       have hup:FI l off c cs 0=cs.set off c:=by
        have:=JJ c3 c4 cs 0 off (fun c' hc'=>by rw [h3] at hc';cases hc';exact h4)
        simpa using this
       rw [hup] at h2
       have hinn:AV.inns s.B.length s.V.length ((cs.set off c).map .cv)=true:=by
        rw [AV.inns_eq,List.all_eq_true]
        intro y hy
        obtain ⟨q,_,rfl⟩:=List.mem_map.1 hy
        rfl
       refine ⟨.any,.any,_,_,st.B.set (m.fb i) ((⟨b.live,b.T,(cs.set off c).map .cv⟩:Box).cz m),st.V,m,?_,AV.le_refl _,.inr (by simp [AV.cz]),h2,hE.m.setB hil hinn,Stp.setB hE.m hil _,fun _ _=>rfl,rfl,by simp,Nat.le_refl _,gI hlk,fun _ _ _=>rfl⟩
       have hbc:AV.czs m b.cs=cs.map .cv:=by rw [AV.czs_eq];exact cM hcs
       have hcv:∀ (l:List CV),AV.czs m (l.map .cv)=l.map .cv:=by intro l;simp [AV.czs_eq,AV.cz]
       simp only [bC,hev,hx,hy,AV.cz,eP,hti,AV.cells,hb1,Box.cz,c1,c2,hbc,hcv,List.length_map,List.length_singleton,QT hol]
       rw [if_pos (by simp [AV.one];omega)]
       simp
      ·cases h
     ·cases h
    ·rename_i ti ys b hti hy hb
     split at h
     ·rename_i hc
      simp only [Bool.and_eq_true,beq_iff_eq,bne_iff_ne] at hc
      obtain ⟨⟨⟨c1,c2⟩,cne⟩,c3⟩:=hc
      split at h
      ·rename_i new cs hnew hcs
       split at h
       ·rename_i hc2
        simp only [Bool.and_eq_true,beq_iff_eq] at hc2
        obtain ⟨h1,h2⟩:=aH h
        have hil:=(List.getElem?_eq_some_iff.1 hb).1
        obtain ⟨hb1,hb2⟩:=hE.m.b i b hb
        by_cases hfit:off+new.length≤cs.length
        case neg =>
         exfalso
         cases hls:lfT P 20 T with
         | nil=>rw [hls] at c2;exact cne c2
         | cons l0 ls0 =>
          rw [hls] at h1 hc2
          obtain ⟨c0,g1,g2⟩:=mL h1 ((l0::ls0).length - 1) ((l0::ls0).getLast (by simp)) (by rw [List.getLast_eq_getElem];simp)
          have:=(List.getElem?_eq_some_iff.1 g1).1
          simp at this hc2
          omega
        rw [MK c3 hc2.1 hc2.2 h1 hfit] at h2
        have hinn:AV.inns s.B.length s.V.length ((cs.take off++new++cs.drop (off+new.length)).map .cv)=true:=by
         rw [AV.inns_eq,List.all_eq_true]
         intro y hy
         obtain ⟨q,_,rfl⟩:=List.mem_map.1 hy
         rfl
        refine ⟨.any,.any,_,_,st.B.set (m.fb i) ((⟨b.live,b.T,(cs.take off++new++cs.drop (off+new.length)).map .cv⟩:Box).cz m),st.V,m,?_,AV.le_refl _,.inr (by simp [AV.cz]),h2,hE.m.setB hil hinn,Stp.setB hE.m hil _,fun _ _=>rfl,rfl,by simp,Nat.le_refl _,gI hlk,fun _ _ _=>rfl⟩
        have hbc:AV.czs m b.cs=cs.map .cv:=by rw [AV.czs_eq];exact cM hcs
        have hyc:AV.czs m ys=new.map .cv:=by rw [AV.czs_eq];exact cM hnew
        have hcv:∀ (l:List CV),AV.czs m (l.map .cv)=l.map .cv:=by intro l;simp [AV.czs_eq,AV.cz]
        simp only [bC,hev,hx,hy,AV.cz,eP,hti,AV.cells,hb1,Box.cz,c1,c2,hbc,hyc,hcv,List.length_map]
        rw [if_pos (by simp [AV.one,hc2.1];omega)]
        simp [splice,List.map_take,List.map_drop]
       ·cases h
      ·cases h
     ·cases h
    ·cases h
  ·cases h
 ·rename_i op T x y T'
  obtain ⟨c,h1,h2⟩:=WO h m
  exact OpOK.pureE hE (x:=.cv c) (by simp only [bC,hev,h1,AV.cz,Option.map_some]) rfl h2
 ·rename_i op T x
  split at h
  ·rename_i a ha
   obtain ⟨h1,c,rfl⟩:=aCv (m:=m) ha
   exact OpOK.pureE hE (x:=.cv c) (by simp only [bC,hev,h1,Option.map_some]) rfl h
  ·cases h
 ·rename_i T x f
  split at h
  ·rename_i a ha
   obtain ⟨h1,h2⟩:=MG (m:=m) ha
   exact OpOK.pureE hE (x:=a) (by simp only [bC,hev,h1,Option.map_some]) (h2 _ _ (hin x)) h
  ·cases h
 ·rename_i T x i
  obtain ⟨y,h1,h2,h3⟩:=AG hE (hin x) h
  exact OpOK.pureE hE (x:=y) (by simp only [bC,hev,h1,Option.map_some]) h2 h3
 ·rename_i T x i
  obtain ⟨a,y,h1,h2,h3,h4,h5⟩:=MH (m:=m) (hin x) h
  exact OpOK.pure hE (by simp only [bC,hev,h1,Option.map_some]) h2 h3 h4 h5
 ·rename_i x i
  split at h
  ·rename_i a ha
   obtain ⟨h1,h2⟩:=JF (m:=m) ha
   exact OpOK.pureE hE (x:=a) (by simp only [bC,hev,h1,Option.map_some]) (h2 _ _ (hin x)) h
  ·cases h
 ·rename_i T T' x
  split at h
  ·rename_i a ha
   obtain ⟨h1,h2⟩:=WN (m:=m) ha
   exact OpOK.pureE hE (x:=a) (by simp only [bC,hev,h1,Option.map_some]) (h2 _ _) h
  ·cases h
 ·rename_i T x f
  split at h
  ·rename_i a ha
   obtain ⟨h1,h2⟩:=aAf (m:=m) ha
   exact OpOK.pureE hE (x:=a) (by simp only [bC,hev,h1,Option.map_some]) (h2 _ _ (hin x)) h
  ·cases h
 ·rename_i x
  split at h
  ·rename_i a ha
   obtain ⟨h1,h2⟩:=WP (m:=m) ha
   exact OpOK.pureE hE (x:=a) (by simp only [bC,hev,h1,Option.map_some]) (h2 _ _ (hin x)) h
  ·cases h
 ·rename_i f first caps
  split at h
  ·cases h
  rename_i hmk
  have hcz:caps.toList.map st.ev=AV.czs m (caps.toList.map s.ev):=by rw [AV.czs_eq,List.map_map];exact List.map_congr_left fun x _=>hev x
  have hmk':gQ (caps.toList.map st.ev)=false:=by rw [hcz];exact CK m (eq_false_of_ne_true hmk)
  split at h
  ·rename_i hf
   refine OpOK.pureE hE (x:=.fn f (caps.toList.map s.ev)) ?_ ?_ h
   ·rw [hcz] at hmk'
    simp only [bC,hcz,hmk',hf,if_true,AV.cz]
    simp
   ·simp only [AV.inn,AV.inns_eq,List.all_eq_true,List.mem_map]
    rintro y ⟨x,_,rfl⟩
    exact hin x
  ·rename_i hf
   split at h
   ·rename_i hc
    have hfz:first.toList.map st.ev=AV.czs m (first.toList.map s.ev):=by rw [AV.czs_eq,List.map_map];exact List.map_congr_left fun x _=>hev x
    refine OpOK.pureE hE (x:=.fn f (.gd [false] .any::first.toList.map s.ev)) ?_ ?_ h
    ·rw [hcz] at hmk'
     simp only [bC,hcz,hmk',hf,hc,if_true,if_false,AV.cz,AV.czs,hfz]
     simp
    ·simp only [AV.inn,AV.inns,Bool.true_and,AV.inns_eq,List.all_eq_true,List.mem_map]
     rintro y ⟨x,_,rfl⟩
     exact hin x
   ·cases h
 ·rename_i T x lo hi
  obtain ⟨c,h1,h2⟩:=yX (m:=m) h
  refine OpOK.pureE hE (x:=.cv c) ?_ rfl h2
  have e1:∀ (o:Option Operand),eL st o=(o.map s.ev).map (AV.cz m):=by intro o;cases o <;> simp only [eL,Option.map_some,Option.map_none,hev]
  simp only [bC,e1,hev,h1,AV.cz,Option.map_some]
 ·rename_i T x k1 k2
  split at h
  ·rename_i a B V ha
   unfold lH at ha
   split at ha
   ·rename_i a1 a2 e k a3 hti
    split at ha
    ·cases ha
    ·rename_i hk
     split at ha
     ·rename_i k' es hx
      simp only [Option.some.injEq,Prod.mk.injEq] at ha
      obtain ⟨rfl,rfl,rfl⟩:=ha
      have hl:m.vb.length=m.vm.length:=by rw [hE.m.ol,hE.m.vl]
      refine ⟨_,_,_,_,st.B,st.V++[⟨true,e,k,0,[]⟩],m.pushV st.V.length,?_,AV.le_refl _,.inr rfl,h,?_,Stp.pushV _,Emb.pushV_fo _ hl,by simp [AV.inn],Nat.le_refl _,by simp,fun _ _ _=>rfl,fun i _ hi=>by rw [List.getElem?_append_left hi]⟩
      ·simp only [bC,lH,hti,if_neg hk,hev,hx,AV.cz]
       rw [← hE.m.vl,Emb.pushV_new,Emb.pushV_new0 _ hl]
      ·exact hE.m.pushV (v:=⟨true,e,k,0,[]⟩)
     ·cases ha
   ·cases ha
  ·cases h
 ·rename_i T x lo p q
  obtain ⟨c,h1,h2⟩:=JI (m:=m) h
  refine OpOK.pureE hE (x:=.cv c) ?_ rfl h2
  have e1:∀ (o:Option Operand),eL st o=(o.map s.ev).map (AV.cz m):=by intro o;cases o <;> simp only [eL,Option.map_some,Option.map_none,hev]
  simp only [bC,e1,hev,h1,AV.cz,Option.map_some]
 ·rename_i args ats
  split at h
  ·rename_i x T h1 h2
   split at h
   ·rename_i a ha
    obtain ⟨h3,c,rfl⟩:=aAk hE ha
    exact OpOK.pureE hE (x:=.cv c) (by simp only [bC,h1,h2,hev,h3,AV.cz,Option.map_some]) rfl h
   ·cases h
  ·cases h
 ·rename_i args ats
  split at h
  ·rename_i a x T T' h1 h2
   split at h
   ·rename_i hT
    subst hT
    unfold uZ at h
    split at h
    ·rename_i a1 a2 e k by_ i u hti ha
     split at h
     ·cases h
     ·rename_i hlk
      split at h
      ·rename_i te v new hte hv hsrc
       split at h
       ·rename_i hc
        simp only [Bool.and_eq_true,beq_iff_eq] at hc
        obtain ⟨⟨⟨⟨c1,rfl⟩,c3⟩,c4⟩,c5⟩:=hc
        obtain ⟨h4,h5⟩:=aH h
        simp only [cX,Bool.and_eq_true,decide_eq_true_eq] at h4
        have hil:=(List.getElem?_eq_some_iff.1 hv).1
        have hv1:=hE.m.v i v hv (.inl (Vec.sl_live c1))
        have hsm:(v.live&&decide (e<aI))=true:=by rw [← c4];exact c1
        refine ⟨_,_,_,_,st.B,st.V.set (m.fv i) ((⟨v.live,v.T,v.k,v.ver+1,v.es++new⟩:Vec).cz m i),m,?_,AV.le_refl _,.inr rfl,h5,hE.m.setV hil,Stp.setV hE.m hil _,fun _ _=>rfl,by simpa [AV.inn] using hil,Nat.le_refl _,by simp,fun _ _ _=>rfl,gI hlk⟩
        simp only [bC,h1,h2,if_true,hev,ha,AV.cz,lG,hti,hte,hv1,aAj hE hsrc,Vec.cz,Vec.sl,hsm,c3,c4,beq_self_eq_true,Bool.and_self]
        rw [if_pos c5,if_pos h4]
        rfl
       ·cases h
      ·cases h
    ·cases h
   ·cases h
  ·cases h
 ·rename_i args ats
  split at h
  ·rename_i a ha
   obtain ⟨h3,c,rfl⟩:=TY (m:=m) ha
   refine OpOK.pureE hE (x:=.cv c) ?_ rfl h
   have:args.toList.map st.ev=(args.toList.map s.ev).map (AV.cz m):=by rw [List.map_map];exact List.map_congr_left fun x _=>hev x
   simp only [bC,this,h3,Option.map_some]
  ·cases h
 ·rename_i args ats
  split at h
  ·rename_i a ha
   obtain ⟨h3,c,rfl⟩:=TY (m:=m) ha
   refine OpOK.pureE hE (x:=.cv c) ?_ rfl h
   have:args.toList.map st.ev=(args.toList.map s.ev).map (AV.cz m):=by rw [List.map_map];exact List.map_congr_left fun x _=>hev x
   simp only [bC,this,h3,Option.map_some]
  ·cases h
 ·cases h
end
end Go.Sx
