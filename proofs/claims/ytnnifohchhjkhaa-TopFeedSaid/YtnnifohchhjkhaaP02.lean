/-
 What the beasts of a pound have lU by their pens is what they are charged for, and those who stand in the pens are those who are inside: at every input, without any condition.
-/
import Derived.IntWalk
import Derived.Laws.Cover3
import Derived.OrdersIn
import Derived.RangeFuncCalls
import Derived.Still
import Derived.Test.YtnnifohchhjkhaaP01
namespace Go.Sx
open Go Go.RowKit
variable [G:Ghost]
section
variable {P:Program}
def eQ (z:List Value):Nat→List Value
 | 0=>[]
 | n+1=>z++eQ z n
theorem gX (z:List Value):∀ n,(eQ z n).length=n*z.length
 | 0=>by have _:=G;simp [eQ]
 | n+1=>by simp [eQ,gX z n,Nat.add_mul];omega
theorem LX (z:List Value) (hz:z.length≠0):∀ n i,i<n*z.length→(eQ z n)[i]? = z[i % z.length]?
 | 0,i,h=>by have _:=G;simp at h
 | n+1,i,h=>by
  simp only [eQ,List.getElem?_append]
  split
  ·rename_i hi;rw [Nat.mod_eq_of_lt hi]
  ·rename_i hi
   rw [LX z hz n (i - z.length) (by rw [Nat.add_mul] at h;omega)]
   congr 1
   rw [← Nat.mod_eq_sub_mod (by omega)]
theorem uR (z:List Value) (h:z.all Value.oneCell'=true):∀ n,(eQ z n).all Value.oneCell'=true
 | 0=>by have _:=G;simp [eQ]
 | n+1=>by simp only [eQ,List.all_append,h,uR z h n,Bool.and_self]
theorem oI (z:Array Value) (hz:z.size≠0) (n:Nat):((Array.range (n*z.size)).map (z[· % z.size]!)).toList=eQ z.toList n:=by
 apply List.ext_getElem?
 intro i
 simp only [Array.toList_map,Array.toList_range,List.getElem?_map]
 by_cases hi:i<n*z.size
 ·rw [LX z.toList (by simpa using hz) n i (by simpa using hi)]
  have h1:i % z.size<z.size:=Nat.mod_lt _ (by omega)
  simp [List.getElem?_range hi,h1]
 ·have h1:(eQ z.toList n)[i]? = none:=by rw [List.getElem?_eq_none_iff,gX];simp;omega
  rw [h1]
  simp;omega
def cV:List AV→Option (List CV)
 | []=>some []
 | .cv c::xs=>(cV xs).map (c::·)
 | _::_=>none
theorem gG:∀ {xs:List AV} {cs:List CV},cV xs=some cs→xs=cs.map .cv
 | [],cs,h=>by have _:=G;simp [cV] at h;subst h;rfl
 | x::xs,cs,h=>by
  cases x <;> simp [cV] at h
  obtain ⟨ds,h1,rfl⟩:=h
  simp [gG h1]
theorem fK {e:Env} {w:World} {ks:List Nat}:∀ {cs:List CV} {vs:List Value},AV.all e w ks (cs.map .cv) vs→CV.vals w e.S cs vs
 | [],[],_=>by have _:=G;simp [CV.vals]
 | c::cs,v::vs,h=>by
  simp only [List.map_cons,AV.all,AV.holds] at h
  simpa [CV.vals] using ⟨h.1,fK h.2⟩
 | [],_::_,h=>by simp [AV.all] at h
 | _::_,[],h=>by simp [AV.all] at h
abbrev Out:=AV×List Box×List Vec
def iK (P:Program) (st:St) (T:TypeId):Option Out:=
 match bM P T with
 | some ti=>if ti.zero≠[]∧ti.zero.all Value.oneCell'=true then some (.ptr st.B.length 0,st.B++[Box.mk true T (cW ti.zero)],st.V) else none
 | none=>none
def sK (st:St) (T:TypeId) (x:AV):Option Out:=
 match x.cells with
 | some cs=>if cs.all AV.one then some (.ptr st.B.length 0,st.B++[Box.mk true T cs],st.V) else none
 | none=>none
def bA (P:Program) (st:St) (T:TypeId) (len:Nat) (parts:List (Nat×AV)):Option Out:=
 match bM P T with
 | some ⟨_,_,.slc e k _⟩ =>
  match bM P e with
  | some te =>
   if te.zero.length=k∧te.size=k∧k≠0∧te.zero.all Value.oneCell'=true∧len*k≤2 ^ 24 then
    match dJ (fun i=>some (i*k,k)) (cW (eQ te.zero len)) parts with
    | some out=>(cV out).map fun cs=>(.own st.V.length 0,st.B,st.V++[Vec.mk true e k 0 (aS k len cs)])
    | none=>none
   else none
  | none=>none
 | _=>none
def oZ (st:St) (k:Nat) (x:AV):Option (List (List CV)):=
 match x with
 | .cv (.row k' es)=>if k'=k then some es else none
 | .cv (.val (.slice none 0 0))=>some []
 | .own j u=>match st.V[j]? with
  | some v=>if v.sl&&v.ver == u&&v.k == k then some v.es else none
  | none=>none
 | _=>none
def lG (P:Program) (st:St) (T:TypeId) (s x:AV):Option Out:=
 match bM P T,s with
 | some ⟨_,_,.slc e k by_⟩,.own i u =>
  match bM P e,st.V[i]?,oZ st k x with
  | some te,some v,some new =>
   if v.sl&&v.ver == u&&v.k == k&&v.T == e then
    (if te.zero.length=k∧te.size=k∧k≠0 then
     (if (v.es.length+new.length)*by_≤140737488355328∧v.es.length+new.length≤maxLen then
      some (.own i (v.ver+1),st.B,st.V.set i { v with ver:=v.ver+1,es:=v.es++new }) else none) else none) else none
  | _,_,_=>none
 | _,_=>none
def lH (P:Program) (st:St) (T:TypeId) (x:AV):Option Out:=
 match bM P T with
 | some ⟨_,_,.slc e k _⟩ =>
  if k=0 then none else
  match x with
  | .cv (.row _ _)=>some (.own st.V.length 0,st.B,st.V++[Vec.mk true e k 0 []])
  | _=>none
 | _=>none
theorem LY {n0:Nat} {w0:World} {e:Env} {st:St} {a:Act} {w:World} (hr:Rel n0 w0 e st a w) (T:TypeId) {cs:List AV} {vs:Array Value} (hsc:AV.scos st.B.length (vers st.V) cs) (hv:AV.all e w (kss st.V) cs vs.toList) :
  ∃ e',Mem n0 w0 e' (st.B++[Box.mk true T cs]) st.V (w.alloc (.cells vs T))∧ExtS e st w e' (st.B++[Box.mk true T cs]) st.V (w.alloc (.cells vs T)) ∧
   AV.holds e' (w.alloc (.cells vs T)) (kss st.V) (.ptr st.B.length 0) (.pointer (some ⟨w.heap.size,0,none⟩)):=by
 obtain ⟨e',h1,h2,h3,_⟩:=hr.mem.newBox T cs vs hsc hv
 exact ⟨e',h1,h2,by simp [AV.holds,h3]⟩
theorem FC {st:St} {T:TypeId} {av:AV} {B':List Box} {V':List Vec} (h:iK P st T=some (av,B',V')) {n0:Nat} {w0:World} {e:Env} {a:Act} {w:World} (hr:Rel n0 w0 e st a w) :
  ∃ v w' e',(Instr.alloc T true (.tuple #[])).run P w=.ok v w'∧Mem n0 w0 e' B' V' w'∧ExtS e st w e' B' V' w'∧AV.holds e' w' (kss V') av v∧AV.sco B'.length (vers V') av:=by
 unfold iK at h
 split at h
 ·rename_i ti hti
  split at h
  ·rename_i hz
   simp only [Option.some.injEq,Prod.mk.injEq] at h
   obtain ⟨rfl,rfl,rfl⟩:=h
   obtain ⟨z,hz1,hz2⟩:=LQ hti hz.1 w
   obtain ⟨e',h1,h2,h3⟩:=LY hr T (cs:=cW ti.zero) (vs:=z.cells) (jN _ _ _) (by rw [hz2];exact jE hz.2)
   exact ⟨_,_,e',by simp [Instr.alloc,hz1,newVar,newRow],h1,h2,h3,by simp [AV.sco]⟩
  ·cases h
 ·cases h
theorem LZ {st:St} {T:TypeId} {x av:AV} {B':List Box} {V':List Vec} (h:sK st T x=some (av,B',V')) {n0:Nat} {w0:World} {e:Env} {a:Act} {w:World} (hr:Rel n0 w0 e st a w)
  {u:Value} (hu:AV.holds e w (kss st.V) x u) (hs:AV.sco st.B.length (vers st.V) x) :
  ∃ v w' e',(Instr.box T u).run P w=.ok v w'∧Mem n0 w0 e' B' V' w'∧ExtS e st w e' B' V' w'∧AV.holds e' w' (kss V') av v∧AV.sco B'.length (vers V') av:=by
 unfold sK at h
 split at h
 ·rename_i cs hcs
  split at h
  ·rename_i ho
   simp only [Option.some.injEq,Prod.mk.injEq] at h
   obtain ⟨rfl,rfl,rfl⟩:=h
   obtain ⟨e',h1,h2,h3⟩:=LY hr T (AV.cells_scoped hcs hs) (AV.cells_holds hcs hu ho)
   exact ⟨_,_,e',by simp [Instr.box,newVar,newRow],h1,h2,h3,by simp [AV.sco]⟩
  ·cases h
 ·cases h
theorem lI {st:St} {T:TypeId} {len:Nat} {parts:List (Nat×AV)} {av:AV} {B':List Box} {V':List Vec} (h:bA P st T len parts=some (av,B',V'))
  {n0:Nat} {w0:World} {e:Env} {a:Act} {w:World} (hr:Rel n0 w0 e st a w) {vparts:Array (Nat×Value)}
  (hi:parts.map (·.1)=vparts.toList.map (·.1)) (hv:AV.all e w (kss st.V) (parts.map (·.2)) (vparts.toList.map (·.2))) :
  ∃ v w' e',(Instr.buildSlice T len vparts).run P w=.ok v w'∧Mem n0 w0 e' B' V' w'∧ExtS e st w e' B' V' w'∧AV.holds e' w' (kss V') av v∧AV.sco B'.length (vers V') av:=by
 unfold bA at h
 split at h
 ·rename_i s z et k by_ hti
  obtain ⟨hT,hk,_⟩:=dI hti
  split at h
  ·rename_i te hte
   split at h
   ·rename_i hc
    obtain ⟨hz,hsz,hk0,hone,hsmall⟩:=hc
    split at h
    ·rename_i out hout
     cases hcv:cV out with
     | none=>simp [hcv] at h
     | some cs =>
      simp only [hcv,Option.map_some,Option.some.injEq,Prod.mk.injEq] at h
      obtain ⟨rfl,rfl,rfl⟩:=h
      obtain ⟨ie,d,h1,h2,h3,h4,h5⟩:=fA hte
      obtain ⟨zv,hz2,hz3⟩:∃ z,ie.zero=some z∧z.cells.toList=te.zero:=by
       cases hi:ie.zero with
       | none=>rw [hi] at h4;rw [h4] at hz;simp at hz;omega
       | some z=>exact ⟨z,rfl,by rw [h4,hi]⟩
      have hies:ie.size=k:=by rw [h3,hsz]
      have hzs:zv.cells.size=k:=by rw [← hz,← hz3];simp
      have hrange:=oI zv.cells (by omega) len
      rw [hzs,hz3] at hrange
      obtain ⟨vout,a1,a2,a3⟩:=iJ (vcells:=(Array.range (len*k)).map (zv.cells[· % k]!)) hout
       (by rw [hrange];exact jE (uR _ hone _)) hi hv
      have hol:out.length=len*k:=by rw [a3];simp [cW,gX,hz]
      have hcs:=gG hcv
      have hcl:cs.length=len*k:=by rw [← hol,hcs];simp
      have hch:=tF k len cs hcl
      by_cases hlen:len*k=0
      ·
       have hlen0:len=0:=by
        rcases Nat.mul_eq_zero.1 hlen with h | h
        ·exact h
        ·exact absurd h hk0
       subst hlen0
       have hrun:(Instr.buildSlice T 0 vparts).run P w=.ok (.slice (some ⟨w.heap.size,0,none⟩) 0 0) (w.alloc (.cells vout et)):=by
        have r0:Array.range 0=#[]:=rfl
        have a1':Instr.fill (fun i=>some (i*k,k)) #[] vparts.toList=some vout:=by simpa [r0] using a1
        simp [Instr.buildSlice,run_underlying hT,run_sizeOf hte,hsz,r0,a1',newRow]
       obtain ⟨e',b1,b2,b3,_⟩:=hr.mem.newVec (w':=w.alloc (.cells vout et)) et k (.slice (some ⟨w.heap.size,0,none⟩) 0 0) (aS k 0 cs) []
        (.inl ⟨eK hti,.inl ⟨_,rfl,by simp [aS],rfl⟩⟩) (by simp [aS,CV.vals]) hch.2.1 (World.grownBy_alloc _ _ _) (fun g hg=>by simp [aX] at hg)
       exact ⟨_,_,e',hrun,b1,b2,by simp [AV.holds,b3,Value.oneCell'],by simp [AV.sco,List.getD]⟩
      ·have hrun:=run_buildSlice (P:=P) w T et len vparts vout ie zv hT h1 hz2 (by rw [hies];omega) (by rw [hies];exact hlen) (by rw [hies,hzs];exact a1)
       have hvs:CV.vals w e.S (aS k len cs).flatten vout.toList:=by
        rw [hch.1];rw [hcs] at a2;exact fK a2
       have hvl:vout.size=len*k:=by have:=hvs.length;rw [hch.1,hcl] at this;simpa using this
       have hown:=World.ownsRow_lit (base:=n0) (e:=et) (size:=k) w vout len hr.mem.base (by simp only [maxLen];have:=Nat.le_mul_of_pos_right len (Nat.pos_of_ne_zero hk0);omega) hvl
       obtain ⟨e',b1,b2,b3,_⟩:=hr.mem.newVec (w':=w.alloc (.cells vout et)) et k (.slice (some ⟨w.heap.size,0,none⟩) len len) (aS k len cs) vout.toList
        (by rw [hch.2.2];exact OwnsV.of_row (eK hti) hown) hvs hch.2.1 (World.grownBy_alloc _ _ _) (fun g hg=>by cases len <;> simp [aX] at hg;omega)
       exact ⟨_,_,e',hrun,b1,b2,by simp [AV.holds,b3,Value.oneCell'],by simp [AV.sco,List.getD]⟩
    ·cases h
   ·cases h
  ·cases h
 ·cases h
theorem BZ {st:St} {T:TypeId} {s x av:AV} {B':List Box} {V':List Vec} (h:lG P st T s x=some (av,B',V'))
  {n0:Nat} {w0:World} {e:Env} {a:Act} {w:World} (hr:Rel n0 w0 e st a w) {us ux:Value} (hs:AV.holds e w (kss st.V) s us) (hx:AV.holds e w (kss st.V) x ux) (T':TypeId) :
  ∃ v w' e',(Builtin.append_ #[T,T] T' #[us,ux]).run P w=.ok v w'∧Mem n0 w0 e' B' V' w'∧ExtS e st w e' B' V' w'∧AV.holds e' w' (kss V') av v∧AV.sco B'.length (vers V') av:=by
 unfold lG at h
 split at h
 ·rename_i s' z et k by_ i u hti
  obtain ⟨hT,hk,hby⟩:=dI hti
  split at h
  ·rename_i te v new hte hv hnew
   split at h
   ·rename_i hc
    simp only [Bool.and_eq_true,beq_iff_eq] at hc
    obtain ⟨⟨⟨hl,rfl⟩,hvk⟩,hvT⟩:=hc
    split at h
    ·rename_i hc2
     obtain ⟨hz,hsz,hk0⟩:=hc2
     split at h
     ·rename_i hbd
      simp only [Option.some.injEq,Prod.mk.injEq] at h
      obtain ⟨rfl,rfl,rfl⟩:=h
      obtain ⟨ie,d,h1,h2,h3,h4,h5⟩:=fA hte
      obtain ⟨zv,hz2,hz3⟩:∃ z,ie.zero=some z∧z.cells.toList=te.zero:=by
       cases hi:ie.zero with
       | none=>rw [hi] at h4;rw [h4] at hz;simp at hz;omega
       | some z=>exact ⟨z,rfl,by rw [h4,hi]⟩
      have hies:ie.size=k:=by rw [h3,hsz]
      have hzs:zv.cells.size=k:=by rw [← hz,← hz3];simp
      have hbys:ie.bytes=by_:=by rw [hby];simp [Program.bytesOf,h1]
      simp only [AV.holds] at hs
      obtain ⟨rfl,hone⟩:=hs
      have hsT:=Vec.sl_T hl
      replace hl:=Vec.sl_live hl
      obtain ⟨xs,a1',a2,a3⟩:=hr.mem.vec i v hv hl
      have a1:=a1'.s hsT
      rw [hvk,hvT] at a1
      have hsrc:∃ (ao:Option Addr) (c:Nat) (news:List Value),ux=.slice ao new.length c∧CV.vals w e.S new.flatten news∧(∀ l∈new,l.length=k)∧(ao=none→new.length=0) ∧
        (∀ ad,ao=some ad→∀ j u,news[j]? = some u→w.cell? (ad.add j)=some u):=by
       have rows_vals:∀ {es:List (List CV)} {b o:Nat},CV.rows w e.S k es b o→∃ news,CV.vals w e.S es.flatten news∧(∀ l∈es,l.length=k)∧∀ j u,news[j]? = some u→w.cell? ⟨b,o+j,none⟩=some u:=by
        intro es
        induction es with
        | nil=>intro b o _;exact ⟨[],by simp [CV.vals],by simp,by simp⟩
        | cons l es ih =>
         intro b o hrows
         simp only [CV.rows] at hrows
         obtain ⟨r1,r2,r3⟩:=hrows
         obtain ⟨vs1,c1,c2,c3⟩:=r2.vals
         obtain ⟨vs2,d1,d2,d3⟩:=ih r3
         refine ⟨vs1++vs2,by simpa using c1.append d1,fun m hm=>(List.mem_cons.1 hm).elim (fun h=>h▸r1) (d2 m),?_⟩
         intro j u hj
         rw [List.getElem?_append] at hj
         split at hj
         ·exact c3 j u hj
         ·rename_i hj'
          have:=d3 _ u hj
          rw [show o+k+(j - vs1.length)=o+j by omega] at this
          exact this
       unfold oZ at hnew
       split at hnew
       ·rename_i k' es
        split at hnew
        ·rename_i hkk
         subst hkk
         injection hnew with hnew;subst hnew
         simp only [AV.holds,CV.holds] at hx
         obtain ⟨ao,cap,rfl,hle,hcm,hes⟩:=hx
         rcases hes with rfl | ⟨b,o,rfl,hS,hrows⟩
         ·exact ⟨ao,cap,[],rfl,by simp [CV.vals],by simp,by simp,by simp⟩
         ·obtain ⟨news,d1,d2,d3⟩:=rows_vals hrows
          exact ⟨some ⟨b,o,none⟩,cap,news,rfl,d1,d2,by simp,fun ad had j u hj=>by cases had;rw [addr_add];exact d3 j u hj⟩
        ·cases hnew
       ·injection hnew with hnew;subst hnew
        simp only [AV.holds,CV.holds] at hx
        obtain ⟨rfl,_⟩:=hx
        exact ⟨none,0,[],rfl,by simp [CV.vals],by simp,by simp,by simp⟩
       ·rename_i j u'
        split at hnew
        ·rename_i y hy
         split at hnew
         ·rename_i hcy
          simp only [Bool.and_eq_true,beq_iff_eq] at hcy
          obtain ⟨⟨hyl,rfl⟩,hyk⟩:=hcy
          injection hnew with hnew;subst hnew
          simp only [AV.holds] at hx
          obtain ⟨rfl,_⟩:=hx
          obtain ⟨ys,b1',b2,b3⟩:=hr.mem.vec j y hy (Vec.sl_live hyl)
          have b1:=b1'.s (Vec.sl_T hyl)
          obtain ⟨ao,c,hs,hle,_⟩:=b1.slice
          refine ⟨ao,c,ys,hs,b2,by rw [← hyk];exact b3,?_,?_⟩
          ·intro hao
           subst hao
           rcases b1 with ⟨_,_,h0,_⟩ | ⟨_,g,hg,_⟩
           ·exact h0
           ·rw [hs] at hg;simp [aX] at hg
          ·intro ad had
           subst had
           rcases b1 with ⟨_,_,_,h0⟩ | ⟨b1,g,hg,hg'⟩
           ·subst h0;simp
           ·have:ad=⟨g,0,none⟩:=by
             rcases b1.2 with ⟨h0,_⟩ | ⟨g',cap,cur,h0,_⟩
             ·rw [h0] at hg;simp [aX] at hg
             ·rw [h0] at hs hg'
              simp [Value.ownBlock] at hg'
              simp at hs
              rw [← hg',← hs.1]
            subst this
            exact b1.cells hg'
         ·cases hnew
        ·cases hnew
       ·cases hnew
      obtain ⟨ao,c,news,rfl,d1,d2,d3,d4⟩:=hsrc
      have hnl:news.length=new.length*k:=by
       rw [d1.length]
       have:∀ (l:List (List CV)),(∀ m∈l,m.length=k)→l.flatten.length=l.length*k:=by
        intro l hl
        induction l with
        | nil=>simp
        | cons m l ih=>simp [hl m (by simp),ih (fun q hq=>hl q (by simp [hq])),Nat.add_mul];omega
       exact this new d2
      obtain ⟨v',w',hrun,r1,r2,r3⟩:=QB (P:=P) w n0 T T' et ie zv k by_ hT h1 hz2 hies hbys hzs (by omega) _ v.es.length xs a1 (eK hti) ao new.length c news hnl d3 d4 d1.one hbd.2 hbd.1 hr.mem.base
      obtain ⟨e',b1,b2,b3,_⟩:=hr.mem.vecStep (w':=w') hv hl v' (v.es++new) (xs++news) (by rw [hvk,hvT,List.length_append];exact r1)
       (by rw [List.flatten_append];exact a2.append d1) (fun l hl'=>(List.mem_append.1 hl').elim (a3 l) (fun h=>(d2 l h).trans hvk.symm)) r2 r3
      refine ⟨v',w',e',hrun,b1,b2,by simp only [AV.holds];exact ⟨b3.symm,r1.one⟩,?_⟩
      have hlt:i<st.V.length:=(List.getElem?_eq_some_iff.1 hv).1
      simp only [AV.sco,vers,List.length_map,List.length_set]
      refine ⟨hlt,?_⟩
      simp [List.getD,hlt]
     ·cases h
    ·cases h
   ·cases h
  ·cases h
 ·cases h
theorem CA {st:St} {T:TypeId} {x av:AV} {B':List Box} {V':List Vec} (h:lH P st T x=some (av,B',V'))
  {n0:Nat} {w0:World} {e:Env} {a:Act} {w:World} (hr:Rel n0 w0 e st a w) {u:Value} (hu:AV.holds e w (kss st.V) x u) {k1 k2:IntKind} :
  ∃ v w' e',(Instr.sliceAt T u none (some (.int k1 0)) (some (.int k2 0))).run P w=.ok v w'∧Mem n0 w0 e' B' V' w'∧ExtS e st w e' B' V' w'∧AV.holds e' w' (kss V') av v∧AV.sco B'.length (vers V') av:=by
 unfold lH at h
 split at h
 ·rename_i s z et k by_ hti
  obtain ⟨hT,rfl,_⟩:=dI hti
  split at h
  ·cases h
  rename_i hk0
  split at h
  ·rename_i k' es
   simp only [Option.some.injEq,Prod.mk.injEq] at h
   obtain ⟨rfl,rfl,rfl⟩:=h
   simp only [AV.holds,CV.holds] at hu
   obtain ⟨ao,cap,rfl,hle,hcm,hes⟩:=hu
   have hrun:(Instr.sliceAt T (.slice ao es.length cap) none (some (.int k1 0)) (some (.int k2 0))).run P w=.ok (.slice ao 0 0) w:=by
    simp [Instr.sliceAt,Instr.slice,run_underlying hT,Instr.sliceBounds,Instr.sliceBound,asIntOf,aM hk0]
   obtain ⟨e',b1,b2,b3,_⟩:=hr.mem.newVec (w':=w) et (P.cellsOf et) (.slice ao 0 0) [] [] (.inl ⟨eK hti,.inl ⟨ao,rfl,rfl,rfl⟩⟩) (by simp [CV.vals]) (by simp)
    ⟨rfl,rfl,rfl,Nat.le_refl _,fun _ _ _=>rfl⟩ (fun g hg=>by cases ao <;> simp [aX] at hg)
   exact ⟨_,w,e',hrun,b1,b2,by simp [AV.holds,b3,Value.oneCell'],by simp [AV.sco,List.getD]⟩
  ·cases h
 ·cases h
end
end Go.Sx
namespace Go.Sx
open Go Go.RowKit
variable [G:Ghost]
section
variable {P:Program}
def eL (st:St):Option Operand→Option AV
 | none=>none
 | some x=>some (st.ev x)
def sL (x:AV):Option AV:=match x with
 | .ptr i o=>some (.ptr i o)
 | .opt i g el o=>some (.opt i g el o)
 | .cv (.ref cs)=>some (.cv (.ref cs))
 | _=>none
theorem QF {x av:AV} (h:sL x=some av) {e:Env} {w:World} {ks:List Nat} {u:Value} (hu:AV.holds e w ks x u):∃ p,u=.pointer (some p)∧av=x:=by
 have _:=G
 unfold sL at h
 split at h
 ·cases h;simp only [AV.holds] at hu;exact ⟨_,hu,rfl⟩
 ·cases h;simp only [AV.holds] at hu;obtain ⟨b,_,h2⟩:=hu;exact ⟨_,h2,rfl⟩
 ·cases h;simp only [AV.holds,CV.holds] at hu;obtain ⟨b,o,h2,_⟩:=hu;exact ⟨_,h2,rfl⟩
 ·cases h
def bC (P:Program) (st:St) (op:Op):Option Out:=
 match op with
 | .move x=>some (st.ev x,st.B,st.V)
 | .assign x=>some (st.ev x,st.B,st.V)
 | .pick c a b=>(wT (st.ev c) (st.ev a) (st.ev b)).map (·,st.B,st.V)
 | .alloc T=>iK P st T
 | .box T x=>sK st T (st.ev x)
 | .build T parts=>(jO P T (parts.toList.map fun p=>(p.1,st.ev p.2))).map (·,st.B,st.V)
 | .buildSlice T len parts=>bA P st T len (parts.toList.map fun p=>(p.1,st.ev p.2))
 | .load T a=>(bZ P st T (st.ev a)).map (·,st.B,st.V)
 | .store T a x=>(eP P st T (st.ev a) (st.ev x)).map (AV.any,·)
 | .binOp op T x y _=>(mJ P op T (st.ev x) (st.ev y)).map (·,st.B,st.V)
 | .unOp op _ x=>(EZ op (st.ev x)).map (·,st.B,st.V)
 | .fieldAddr T x f=>(cP P T (st.ev x) f).map (·,st.B,st.V)
 | .indexAddr T x i=>(dA P st T (st.ev x) (st.ev i)).map (·,st.B,st.V)
 | .index T x i=>(GA P T (st.ev x) (st.ev i)).map (·,st.B,st.V)
 | .extract x i=>(fS (st.ev x) i).map (·,st.B,st.V)
 | .convert T T' x=>(tE P T T' (st.ev x)).map (·,st.B,st.V)
 | .field T x f=>(uQ P T (st.ev x) f).map (·,st.B,st.V)
 | .nilCheck x=>(sL (st.ev x)).map (·,st.B,st.V)
 | .makeFunc (.func f) first caps=>if gQ (caps.toList.map st.ev)=true then none else
  if first.size=0 then some (.fn f (caps.toList.map st.ev),st.B,st.V) else if caps.size=0∧first.size=1 then some (.fn f (.gd [false] .any::first.toList.map st.ev),st.B,st.V) else none
 | .slice T x lo hi none=>(kR P T (st.ev x) (eL st lo) (eL st hi)).map (·,st.B,st.V)
 | .slice T x none (some (.const (.int _ 0))) (some (.const (.int _ 0)))=>lH P st T (st.ev x)
 | .slice T x lo (some (.tmp p)) (some (.tmp q))=>(pY P T (st.ev x) (eL st lo) (st.ev (.tmp p)) (st.ev (.tmp q))).map (·,st.B,st.V)
 | .call { callee:=.builtin .len,args,argTypes } =>
  match args.toList,argTypes.toList with
  | [x],[T]=>(kN P st T (st.ev x)).map (·,st.B,st.V)
  | _,_=>none
 | .call { callee:=.builtin .append,args,argTypes } =>
  match args.toList,argTypes.toList with
  | [s,x],[T,T']=>if T=T' then lG P st T (st.ev s) (st.ev x) else none
  | _,_=>none
 | .call { callee:=.builtin .max,args,.. }=>(BX true (args.toList.map st.ev)).map (·,st.B,st.V)
 | .call { callee:=.builtin .min,args,.. }=>(BX false (args.toList.map st.ev)).map (·,st.B,st.V)
 | _=>none
theorem Rel.evs {n0:Nat} {w0:World} {e:Env} {st:St} {a:Act} {w:World} (h:Rel n0 w0 e st a w):∀ (l:List Operand),AV.all e w (kss st.V) (l.map st.ev) (l.map a.eval)∧AV.scos st.B.length (vers st.V) (l.map st.ev)
 | []=>by simp [AV.all,AV.scos]
 | x::l=>by
  have h1:=h.ev x
  have h2:=h.evs l
  simp only [List.map_cons,AV.all,AV.scos]
  exact ⟨⟨h1.1,h2.1⟩,⟨h1.2,h2.2⟩⟩
theorem aY {o:Option AV} {st:St} {av:AV} {B':List Box} {V':List Vec} (h:o.map (·,st.B,st.V)=some (av,B',V')):o=some av∧B'=st.B∧V'=st.V:=by
 have _:=G
 cases o with
 | none=>simp at h
 | some x=>simp at h;obtain ⟨rfl,rfl,rfl⟩:=h;exact ⟨rfl,rfl,rfl⟩
theorem ZW (w:World) (mx:Bool) {args:List AV} {av:AV} (h:BX mx args=some av) {e:Env} {ks:List Nat} {vs:Array Value} (hv:AV.all e w ks args vs.toList) (ts:Array TypeId) (T:TypeId) :
  ∃ r,(if mx then Builtin.max_ ts T vs else Builtin.min_ ts T vs).run P w=.ok r w∧AV.holds e w ks av r∧∀ n us,AV.sco n us av:=by
 have _:=G
 unfold BX at h
 split at h
 ·rename_i k a k' b
  split at h
  ·rename_i hk
   subst hk
   injection h with h;subst h
   match hvs:vs.toList,hv with
   | [v1,v2],hv =>
    simp only [AV.all,AV.holds,CV.holds] at hv
    obtain ⟨⟨rfl,_⟩,⟨rfl,_⟩,_⟩:=hv
    cases mx
    ·exact ⟨_,by simp [Builtin.min_,hvs,Builtin.min2];rfl,by simp [AV.holds,CV.holds,Value.oneCell'],by simp [AV.sco]⟩
    ·exact ⟨_,by simp [Builtin.max_,hvs,Builtin.max2];rfl,by simp [AV.holds,CV.holds,Value.oneCell'],by simp [AV.sco]⟩
   | [],hv=>simp [AV.all] at hv
   | [_],hv=>simp [AV.all] at hv
   | _::_::_::_,hv=>simp [AV.all] at hv
  ·cases h
 ·cases h
theorem oJ {o:Oper} {st:St} {av:AV} {B':List Box} {V':List Vec} (h:bC P st o.op=some (av,B',V')):Step P o st av B' V':=by
 intro n0 w0 e a w hr
 have pure1:∀ {s:Sem Value} {r:Value},(execOp a.eval o)=(do pure (.value (← s)))→s.run P w=.ok r w→B'=st.B→V'=st.V→AV.holds e w (kss st.V) av r→AV.sco st.B.length (vers st.V) av →
   ∃ nx v w' e',(execOp a.eval o).run P w=.ok nx w'∧(nx=.value v∨(nx=.skip∧v=undef))∧Mem n0 w0 e' B' V' w'∧ExtS e st w e' B' V' w'∧AV.holds e' w' (kss V') av v∧AV.sco B'.length (vers V') av:=by
  intro s r h1 h2 h3 h4 h5 h6
  subst h3;subst h4
  exact ⟨_,r,w,e,by rw [h1];simp [h2],.inl rfl,hr.mem,Ext.refl _ _ _ _ _,h5,h6⟩
 have mem1:∀ {s:Sem Value},(execOp a.eval o)=(do pure (.value (← s))) →
   (∃ v w' e',s.run P w=.ok v w'∧Mem n0 w0 e' B' V' w'∧ExtS e st w e' B' V' w'∧AV.holds e' w' (kss V') av v∧AV.sco B'.length (vers V') av) →
   ∃ nx v w' e',(execOp a.eval o).run P w=.ok nx w'∧(nx=.value v∨(nx=.skip∧v=undef))∧Mem n0 w0 e' B' V' w'∧ExtS e st w e' B' V' w'∧AV.holds e' w' (kss V') av v∧AV.sco B'.length (vers V') av:=by
  intro s h1 ⟨v,w',e',h2,h3⟩
  exact ⟨_,v,w',e',by rw [h1];simp [h2],.inl rfl,h3⟩
 unfold bC at h
 split at h
 ·rename_i x hop
  simp only [Option.some.injEq,Prod.mk.injEq] at h
  obtain ⟨rfl,rfl,rfl⟩:=h
  have:=hr.ev x
  exact ⟨_,_,w,e,by simp [execOp,hop],.inl rfl,hr.mem,Ext.refl _ _ _ _ _,this.1,this.2⟩
 ·rename_i x hop
  simp only [Option.some.injEq,Prod.mk.injEq] at h
  obtain ⟨rfl,rfl,rfl⟩:=h
  have:=hr.ev x
  exact ⟨_,_,w,e,by simp [execOp,hop],.inl rfl,hr.mem,Ext.refl _ _ _ _ _,this.1,this.2⟩
 ·rename_i c x y hop
  obtain ⟨h1,rfl,rfl⟩:=aY h
  obtain ⟨q,hq,h2,h3⟩:=IT h1 (hr.ev c).1 (hr.ev x).1 (hr.ev y).1
  exact ⟨_,_,w,e,by simp [execOp,hop,hq,asBool],.inl rfl,hr.mem,Ext.refl _ _ _ _ _,h2,h3 _ _ (hr.ev x).2 (hr.ev y).2⟩
 ·rename_i T hop
  exact mem1 (by simp only [execOp,hop]) (FC h hr)
 ·rename_i T x hop
  exact mem1 (by simp only [execOp,hop]) (LZ h hr (hr.ev x).1 (hr.ev x).2)
 ·rename_i T parts hop
  obtain ⟨h1,rfl,rfl⟩:=aY h
  have hes:=hr.evs (parts.toList.map (·.2))
  obtain ⟨r,a1,a2,a3⟩:=FA (vparts:=parts.map fun p=>(p.1,a.eval p.2)) h1 (by simp) (by simpa [Function.comp_def] using hes.1)
  exact pure1 (by simp only [execOp,hop]) a1 rfl rfl a2 (a3 _ _ (by simpa [Function.comp_def] using hes.2))
 ·rename_i T len parts hop
  have hes:=hr.evs (parts.toList.map (·.2))
  exact mem1 (by simp only [execOp,hop]) (lI (vparts:=parts.map fun p=>(p.1,a.eval p.2)) h hr (by simp) (by simpa [Function.comp_def] using hes.1))
 ·rename_i T x hop
  obtain ⟨h1,rfl,rfl⟩:=aY h
  obtain ⟨r,a1,a2,a3⟩:=uM h1 hr (hr.ev x).1
  exact pure1 (by simp only [execOp,hop]) a1 rfl rfl a2 a3
 ·rename_i T x y hop
  cases hs:eP P st T (st.ev x) (st.ev y) with
  | none=>simp [hs] at h
  | some q =>
   simp only [hs,Option.map_some,Option.some.injEq,Prod.mk.injEq] at h
   obtain ⟨rfl,rfl,rfl⟩:=h
   obtain ⟨w',e',a1,a2,a3⟩:=EY hs hr (hr.ev x).1 (hr.ev y).1 (hr.ev y).2
   exact ⟨_,undef,w',e',by simp [execOp,hop,a1],.inr ⟨rfl,rfl⟩,a2,a3,by simp [AV.holds],by simp [AV.sco]⟩
 ·rename_i op T x y yT hop
  obtain ⟨h1,rfl,rfl⟩:=aY h
  obtain ⟨r,a1,a2,a3⟩:=LS h1 (hr.ev x).1 (hr.ev y).1 x y
  exact pure1 (s:=do eqGuard op T x y (a.eval x) (a.eval y);binOp op T (a.eval x) (a.eval y)) (by simp only [execOp,hop]) a1 rfl rfl a2 (a3 _ _)
 ·rename_i op T x hop
  obtain ⟨h1,rfl,rfl⟩:=aY h
  obtain ⟨r,a1,a2,a3⟩:=QD (P:=P) h1 (hr.ev x).1
  exact pure1 (by simp only [execOp,hop]) a1 rfl rfl a2 (a3 _ _)
 ·rename_i T x f hop
  obtain ⟨h1,rfl,rfl⟩:=aY h
  obtain ⟨r,a1,a2,a3⟩:=uO h1 (hr.ev x).1
  exact pure1 (by simp only [execOp,hop]) a1 rfl rfl a2 (a3 _ _ (hr.ev x).2)
 ·rename_i T x i hop
  obtain ⟨h1,rfl,rfl⟩:=aY h
  obtain ⟨r,a1,a2,a3⟩:=uP h1 hr (hr.ev x).1 (hr.ev i).1 (hr.ev x).2
  exact pure1 (by simp only [execOp,hop]) a1 rfl rfl a2 a3
 ·rename_i T x i hop
  obtain ⟨h1,rfl,rfl⟩:=aY h
  unfold GA at h1
  split at h1
  ·rename_i s z n et cs k j hti hx hi
   obtain ⟨hT,hk⟩:=uN hti
   split at h1
   ·rename_i te hte
    split at h1
    ·cases h1
    ·rename_i hagg
     split at h1
     ·rename_i hj
      have hxa:=(hr.ev x).1
      have hia:=(hr.ev i).1
      rw [hx] at hxa
      rw [hi] at hia
      simp only [AV.holds,CV.holds] at hxa hia
      obtain ⟨vs,hvs,hall⟩:=hxa
      obtain ⟨v,b1,b2⟩:=hall.get h1
      have hsz:=aM (P:=P) (T:=et) (by omega) w
      rw [← hk] at hsz
      have b1':vs[j.toNat]? = some v:=by simpa using b1
      refine pure1 (s:=Instr.index T (a.eval x) (a.eval i)) (r:=v) (by simp only [execOp,hop]) ?_ rfl rfl b2 ?_
      ·rw [hvs,hia.1]
       simp [Instr.index,asIntOf,run_underlying hT,hj,hsz,part,nC hte,hagg,b1']
      ·have:=(hr.ev x).2
       rw [hx] at this
       simp only [AV.sco] at this
       exact AV.scos_get this h1
     ·cases h1
   ·cases h1
  ·cases h1
 ·rename_i x i hop
  obtain ⟨h1,rfl,rfl⟩:=aY h
  obtain ⟨r,a1,a2,a3⟩:=AE (P:=P) h1 (hr.ev x).1
  exact pure1 (by simp only [execOp,hop]) a1 rfl rfl a2 (a3 _ _ (hr.ev x).2)
 ·rename_i T T' x hop
  obtain ⟨h1,rfl,rfl⟩:=aY h
  obtain ⟨r,a1,a2,a3⟩:=IU (P:=P) h1 (hr.ev x).1
  exact pure1 (by simp only [execOp,hop]) a1 rfl rfl a2 (a3 _ _)
 ·rename_i T x f hop
  obtain ⟨h1,rfl,rfl⟩:=aY h
  obtain ⟨r,a1,a2,a3⟩:=LV (P:=P) h1 (hr.ev x).1
  exact pure1 (by simp only [execOp,hop]) a1 rfl rfl a2 (a3 _ _ (hr.ev x).2)
 ·rename_i x hop
  obtain ⟨h1,rfl,rfl⟩:=aY h
  obtain ⟨p,hp,heq⟩:=QF h1 (hr.ev x).1
  exact ⟨_,a.eval x,w,e,by simp only [execOp,hop,hp];rfl,.inl rfl,hr.mem,Ext.refl _ _ _ _ _,by rw [heq];exact (hr.ev x).1,by rw [heq];exact (hr.ev x).2⟩
 ·rename_i f first caps hop
  split at h
  ·cases h
  rename_i hmk
  split at h
  ·rename_i hf
   simp only [Option.some.injEq,Prod.mk.injEq] at h
   obtain ⟨rfl,rfl,rfl⟩:=h
   have hes:=hr.evs caps.toList
   have hfe:first=#[]:=Array.eq_empty_of_size_eq_zero hf
   subst hfe
   exact pure1 (s:=Instr.makeFunc (.func f) (Array.map a.eval #[]) (caps.map a.eval)) (r:=.func (.func f) #[] (caps.map a.eval)) (by simp only [execOp,hop]) (by simp [Instr.makeFunc]) rfl rfl (by simp only [AV.holds];exact ⟨_,by rw [eq_false_of_ne_true hmk];rfl,by simpa using hes.1⟩) (by simp only [AV.sco];exact hes.2)
  ·split at h
   ·rename_i hc
    simp only [Option.some.injEq,Prod.mk.injEq] at h
    obtain ⟨rfl,rfl,rfl⟩:=h
    have hes:=hr.evs first.toList
    have hce:caps=#[]:=Array.eq_empty_of_size_eq_zero hc.1
    subst hce
    refine pure1 (s:=Instr.makeFunc (.func f) (first.map a.eval) (Array.map a.eval #[])) (r:=.func (.func f) (first.map a.eval) #[]) (by simp only [execOp,hop]) (by simp [Instr.makeFunc]) rfl rfl ?_ (by simp only [AV.sco,AV.scos,true_and];exact hes.2)
    simp only [AV.holds]
    refine ⟨#[undef]++first.map a.eval,?_,?_⟩
    ·exact (LO f (by simpa using hc.2)).symm
    ·simp only [Array.toList_append,List.singleton_append,AV.all,Array.toList_map]
     exact ⟨by simp [AV.holds],hes.1⟩
   ·cases h
 ·rename_i T x lo hi hop
  obtain ⟨h1,rfl,rfl⟩:=aY h
  obtain ⟨r,a1,a2,a3⟩:=FB (vlo:=lo.map a.eval) (vhi:=hi.map a.eval) h1 (hr.ev x).1
   (fun y hy=>by cases lo with | none=>simp [eL] at hy | some l=>simp [eL] at hy;subst hy;exact ⟨_,rfl,(hr.ev l).1⟩) (fun hl=>by cases lo <;> simp_all [eL])
   (fun y hy=>by cases hi with | none=>simp [eL] at hy | some l=>simp [eL] at hy;subst hy;exact ⟨_,rfl,(hr.ev l).1⟩) (fun hl=>by cases hi <;> simp_all [eL])
  exact pure1 (s:=Instr.sliceAt T (a.eval x) (lo.map a.eval) (hi.map a.eval) none) (by simp only [execOp,hop];rfl) a1 rfl rfl a2 (a3 _ _)
 ·rename_i T x k1 k2 hop
  exact mem1 (s:=Instr.sliceAt T (a.eval x) none (some (.int k1 0)) (some (.int k2 0))) (by simp only [execOp,hop];rfl) (CA h hr (hr.ev x).1)
 ·rename_i T x lo p q hop
  obtain ⟨h1,rfl,rfl⟩:=aY h
  obtain ⟨r,a1,a2,a3⟩:=BY (vlo:=lo.map a.eval) h1 (hr.ev x).1
   (fun y hy=>by cases lo with | none=>simp [eL] at hy | some l=>simp [eL] at hy;subst hy;exact ⟨_,rfl,(hr.ev l).1⟩) (fun hl=>by cases lo <;> simp_all [eL]) (hr.ev (.tmp p)).1 (hr.ev (.tmp q)).1
  exact pure1 (s:=Instr.sliceAt T (a.eval x) (lo.map a.eval) (some (a.eval (.tmp p))) (some (a.eval (.tmp q)))) (by simp only [execOp,hop];rfl) a1 rfl rfl a2 (a3 _ _)
 ·rename_i args argTypes hop
  split at h
  ·rename_i x T hargs htys
   obtain ⟨h1,rfl,rfl⟩:=aY h
   obtain ⟨r,a1,a2,a3⟩:=LU h1 hr (hr.ev x).1 o.type
   have hargs':args=#[x]:=by rw [← Array.toArray_toList (xs:=args),hargs]
   have htys':argTypes=#[T]:=by rw [← Array.toArray_toList (xs:=argTypes),htys]
   subst hargs';subst htys'
   exact ⟨_,r,w,e,by simp [execOp,hop,resolve,invoke,builtin,a1],.inl rfl,hr.mem,Ext.refl _ _ _ _ _,a2,a3 _ _⟩
  ·cases h
 ·rename_i args argTypes hop
  split at h
  ·rename_i s x T T' hargs htys
   split at h
   ·rename_i hTT
    subst hTT
    have hargs':args=#[s,x]:=by rw [← Array.toArray_toList (xs:=args),hargs]
    have htys':argTypes=#[T,T]:=by rw [← Array.toArray_toList (xs:=argTypes),htys]
    subst hargs';subst htys'
    obtain ⟨v,w',e',a1,a2⟩:=BZ h hr (hr.ev s).1 (hr.ev x).1 o.type
    exact ⟨_,v,w',e',by simp [execOp,hop,resolve,invoke,builtin,a1],.inl rfl,a2⟩
   ·cases h
  ·cases h
 ·rename_i args argTypes hop
  obtain ⟨h1,rfl,rfl⟩:=aY h
  obtain ⟨r,a1,a2,a3⟩:=ZW (P:=P) w true h1 (vs:=args.map a.eval) (by simpa using (hr.evs args.toList).1) argTypes o.type
  simp only [if_true] at a1
  exact ⟨_,r,w,e,by simp [execOp,hop,resolve,invoke,builtin,a1],.inl rfl,hr.mem,Ext.refl _ _ _ _ _,a2,a3 _ _⟩
 ·rename_i args argTypes hop
  obtain ⟨h1,rfl,rfl⟩:=aY h
  obtain ⟨r,a1,a2,a3⟩:=ZW (P:=P) w false h1 (vs:=args.map a.eval) (by simpa using (hr.evs args.toList).1) argTypes o.type
  simp only [Bool.false_eq_true,if_false] at a1
  exact ⟨_,r,w,e,by simp [execOp,hop,resolve,invoke,builtin,a1],.inl rfl,hr.mem,Ext.refl _ _ _ _ _,a2,a3 _ _⟩
 ·cases h
end
end Go.Sx
namespace Go.Sx
open Go Go.RowKit
variable [G:Ghost]
structure Free (F:Fence):Prop where
 fn:∀ f,F.fn f
 depth:F.depth=none
 alive:F.alive=false
theorem WJ:Free Fence.wide:=have _:=G;⟨fun _=>trivial,rfl,rfl⟩
theorem Free.inRound {F:Fence} (h:Free F) (l:Nat):Free (F.inRound l):=have _:=G;⟨h.fn,h.depth,h.alive⟩
theorem Free.plain {F:Fence} (h:Free F):Free F.plain:=have _:=G;⟨h.fn,h.depth,h.alive⟩
theorem Free.wide {F:Fence} (h:Free F) (hr:F.round=none):F=Fence.wide:=by
 have _:=G
 obtain ⟨fn,depth,alive,round⟩:=F
 obtain ⟨h1,h2,h3⟩:=h
 simp only at h1 h2 h3 hr
 subst h2 h3 hr
 have:fn=fun _=>True:=funext fun f=>propext ⟨fun _=>trivial,fun _=>h1 f⟩
 rw [this];rfl
section
variable {F:Fence} {n:Nat} {P:Program} {ops:Array Oper}
def cK (F:Fence) (n:Nat) (P:Program) (ops:Array Oper) (l:List Oper) (st:St) (Q:St→Prop):Prop:=
 ∀ n0 w0 e a w (Qr:Exit→Act→World→Prop),Rel n0 w0 e st a w →
  (∀ e' st' a' w',Q st'→Rel n0 w0 e' st' a' w'→a'.defers=a.defers→ExtS e st w e' st'.B st'.V w'→Qr .normal a' w')→wpListIn F n P ops Qr l a w
def FD (F:Fence) (n:Nat) (P:Program) (ops:Array Oper) (o:Oper) (rest:List Oper) (st:St) (Q:St→Prop):Prop:=
 ∀ n0 w0 e a w (Qr:Exit→Act→World→Prop),Rel n0 w0 e st a w →
  (∀ e' st' a' w',Q st'→Rel n0 w0 e' st' a' w'→a'.defers=a.defers→ExtS e st w e' st'.B st'.V w'→Qr .normal a' w')→o.wpIn F n P a w (wpListIn F n P ops Qr rest) Qr
theorem uS {st:St} {Q:St→Prop} (h:Q st):cK F n P ops [] st Q:=
 fun n0 w0 e a w Qr hr hk=>wpListIn_nil (hk e st a w h hr rfl (Ext.refl _ _ _ _ _))
theorem CB {o:Oper} {rest:List Oper} {st:St} {Q:St→Prop} (hg:o.guard=none) (h:FD F n P ops o rest st Q):cK F n P ops (o::rest) st Q:=by
 intro n0 w0 e a w Qr hr hk
 simp only [wpListIn,Region.wanted,hg,if_true]
 exact h n0 w0 e a w Qr hr hk
theorem Rel.slot {n0:Nat} {w0:World} {e:Env} {st:St} {a:Act} {w:World} (h:Rel n0 w0 e st a w) {d:Nat} {c:Bool} (hd:st.t[d]? = some (.cv (.val (.bool c)))):a.tmps[d]? = some (.bool c):=by
 obtain ⟨v,h1,h2⟩:=h.tm.get hd
 simp only [AV.holds,CV.holds] at h2
 obtain ⟨rfl,_⟩:=h2
 simpa using h1
theorem WK (hF:Free F) {o:Oper} {rest:List Oper} {st:St} {Q:St→Prop} {av:AV} {B':List Box} {V':List Vec} (hop:bC P st o.op=some (av,B',V'))
  (h:cK F n P ops rest (st.put o.dst av B' V') Q):FD F n P ops o rest st Q:=by
 intro n0 w0 e a w Qr hr hk
 obtain ⟨nx,v,w',e',h1,h2,h3,h4,h5,h6⟩:=oJ hop n0 w0 e a w hr
 refine ⟨fun f _=>hF.fn f,?_⟩
 rw [Oper.semAt_plain F _ _ (by intro c hc;rw [hc] at hop;simp [bC] at hop),h1]
 have hr':=hr.put h3 h4 h5 h6 o.dst
 have hgo:wpListIn F n P ops Qr rest (a.put o.dst v) w':=
  h n0 w0 e' _ w' Qr hr' fun e'' st' a' w'' hq hrel hdf hx=>hk e'' st' a' w'' hq hrel (by rw [hdf];cases o.dst <;> rfl) (h4.trans hx)
 rcases h2 with rfl | ⟨rfl,rfl⟩
 ·exact hgo
 ·exact hgo
def CallP (P:Program) (f:FuncId) (args:List AV) (B:List Box) (V:List Vec) (K:AV→List Box→List Vec→Prop):Prop:=
 ∀ (F:Fence) (n:Nat),Free F→F.round=none→∀ n0 w0 e w (vs:Array Value),Mem n0 w0 e B V w→AV.all e w (kss V) args vs.toList→AV.scos B.length (vers V) args →
  CallsIn F n P f vs w fun en w'=>∃ e' B' V' r v,en=.returned v∧K r B' V'∧Mem n0 w0 e' B' V' w'∧Ext e w B.length (vers V) (kss V) e' w' B'.length (vers V') (kss V') ∧
   AV.holds e' w' (kss V') r v∧AV.sco B'.length (vers V') r
theorem CallsIn.anyRound {F:Fence} {n:Nat} {f:FuncId} {args:Array Value} {w:World} {R:Ending→World→Prop} (h:CallsIn F.plain n P f args w R):CallsIn F n P f args w R:=by
 have _:=G
 cases hF:F.round with
 | none =>
  have:F.plain=F:=by cases F;simp_all [Fence.plain]
  rwa [this] at h
 | some l =>
  have:F.plain.inRound l=F:=by cases F;simp_all [Fence.plain,Fence.inRound]
  have:=CallsIn.inRound (F:=F.plain) l h
  rwa [‹F.plain.inRound l=F›] at this
theorem CallP.mono {f:FuncId} {args:List AV} {B:List Box} {V:List Vec} {K K':AV→List Box→List Vec→Prop} (h:CallP P f args B V K) (hk:∀ r B V,K r B V→K' r B V):CallP P f args B V K':=
 fun F n h1 h2 n0 w0 e w vs h3 h4 h5=>CallsIn.mono (h F n h1 h2 n0 w0 e w vs h3 h4 h5) fun en w' ⟨e',B',V',r,v,a1,a2,a3⟩=>⟨e',B',V',r,v,a1,hk _ _ _ a2,a3⟩
def aV:AV→Option (FuncId×List AV)
 | .cv (.fn f caps)=>some (f,caps.map .cv)
 | .fn f caps=>if gQ caps=true then none else some (f,caps)
 | _=>none
theorem nD (hF:Free F) {o:Oper} {rest:List Oper} {st:St} {Q:St→Prop} {x:Operand} {args:Array Operand} {ts:Array TypeId} {f:FuncId} {caps:List AV}
  (hop:o.op=.call { callee:=.value x,args,argTypes:=ts }) (hx:aV (st.ev x)=some (f,caps))
  (hen:∀ (as:Array Value) (w:World),(callFunc f as).run P w=.ok (.enter f as) w)
  (h:CallP P f (args.toList.map st.ev++caps) st.B st.V fun r B' V'=>cK F n P ops rest (st.put o.dst r B' V') Q):FD F n P ops o rest st Q:=by
 intro n0 w0 e a w Qr hr hk
 have hxv:=hr.ev x
 obtain ⟨cvs,hf,hcv,hcs⟩:∃ cvs:Array Value,a.eval x=.func (.func f) #[] cvs∧AV.all e w (kss st.V) caps cvs.toList∧AV.scos st.B.length (vers st.V) caps:=by
  unfold aV at hx
  split at hx
  ·rename_i g cs hg
   simp only [Option.some.injEq,Prod.mk.injEq] at hx
   obtain ⟨rfl,rfl⟩:=hx
   rw [hg] at hxv
   simp only [AV.holds,CV.holds] at hxv
   obtain ⟨⟨vs,h1,h2⟩,_⟩:=hxv
   exact ⟨vs,h1,AV.all.of_vals h2,AV.scos_cv _ _ _⟩
  ·rename_i g cs hg
   split at hx
   ·cases hx
   ·rename_i hmk
    simp only [Option.some.injEq,Prod.mk.injEq] at hx
    obtain ⟨rfl,rfl⟩:=hx
    rw [hg] at hxv
    simp only [AV.holds,AV.sco] at hxv
    obtain ⟨⟨vs,h1,h2⟩,h3⟩:=hxv
    rw [eq_false_of_ne_true hmk] at h1
    exact ⟨vs,h1,h2,h3⟩
  ·cases hx
 have hes:=hr.evs args.toList
 refine ⟨fun f _=>hF.fn f,?_⟩
 rw [Oper.semAt_plain F _ _ (by intro c hc;rw [hc] at hop;cases hop)]
 have hrun:(execOp a.eval o).run P w=.ok (.enter f (args.map a.eval++cvs)) w:=by
  simp [execOp,hop,resolve,hf,Deferred.ofValue,invoke,hen]
 rw [hrun]
 refine ⟨fun hd=>by rw [hF.depth] at hd;simp at hd,?_⟩
 refine CallsIn.anyRound (CallsIn.mono (h F.plain (n - 1) hF.plain rfl n0 w0 e w (args.map a.eval++cvs) hr.mem (by simpa using hes.1.append hcv) (by
  rw [AV.scos_iff] at hcs ⊢
  have h2:=AV.scos_iff.1 hes.2
  intro y hy
  rcases List.mem_append.1 hy with hy | hy
  ·exact h2 y hy
  ·exact hcs y hy)) ?_)
 rintro en w' ⟨e',B',V',r,v,rfl,hK,hm,hxt,hrv,hsc⟩
 have hr':=hr.put hm hxt hrv hsc o.dst
 exact hK n0 w0 e' _ w' Qr hr' fun e'' st' a' w'' hq hrel hdf hx=>hk e'' st' a' w'' hq hrel (by rw [hdf];cases o.dst <;> rfl) (hxt.trans hx)
def W (F:Fence) (n:Nat) (P:Program) (c:Code) (st:St) (Q:Exit→St→Prop):Prop:=
 ∀ n0 w0 e a w (Qr:Exit→Act→World→Prop),Rel n0 w0 e st a w →
  (∀ x e' st' a' w',Q x st'→Rel n0 w0 e' st' a' w'→a'.defers=a.defers→ExtS e st w e' st'.B st'.V w'→Qr x a' w')→c.wpIn F n P Qr a w
theorem CC {id:Nat} {st:St} {Q:Exit→St→Prop} (h:cK F n P ops ops.toList st (Q .normal)):W F n P (.region id ops false) st Q:=
 fun n0 w0 e a w Qr hr hk=>wpIn_region_list (h n0 w0 e a w Qr hr fun e' st' a' w' hq hrel hdf hx=>hk .normal e' st' a' w' hq hrel hdf hx)
theorem TS {x y:Code} {st:St} {Q:Exit→St→Prop} (h:W F n P x st fun ex st'=>match ex with | .normal=>W F n P y st' Q | ex=>Q ex st'):W F n P (.seq x y) st Q:=by
 intro n0 w0 e a w Qr hr hk
 refine wpIn_seq (h n0 w0 e a w _ hr ?_)
 intro ex e' st' a' w' hq hrel hdf hx
 cases ex with
 | normal=>exact hq n0 w0 e' a' w' Qr hrel fun x e'' st'' a'' w'' hq' hrel' hdf' hx'=>hk x e'' st'' a'' w'' hq' hrel' (hdf'.trans hdf) (hx.trans hx')
 | _=>exact hk _ e' st' a' w' hq hrel hdf hx
theorem aEj {st:St} {Q:Exit→St→Prop} (h:Q .normal st):W F n P .skip st Q:=
 fun n0 w0 e a w Qr hr hk=>wpIn_skip (hk _ e st a w h hr rfl (Ext.refl _ _ _ _ _))
theorem aCo {l:Nat} {st:St} {Q:Exit→St→Prop} (h:Q .normal st):W F n P (.label l) st Q:=
 fun n0 w0 e a w Qr hr hk=>wpIn_label (hk _ e st a w h hr rfl (Ext.refl _ _ _ _ _))
theorem ZX {st:St} {Q:Exit→St→Prop} (h:Q .ret st):W F n P .ret st Q:=
 fun n0 w0 e a w Qr hr hk=>wpIn_ret (hk _ e st a w h hr rfl (Ext.refl _ _ _ _ _))
theorem aEk {id:Nat} {st:St} {Q:Exit→St→Prop} (h:Q (.exit id) st):W F n P (.exit id) st Q:=
 fun n0 w0 e a w Qr hr hk=>wpIn_exit (hk _ e st a w h hr rfl (Ext.refl _ _ _ _ _))
theorem QG {c:Operand} {x y:Code} {st:St} {Q:Exit→St→Prop} {b:Bool} (hc:st.ev c=.cv (.val (.bool b))) (ht:b=true→W F n P x st Q) (hf:b=false→W F n P y st Q):W F n P (.cond c x y) st Q:=by
 intro n0 w0 e a w Qr hr hk
 have h1:=(hr.ev c).1
 rw [hc] at h1
 simp only [AV.holds,CV.holds] at h1
 exact wpIn_cond_split h1.1 (fun hb=>ht hb n0 w0 e a w Qr hr hk) (fun hb=>hf hb n0 w0 e a w Qr hr hk)
theorem IV {id:Nat} {c:Code} {st:St} {Q:Exit→St→Prop} (h:W F n P c st fun ex st'=>match ex with | .exit i=>if i=id then Q .normal st' else Q (.exit i) st' | ex=>Q ex st'):W F n P (.block id c) st Q:=by
 intro n0 w0 e a w Qr hr hk
 refine wpIn_block (h n0 w0 e a w _ hr ?_)
 intro ex e' st' a' w' hq hrel hdf hx
 cases ex with
 | exit i =>
  simp only [Exit.inBlock]
  split
  ·rename_i hi
   simp only [hi,if_true] at hq
   exact hk _ e' st' a' w' hq hrel hdf hx
  ·rename_i hi
   simp only [hi,if_false] at hq
   exact hk _ e' st' a' w' hq hrel hdf hx
 | _=>exact hk _ e' st' a' w' hq hrel hdf hx
def AV.le (x y:AV):Prop:=∀ e w ks v,AV.holds e w ks x v→AV.holds e w ks y v
theorem AV.le_refl (x:AV):AV.le x x:=have _:=G;fun _ _ _ _ h=>h
theorem AV.le_any (x:AV):AV.le x .any:=have _:=G;fun _ _ _ _ _=>by simp [AV.holds]
inductive AV.les:List AV→List AV→Prop
 | nil:AV.les [] []
 | cons {x y xs ys}:AV.le x y→AV.les xs ys→AV.les (x::xs) (y::ys)
theorem AV.les_refl:∀ (xs:List AV),AV.les xs xs
 | []=>.nil
 | x::xs=>.cons (AV.le_refl x) (AV.les_refl xs)
theorem AV.les.all {e:Env} {w:World} {ks:List Nat}:∀ {xs ys:List AV},AV.les xs ys→∀ {vs:List Value},AV.all e w ks xs vs→AV.all e w ks ys vs
 | _,_,.nil,[],h=>have _:=G;h
 | _,_,.cons h hs,v::vs,ha=>by
  simp only [AV.all] at ha ⊢
  exact ⟨h _ _ _ _ ha.1,hs.all ha.2⟩
 | _,_,.cons _ _,[],ha=>by simp [AV.all] at ha
structure Weak (s s1:St):Prop where
 t:AV.les s.t s1.t
 B:∀ (i:Nat) (b1:Box),s1.B[i]? = some b1→∃ b,s.B[i]? = some b∧(b1.live=true→b.live=true∧b1.T=b.T∧AV.les b.cs b1.cs)
 V:∀ (i:Nat) (v1:Vec),s1.V[i]? = some v1→∃ v,s.V[i]? = some v∧v1.ver=v.ver∧v1.k=v.k∧(v1.live=true∨v1.T=ghT→v1=v)
 sct:AV.scos s1.B.length (vers s1.V) s1.t
 scB:∀ (i:Nat) (b1:Box),s1.B[i]? = some b1→AV.scos s1.B.length (vers s1.V) b1.cs
theorem Weak.ver {s s1:St} (h:Weak s s1):∀ i,i<s1.V.length→(vers s1.V).getD i 0=(vers s.V).getD i 0∧(kss s1.V).getD i 0=(kss s.V).getD i 0:=by
 have _:=G
 intro i hi
 obtain ⟨v,hv,h1,h2,_⟩:=h.V i s1.V[i] (by simp [hi])
 have hi':=(List.getElem?_eq_some_iff.1 hv)
 simp [vers,kss,List.getD,hi,hv,h1,h2]
theorem Rel.weak {n0:Nat} {w0:World} {e:Env} {s s1:St} {a:Act} {w:World} (h:Rel n0 w0 e s a w) (hw:Weak s s1):Rel n0 w0 e s1 a w:=by
 have hx:Ext e w s1.B.length (vers s1.V) (kss s.V) e w s1.B.length (vers s1.V) (kss s1.V):=
  ⟨RO.refl _ _,fun _ _=>rfl,fun _ _ _ _=>rfl,Nat.le_refl _,Nat.le_refl _,fun _ _=>Nat.le_refl _,fun i hi=>(hw.ver i (by simpa using hi)).2,Nat.le_refl _,fun _ h=>.inl h,rfl,fun _=>rfl,rfl⟩
 refine ⟨AV.all.mono hx _ _ hw.sct (hw.t.all h.tm),hw.sct,⟨?_,hw.scB,?_,?_,?_,?_,?_,?_,h.mem.ro,h.mem.below,h.mem.base,h.mem.bl,h.mem.hid.of rfl ⟨rfl,rfl⟩ (fun _ h=>.inl h) (fun i v1 hv1 hT=>by obtain ⟨v,hv,_,_,hvv⟩:=hw.V i v1 hv1;obtain rfl:=hvv (.inr hT);exact ⟨v1,hv,hT,rfl⟩) (fun _ _ _=>rfl) (fun i b1 hb1 hl=>?_) (fun i v1 g hv1 hl hg=>?_)⟩⟩
 rotate_left 7
 ·obtain ⟨b,hb,hbb⟩:=hw.B i b1 hb1
  exact .inl ⟨i,b,hb,(hbb hl).1,rfl⟩
 ·obtain ⟨v,hv,_,_,hvv⟩:=hw.V i v1 hv1
  obtain rfl:=hvv (.inl hl)
  exact .inl ⟨i,v1,hv,hl,hg⟩
 ·intro i b1 hb1 hl
  obtain ⟨b,hb,hbb⟩:=hw.B i b1 hb1
  obtain ⟨hbl,hT,hle⟩:=hbb hl
  obtain ⟨vs,a1,a2⟩:=h.mem.box i b hb hbl
  exact ⟨vs,by rw [hT];exact a1,AV.all.mono hx _ _ (hw.scB i b1 hb1) (hle.all a2)⟩
 ·intro i b1 hb1 hl
  obtain ⟨b,hb,hbb⟩:=hw.B i b1 hb1
  exact h.mem.boxlo i b hb (hbb hl).1
 ·intro i j b1 c1 hb1 hc1 hl hl' heq
  obtain ⟨b,hb,hbb⟩:=hw.B i b1 hb1
  obtain ⟨c,hc,hcc⟩:=hw.B j c1 hc1
  exact h.mem.boxinj i j b c hb hc (hbb hl).1 (hcc hl').1 heq
 ·intro i v1 hv1 hl
  obtain ⟨v,hv,_,_,hvv⟩:=hw.V i v1 hv1
  obtain rfl:=hvv (.inl hl)
  exact h.mem.vec i v1 hv hl
 ·intro i v1 g hv1 hl hg
  obtain ⟨v,hv,_,_,hvv⟩:=hw.V i v1 hv1
  obtain rfl:=hvv (.inl hl)
  exact h.mem.vecS i v1 g hv hl hg
 ·intro i v1 j b1 g hv1 hl hb1 hbl hg
  obtain ⟨v,hv,_,_,hvv⟩:=hw.V i v1 hv1
  obtain rfl:=hvv (.inl hl)
  obtain ⟨b,hb,hbb⟩:=hw.B j b1 hb1
  exact h.mem.vecbox i v1 j b g hv hl hb (hbb hbl).1 hg
 ·intro i v1 j u1 g hv1 hl hu1 hl' hg hg'
  obtain ⟨v,hv,_,_,hvv⟩:=hw.V i v1 hv1
  obtain rfl:=hvv (.inl hl)
  obtain ⟨u,hu,_,_,huu⟩:=hw.V j u1 hu1
  obtain rfl:=huu (.inl hl')
  exact h.mem.vecinj i v1 j u1 g hv hl hu hl' hg hg'
theorem Ext.weak {e e':Env} {w w':World} {nB:Nat} {vs ks:List Nat} {s s1:St} (h:Ext e w nB vs ks e' w' s.B.length (vers s.V) (kss s.V)) (hw:Weak s s1) (hB:nB≤s1.B.length) (hV:vs.length≤s1.V.length) :
  Ext e w nB vs ks e' w' s1.B.length (vers s1.V) (kss s1.V):=
 ⟨h.ro,h.ρ,h.hdr,hB,by simpa using hV,fun i hi=>by rw [(hw.ver i (by omega)).1];exact h.verle i hi,fun i hi=>by rw [(hw.ver i (by omega)).2];exact h.kseq i hi,h.sz,h.snew,h.be,h.he,h.ye⟩
theorem exists_least {p:Nat→Prop} (h:∃ m,p m):∃ m,p m∧∀ k,p k→m≤k:=by
 have _:=G
 obtain ⟨m,hm⟩:=h
 induction m using Nat.strongRecOn with
 | _ m ih =>
  by_cases hex:∃ k,k<m∧p k
  ·obtain ⟨k,hk,hpk⟩:=hex
   exact ih k hk hpk
  ·exact ⟨m,hm,fun k hk=>by
    by_cases hlt:m≤k
    ·exact hlt
    ·exact absurd ⟨k,by omega,hk⟩ hex⟩
def tH (P:Program) (st:St):ResultVar→Option AV
 | .tmp t=>some (st.t.getD t .any)
 | .cell t T=>bZ P st T (st.t.getD t .any)
def lJ (P:Program) (st:St):List ResultVar→Option (List AV)
 | []=>some []
 | r::rs=>match tH P st r,lJ P st rs with
  | some x,some xs=>some (x::xs)
  | _,_=>none
def sM (P:Program) (st:St) (rs:List ResultVar):Option AV:=
 match lJ P st rs with
 | some [x]=>some x
 | some xs=>some (.tup xs)
 | none=>none
theorem ZY {n0:Nat} {w0:World} {e:Env} {st:St} {a:Act} {w:World} (h:Rel n0 w0 e st a w) (t:Nat):AV.holds e w (kss st.V) (st.t.getD t .any) (a.tmps.getD t undef)∧AV.sco st.B.length (vers st.V) (st.t.getD t .any):=
 h.ev (.tmp t)
def QH (tmps:Array Value) (r:ResultVar):Sem Value:=
 match r with
 | .tmp t=>pure (tmps.getD t undef)
 | .cell p t=>do loadVar t (← asAddr (tmps.getD p undef))
theorem QI (fn:Func) (tmps:Array Value):results fn tmps=(do
  let vs ← fn.results.mapM (QH tmps)
  pure (if h:vs.size=1 then vs[0] else .tuple vs)):=have _:=G;rfl
theorem uT {n0:Nat} {w0:World} {e:Env} {st:St} {a:Act} {w:World} (h:Rel n0 w0 e st a w):∀ (rs:List ResultVar) (xs:List AV),lJ P st rs=some xs →
  ∃ vs:List Value,(rs.mapM (QH a.tmps)).run P w=.ok vs w∧AV.all e w (kss st.V) xs vs∧AV.scos st.B.length (vers st.V) xs
 | [],xs,hx=>by simp [lJ] at hx;subst hx;exact ⟨[],by simp,by simp [AV.all],by simp [AV.scos]⟩
 | r::rs,xs,hx=>by
  simp only [lJ] at hx
  split at hx
  ·rename_i y ys hy hys
   injection hx with hx;subst hx
   obtain ⟨vs,h1,h2,h3⟩:=uT h rs ys hys
   have hone:∃ v,(QH a.tmps r).run P w=.ok v w∧AV.holds e w (kss st.V) y v∧AV.sco st.B.length (vers st.V) y:=by
    cases r with
    | tmp t =>
     simp only [tH,Option.some.injEq] at hy
     subst hy
     exact ⟨_,rfl,(ZY h t).1,(ZY h t).2⟩
    | cell p t =>
     simp only [tH] at hy
     obtain ⟨v,a1,a2,a3⟩:=uM hy h (ZY h p).1
     refine ⟨v,?_,a2,a3⟩
     have:∃ ad,a.tmps.getD p undef=.pointer (some ad):=by
      cases hp:a.tmps.getD p undef with
      | pointer o =>
       cases o with
       | some ad=>exact ⟨ad,rfl⟩
       | none=>rw [hp] at a1;simp [Instr.loadAt,Instr.sureAddr] at a1
      | _=>rw [hp] at a1;simp [Instr.loadAt,Instr.sureAddr] at a1
     obtain ⟨ad,had⟩:=this
     show (do loadVar t (← asAddr (a.tmps.getD p undef)):Sem Value).run P w=_
     rw [had] at a1 ⊢
     simpa [Instr.loadAt,Instr.sureAddr,asAddr] using a1
   obtain ⟨v,b1,b2,b3⟩:=hone
   refine ⟨v::vs,?_,by simpa [AV.all] using ⟨b2,h2⟩,by simpa [AV.scos] using ⟨b3,h3⟩⟩
   rw [List.mapM_cons]
   simp only [Sem.run_bind,b1,h1,Result.andThen_ok,Sem.run_pure]
  ·cases hx
theorem yS {fn:Func} {n0:Nat} {w0:World} {e:Env} {st:St} {a:Act} {w:World} (h:Rel n0 w0 e st a w) {r:AV} (hr:sM P st fn.results.toList=some r) :
  ∃ v,(results fn a.tmps).run P w=.ok v w∧AV.holds e w (kss st.V) r v∧AV.sco st.B.length (vers st.V) r:=by
 unfold sM at hr
 cases hx:lJ P st fn.results.toList with
 | none=>simp [hx] at hr
 | some xs =>
  obtain ⟨vs,h1,h2,h3⟩:=uT h _ xs hx
  have hrun:(results fn a.tmps).run P w=.ok (if h:vs.length=1 then vs[0] else .tuple vs.toArray) w:=by
   rw [QI,Array.mapM_eq_mapM_toList]
   simp only [Sem.run_bind,Sem.run_map]
   rw [h1]
   simp
  refine ⟨_,hrun,?_⟩
  have hl:=h2.length
  rw [hx] at hr
  match xs,vs,hl,h2,h3,hr with
  | [x],[v],_,h2,h3,hr =>
   simp only [Option.some.injEq] at hr
   subst hr
   simp only [AV.all,AV.scos] at h2 h3
   exact ⟨by simpa using h2.1,h3.1⟩
  | [],[],_,h2,h3,hr =>
   simp only [Option.some.injEq] at hr
   subst hr
   simp [AV.holds,AV.all,AV.sco,AV.scos]
  | x::y::xs,v::u::vs,_,h2,h3,hr =>
   simp only [Option.some.injEq] at hr
   subst hr
   simp only [List.length_cons]
   rw [dif_neg (by omega)]
   simp only [AV.holds,AV.sco]
   exact ⟨⟨_,rfl,by simpa using h2⟩,h3⟩
end
end Go.Sx
namespace Go.Sx
open Go Go.RowKit
variable [G:Ghost]
section
variable {F:Fence} {n:Nat} {P:Program} {ops:Array Oper}
end
end Go.Sx
namespace Go.Sx
open Go Go.RowKit
variable [G:Ghost]
section
variable {F:Fence} {n:Nat} {P:Program}
theorem put_defers (a:Act) (d:Option Nat) (v:Value):(a.put d v).defers=a.defers:=by have _:=G;cases d <;> rfl
end
end Go.Sx
namespace Go.Sx
open Go Go.RowKit
variable [G:Ghost]
mutual
def AV.shift (k:Nat):AV→AV
 | .any=>.any
 | .cv c=>.cv c
 | .ptr i o=>.ptr i o
 | .own i u=>.own (k+i) u
 | .opt i u el o=>.opt (k+i) u el o
 | .agg cs=>.agg (AV.shifts k cs)
 | .tup cs=>.tup (AV.shifts k cs)
 | .fn f cs=>.fn f (AV.shifts k cs)
 | .gd L x=>.gd L (AV.shift k x)
def AV.shifts (k:Nat):List AV→List AV
 | []=>[]
 | x::xs=>AV.shift k x::AV.shifts k xs
end
theorem yU (k:Nat) (xs:List AV):gQ (AV.shifts k xs)=gQ xs:=by
 have _:=G
 match xs with
 | []=>rfl
 | .gd L x::r =>
  match L,x with
  | [],_=>rfl
  | true::_,_=>rfl
  | false::_::_,_=>rfl
  | [false],.any=>rfl
  | [false],.cv _=>rfl
  | [false],.ptr _ _=>rfl
  | [false],.own _ _=>rfl
  | [false],.opt _ _ _ _=>rfl
  | [false],.agg _=>rfl
  | [false],.tup _=>rfl
  | [false],.fn _ _=>rfl
  | [false],.gd _ _=>rfl
 | .any::_=>rfl
 | .cv _::_=>rfl
 | .ptr _ _::_=>rfl
 | .own _ _::_=>rfl
 | .opt _ _ _ _::_=>rfl
 | .agg _::_=>rfl
 | .tup _::_=>rfl
 | .fn _ _::_=>rfl
theorem aCp (cs:List CV):gQ (cs.map .cv)=false:=by have _:=G;cases cs <;> rfl
def CV.flat:CV→Bool
 | .val _=>true
 | _=>false
mutual
def AV.flat:AV→Bool
 | .any=>true
 | .cv c=>c.flat
 | .ptr _ _=>true
 | .own _ _=>true
 | .opt _ _ _ _=>true
 | .agg cs=>AV.flats cs
 | .tup cs=>AV.flats cs
 | .fn _ cs=>AV.flats cs
 | .gd _ x=>AV.flat x
def AV.flats:List AV→Bool
 | []=>true
 | x::xs=>AV.flat x&&AV.flats xs
end
def Vec.flat (v:Vec):Bool:=v.es.all fun l=>l.all CV.flat
theorem CV.flat_holds {w w':World} {S S':Nat→Prop} {c:CV} {v:Value} (hf:c.flat=true) (h:CV.holds w S c v):CV.holds w' S' c v:=by
 have _:=G
 cases c <;> simp [CV.flat] at hf
 simpa [CV.holds] using h
theorem CV.flat_vals {w w':World} {S S':Nat→Prop}:∀ {cs:List CV} {vs:List Value},cs.all CV.flat=true→CV.vals w S cs vs→CV.vals w' S' cs vs
 | [],[],_,_=>by simp [CV.vals]
 | c::cs,v::vs,hf,h=>by
  simp only [List.all_cons,Bool.and_eq_true] at hf
  simp only [CV.vals] at h ⊢
  exact ⟨CV.flat_holds hf.1 h.1,CV.flat_vals hf.2 h.2⟩
 | [],_::_,_,h=>by simp [CV.vals] at h
 | _::_,[],_,h=>by simp [CV.vals] at h
section
variable {e e1:Env} {w:World} {k nB:Nat} {ks ks1 vs1:List Nat}
mutual
theorem AV.shift_holds (hS:∀ b,e1.S b→e.S b) (hh:∀ i u,i<vs1.length→e.hdr (k+i) u=e1.hdr i u) (hk:∀ i,i<vs1.length→ks.getD (k+i) 0=ks1.getD i 0) :
  ∀ (x:AV) (v:Value),AV.sco 0 vs1 x→AV.holds e1 w ks1 x v→AV.holds e w ks (AV.shift k x) v
 | .any,_,_,_=>by simp [AV.shift,AV.holds]
 | .cv c,v,_,h=>by simp only [AV.shift,AV.holds] at h ⊢;exact CV.holds.mono ⟨hS,fun _ _=>rfl⟩ c v h
 | .ptr i o,v,hs,h=>by simp [AV.sco] at hs
 | .own i u,v,hs,h=>by simp only [AV.shift,AV.holds,AV.sco] at hs h ⊢;rw [hh i u hs.1];exact h
 | .opt i u el o,v,hs,h=>by simp only [AV.shift,AV.holds,AV.sco] at hs h ⊢;rw [hh i u hs.1,hk i hs.1];exact h
 | .agg cs,v,hs,h=>by
  simp only [AV.shift,AV.holds,AV.sco] at hs h ⊢
  obtain ⟨us,h1,h2⟩:=h
  exact ⟨us,h1,AV.shifts_holds hS hh hk cs _ hs h2⟩
 | .tup cs,v,hs,h=>by
  simp only [AV.shift,AV.holds,AV.sco] at hs h ⊢
  obtain ⟨us,h1,h2⟩:=h
  exact ⟨us,h1,AV.shifts_holds hS hh hk cs _ hs h2⟩
 | .fn f cs,v,hs,h=>by
  simp only [AV.shift,AV.holds,AV.sco] at hs h ⊢
  obtain ⟨us,h1,h2⟩:=h
  exact ⟨us,by rw [yU];exact h1,AV.shifts_holds hS hh hk cs _ hs h2⟩
 | .gd L x,v,hs,h=>by
  simp only [AV.shift,AV.holds,AV.sco] at hs h ⊢
  exact ⟨fun hl=>AV.shift_holds hS hh hk x v hs (h.1 hl),h.2⟩
theorem AV.shifts_holds (hS:∀ b,e1.S b→e.S b) (hh:∀ i u,i<vs1.length→e.hdr (k+i) u=e1.hdr i u) (hk:∀ i,i<vs1.length→ks.getD (k+i) 0=ks1.getD i 0) :
  ∀ (xs:List AV) (us:List Value),AV.scos 0 vs1 xs→AV.all e1 w ks1 xs us→AV.all e w ks (AV.shifts k xs) us
 | [],[],_,_=>by have _:=G;simp [AV.shifts,AV.all]
 | x::xs,u::us,hs,h=>by
  simp only [AV.shifts,AV.all,AV.scos] at hs h ⊢
  exact ⟨AV.shift_holds hS hh hk x u hs.1 h.1,AV.shifts_holds hS hh hk xs us hs.2 h.2⟩
 | [],_::_,_,h=>by simp [AV.all] at h
 | _::_,[],_,h=>by simp [AV.all] at h
end
mutual
theorem AV.shift_flat (hh:∀ i u,i<vs1.length→e.hdr (k+i) u=e1.hdr i u) (hk:∀ i,i<vs1.length→ks.getD (k+i) 0=ks1.getD i 0) :
  ∀ (x:AV) (v:Value),AV.flat x=true→AV.sco 0 vs1 x→AV.holds e1 w ks1 x v→AV.holds e w ks (AV.shift k x) v
 | .any,_,_,_,_=>by simp [AV.shift,AV.holds]
 | .cv c,v,hf,_,h=>by simp only [AV.shift,AV.holds,AV.flat] at hf h ⊢;exact CV.flat_holds hf h
 | .ptr i o,v,_,hs,h=>by simp [AV.sco] at hs
 | .own i u,v,_,hs,h=>by simp only [AV.shift,AV.holds,AV.sco] at hs h ⊢;rw [hh i u hs.1];exact h
 | .opt i u el o,v,_,hs,h=>by simp only [AV.shift,AV.holds,AV.sco] at hs h ⊢;rw [hh i u hs.1,hk i hs.1];exact h
 | .agg cs,v,hf,hs,h=>by
  simp only [AV.shift,AV.holds,AV.sco,AV.flat] at hf hs h ⊢
  obtain ⟨us,h1,h2⟩:=h
  exact ⟨us,h1,AV.shifts_flat hh hk cs _ hf hs h2⟩
 | .tup cs,v,hf,hs,h=>by
  simp only [AV.shift,AV.holds,AV.sco,AV.flat] at hf hs h ⊢
  obtain ⟨us,h1,h2⟩:=h
  exact ⟨us,h1,AV.shifts_flat hh hk cs _ hf hs h2⟩
 | .fn f cs,v,hf,hs,h=>by
  simp only [AV.shift,AV.holds,AV.sco,AV.flat] at hf hs h ⊢
  obtain ⟨us,h1,h2⟩:=h
  exact ⟨us,by rw [yU];exact h1,AV.shifts_flat hh hk cs _ hf hs h2⟩
 | .gd L x,v,hf,hs,h=>by
  simp only [AV.shift,AV.holds,AV.sco,AV.flat] at hf hs h ⊢
  exact ⟨fun hl=>AV.shift_flat hh hk x v hf hs (h.1 hl),h.2⟩
theorem AV.shifts_flat (hh:∀ i u,i<vs1.length→e.hdr (k+i) u=e1.hdr i u) (hk:∀ i,i<vs1.length→ks.getD (k+i) 0=ks1.getD i 0) :
  ∀ (xs:List AV) (us:List Value),AV.flats xs=true→AV.scos 0 vs1 xs→AV.all e1 w ks1 xs us→AV.all e w ks (AV.shifts k xs) us
 | [],[],_,_,_=>by have _:=G;simp [AV.shifts,AV.all]
 | x::xs,u::us,hf,hs,h=>by
  simp only [AV.shifts,AV.all,AV.scos,AV.flats,Bool.and_eq_true] at hf hs h ⊢
  exact ⟨AV.shift_flat hh hk x u hf.1 hs.1 h.1,AV.shifts_flat hh hk xs us hf.2 hs.2 h.2⟩
 | [],_::_,_,_,h=>by simp [AV.all] at h
 | _::_,[],_,_,h=>by simp [AV.all] at h
end
mutual
theorem AV.shift_scoped (hV:k+vs1.length≤ks.length) (hle:∀ i,i<vs1.length→vs1.getD i 0≤ks.getD (k+i) 0):∀ (x:AV),AV.sco 0 vs1 x→AV.sco nB ks (AV.shift k x)
 | .any,_=>by have _:=G;simp [AV.shift,AV.sco]
 | .cv c,_=>by simp [AV.shift,AV.sco]
 | .ptr i o,hs=>by simp [AV.sco] at hs
 | .own i u,hs=>by simp only [AV.shift,AV.sco] at hs ⊢;have:=hle i hs.1;omega
 | .opt i u el o,hs=>by simp only [AV.shift,AV.sco] at hs ⊢;have:=hle i hs.1;omega
 | .agg cs,hs=>by simp only [AV.shift,AV.sco] at hs ⊢;exact AV.shifts_scoped hV hle cs hs
 | .tup cs,hs=>by simp only [AV.shift,AV.sco] at hs ⊢;exact AV.shifts_scoped hV hle cs hs
 | .fn f cs,hs=>by simp only [AV.shift,AV.sco] at hs ⊢;exact AV.shifts_scoped hV hle cs hs
 | .gd L x,hs=>by simp only [AV.shift,AV.sco] at hs ⊢;exact AV.shift_scoped hV hle x hs
theorem AV.shifts_scoped (hV:k+vs1.length≤ks.length) (hle:∀ i,i<vs1.length→vs1.getD i 0≤ks.getD (k+i) 0):∀ (xs:List AV),AV.scos 0 vs1 xs→AV.scos nB ks (AV.shifts k xs)
 | [],_=>by have _:=G;simp [AV.shifts,AV.scos]
 | x::xs,hs=>by
  simp only [AV.shifts,AV.scos] at hs ⊢
  exact ⟨AV.shift_scoped hV hle x hs.1,AV.shifts_scoped hV hle xs hs.2⟩
end
end
section
variable {P:Program}
theorem Mem.beside {n0:Nat} {w0:World} {e:Env} {B:List Box} {V:List Vec} {w w':World} (h:Mem n0 w0 e B V w) {e1:Env} {V0:List Vec} (h1:Mem w.heap.size w e1 [] V0 w') (hy1:e1.y=false)
  (S':Nat→Prop) (hS1:∀ b,e.S b→S' b) (hS2:∀ b,S' b→e.S b∨(w.heap.size≤b∧b<w'.heap.size∧e1.S b))
  (hv:∀ (i:Nat) (x:Vec),V0[i]? = some x→x.live=true→∀ xs,CV.vals w' e1.S x.es.flatten xs→CV.vals w' S' x.es.flatten xs) :
  ∃ e',(e'.ρ=e.ρ∧e'.H=e.H)∧e'.S=S'∧(∀ i u,i<V.length→e'.hdr i u=e.hdr i u)∧(∀ i u,e'.hdr (V.length+i) u=e1.hdr i u) ∧
   Mem n0 w0 e' B (V++V0) w'∧Ext e w B.length (vers V) (kss V) e' w' B.length (vers (V++V0)) (kss (V++V0)):=by
 have hb:Below w.heap.size w w':=by have:=h1.below;rwa [Env.nb_false hy1] at this
 let e':Env:={ ρ:=e.ρ,hdr:=fun i u=>if i<V.length then e.hdr i u else e1.hdr (i - V.length) u,S:=S',base:=e.base,H:=e.H,y:=e.y }
 have hh1:∀ i u,i<V.length→e'.hdr i u=e.hdr i u:=fun i u hi=>by show (if _ then _ else _)=_;rw [if_pos hi]
 have hh2:∀ i u,e'.hdr (V.length+i) u=e1.hdr i u:=fun i u=>by
  show (if V.length+i<V.length then _ else e1.hdr (V.length+i - V.length) u)=_
  rw [if_neg (by omega)];congr 1;omega
 have hx:Ext e w B.length (vers V) (kss V) e' w' B.length (vers (V++V0)) (kss (V++V0)):=by
  refine ⟨⟨hS1,fun b hb'=>hb.block b (h.ro b hb')⟩,fun _ _=>rfl,fun i u hi hu=>hh1 i u (by simpa using hi),Nat.le_refl _,by simp,fun i hi=>?_,fun i hi=>?_,hb.size,fun b hb'=>(hS2 b hb').elim .inl fun hq=>.inr (Nat.le_trans (Nat.le_trans h.bl.1 h.base) hq.1),rfl,fun _=>rfl,rfl⟩
  ·simp only [vers,List.length_map] at hi ⊢;simp [List.getD,List.getElem?_append,hi]
  ·simp only [vers,kss,List.length_map] at hi ⊢;simp [List.getD,List.getElem?_append,hi]
 have hget:∀ (i:Nat) (x:Vec),(V++V0)[i]? = some x→(i<V.length∧V[i]? = some x∧e'.hdr i x.ver=e.hdr i x.ver)∨(∃ j,i=V.length+j∧V0[j]? = some x∧e'.hdr i x.ver=e1.hdr j x.ver):=by
  intro i x hi
  rw [List.getElem?_append] at hi
  split at hi
  ·exact .inl ⟨‹_›,hi,hh1 i _ ‹_›⟩
  ·exact .inr ⟨i - V.length,by omega,hi,by rw [← hh2];congr 1;omega⟩
 have hlo:∀ (j:Nat) (y:Vec),V[j]? = some y→y.live=true→∀ g,aX (e.hdr j y.ver)=some g→g<w.heap.size:=by
  intro j y hy hyl g hg
  obtain ⟨ys,a1,_⟩:=h.vec j y hy hyl
  exact (a1.lt g hg).2
 have hhi:∀ (j:Nat) (y:Vec),V0[j]? = some y→y.live=true→∀ g,aX (e1.hdr j y.ver)=some g→w.heap.size≤g:=by
  intro j y hy hyl g hg
  obtain ⟨ys,a1,_⟩:=h1.vec j y hy hyl
  exact (a1.lt g hg).1
 refine ⟨e',⟨rfl,rfl⟩,rfl,hh1,hh2,⟨?_,?_,?_,h.boxinj,?_,?_,?_,?_,?_,h.below.trans (hb.mono h.nbase),Nat.le_trans h.base hb.size,h.bl,h.hid.of rfl ⟨rfl,rfl⟩ (fun b hb'=>(hS2 b hb').imp id fun hq=>h.hid.new hq.1) (SameG.app fun y hy hT=>by obtain ⟨i,hi,rfl⟩:=List.mem_iff_getElem.1 hy;have:=(h1.hid.gh i V0[i] (by simp [hi]) hT).2.1;rw [hy1] at this;cases this) (fun b hb' _=>hb.block b hb') (fun i b hb hl=>.inl ⟨i,b,hb,hl,rfl⟩) (fun i x g hi hl hg=>?_)⟩,hx⟩
 rotate_left 8
 ·rcases hget i x hi with ⟨hlt,hi,he⟩ | ⟨j',rfl,hi,he⟩
  ·rw [he] at hg;exact .inl ⟨i,x,hi,hl,hg⟩
  ·rw [he] at hg;exact .inr (hhi j' x hi hl g hg)
 ·intro i b hb' hl
  obtain ⟨vs,a1,a2⟩:=h.box i b hb' hl
  exact ⟨vs,(hb.block _ (Array.getElem?_eq_some_iff.1 a1).1).trans a1,AV.all.mono hx _ _ (h.boxsc i b hb') a2⟩
 ·intro i b hb';exact hx.scos (h.boxsc i b hb')
 ·intro i b hb' hl
  have a:=h.boxlo i b hb' hl
  have hlt:=h.lt_box hb' hl
  refine ⟨a.1,fun hc=>?_⟩
  rcases hS2 _ hc with hc | hc
  ·exact a.2 hc
  ·have:w.heap.size≤e.ρ i:=hc.1
   omega
 ·intro i x hi hl
  rcases hget i x hi with ⟨hlt,hi,he⟩ | ⟨j,rfl,hi,he⟩
  ·obtain ⟨xs,a1,a2,a3⟩:=h.vec i x hi hl
   exact ⟨xs,by rw [he];exact a1.keep fun g hg=>hb.block g (a1.lt g hg).2,CV.vals.mono hx.ro _ _ a2,a3⟩
  ·obtain ⟨xs,a1,a2,a3⟩:=h1.vec j x hi hl
   refine ⟨xs,?_,hv j x hi hl xs a2,a3⟩
   rw [he]
   exact a1.base h.base
 ·intro i x g hi hl hg
  rcases hget i x hi with ⟨hlt,hi,he⟩ | ⟨j,rfl,hi,he⟩
  ·rw [he] at hg
   intro hc
   rcases hS2 _ hc with hc | hc
   ·exact h.vecS i x g hi hl hg hc
   ·have:=hlo i x hi hl g hg;omega
  ·rw [he] at hg
   intro hc
   rcases hS2 _ hc with hc | hc
   ·have:=h.ro g hc;have:=hhi j x hi hl g hg;omega
   ·exact h1.vecS j x g hi hl hg hc.2.2
 ·intro i x j b g hi hl hb' hbl hg
  rcases hget i x hi with ⟨hlt,hi,he⟩ | ⟨j',rfl,hi,he⟩
  ·rw [he] at hg;exact h.vecbox i x j b g hi hl hb' hbl hg
  ·rw [he] at hg
   have:=hhi j' x hi hl g hg;have:=h.lt_box hb' hbl
   intro hc
   have hc':e.ρ j=g:=hc
   omega
 ·intro i x j y g hi hl hj hl' hg hg'
  rcases hget i x hi with ⟨hlt,hi1,he⟩ | ⟨i',hii,hi1,he⟩ <;> rcases hget j y hj with ⟨hlt',hj1,he'⟩ | ⟨j',hjj,hj1,he'⟩
  ·rw [he] at hg;rw [he'] at hg';exact h.vecinj i x j y g hi1 hl hj1 hl' hg hg'
  ·rw [he] at hg;rw [he'] at hg'
   have:=hlo i x hi1 hl g hg;have:=hhi j' y hj1 hl' g hg';omega
  ·rw [he] at hg;rw [he'] at hg'
   have:=hlo j y hj1 hl' g hg';have:=hhi i' x hi1 hl g hg;omega
  ·rw [he] at hg;rw [he'] at hg'
   have:=h1.vecinj i' x j' y g hi1 hl hj1 hl' hg hg'
   omega
 ·intro b hb'
  rcases hS2 b hb' with hb' | hb'
  ·exact Nat.lt_of_lt_of_le (h.ro b hb') hb.size
  ·exact hb'.2.1
theorem Mem.nothing (e:Env) (w:World) (hro:∀ b,e.S b→b<w.heap.size):Mem w.heap.size w { e with base:=w.heap.size,H:=fun _=>none,y:=false } [] [] w:=
 ⟨by simp,by simp,by simp,by simp,by simp,by simp,by simp,by simp,hro,Below.refl _ _,Nat.le_refl _,⟨Nat.le_refl _,by simp⟩,⟨by simp,by simp,by simp,by simp,by simp⟩⟩
mutual
theorem AV.rebase {e:Env} {w:World} {ks:List Nat} (b0:Nat):∀ (x:AV) (v:Value),AV.holds e w ks x v→AV.holds { e with base:=b0,H:=fun _=>none,y:=false } w ks x v
 | .any,_,_=>by have _:=G;simp [AV.holds]
 | .cv c,v,h=>by simp only [AV.holds] at h ⊢;exact h
 | .ptr i o,v,h=>by simp only [AV.holds] at h ⊢;exact h
 | .own i u,v,h=>by simp only [AV.holds] at h ⊢;exact h
 | .opt i u el o,v,h=>by simp only [AV.holds] at h ⊢;exact h
 | .agg cs,v,h=>by
  simp only [AV.holds] at h ⊢
  obtain ⟨us,h1,h2⟩:=h
  exact ⟨us,h1,AV.rebases b0 cs _ h2⟩
 | .tup cs,v,h=>by
  simp only [AV.holds] at h ⊢
  obtain ⟨us,h1,h2⟩:=h
  exact ⟨us,h1,AV.rebases b0 cs _ h2⟩
 | .fn f cs,v,h=>by
  simp only [AV.holds] at h ⊢
  obtain ⟨us,h1,h2⟩:=h
  exact ⟨us,h1,AV.rebases b0 cs _ h2⟩
 | .gd L x,v,h=>by
  simp only [AV.holds] at h ⊢
  exact ⟨fun hl=>AV.rebase b0 x v (h.1 hl),h.2⟩
theorem AV.rebases {e:Env} {w:World} {ks:List Nat} (b0:Nat):∀ (xs:List AV) (us:List Value),AV.all e w ks xs us→AV.all { e with base:=b0,H:=fun _=>none,y:=false } w ks xs us
 | [],[],_=>by have _:=G;simp [AV.all]
 | x::xs,u::us,h=>by simp only [AV.all] at h ⊢;exact ⟨AV.rebase b0 x u h.1,AV.rebases b0 xs us h.2⟩
 | [],_::_,h=>by simp [AV.all] at h
 | _::_,[],h=>by simp [AV.all] at h
end
theorem CallP.frame {f:FuncId} {args:List AV} {K:AV→List Box→List Vec→Prop} (h:CallP P f args [] [] K) (hK:∀ r B V,K r B V→B=[]) (hargs:AV.scos 0 [] args) (B:List Box) (V:List Vec) :
  CallP P f args B V fun r B' V'=>∃ r0 V0,K r0 [] V0∧r=AV.shift V.length r0∧B'=B∧V'=V++V0:=by
 intro F n hF hro n0 w0 e w vs hm hv hs
 have hx0:Ext e w 0 [] (kss V) e w 0 [] []:=⟨RO.refl _ _,fun _ _=>rfl,fun _ _ _ _=>rfl,Nat.le_refl _,Nat.le_refl _,fun _ _=>Nat.le_refl _,fun i hi=>by simp at hi,Nat.le_refl _,fun _ h=>.inl h,rfl,fun _=>rfl,rfl⟩
 refine CallsIn.mono (h F n hF hro w.heap.size w { e with base:=w.heap.size,H:=fun _=>none,y:=false } w vs (Mem.nothing e w hm.ro) (AV.rebases _ _ _ (AV.all.mono hx0 _ _ hargs hv)) hargs) ?_
 rintro en w' ⟨e1,B1,V0,r0,v,rfl,hk,h1,hx1,hr,hsc⟩
 obtain rfl:=hK _ _ _ hk
 obtain ⟨e',hρ,hS,hh1,hh2,hm',hx⟩:=hm.beside h1 hx1.ye e1.S (fun b hb=>hx1.ro.sub b hb) (fun b hb=>(hx1.snew b hb).elim .inl fun hl=>.inr ⟨hl,h1.ro b hb,hb⟩) (fun _ _ _ _ _ h=>h)
 refine ⟨e',B,V++V0,AV.shift V.length r0,v,rfl,⟨r0,V0,hk,rfl,rfl,rfl⟩,hm',hx,?_,?_⟩
 ·refine AV.shift_holds (fun b hb=>by rw [hS];exact hb) (fun i u _=>hh2 i u) (fun i hi=>?_) r0 v hsc hr
  simp only [vers,List.length_map] at hi
  simp [kss,List.getD,List.getElem?_append,Nat.not_lt.2 (Nat.le_add_right _ _)]
 ·refine AV.shift_scoped (by simp) (fun i hi=>?_) r0 hsc
  simp only [vers,List.length_map] at hi
  simp [vers,List.getD,List.getElem?_append,Nat.not_lt.2 (Nat.le_add_right _ _)]
mutual
def AV.lend (B:List Box) (V:List Vec):AV→AV
 | .own i u =>
  match V[i]? with
  | some v=>if v.sl&&v.ver == u then .cv (.row v.k v.es) else .any
  | none=>.any
 | .ptr i 0 =>
  match B[i]? with
  | some b=>if b.live then (match cV b.cs with | some cs=>.cv (.ref cs) | none=>.any) else .any
  | none=>.any
 | .agg cs=>.agg (AV.lends B V cs)
 | .tup cs=>.tup (AV.lends B V cs)
 | .fn f cs=>if gQ cs=true then .any else .fn f (AV.lends B V cs)
 | .cv c=>.cv c
 | _=>.any
def AV.lends (B:List Box) (V:List Vec):List AV→List AV
 | []=>[]
 | x::xs=>AV.lend B V x::AV.lends B V xs
end
theorem QJ {B:List Box} {V:List Vec} {xs:List AV} (h:¬gQ xs=true):gQ (AV.lends B V xs)=false:=by
 have _:=G
 match xs with
 | []=>rfl
 | x::r =>
  have:∀ L y,AV.lend B V x≠.gd L y:=by
   intro L y
   cases x with
   | ptr i o =>
    cases o with
    | zero=>simp only [AV.lend];(repeat' split) <;> simp
    | succ o=>simp [AV.lend]
   | own i u=>simp only [AV.lend];(repeat' split) <;> simp
   | fn f cs=>simp only [AV.lend];split <;> simp
   | _=>simp [AV.lend]
  simp only [AV.lends]
  unfold gQ
  split
  ·rename_i heq
   simp only [List.cons.injEq] at heq
   exact absurd heq.1 (this _ _)
  ·rfl
section
variable {n0:Nat} {w0:World} {e:Env} {B:List Box} {V:List Vec} {w:World}
mutual
theorem AV.lend_holds' (h:Mem n0 w0 e B V w) {S:Nat→Prop} (hS:∀ b,e.S b→S b) (hSb:∀ (i:Nat) (b:Box),B[i]? = some b→b.live=true→S (e.ρ i)) (hSv:∀ (i:Nat) (x:Vec) (g:Nat),V[i]? = some x→x.live=true→aX (e.hdr i x.ver)=some g→S g):∀ (x:AV) (v:Value),AV.holds e w (kss V) x v→AV.holds { e with S:=S } w [] (AV.lend B V x) v
 | .any,_,_=>by simp [AV.lend,AV.holds]
 | .cv c,v,hv=>by
  simp only [AV.lend,AV.holds] at hv ⊢
  exact CV.holds.mono ⟨fun b hb=>hS b hb,fun _ _=>rfl⟩ c v hv
 | .ptr i 0,v,hv=>by
  simp only [AV.lend]
  split
  ·rename_i b hb
   split
   ·rename_i hl
    split
    ·rename_i cs hcs
     simp only [AV.holds,CV.holds] at hv ⊢
     obtain ⟨vs,a1,a2⟩:=h.box i b hb hl
     rw [gG hcs] at a2
     have hvals:=CV.vals.mono (S':=S) (w':=w) ⟨fun b hb=>hS b hb,fun _ _=>rfl⟩ _ _ (fK a2)
     refine ⟨e.ρ i,0,hv,hSb i b hb hl,CV.cells.of_vals hvals fun j u hj=>?_⟩
     rw [cell_of_row w _ _ vs b.T (0,0) a1]
     simpa using hj
    ·simp [AV.holds]
   ·simp [AV.holds]
  ·simp [AV.holds]
 | .ptr i (o+1),v,hv=>by simp [AV.lend,AV.holds]
 | .own i u,v,hv=>by
  simp only [AV.lend]
  split
  ·rename_i x hx
   split
   ·rename_i hc
    simp only [Bool.and_eq_true,beq_iff_eq] at hc
    obtain ⟨hl,rfl⟩:=hc
    simp only [AV.holds,CV.holds] at hv ⊢
    obtain ⟨rfl,_⟩:=hv
    have hsT:=Vec.sl_T hl
    replace hl:=Vec.sl_live hl
    obtain ⟨xs,a1',a2,a3⟩:=h.vec i x hx hl
    have a1:=a1'.s hsT
    obtain ⟨ao,c,hs,hle,hcm⟩:=a1.slice
    have hvals:=CV.vals.mono (S':=S) (w':=w) ⟨fun b hb=>hS b hb,fun _ _=>rfl⟩ _ _ a2
    refine ⟨ao,c,hs,hle,hcm,?_⟩
    rcases a1 with ⟨_,_,h0,_⟩ | ⟨a1,g,hg,hg'⟩
    ·exact .inl (List.eq_nil_of_length_eq_zero h0)
    ·right
     rcases a1.2 with ⟨h0,_⟩ | ⟨g',cap,cur,h0,_⟩
     ·rw [h0] at hg;simp [aX] at hg
     ·have hgg:g'=g:=by rw [h0] at hg';simpa [Value.ownBlock] using hg'
      subst hgg
      rw [h0] at hs
      injection hs with hs1 hs2 hs3
      exact ⟨g',0,hs1.symm,hSv i x g' hx hl hg,CV.rows.of_vals a3 hvals fun j u hj=>by simpa [addr_add] using a1.cells hg' j u hj⟩
   ·simp [AV.holds]
  ·simp [AV.holds]
 | .opt _ _ _ _,_,_=>by simp [AV.lend,AV.holds]
 | .gd _ _,_,_=>by simp [AV.lend,AV.holds]
 | .agg cs,v,hv=>by
  simp only [AV.lend,AV.holds] at hv ⊢
  obtain ⟨us,h1,h2⟩:=hv
  exact ⟨us,h1,AV.lends_holds' h hS hSb hSv cs _ h2⟩
 | .tup cs,v,hv=>by
  simp only [AV.lend,AV.holds] at hv ⊢
  obtain ⟨us,h1,h2⟩:=hv
  exact ⟨us,h1,AV.lends_holds' h hS hSb hSv cs _ h2⟩
 | .fn f cs,v,hv=>by
  simp only [AV.lend]
  split
  ·simp [AV.holds]
  ·rename_i hm
   simp only [AV.holds] at hv ⊢
   obtain ⟨us,h1,h2⟩:=hv
   exact ⟨us,by rw [QJ hm];rw [eq_false_of_ne_true hm] at h1;exact h1,AV.lends_holds' h hS hSb hSv cs _ h2⟩
theorem AV.lends_holds' (h:Mem n0 w0 e B V w) {S:Nat→Prop} (hS:∀ b,e.S b→S b) (hSb:∀ (i:Nat) (b:Box),B[i]? = some b→b.live=true→S (e.ρ i)) (hSv:∀ (i:Nat) (x:Vec) (g:Nat),V[i]? = some x→x.live=true→aX (e.hdr i x.ver)=some g→S g):∀ (xs:List AV) (us:List Value),AV.all e w (kss V) xs us→AV.all { e with S:=S } w [] (AV.lends B V xs) us
 | [],[],_=>by simp [AV.lends,AV.all]
 | x::xs,u::us,hv=>by
  simp only [AV.lends,AV.all] at hv ⊢
  exact ⟨AV.lend_holds' h hS hSb hSv x u hv.1,AV.lends_holds' h hS hSb hSv xs us hv.2⟩
 | [],_::_,hv=>by simp [AV.all] at hv
 | _::_,[],hv=>by simp [AV.all] at hv
end
theorem AV.lends_holds (h:Mem n0 w0 e B V w) {S:Nat→Prop} (hS:∀ b,b<w.heap.size→S b) (xs:List AV) (us:List Value) (hv:AV.all e w (kss V) xs us):AV.all { e with S:=S } w [] (AV.lends B V xs) us:=
 AV.lends_holds' h (fun b hb=>hS b (h.ro b hb)) (fun i b hb hl=>hS _ (h.lt_box hb hl)) (fun i x g hx hl hg=>hS _ (by obtain ⟨xs,a1,_⟩:=h.vec i x hx hl;exact (a1.lt g hg).2)) xs us hv
end
mutual
theorem AV.lend_scoped (B:List Box) (V:List Vec):∀ (x:AV),AV.sco 0 [] (AV.lend B V x)
 | .any=>by have _:=G;simp [AV.lend,AV.sco]
 | .cv c=>by simp [AV.lend,AV.sco]
 | .ptr i 0=>by simp only [AV.lend];(repeat' split) <;> simp [AV.sco]
 | .ptr i (o+1)=>by simp [AV.lend,AV.sco]
 | .own i u=>by simp only [AV.lend];(repeat' split) <;> simp [AV.sco]
 | .opt _ _ _ _=>by simp [AV.lend,AV.sco]
 | .gd _ _=>by simp [AV.lend,AV.sco]
 | .agg cs=>by simp only [AV.lend,AV.sco];exact AV.lends_scoped B V cs
 | .tup cs=>by simp only [AV.lend,AV.sco];exact AV.lends_scoped B V cs
 | .fn f cs=>by
  simp only [AV.lend]
  split
  ·simp [AV.sco]
  ·simp only [AV.sco];exact AV.lends_scoped B V cs
theorem AV.lends_scoped (B:List Box) (V:List Vec):∀ (xs:List AV),AV.scos 0 [] (AV.lends B V xs)
 | []=>by have _:=G;simp [AV.lends,AV.scos]
 | x::xs=>by simp only [AV.lends,AV.scos];exact ⟨AV.lend_scoped B V x,AV.lends_scoped B V xs⟩
end
theorem CallP.lend {f:FuncId} {args args':List AV} {B:List Box} {V:List Vec} {K:AV→List Box→List Vec→Prop} (ha:AV.lends B V args=args') (h:CallP P f args' [] [] K)
  (hK:∀ r B V,K r B V→B=[]∧AV.flat r=true∧V.all Vec.flat=true) :
  CallP P f args B V fun r B' V'=>∃ r0 V0,K r0 [] V0∧r=AV.shift V.length r0∧B'=B∧V'=V++V0:=by
 intro F n hF hro n0 w0 e w vs hm hv hs
 subst ha
 refine CallsIn.mono (h F n hF hro w.heap.size w { e with S:=fun b=>b<w.heap.size,base:=w.heap.size,H:=fun _=>none,y:=false } w vs (Mem.nothing { e with S:=fun b=>b<w.heap.size } w fun b hb=>hb) (AV.rebases _ _ _ (AV.lends_holds hm (fun b hb=>hb) _ _ hv)) (AV.lends_scoped B V args)) ?_
 rintro en w' ⟨e1,B1,V0,r0,v,rfl,hk,h1,hx1,hr,hsc⟩
 obtain ⟨rfl,hfr,hfv⟩:=hK _ _ _ hk
 have hflat:∀ (i:Nat) (x:Vec),V0[i]? = some x→x.es.flatten.all CV.flat=true:=by
  intro i x hi
  have h2:=List.all_eq_true.1 hfv x (List.mem_of_getElem? hi)
  simp only [Vec.flat] at h2
  rw [List.all_eq_true]
  intro c hc
  obtain ⟨l,hl,hcl⟩:=List.mem_flatten.1 hc
  exact List.all_eq_true.1 (List.all_eq_true.1 h2 l hl) c hcl
 obtain ⟨e',hρ,hS,hh1,hh2,hm',hx⟩:=hm.beside h1 hx1.ye e.S (fun b hb=>hb) (fun b hb=>.inl hb) (fun i x hi _ xs hxs=>CV.flat_vals (hflat i x hi) hxs)
 refine ⟨e',B,V++V0,AV.shift V.length r0,v,rfl,⟨r0,V0,hk,rfl,rfl,rfl⟩,hm',hx,?_,?_⟩
 ·refine AV.shift_flat (vs1:=vers V0) (fun i u _=>hh2 i u) (fun i hi=>?_) r0 v hfr hsc hr
  simp only [vers,List.length_map] at hi
  simp [kss,List.getD,List.getElem?_append,Nat.not_lt.2 (Nat.le_add_right _ _)]
 ·refine AV.shift_scoped (by simp) (fun i hi=>?_) r0 hsc
  simp only [vers,List.length_map] at hi
  simp [vers,List.getD,List.getElem?_append,Nat.not_lt.2 (Nat.le_add_right _ _)]
end
end Go.Sx
namespace Go.Sx
open Go Go.RowKit
variable [G:Ghost]
attribute [simp] bC St.ev St.put rJ Value.oneCell' mJ BW rL wT bZ eP splice AV.cells AV.one EZ cP dA dJ cW jO fS kN BX GA kR eQ cV aS iK sK bA oZ lG lH eL tH lJ sM TR iX AV.lend AV.lends AV.shift AV.shifts AV.flat AV.flats CV.flat Vec.flat aV TK.agg AV.sco AV.scos
end Go.Sx
namespace Go.Sx
open Go Go.RowKit
variable [G:Ghost]
section
variable {e e1:Env} {w:World} {k nB:Nat} {ks ks1 vs1:List Nat}
end
section
variable {P:Program}
end
section
variable {F:Fence} {n:Nat} {P:Program}
end
end Go.Sx
namespace Go.Sx
open Go Go.RowKit
variable [G:Ghost]
mutual
def AV.closed:AV→Bool
 | .any=>true
 | .cv _=>true
 | .agg cs=>AV.closeds cs
 | .tup cs=>AV.closeds cs
 | .fn _ cs=>AV.closeds cs
 | _=>false
def AV.closeds:List AV→Bool
 | []=>true
 | x::xs=>AV.closed x&&AV.closeds xs
end
mutual
theorem AV.shift_closed (k:Nat):∀ (x:AV),AV.closed x=true→AV.shift k x=x
 | .any,_=>by have _:=G;simp [AV.shift]
 | .cv c,_=>by simp [AV.shift]
 | .agg cs,h=>by simp only [AV.closed] at h;simp [AV.shift,AV.shifts_closed k cs h]
 | .tup cs,h=>by simp only [AV.closed] at h;simp [AV.shift,AV.shifts_closed k cs h]
 | .fn f cs,h=>by simp only [AV.closed] at h;simp [AV.shift,AV.shifts_closed k cs h]
 | .ptr _ _,h=>by simp [AV.closed] at h
 | .own _ _,h=>by simp [AV.closed] at h
 | .opt _ _ _ _,h=>by simp [AV.closed] at h
 | .gd _ _,h=>by simp [AV.closed] at h
theorem AV.shifts_closed (k:Nat):∀ (xs:List AV),AV.closeds xs=true→AV.shifts k xs=xs
 | [],_=>by have _:=G;simp [AV.shifts]
 | x::xs,h=>by simp only [AV.closeds,Bool.and_eq_true] at h;simp [AV.shifts,AV.shift_closed k x h.1,AV.shifts_closed k xs h.2]
end
mutual
theorem AV.lend_closed (B:List Box) (V:List Vec):∀ (x:AV),AV.closed (AV.lend B V x)=true
 | .any=>by have _:=G;simp [AV.lend,AV.closed]
 | .cv c=>by simp [AV.lend,AV.closed]
 | .ptr i 0=>by simp only [AV.lend];(repeat' split) <;> simp [AV.closed]
 | .ptr i (o+1)=>by simp [AV.lend,AV.closed]
 | .own i u=>by simp only [AV.lend];(repeat' split) <;> simp [AV.closed]
 | .opt _ _ _ _=>by simp [AV.lend,AV.closed]
 | .gd _ _=>by simp [AV.lend,AV.closed]
 | .agg cs=>by simp only [AV.lend,AV.closed];exact AV.lends_closed B V cs
 | .tup cs=>by simp only [AV.lend,AV.closed];exact AV.lends_closed B V cs
 | .fn f cs=>by
  simp only [AV.lend]
  split
  ·simp [AV.closed]
  ·simp only [AV.closed];exact AV.lends_closed B V cs
theorem AV.lends_closed (B:List Box) (V:List Vec):∀ (xs:List AV),AV.closeds (AV.lends B V xs)=true
 | []=>by have _:=G;simp [AV.lends,AV.closeds]
 | x::xs=>by simp only [AV.lends,AV.closeds,AV.lend_closed B V x,AV.lends_closed B V xs,Bool.and_self]
end
mutual
theorem AV.sco_closed (nB:Nat) (vs:List Nat):∀ (x:AV),AV.closed x=true→AV.sco nB vs x
 | .any,_=>by have _:=G;simp [AV.sco]
 | .cv c,_=>by simp [AV.sco]
 | .agg cs,h=>by simp only [AV.closed] at h;simp only [AV.sco];exact AV.scos_closed nB vs cs h
 | .tup cs,h=>by simp only [AV.closed] at h;simp only [AV.sco];exact AV.scos_closed nB vs cs h
 | .fn f cs,h=>by simp only [AV.closed] at h;simp only [AV.sco];exact AV.scos_closed nB vs cs h
 | .ptr _ _,h=>by simp [AV.closed] at h
 | .own _ _,h=>by simp [AV.closed] at h
 | .opt _ _ _ _,h=>by simp [AV.closed] at h
 | .gd _ _,h=>by simp [AV.closed] at h
theorem AV.scos_closed (nB:Nat) (vs:List Nat):∀ (xs:List AV),AV.closeds xs=true→AV.scos nB vs xs
 | [],_=>by have _:=G;simp [AV.scos]
 | x::xs,h=>by simp only [AV.closeds,Bool.and_eq_true] at h;simp only [AV.scos];exact ⟨AV.sco_closed nB vs x h.1,AV.scos_closed nB vs xs h.2⟩
end
mutual
theorem AV.closed_holds {e e':Env} {w:World} {ks ks':List Nat} (hS:∀ b,e.S b→e'.S b):∀ (x:AV) (v:Value),AV.closed x=true→AV.holds e w ks x v→AV.holds e' w ks' x v
 | .any,_,_,_=>by have _:=G;simp [AV.holds]
 | .cv c,v,_,h=>by simp only [AV.holds] at h ⊢;exact CV.holds.mono ⟨hS,fun _ _=>rfl⟩ c v h
 | .agg cs,v,hc,h=>by
  simp only [AV.closed,AV.holds] at hc h ⊢
  obtain ⟨us,h1,h2⟩:=h
  exact ⟨us,h1,AV.closeds_holds hS cs _ hc h2⟩
 | .tup cs,v,hc,h=>by
  simp only [AV.closed,AV.holds] at hc h ⊢
  obtain ⟨us,h1,h2⟩:=h
  exact ⟨us,h1,AV.closeds_holds hS cs _ hc h2⟩
 | .fn f cs,v,hc,h=>by
  simp only [AV.closed,AV.holds] at hc h ⊢
  obtain ⟨us,h1,h2⟩:=h
  exact ⟨us,h1,AV.closeds_holds hS cs _ hc h2⟩
 | .ptr _ _,_,h,_=>by simp [AV.closed] at h
 | .own _ _,_,h,_=>by simp [AV.closed] at h
 | .opt _ _ _ _,_,h,_=>by simp [AV.closed] at h
 | .gd _ _,_,h,_=>by simp [AV.closed] at h
theorem AV.closeds_holds {e e':Env} {w:World} {ks ks':List Nat} (hS:∀ b,e.S b→e'.S b):∀ (xs:List AV) (us:List Value),AV.closeds xs=true→AV.all e w ks xs us→AV.all e' w ks' xs us
 | [],[],_,_=>by have _:=G;simp [AV.all]
 | x::xs,u::us,hc,h=>by
  simp only [AV.closeds,Bool.and_eq_true] at hc
  simp only [AV.all] at h ⊢
  exact ⟨AV.closed_holds hS x u hc.1 h.1,AV.closeds_holds hS xs us hc.2 h.2⟩
 | [],_::_,_,h=>by simp [AV.all] at h
 | _::_,[],_,h=>by simp [AV.all] at h
end
mutual
def AV.bnm:AV→List Nat
 | .ptr i _=>[i]
 | .agg xs=>AV.bnms xs
 | .tup xs=>AV.bnms xs
 | .fn _ xs=>AV.bnms xs
 | .gd _ x=>AV.bnm x
 | _=>[]
def AV.bnms:List AV→List Nat
 | []=>[]
 | x::xs=>AV.bnm x++AV.bnms xs
end
mutual
def AV.vnm:AV→List Nat
 | .own i _=>[i]
 | .opt i _ _ _=>[i]
 | .agg xs=>AV.vnms xs
 | .tup xs=>AV.vnms xs
 | .fn _ xs=>AV.vnms xs
 | .gd _ x=>AV.vnm x
 | _=>[]
def AV.vnms:List AV→List Nat
 | []=>[]
 | x::xs=>AV.vnm x++AV.vnms xs
end
mutual
theorem AV.lend_agr {B B':List Box} {V V':List Vec}:∀ (x:AV),(∀ i∈AV.bnm x,B'[i]? = B[i]?)→(∀ i∈AV.vnm x,V'[i]? = V[i]?)→AV.lend B' V' x=AV.lend B V x
 | .any,_,_=>by have _:=G;simp [AV.lend]
 | .cv _,_,_=>by simp [AV.lend]
 | .ptr i 0,h,_=>by simp only [AV.lend,h i (by simp [AV.bnm])]
 | .ptr i (o+1),_,_=>by simp [AV.lend]
 | .own i u,_,h=>by simp only [AV.lend,h i (by simp [AV.vnm])]
 | .opt _ _ _ _,_,_=>by simp [AV.lend]
 | .gd _ _,_,_=>by simp [AV.lend]
 | .agg cs,h1,h2=>by simp only [AV.lend,AV.lends_agr cs (by simpa only [AV.bnm] using h1) (by simpa only [AV.vnm] using h2)]
 | .tup cs,h1,h2=>by simp only [AV.lend,AV.lends_agr cs (by simpa only [AV.bnm] using h1) (by simpa only [AV.vnm] using h2)]
 | .fn f cs,h1,h2=>by simp only [AV.lend,AV.lends_agr cs (by simpa only [AV.bnm] using h1) (by simpa only [AV.vnm] using h2)]
theorem AV.lends_agr {B B':List Box} {V V':List Vec}:∀ (xs:List AV),(∀ i∈AV.bnms xs,B'[i]? = B[i]?)→(∀ i∈AV.vnms xs,V'[i]? = V[i]?)→AV.lends B' V' xs=AV.lends B V xs
 | [],_,_=>have _:=G;rfl
 | x::xs,h1,h2=>by
  simp only [AV.bnms,AV.vnms,List.mem_append] at h1 h2
  simp only [AV.lends,AV.lend_agr x (fun i hi=>h1 i (.inl hi)) (fun i hi=>h2 i (.inl hi)),AV.lends_agr xs (fun i hi=>h1 i (.inr hi)) (fun i hi=>h2 i (.inr hi))]
end
def SpecR (P:Program) (f:FuncId) (args:List AV) (r:AV):Prop:=CallP P f args [] [] fun r' B V=>r'=r∧B=[]∧V=[]
section
variable {P:Program}
def IY (P:Program) (f:FuncId) (args:List AV) (K:AV→List Box→List Vec→Prop):Prop:=
 ∀ (F:Fence) (n:Nat),Free F→F.round=none→∀ n0 w0 e w (vs:Array Value),e.y=false∧e.H=(fun _=>none)→Mem n0 w0 e [] [] w→AV.all e w (kss []) args vs.toList→AV.scos 0 [] args →
  CallsIn F n P f vs w fun en w'=>∃ e' B' V' r v,en=.returned v∧K r B' V'∧Mem n0 w0 e' B' V' w'∧Ext e w 0 [] [] e' w' B'.length (vers V') (kss V') ∧
   AV.holds e' w' (kss V') r v∧AV.sco B'.length (vers V') r
theorem CallP.freeze {f:FuncId} {args:List AV} {K:AV→List Box→List Vec→Prop} (h:IY P f args K) (hargs:AV.scos 0 [] args) :
  CallP P f args [] [] fun r B V=>B=[]∧V=[]∧∃ r0 B0 V0,K r0 B0 V0∧r=AV.lend B0 V0 r0:=by
 intro F n hF hro n0 w0 e w vs hm hv hs
 refine CallsIn.mono (h F n hF hro w.heap.size w { e with base:=w.heap.size,H:=fun _=>none,y:=false } w vs ⟨rfl,rfl⟩ (Mem.nothing e w hm.ro) (AV.rebases _ _ _ hv) hargs) ?_
 rintro en w' ⟨e1,B1,V0,r0,v,rfl,hk,h1,hx1,hr,hsc⟩
 let S':Nat→Prop:=fun b=>e.S b∨(w.heap.size≤b∧b<w'.heap.size)
 have hS:∀ b,e1.S b→S' b:=fun b hb=>(hx1.snew b hb).elim .inl fun hl=>.inr ⟨hl,h1.ro b hb⟩
 have hr':=AV.lend_holds' h1 (S:=S') hS (fun i b hb hl=>.inr ⟨(h1.boxlo i b hb hl).1,h1.lt_box hb hl⟩) (fun i x g hx hl hg=>.inr (by obtain ⟨xs,a1,_⟩:=h1.vec i x hx hl;exact a1.lt g hg)) r0 v hr
 have h2:Mem w.heap.size w { e1 with S:=S' } [] [] w':=by
  refine ⟨by simp,by simp,by simp,by simp,by simp,by simp,by simp,by simp,?_,h1.below,h1.base,h1.bl,h1.hid.of rfl ⟨rfl,rfl⟩ (fun b _=>.inr (by rw [hx1.he rfl])) (fun i x h=>by simp at h) (fun _ _ _=>rfl) (by simp) (by simp)⟩
  rintro b (hb | hb)
  ·exact h1.ro b (hx1.ro.sub b hb)
  ·exact hb.2
 obtain ⟨e',hρ,hS',hh1,hh2,hm',hx⟩:=hm.beside h2 hx1.ye S' (fun b hb=>.inl hb) (fun b hb=>hb.elim .inl fun hl=>.inr ⟨hl.1,hl.2,.inr hl⟩) (fun _ _ _ _ _ h=>h)
 refine ⟨e',[],[],AV.lend B1 V0 r0,v,rfl,⟨rfl,rfl,r0,B1,V0,hk,rfl⟩,hm',hx,?_,AV.lend_scoped B1 V0 r0⟩
 exact AV.closed_holds (e:={ e1 with S:=S' }) (fun b hb=>by rw [hS'];exact hb) _ v (AV.lend_closed B1 V0 r0) hr'
theorem SpecR.frame {f:FuncId} {args:List AV} {r:AV} (h:SpecR P f args r) (hargs:AV.closeds args=true) (hr:AV.closed r=true) (B:List Box) (V:List Vec) :
  CallP P f args B V fun r' B' V'=>r'=r∧B'=B∧V'=V:=
 CallP.mono (CallP.frame h (fun _ _ _ h=>h.2.1) (AV.scos_closed _ _ _ hargs) B V) fun r' B' V' ⟨r0,V0,⟨h1,_,h2⟩,h3,h4,h5⟩=>by
  subst h1;subst h2;subst h3
  exact ⟨AV.shift_closed _ _ hr,h4,by simpa using h5⟩
theorem SpecR.lent {f:FuncId} {args args':List AV} {r:AV} (h:SpecR P f args' r) {B:List Box} {V:List Vec} (ha:AV.lends B V args=args') (hr:AV.closed r=true) (hfl:AV.flat r=true) :
  CallP P f args B V fun r' B' V'=>r'=r∧B'=B∧V'=V:=
 CallP.mono (CallP.lend ha h fun r' B V ⟨h1,h2,h3⟩=>⟨h2,by rw [h1];exact hfl,by rw [h3];rfl⟩) fun r' B' V' ⟨r0,V0,⟨h1,_,h2⟩,h3,h4,h5⟩=>by
  subst h1;subst h2;subst h3
  exact ⟨AV.shift_closed _ _ hr,h4,by simpa using h5⟩
end
end Go.Sx
namespace Go.Sx
open Go Go.RowKit
variable [G:Ghost]
def gA:Op→Nat
 | .move _=>0
 | .assign _=>0
 | .pick _ _ _=>0
 | .build _ _=>0
 | .binOp _ _ _ _ _=>0
 | .unOp _ _ _=>0
 | .fieldAddr _ _ _=>0
 | .index _ _ _=>0
 | .extract _ _=>0
 | .convert _ _ _=>0
 | .nilCheck _=>0
 | .field _ _ _=>0
 | .call { callee:=.builtin .max,.. }=>0
 | .call { callee:=.builtin .min,.. }=>0
 | .load _ _=>1
 | .indexAddr _ _ _=>1
 | .slice _ _ _ _ none=>1
 | .slice _ _ _ (some (.tmp _)) (some (.tmp _))=>1
 | .buildSlice _ _ _=>1
 | .call { callee:=.builtin .len,.. }=>1
 | .call { callee:=.value _,.. }=>1
 | .store _ _ _=>2
 | .alloc _=>3
 | _=>4
def wl (lo:List Oper) (i:Nat):List Bool:=lo.foldl (fun acc o=>acc++[o.after.any fun e=>Region.binds .any e&&(e.on == i || acc.getD e.on false)]) []
theorem IZ (lo:List Oper) (o:Oper) (i:Nat):wl (lo++[o]) i=wl lo i++[o.after.any fun e=>Region.binds .any e&&(e.on == i || (wl lo i).getD e.on false)]:=by
 have _:=G
 simp [wl,List.foldl_append]
theorem GB (i:Nat) (lo:List Oper):(wl lo i).length=lo.length:=by
 rw [← List.reverse_reverse lo]
 induction lo.reverse with
 | nil=>rfl
 | cons o l ih=>rw [List.reverse_cons,IZ];simp [ih]
theorem TT (i:Nat) (lo:List Oper):∀ (j:Nat),(wl lo i).getD j false=true→∃ oj,lo[j]? = some oj∧∃ e∈oj.after,Region.binds .any e=true∧(e.on=i∨(e.on<j∧(wl lo i).getD e.on false=true)):=by
 rw [← List.reverse_reverse lo]
 induction lo.reverse with
 | nil=>intro j h;simp [wl] at h
 | cons o l ih =>
  intro j h
  rw [List.reverse_cons] at h ⊢
  have hl:=GB i l.reverse
  have hpre:∀ k,k<l.reverse.length→(wl (l.reverse++[o]) i).getD k false=(wl l.reverse i).getD k false:=by
   intro k hk
   rw [IZ]
   simp only [List.getD]
   rw [List.getElem?_append_left (by rw [hl];exact hk)]
  rcases Nat.lt_trichotomy j l.reverse.length with hj | hj | hj
  ·rw [hpre j hj] at h
   obtain ⟨oj,h1,e,h2,h3,h4⟩:=ih j h
   refine ⟨oj,by rw [List.getElem?_append_left hj];exact h1,e,h2,h3,?_⟩
   rcases h4 with h4 | ⟨h4,h5⟩
   ·exact .inl h4
   ·exact .inr ⟨h4,by rw [hpre _ (by omega)];exact h5⟩
  ·subst hj
   rw [IZ] at h
   simp only [List.getD] at h
   rw [List.getElem?_append_right (by rw [hl];exact Nat.le_refl _),hl,Nat.sub_self] at h
   simp only [List.getElem?_cons_zero,Option.getD_some,Array.any_eq_true] at h
   obtain ⟨q,hq,h⟩:=h
   simp only [Bool.and_eq_true,Bool.or_eq_true,beq_iff_eq] at h
   refine ⟨o,by simp,_,Array.getElem_mem hq,h.1,?_⟩
   rcases h.2 with h2 | h2
   ·exact .inl h2
   ·have hlt:o.after[q].on<l.reverse.length:=by
     rw [← hl]
     by_cases hlt:o.after[q].on<(wl l.reverse i).length
     ·exact hlt
     ·rw [List.getElem?_eq_none (Nat.not_lt.1 hlt)] at h2;cases h2
    exact .inr ⟨hlt,by rw [hpre _ hlt];exact h2⟩
  ·have:(wl (l.reverse++[o]) i).length=l.reverse.length+1:=by rw [GB];simp
   simp only [List.getD] at h
   rw [List.getElem?_eq_none (by omega)] at h
   cases h
theorem uU {l:Array Bool} {k:Nat} (h:l.getD k false=true):l.getD k true=true:=by
 have _:=G
 rcases Nat.lt_or_ge k l.size with h' | h'
 ·simp [h'] at h ⊢;exact h
 ·simp [Array.getElem?_eq_none h'] at h
def Down (lo:List Oper) (listed:Array Bool):Prop:=
 ∀ j oj,lo[j]? = some oj→listed.getD j true=true→∀ e∈oj.after,Region.binds .any e=true→listed.getD e.on true=true
theorem Down.wl {lo:List Oper} {listed:Array Bool} (h:Down lo listed) {i:Nat} (hi:listed.getD i true=false):∀ (j:Nat),listed.getD j true=true→(wl lo i).getD j false=false:=by
 intro j
 induction j using Nat.strongRecOn with
 | _ j ih =>
  intro hj
  cases hw:(Go.Sx.wl lo i).getD j false with
  | false=>rfl
  | true =>
   obtain ⟨oj,h1,e,h2,h3,h4⟩:=TT i lo j hw
   have h5:=h j oj h1 hj e h2 h3
   rcases h4 with h4 | ⟨h4,h6⟩
   ·rw [h4,hi] at h5;cases h5
   ·rw [ih _ h4 h5] at h6;cases h6
theorem Down.ready {lo:List Oper} {listed:Array Bool} (h:Down lo listed) {i j:Nat} (hi:listed.getD i true=false) {oj:Oper} (hj:lo[j]? = some oj) (hall:∀ e∈oj.after,Region.binds .any e=true→listed.getD e.on true=true) :
  (Go.Sx.wl lo i).getD j false=false:=by
 cases hw:(Go.Sx.wl lo i).getD j false with
 | false=>rfl
 | true =>
  obtain ⟨oj',h1,e,h2,h3,h4⟩:=TT i lo j hw
  rw [hj] at h1;cases h1
  have h5:=hall e h2 h3
  rcases h4 with h4 | ⟨h4,h6⟩
  ·rw [h4,hi] at h5;cases h5
  ·rw [h.wl hi _ h5] at h6;cases h6
theorem Down.set {lo:List Oper} {listed:Array Bool} (h:Down lo listed) {j:Nat} {oj:Oper} (hj:lo[j]? = some oj) (hall:∀ e∈oj.after,Region.binds .any e=true→listed.getD e.on true=true):Down lo (listed.setIfInBounds j true):=by
 have _:=G
 intro k ok hk hl e he hb
 have key:∀ x,listed.getD x true=true→(listed.setIfInBounds j true).getD x true=true:=by
  intro x hx
  by_cases hjx:j=x
  ·subst hjx
   simp only [Array.getD_eq_getD_getElem?,Array.getElem?_setIfInBounds]
   split
   ·split <;> rfl
   ·rename_i hne;exact absurd trivial hne
  ·rw [getD_set_ne true hjx];exact hx
 by_cases hjk:j=k
 ·subst hjk
  rw [hj] at hk;cases hk
  exact key _ (hall e he hb)
 ·rw [getD_set_ne true hjk] at hl
  exact key _ (h k ok hk hl e he hb)
section
variable (F:Fence) (n:Nat) (P:Program) (lo:List Oper) (b0:Nat)
def aEl (o:Oper) (s:St) (A:AV) (B':List Box):Prop:=
 ∀ n0 w0 e a w (Q:Exit→Act→World→Prop) (K:Act→World→Prop),Rel n0 w0 e s a w →
  (∀ e' v w',Mem n0 w0 e' B' s.V w'→ExtS e s w e' B' s.V w'→AV.holds e' w' (kss s.V) A v→AV.sco B'.length (vers s.V) A→K (a.put o.dst v) w') →
  if Region.wanted o (yielded lo.toArray a.tmps)=true then o.wpIn F n P a w K Q else (∀ f,o.about P w a.eval=some f→F.fn f)∧K (a.put o.dst undef) w
def nB (be:Option (List Box)) (B:List Box):List Box:=be.getD B
variable {F n P lo b0}
def stp (o:Oper) (s:St) (A:AV) (be:Option (List Box)):St:=s.put o.dst A (nB be s.B) s.V
theorem put_get {s:St} {dst:Option Nat} {A:AV} {B:List Box} {V:List Vec} {d:Nat} (h:∀ x,dst=some x→x≠d):(s.put dst A B V).t[d]? = s.t[d]?:=by
 have _:=G
 cases dst with
 | none=>rfl
 | some x=>simp only [St.put];rw [List.getElem?_set_ne (h x rfl)]
end
end Go.Sx
namespace Go.Sx
open Go Go.RowKit
variable [G:Ghost]
section
variable {F:Fence} {n:Nat} {P:Program} {lo:List Oper} {b0:Nat}
def aCq (F:Fence) (n:Nat) (P:Program) (o:Oper) (s:St) (A:AV) (B':List Box):Prop:=
 ∀ n0 w0 e a w (Q:Exit→Act→World→Prop) (K:Act→World→Prop),Rel n0 w0 e s a w →
  (∀ e' v w',Mem n0 w0 e' B' s.V w'→ExtS e s w e' B' s.V w'→AV.holds e' w' (kss s.V) A v→AV.sco B'.length (vers s.V) A→K (a.put o.dst v) w')→o.wpIn F n P a w K Q
theorem JA (hF:Free F) {o:Oper} {s:St} {A:AV} {B':List Box} (h:bC P s o.op=some (A,B',s.V)):aCq F n P o s A B':=by
 intro n0 w0 e a w Q K hr hk
 obtain ⟨nx,v,w',e',h1,h2,h3,h4,h5,h6⟩:=oJ h n0 w0 e a w hr
 refine ⟨fun f _=>hF.fn f,?_⟩
 rw [Oper.semAt_plain F _ _ (by intro c hc;rw [hc] at h;simp [bC] at h),h1]
 have hgo:=hk e' v w' h3 h4 h5 h6
 rcases h2 with rfl | ⟨rfl,rfl⟩
 ·exact hgo
 ·exact hgo
theorem wW (hF:Free F) {o:Oper} {s:St} {A:AV} {x:Operand} {args:Array Operand} {ts:Array TypeId} {f:FuncId} {caps:List AV}
  (hop:o.op=.call { callee:=.value x,args,argTypes:=ts }) (hx:aV (s.ev x)=some (f,caps))
  (hen:∀ (as:Array Value) (w:World),(callFunc f as).run P w=.ok (.enter f as) w)
  (h:CallP P f (args.toList.map s.ev++caps) s.B s.V fun r B' V'=>r=A∧B'=s.B∧V'=s.V):aCq F n P o s A s.B:=by
 intro n0 w0 e a w Q K hr hk
 have hxv:=hr.ev x
 obtain ⟨cvs,hf,hcv,hcs⟩:∃ cvs:Array Value,a.eval x=.func (.func f) #[] cvs∧AV.all e w (kss s.V) caps cvs.toList∧AV.scos s.B.length (vers s.V) caps:=by
  unfold aV at hx
  split at hx
  ·rename_i g cs hg
   simp only [Option.some.injEq,Prod.mk.injEq] at hx
   obtain ⟨rfl,rfl⟩:=hx
   rw [hg] at hxv
   simp only [AV.holds,CV.holds] at hxv
   obtain ⟨⟨vs,h1,h2⟩,_⟩:=hxv
   exact ⟨vs,h1,AV.all.of_vals h2,AV.scos_cv _ _ _⟩
  ·rename_i g cs hg
   split at hx
   ·cases hx
   ·rename_i hmk
    simp only [Option.some.injEq,Prod.mk.injEq] at hx
    obtain ⟨rfl,rfl⟩:=hx
    rw [hg] at hxv
    simp only [AV.holds,AV.sco] at hxv
    obtain ⟨⟨vs,h1,h2⟩,h3⟩:=hxv
    rw [eq_false_of_ne_true hmk] at h1
    exact ⟨vs,h1,h2,h3⟩
  ·cases hx
 have hes:=hr.evs args.toList
 refine ⟨fun f _=>hF.fn f,?_⟩
 rw [Oper.semAt_plain F _ _ (by intro c hc;rw [hc] at hop;cases hop)]
 have hrun:(execOp a.eval o).run P w=.ok (.enter f (args.map a.eval++cvs)) w:=by
  simp [execOp,hop,resolve,hf,Deferred.ofValue,invoke,hen]
 rw [hrun]
 refine ⟨fun hd=>by rw [hF.depth] at hd;simp at hd,?_⟩
 refine CallsIn.anyRound (CallsIn.mono (h F.plain (n - 1) hF.plain rfl n0 w0 e w (args.map a.eval++cvs) hr.mem (by simpa using hes.1.append hcv) (by
  rw [AV.scos_iff] at hcs ⊢
  have h2:=AV.scos_iff.1 hes.2
  intro y hy
  rcases List.mem_append.1 hy with hy | hy
  ·exact h2 y hy
  ·exact hcs y hy)) ?_)
 rintro en w' ⟨e',B',V',r,v,rfl,⟨rfl,rfl,rfl⟩,hm,hxt,hrv,hsc⟩
 exact hk e' v w' hm hxt hrv hsc
theorem gR {o:Oper} {s s':St} (h:∀ d∈o.looksAt lo.toArray,s'.t[d]? = s.t[d]?):∀ x∈o.op.operands,s'.ev x=s.ev x:=by
 have _:=G
 intro x hx
 cases x with
 | tmp d =>
  have:d∈o.looksAt lo.toArray:=List.mem_append_left _ (List.mem_filterMap.2 ⟨.tmp d,by simpa using hx,rfl⟩)
  simp [St.ev,List.getD,h d this]
 | const v=>rfl
 | global g=>rfl
 | func f=>rfl
def JB:Op→Bool
 | .buildSlice _ _ _=>true
 | _=>false
def tI (P:Program) (st:St):Op→Option AV
 | .buildSlice T len parts =>
  if AV.closeds (parts.toList.map fun p=>st.ev p.2) then
   match bA P ⟨[],[],[]⟩ T len (parts.toList.map fun p=>(p.1,st.ev p.2)) with
   | some (A,B,V)=>some (AV.lend B V A)
   | none=>none
  else none
 | _=>none
theorem Mem.froze {n0:Nat} {w0:World} {e:Env} {B:List Box} {V:List Vec} {w w':World} (hm:Mem n0 w0 e B V w) {e1:Env} {B1:List Box} {V0:List Vec} (h1:Mem w.heap.size w e1 B1 V0 w')
  (hx1:Ext { e with base:=w.heap.size,H:=fun _=>none,y:=false } w 0 [] [] e1 w' B1.length (vers V0) (kss V0)) {r0:AV} {v:Value} (hr:AV.holds e1 w' (kss V0) r0 v) :
  ∃ e',Mem n0 w0 e' B V w'∧Ext e w B.length (vers V) (kss V) e' w' B.length (vers V) (kss V)∧AV.holds e' w' (kss V) (AV.lend B1 V0 r0) v:=by
 let S':Nat→Prop:=fun b=>e.S b∨(w.heap.size≤b∧b<w'.heap.size)
 have hS:∀ b,e1.S b→S' b:=fun b hb=>(hx1.snew b hb).elim .inl fun hl=>.inr ⟨hl,h1.ro b hb⟩
 have hr':=AV.lend_holds' h1 (S:=S') hS (fun i b hb hl=>.inr ⟨(h1.boxlo i b hb hl).1,h1.lt_box hb hl⟩) (fun i x g hx hl hg=>.inr (by obtain ⟨xs,a1,_⟩:=h1.vec i x hx hl;exact a1.lt g hg)) r0 v hr
 have h2:Mem w.heap.size w { e1 with S:=S' } [] [] w':=by
  refine ⟨by simp,by simp,by simp,by simp,by simp,by simp,by simp,by simp,?_,h1.below,h1.base,h1.bl,h1.hid.of rfl ⟨rfl,rfl⟩ (fun b _=>.inr (by rw [hx1.he rfl])) (fun i x h=>by simp at h) (fun _ _ _=>rfl) (by simp) (by simp)⟩
  rintro b (hb | hb)
  ·exact h1.ro b (hx1.ro.sub b hb)
  ·exact hb.2
 obtain ⟨e',hρ,hS',hh1,hh2,hm',hx⟩:=hm.beside h2 hx1.ye S' (fun b hb=>.inl hb) (fun b hb=>hb.elim .inl fun hl=>.inr ⟨hl.1,hl.2,.inr hl⟩) (fun _ _ _ _ _ h=>h)
 refine ⟨e',by simpa using hm',by simpa using hx,?_⟩
 exact AV.closed_holds (e:={ e1 with S:=S' }) (fun b hb=>by rw [hS'];exact hb) _ v (AV.lend_closed B1 V0 r0) hr'
theorem WL (hF:Free F) {o:Oper} {s:St} {A:AV} (h:tI P s o.op=some A):aCq F n P o s A s.B:=by
 intro n0 w0 e a w Q K hr hk
 unfold tI at h
 split at h
 ·rename_i T len parts hop
  split at h
  ·rename_i hcl
   split at h
   ·rename_i A0 B0 V0 he
    injection h with h
    subst h
    let a0:Act:={ tmps:=#[],defers:=[] }
    have hr0:Rel w.heap.size w { e with base:=w.heap.size,H:=fun _=>none,y:=false } ⟨[],[],[]⟩ a0 w:=⟨by simp [AV.all,a0],by simp [AV.scos],Mem.nothing e w hr.mem.ro⟩
    have hes:=hr.evs (parts.toList.map (·.2))
    have hparts:AV.all { e with base:=w.heap.size,H:=fun _=>none,y:=false } w (kss ([]:List Vec)) (parts.toList.map fun p=>s.ev p.2) (parts.toList.map fun p=>a.eval p.2):=
     AV.closeds_holds (e:=e) (e':={ e with base:=w.heap.size,H:=fun _=>none,y:=false }) (fun _ h=>h) _ _ hcl (by simpa [List.map_map,Function.comp_def] using hes.1)
    obtain ⟨v,w',e1,g1,g2,g3,g4,g5⟩:=lI he hr0 (vparts:=(parts.toList.map fun p=>(p.1,a.eval p.2)).toArray) (by simp [List.map_map,Function.comp_def]) (by simpa [List.map_map,Function.comp_def] using hparts)
    obtain ⟨e',f1,f2,f3⟩:=hr.mem.froze g2 g3 g4
    refine ⟨fun f _=>hF.fn f,?_⟩
    have hrun:(execOp a.eval o).run P w=.ok (.value v) w':=by
     simp only [execOp,hop]
     have:(parts.map fun x=>(x.1,a.eval x.2))=(parts.toList.map fun p=>(p.1,a.eval p.2)).toArray:=by
      apply Array.ext'
      simp
     simp [this,g1]
    rw [Oper.semAt_plain F _ _ (by intro c hc;rw [hc] at hop;cases hop),hrun]
    exact hk e' v w' f1 f2 f3 (AV.sco_closed _ _ _ (AV.lend_closed _ _ _))
   ·cases h
  ·cases h
 ·cases h
end
end Go.Sx
namespace Go.Sx
open Go Go.RowKit
variable [G:Ghost]
section
variable {F:Fence} {n:Nat} {P:Program} {lo:List Oper} {b0:Nat}
end
end Go.Sx
namespace Go.Sx
open Go Go.RowKit
variable [G:Ghost]
section
variable {F:Fence} {n:Nat} {P:Program}
end
attribute [simp] tI JB gA stp nB AV.closed AV.closeds
end Go.Sx
namespace Go.Sx
open Go Go.RowKit
variable [G:Ghost]
section
variable {P:Program}
theorem yV {f:FuncId} {fn:Func} {c:Code} {args:List AV} {B:List Box} {V:List Vec} {K:AV→List Box→List Vec→Prop} (hf:P.funcs[f]? = some fn) (hb:fn.body=some c)
  (h:∀ (F:Fence) (n:Nat),Free F→W F n P c ⟨args++List.replicate (fn.ntmps - args.length) .any,B,V⟩ fun ex st'=>(ex=.normal∨ex=.ret)∧∃ r,sM P st' fn.results.toList=some r∧K r st'.B st'.V) :
  CallP P f args B V K:=by
 intro F n hF hro n0 w0 e w vs hm hv hs
 refine callsIn_of_wp hf hb (hF.fn f) ?_ hro
 have hrel:Rel n0 w0 e ⟨args++List.replicate (fn.ntmps - args.length) .any,B,V⟩ { tmps:=vs++Array.replicate (fn.ntmps - vs.size) undef,defers:=[] } w:=by
  have hl:vs.size=args.length:=by have:=hv.length;simpa using this
  refine ⟨?_,?_,hm⟩
  ·simp only [Array.toList_append,Array.toList_replicate,hl]
   refine hv.append ?_
   generalize fn.ntmps - args.length=k
   induction k with
   | zero=>simp [AV.all]
   | succ k ih=>simpa [List.replicate_succ,AV.all,AV.holds] using ih
  ·rw [AV.scos_iff] at hs ⊢
   intro y hy
   rcases List.mem_append.1 hy with hy | hy
   ·exact hs y hy
   ·obtain rfl:=List.eq_of_mem_replicate hy
    simp [AV.sco]
 refine h F n hF n0 w0 e _ w _ hrel ?_
 rintro ex e' st' a' w' ⟨hex,r,hr,hK⟩ hrel' hdf hx
 obtain ⟨v,a1,a2,a3⟩:=yS (fn:=fn) hrel' hr
 rcases hex with rfl | rfl
 ·exact ⟨hdf,v,a1,e',st'.B,st'.V,r,v,rfl,hK,hrel'.mem,hx,a2,a3⟩
 ·exact ⟨hdf,v,a1,e',st'.B,st'.V,r,v,rfl,hK,hrel'.mem,hx,a2,a3⟩
end
end Go.Sx
namespace Go.Sx
open Go Go.RowKit
variable [G:Ghost]
def lk:List (Nat×AV)→Nat→AV
 | [],_=>.any
 | (k,x)::l,d=>if k=d then x else lk l d
def mkT (n:Nat) (l:List (Nat×AV)):List AV:=(List.range n).map (lk l)
@[simp] theorem aEm (d:Nat):lk [] d=.any:=have _:=G;rfl
@[simp] theorem jP (k:Nat) (x:AV) (l:List (Nat×AV)) (d:Nat):lk ((k,x)::l) d=if k=d then x else lk l d:=have _:=G;rfl
@[simp] theorem QK (n:Nat) (l:List (Nat×AV)):(mkT n l).length=n:=by have _:=G;simp [mkT]
@[simp] theorem uV (n:Nat) (l:List (Nat×AV)) (d:Nat):(mkT n l)[d]? = if d<n then some (lk l d) else none:=by
  have _:=G
  simp only [mkT,List.getElem?_map]
  split
  ·rename_i h;simp [h]
  ·rename_i h;simp [h]
@[simp] theorem TU (n:Nat) (l:List (Nat×AV)) (d:Nat) (x:AV):(mkT n l).set d x=mkT n ((d,x)::l):=by
  refine List.ext_getElem? fun i=>?_
  rw [List.getElem?_set,uV,uV,QK]
  by_cases h:d=i
  ·subst h;simp
  ·simp [h]
theorem lK (f:AV→AV) (hf:f .any=.any):∀ (l:List (Nat×AV)) (d:Nat),lk (l.map fun p=>(p.1,f p.2)) d=f (lk l d)
 | [],d=>by have _:=G;simp [hf]
 | (k,x)::l,d=>by simp only [List.map_cons,jP,lK f hf l d];split <;> rfl
def gS:Nat→List AV→List (Nat×AV)
 | _,[]=>[]
 | k,x::xs=>(k,x)::gS (k+1) xs
theorem TV:∀ (xs:List AV) (k d:Nat),lk (gS k xs) d=if d<k then .any else (xs[d - k]?).getD .any
 | [],k,d=>by have _:=G;simp [gS]
 | x::xs,k,d=>by
  simp only [gS,jP,TV xs (k+1) d]
  by_cases h:k=d
  ·subst h;simp
  ·by_cases h2:d<k
   ·simp [h,h2,show d<k+1 by omega]
   ·have:d - k=(d - (k+1))+1:=by omega
    simp only [h,h2,if_false,show ¬d<k+1 by omega]
    rw [this,List.getElem?_cons_succ]
theorem start_eq (args:List AV) (n:Nat) (h:args.length≤n):args++List.replicate (n - args.length) .any=mkT n (gS 0 args):=by
 refine List.ext_getElem? fun i=>?_
 rw [uV,TV]
 simp only [Nat.not_lt_zero,if_false,Nat.sub_zero,List.getElem?_append,List.getElem?_replicate]
 by_cases h1:i<args.length
 ·simp [h1,show i<n by omega]
 ·simp only [h1,if_false]
  by_cases h2:i<n
  ·simp [h2,show i - args.length<n - args.length by omega,List.getElem?_eq_none (Nat.not_lt.1 h1)]
  ·simp [h2,show ¬i - args.length<n - args.length by omega]
theorem rM (f:Nat→AV):∀ (ks:List Nat) (d:Nat),lk (ks.map fun k=>(k,f k)) d=if ks.contains d then f d else .any
 | [],d=>by have _:=G;simp
 | k::ks,d=>by
  simp only [List.map_cons,jP,rM f ks d,List.contains_cons]
  by_cases h:k=d
  ·subst h;simp
  ·have:(d == k)=false:=by simp;exact fun h'=>h h'.symm
   simp only [h,this,if_false,Bool.false_or]
section
variable {F:Fence} {n:Nat} {P:Program}
end
attribute [simp] gS
end Go.Sx
namespace Go.Sx
open Go Go.RowKit
variable [G:Ghost]
section
variable {F:Fence} {n:Nat} {P:Program}
end
end Go.Sx
namespace Go.Sx
open Go Go.RowKit
variable [G:Ghost]
section
variable {F:Fence} {n:Nat} {P:Program}
end
end Go.Sx
namespace Go.Sx
open Go Go.RowKit
variable [G:Ghost]
def dM (P:Program) (f:FuncId):Bool:=
 match P.funcs[f]? with
 | some fn=>!(fn.name == "runtime.NumGoroutine")&&fn.body.isSome
 | none=>false
theorem enters {P:Program} {f:FuncId} (h:dM P f=true) (as:Array Value) (w:World):(callFunc f as).run P w=.ok (.enter f as) w:=by
 have _:=G
 unfold dM at h
 split at h
 ·rename_i fn hf
  simp only [Bool.and_eq_true,Bool.not_eq_true'] at h
  obtain ⟨c,hc⟩:=Option.isSome_iff_exists.1 h.2
  have h1:fn.name ≠ "runtime.NumGoroutine" := by simpa using h.1
  simp [callFunc,hf,h1,hc]
 ·cases h
end Go.Sx
namespace Go.Sx
open Go Go.RowKit
variable [G:Ghost]
def fzB (i:Nat) (cs:List CV):AV→AV
 | .ptr j o=>if j=i then .cv (.ref (cs.drop o)) else .ptr j o
 | x=>x
def fzV (i:Nat) (ver k:Nat) (es:List (List CV)):AV→AV
 | .own j u=>if j=i∧u=ver then .cv (.row k es) else .own j u
 | x=>x
section
variable {F:Fence} {n:Nat} {P:Program}
theorem Rel.freezeV {n0:Nat} {w0:World} {e:Env} {st:St} {a:Act} {w:World} (hr:Rel n0 w0 e st a w) {i:Nat} {x:Vec} (hx:st.V[i]? = some x) (hsl:x.sl=true) :
  ∃ e',Rel n0 w0 e' ⟨st.t.map (fzV i x.ver x.k x.es),st.B,st.V.set i { x with live:=false }⟩ a w∧ExtS e st w e' st.B (st.V.set i { x with live:=false }) w:=by
 have hl:=Vec.sl_live hsl
 let S':Nat→Prop:=fun b=>e.S b∨aX (e.hdr i x.ver)=some b
 let e':Env:={ e with S:=S' }
 let V':=st.V.set i { x with live:=false }
 have hi:i<st.V.length:=(List.getElem?_eq_some_iff.1 hx).1
 have hver:vers V'=vers st.V:=by
  have hxi:=(List.getElem?_eq_some_iff.1 hx).2
  simp only [V',vers,List.map_set]
  refine List.ext_getElem? fun j=>?_
  rw [List.getElem?_set]
  split
  ·rename_i h;subst h;simp [hi,hxi]
  ·rfl
 have hkss:kss V'=kss st.V:=by
  have hxi:=(List.getElem?_eq_some_iff.1 hx).2
  simp only [V',kss,List.map_set]
  refine List.ext_getElem? fun j=>?_
  rw [List.getElem?_set]
  split
  ·rename_i h;subst h;simp [hi,hxi]
  ·rfl
 obtain ⟨xs,a1,a2,a3⟩:=hr.mem.vec i x hx hl
 have hget:∀ (j:Nat) (y:Vec),V'[j]? = some y→y.live=true→j≠i∧st.V[j]? = some y:=by
  intro j y hj hyl
  simp only [V'] at hj
  rw [List.getElem?_set] at hj
  split at hj
  ·rename_i h
   subst h
   simp only [hi,if_true,Option.some.injEq] at hj
   subst hj
   cases hyl
  ·rename_i h
   exact ⟨fun h'=>h h'.symm,hj⟩
 have hext:ExtS e st w e' st.B V' w:=by
  refine ⟨⟨fun b hb=>.inl hb,fun _ _=>rfl⟩,fun _ _=>rfl,fun _ _ _ _=>rfl,Nat.le_refl _,by rw [hver];exact Nat.le_refl _,fun j _=>by rw [hver];exact Nat.le_refl _,fun j _=>by rw [hkss],Nat.le_refl _,?_,rfl,fun _=>rfl,rfl⟩
  rintro b (hb | hb)
  ·exact .inl hb
  ·exact .inr (Nat.le_trans hr.mem.bl.1 (a1.lt b hb).1)
 have hro:RO w e.S w S':=⟨fun b hb=>.inl hb,fun _ _=>rfl⟩
 have hm:Mem n0 w0 e' st.B V' w:=by
  refine ⟨?_,?_,?_,hr.mem.boxinj,?_,?_,?_,?_,?_,hr.mem.below,hr.mem.base,hr.mem.bl,hr.mem.hid.of rfl ⟨rfl,rfl⟩ (fun b hb=>hb.imp id fun hg=>hr.mem.hid.vec i x b hx hl hg) (SameG.set (show x.T≠ghT from hr.mem.liveT hx hl)) (fun _ _ _=>rfl) (fun i b hb hl=>.inl ⟨i,b,hb,hl,rfl⟩) (fun j y g hj hyl hg=>.inl ⟨j,y,(hget j y hj hyl).2,hyl,hg⟩)⟩
  ·intro j b hb hbl
   obtain ⟨vs,h1,h2⟩:=hr.mem.box j b hb hbl
   exact ⟨vs,h1,AV.all.mono hext _ _ (hr.mem.boxsc j b hb) h2⟩
  ·intro j b hb
   rw [hver];exact hr.mem.boxsc j b hb
  ·intro j b hb hbl
   obtain ⟨h1,h2⟩:=hr.mem.boxlo j b hb hbl
   refine ⟨h1,?_⟩
   rintro (hs | hs)
   ·exact h2 hs
   ·exact hr.mem.vecbox i x j b _ hx hl hb hbl hs rfl
  ·intro j y hj hyl
   obtain ⟨_,hj'⟩:=hget j y hj hyl
   obtain ⟨ys,h1,h2,h3⟩:=hr.mem.vec j y hj' hyl
   exact ⟨ys,h1,CV.vals.mono hro _ _ h2,h3⟩
  ·intro j y g hj hyl hg
   obtain ⟨hne,hj'⟩:=hget j y hj hyl
   rintro (hs | hs)
   ·exact hr.mem.vecS j y g hj' hyl hg hs
   ·exact hne (hr.mem.vecinj j y i x g hj' hyl hx hl hg hs)
  ·intro j y k b g hj hyl hb hbl hg
   obtain ⟨_,hj'⟩:=hget j y hj hyl
   exact hr.mem.vecbox j y k b g hj' hyl hb hbl hg
  ·intro j y k z g hj hyl hk hzl hg hg'
   obtain ⟨_,hj'⟩:=hget j y hj hyl
   obtain ⟨_,hk'⟩:=hget k z hk hzl
   exact hr.mem.vecinj j y k z g hj' hyl hk' hzl hg hg'
  ·rintro b (hb | hb)
   ·exact hr.mem.ro b hb
   ·exact (a1.lt b hb).2
 have hone:∀ (y:AV) (v:Value),AV.sco st.B.length (vers st.V) y→AV.holds e w (kss st.V) y v→AV.holds e' w (kss V') (fzV i x.ver x.k x.es y) v:=by
  intro y v hs hv
  have hv':=AV.holds.mono hext y v hs hv
  unfold fzV
  split
  ·rename_i j u
   split
   ·rename_i hc
    obtain ⟨rfl,rfl⟩:=hc
    simp only [AV.holds,CV.holds] at hv ⊢
    obtain ⟨rfl,_⟩:=hv
    have a1:=a1.s (Vec.sl_T hsl)
    obtain ⟨ao,c,hs',hle,hcm⟩:=a1.slice
    have hvals:=CV.vals.mono hro _ _ a2
    refine ⟨ao,c,hs',hle,hcm,?_⟩
    rcases a1 with ⟨_,_,h0,_⟩ | ⟨a1,g,hg,hg'⟩
    ·exact .inl (List.eq_nil_of_length_eq_zero h0)
    ·right
     rcases a1.2 with ⟨h0,_⟩ | ⟨g',cap,cur,h0,_⟩
     ·rw [h0] at hg;simp [aX] at hg
     ·have hgg:g'=g:=by rw [h0] at hg';simpa [Value.ownBlock] using hg'
      subst hgg
      have hs'':=hs'
      rw [h0] at hs'
      injection hs' with hs1 hs2 hs3
      exact ⟨g',0,hs1.symm,.inr hg,CV.rows.of_vals a3 hvals fun j u hj=>by simpa [addr_add] using a1.cells hg' j u hj⟩
   ·exact hv'
  ·exact hv'
 refine ⟨e',⟨?_,?_,hm⟩,hext⟩
 ·have:∀ (xs:List AV) (us:List Value),AV.scos st.B.length (vers st.V) xs→AV.all e w (kss st.V) xs us→AV.all e' w (kss V') (xs.map (fzV i x.ver x.k x.es)) us:=by
   intro xs
   induction xs with
   | nil=>intro us _ h;cases us <;> simp_all [AV.all]
   | cons y ys ih =>
    intro us hs h
    cases us with
    | nil=>simp [AV.all] at h
    | cons v us =>
     simp only [AV.all,AV.scos,List.map_cons] at h hs ⊢
     exact ⟨hone y v hs.1 h.1,ih us hs.2 h.2⟩
  exact this _ _ hr.sc hr.tm
 ·show AV.scos st.B.length (vers V') _
  rw [hver,AV.scos_iff]
  intro y hy
  simp only [List.mem_map] at hy
  obtain ⟨z,hz,rfl⟩:=hy
  have:=AV.scos_iff.1 hr.sc z hz
  unfold fzV
  split
  ·split
   ·simp [AV.sco]
   ·exact this
  ·exact this
end
end Go.Sx
namespace Go.Sx
open Go Go.RowKit
variable [G:Ghost]
section
variable {F:Fence} {n:Nat} {P:Program}
theorem Rel.freezeB {n0:Nat} {w0:World} {e:Env} {st:St} {a:Act} {w:World} (hr:Rel n0 w0 e st a w) {i:Nat} {x:Box} {cs:List CV} (hx:st.B[i]? = some x) (hl:x.live=true) (hcs:cV x.cs=some cs) :
  ∃ e',Rel n0 w0 e' ⟨st.t.map (fzB i cs),st.B.set i { x with live:=false },st.V⟩ a w∧ExtS e st w e' (st.B.set i { x with live:=false }) st.V w:=by
 let S':Nat→Prop:=fun b=>e.S b∨b=e.ρ i
 let e':Env:={ e with S:=S' }
 let B':=st.B.set i { x with live:=false }
 have hi:i<st.B.length:=(List.getElem?_eq_some_iff.1 hx).1
 have hlen:B'.length=st.B.length:=by simp [B']
 obtain ⟨vs,a1,a2⟩:=hr.mem.box i x hx hl
 have hlo:=hr.mem.boxlo i x hx hl
 have hget:∀ (j:Nat) (y:Box),B'[j]? = some y→y.live=true→j≠i∧st.B[j]? = some y:=by
  intro j y hj hyl
  simp only [B'] at hj
  rw [List.getElem?_set] at hj
  split at hj
  ·rename_i h
   subst h
   simp only [hi,if_true,Option.some.injEq] at hj
   subst hj
   cases hyl
  ·rename_i h
   exact ⟨fun h'=>h h'.symm,hj⟩
 have hext:ExtS e st w e' B' st.V w:=by
  refine ⟨⟨fun b hb=>.inl hb,fun _ _=>rfl⟩,fun _ _=>rfl,fun _ _ _ _=>rfl,by rw [hlen];exact Nat.le_refl _,Nat.le_refl _,fun j _=>Nat.le_refl _,fun j _=>rfl,Nat.le_refl _,?_,rfl,fun _=>rfl,rfl⟩
  rintro b (hb | hb)
  ·exact .inl hb
  ·exact .inr (by rw [hb];exact Nat.le_trans hr.mem.bl.1 hlo.1)
 have hro:RO w e.S w S':=⟨fun b hb=>.inl hb,fun _ _=>rfl⟩
 have hm:Mem n0 w0 e' B' st.V w:=by
  refine ⟨?_,?_,?_,?_,?_,?_,?_,hr.mem.vecinj,?_,hr.mem.below,hr.mem.base,hr.mem.bl,hr.mem.hid.of rfl ⟨rfl,rfl⟩ (fun b hb=>hb.imp id fun hg=>by rw [hg];exact hr.mem.hid.box i x hx hl) (SameG.refl _) (fun _ _ _=>rfl) (fun j y hj hyl=>.inl ⟨j,y,(hget j y hj hyl).2,hyl,rfl⟩) (fun i x g hi hl hg=>.inl ⟨i,x,hi,hl,hg⟩)⟩
  ·intro j b hb hbl
   obtain ⟨_,hb'⟩:=hget j b hb hbl
   obtain ⟨us,h1,h2⟩:=hr.mem.box j b hb' hbl
   exact ⟨us,h1,AV.all.mono hext _ _ (hr.mem.boxsc j b hb') h2⟩
  ·intro j b hb
   rw [hlen]
   simp only [B'] at hb
   rw [List.getElem?_set] at hb
   split at hb
   ·rename_i h
    subst h
    simp only [hi,if_true,Option.some.injEq] at hb
    subst hb
    exact hr.mem.boxsc i x hx
   ·exact hr.mem.boxsc j b hb
  ·intro j b hb hbl
   obtain ⟨hne,hb'⟩:=hget j b hb hbl
   obtain ⟨h1,h2⟩:=hr.mem.boxlo j b hb' hbl
   refine ⟨h1,?_⟩
   rintro (hs | hs)
   ·exact h2 hs
   ·exact hne (hr.mem.boxinj j i b x hb' hx hbl hl hs)
  ·intro j k b c hb hc hbl hcl he
   obtain ⟨_,hb'⟩:=hget j b hb hbl
   obtain ⟨_,hc'⟩:=hget k c hc hcl
   exact hr.mem.boxinj j k b c hb' hc' hbl hcl he
  ·intro j y hj hyl
   obtain ⟨ys,h1,h2,h3⟩:=hr.mem.vec j y hj hyl
   exact ⟨ys,h1,CV.vals.mono hro _ _ h2,h3⟩
  ·intro j y g hj hyl hg
   rintro (hs | hs)
   ·exact hr.mem.vecS j y g hj hyl hg hs
   ·exact hr.mem.vecbox j y i x g hj hyl hx hl hg hs.symm
  ·intro j y k b g hj hyl hb hbl hg
   obtain ⟨_,hb'⟩:=hget k b hb hbl
   exact hr.mem.vecbox j y k b g hj hyl hb' hbl hg
  ·rintro b (hb | hb)
   ·exact hr.mem.ro b hb
   ·rw [hb];exact hr.mem.lt_box hx hl
 have hcells:CV.cells w S' cs (e.ρ i) 0:=by
  rw [gG hcs] at a2
  have hvals:=CV.vals.mono hro _ _ (fK a2)
  refine CV.cells.of_vals hvals fun j u hj=>?_
  rw [cell_of_row w _ _ vs x.T (0,0) a1]
  simpa using hj
 have hone:∀ (y:AV) (v:Value),AV.sco st.B.length (vers st.V) y→AV.holds e w (kss st.V) y v→AV.holds e' w (kss st.V) (fzB i cs y) v:=by
  intro y v hs hv
  have hv':=AV.holds.mono hext y v hs hv
  unfold fzB
  split
  ·rename_i j o
   split
   ·rename_i hc
    subst hc
    simp only [AV.holds,CV.holds] at hv ⊢
    exact ⟨e.ρ j,o,hv,.inr rfl,by simpa using hcells.drop o⟩
   ·exact hv'
  ·exact hv'
 refine ⟨e',⟨?_,?_,hm⟩,hext⟩
 ·have:∀ (xs:List AV) (us:List Value),AV.scos st.B.length (vers st.V) xs→AV.all e w (kss st.V) xs us→AV.all e' w (kss st.V) (xs.map (fzB i cs)) us:=by
   intro xs
   induction xs with
   | nil=>intro us _ h;cases us <;> simp_all [AV.all]
   | cons y ys ih =>
    intro us hs h
    cases us with
    | nil=>simp [AV.all] at h
    | cons v us =>
     simp only [AV.all,AV.scos,List.map_cons] at h hs ⊢
     exact ⟨hone y v hs.1 h.1,ih us hs.2 h.2⟩
  exact this _ _ hr.sc hr.tm
 ·show AV.scos B'.length (vers st.V) _
  rw [hlen,AV.scos_iff]
  intro y hy
  simp only [List.mem_map] at hy
  obtain ⟨z,hz,rfl⟩:=hy
  have:=AV.scos_iff.1 hr.sc z hz
  unfold fzB
  split
  ·split
   ·simp [AV.sco]
   ·exact this
  ·exact this
end
attribute [simp] fzB fzV
end Go.Sx
namespace Go.Sx
open Go Go.RowKit
variable [G:Ghost]
section
variable {n0:Nat} {w0:World} {e:Env} {B:List Box} {V:List Vec} {w w':World}
theorem Mem.vecSet (h:Mem n0 w0 e B V w) {i:Nat} {x:Vec} (hi:V[i]? = some x) (hl:x.live=true) (es':List (List CV)) (xs':List Value)
  (hown:OwnsV w' n0 x.T x.k (e.hdr i x.ver) es'.length xs') (hvals:CV.vals w e.S es'.flatten xs') (hk:∀ l∈es',l.length=x.k)
  (hg:w.grownBy w' (aX (e.hdr i x.ver))) :
  Mem n0 w0 e B (V.set i { x with es:=es' }) w'∧Ext e w B.length (vers V) (kss V) e w' B.length (vers (V.set i { x with es:=es' })) (kss (V.set i { x with es:=es' })):=by
 have hlt:i<V.length:=(List.getElem?_eq_some_iff.1 hi).1
 have hVi:V[i]=x:=(List.getElem?_eq_some_iff.1 hi).2
 have hkeepS:∀ b,e.S b→w'.heap[b]? = w.heap[b]?:=fun b hb=>hg.block b (h.ro b hb) fun hc=>h.vecS i x b hi hl hc.symm hb
 have hget:∀ (j:Nat) (y:Vec),(V.set i { x with es:=es' })[j]? = some y→(j≠i∧V[j]? = some y)∨(j=i∧y={ x with es:=es' }):=by
  intro j y hy
  rw [List.getElem?_set] at hy
  split at hy
  ·rename_i hij
   subst hij
   simp at hy
   exact .inr ⟨rfl,hy.symm⟩
  ·rename_i hij
   exact .inl ⟨fun h=>hij h.symm,hy⟩
 have hver:vers (V.set i { x with es:=es' })=vers V:=by
  simp only [vers,List.map_set]
  refine List.ext_getElem? fun j=>?_
  rw [List.getElem?_set]
  split
  ·rename_i hj;subst hj;simp [hlt,hVi]
  ·rfl
 have hkss:kss (V.set i { x with es:=es' })=kss V:=by
  simp only [kss,List.map_set]
  refine List.ext_getElem? fun j=>?_
  rw [List.getElem?_set]
  split
  ·rename_i hj;subst hj;simp [hlt,hVi]
  ·rfl
 have hx:Ext e w B.length (vers V) (kss V) e w' B.length (vers (V.set i { x with es:=es' })) (kss (V.set i { x with es:=es' })):=by
  rw [hver,hkss]
  exact ⟨⟨fun _ hb=>hb,hkeepS⟩,fun _ _=>rfl,fun _ _ _ _=>rfl,Nat.le_refl _,Nat.le_refl _,fun _ _=>Nat.le_refl _,fun _ _=>rfl,hg.size,fun _ h=>.inl h,rfl,fun _=>rfl,rfl⟩
 have old:∀ (j:Nat) (y:Vec),(V.set i { x with es:=es' })[j]? = some y→y.live=true→∃ z:Vec,V[j]? = some z∧z.live=true∧z.ver=y.ver:=by
  intro j y hy hyl
  rcases hget j y hy with ⟨_,h1⟩ | ⟨rfl,rfl⟩
  ·exact ⟨y,h1,hyl,rfl⟩
  ·exact ⟨x,hi,hl,rfl⟩
 refine ⟨⟨?_,?_,h.boxlo,h.boxinj,?_,?_,?_,?_,fun b hb=>Nat.lt_of_lt_of_le (h.ro b hb) hg.size,?_,Nat.le_trans h.base hg.size,h.bl,h.hid.of rfl ⟨rfl,rfl⟩ (fun _ h=>.inl h) (SameG.set (show x.T≠ghT from h.liveT hi hl)) (fun b hb' hk'=>hg.block b hb' fun hc=>hk' (h.hid.vec i x b hi hl hc.symm)) (fun i b hb hl=>.inl ⟨i,b,hb,hl,rfl⟩) (fun j y g hj hyl hgy=>?_)⟩,hx⟩
 rotate_left 7
 ·obtain ⟨z,z1,z2,z3⟩:=old j y hj hyl
  exact .inl ⟨j,z,z1,z2,by rw [z3];exact hgy⟩
 ·intro j b hb hbl
  obtain ⟨vs,h1,h2⟩:=h.box j b hb hbl
  refine ⟨vs,?_,AV.all.mono hx _ _ (h.boxsc j b hb) h2⟩
  rw [hg.block _ (h.lt_box hb hbl) fun hc=>h.vecbox i x j b _ hi hl hb hbl hc.symm rfl]
  exact h1
 ·intro j b hb;exact hx.scos (h.boxsc j b hb)
 ·intro j y hy hyl
  rcases hget j y hy with ⟨hne,h1⟩ | ⟨rfl,rfl⟩
  ·obtain ⟨ys,q1,q2,q3⟩:=h.vec j y h1 hyl
   refine ⟨ys,q1.keep fun g hgg=>hg.block g (q1.lt g hgg).2 fun hc=>hne (h.vecinj j y i x g h1 hyl hi hl hgg hc.symm),CV.vals.mono hx.ro _ _ q2,q3⟩
  ·exact ⟨xs',hown,CV.vals.mono hx.ro _ _ hvals,hk⟩
 ·intro j y g hy hyl hgg
  obtain ⟨z,z1,z2,z3⟩:=old j y hy hyl
  exact h.vecS j z g z1 z2 (by rw [z3];exact hgg)
 ·intro j y k b g hy hyl hb hbl hgg
  obtain ⟨z,z1,z2,z3⟩:=old j y hy hyl
  exact h.vecbox j z k b g z1 z2 hb hbl (by rw [z3];exact hgg)
 ·intro j y k u g hy hyl hu hul hgg hgu
  obtain ⟨z,z1,z2,z3⟩:=old j y hy hyl
  obtain ⟨q,q1,q2,q3⟩:=old k u hu hul
  exact h.vecinj j z k q g z1 z2 q1 q2 (by rw [z3];exact hgg) (by rw [q3];exact hgu)
 ·refine h.below.grown hg h.nbase fun k hk=>?_
  obtain ⟨ys,a1,_⟩:=h.vec i x hi hl
  exact Nat.le_trans (e.nb_le n0) (a1.lt k hk).1
end
def spl (l:List CV) (off:Nat) (new:List CV):List CV:=l.take off++new++l.drop (off+new.length)
theorem eM {w:World} {S:Nat→Prop}:∀ {cs cs':List CV} {vs:List Value},CV.vals w S (cs++cs') vs→CV.vals w S cs (vs.take cs.length)∧CV.vals w S cs' (vs.drop cs.length)
 | [],cs',vs,h=>have _:=G;⟨by simp [CV.vals],by simpa using h⟩
 | c::cs,cs',[],h=>by simp [CV.vals] at h
 | c::cs,cs',v::vs,h=>by
  simp only [List.cons_append,CV.vals] at h
  have:=eM h.2
  simp only [List.length_cons,List.take_succ_cons,List.drop_succ_cons,CV.vals]
  exact ⟨⟨h.1,this.1⟩,this.2⟩
theorem CD:∀ {es:List (List CV)} {k i:Nat} (h:i<es.length),(∀ l∈es,l.length=k)→es.flatten=(es.take i).flatten++es[i]++(es.drop (i+1)).flatten∧(es.take i).flatten.length=i*k
 | [],k,i,h,_=>by have _:=G;simp at h
 | e::es,k,0,h,hk=>by simp
 | e::es,k,i+1,h,hk=>by
  obtain ⟨h1,h2⟩:=CD (es:=es) (k:=k) (i:=i) (by simpa using h) fun l hl=>hk l (by simp [hl])
  have he:=hk e (by simp)
  refine ⟨?_,?_⟩
  ·simp only [List.flatten_cons,List.take_succ_cons,List.drop_succ_cons,List.getElem_cons_succ]
   rw [h1];simp
  ·simp only [List.take_succ_cons,List.flatten_cons,List.length_append,h2,he,Nat.add_mul];omega
theorem QL {w:World} {S:Nat→Prop} {es:List (List CV)} {xs:List Value} {k el off:Nat} {new:List CV} {us:List Value} (hv:CV.vals w S es.flatten xs) (hk:∀ l∈es,l.length=k) (hel:el<es.length)
  (hoff:off+new.length≤k) (hn:CV.vals w S new us) :
  CV.vals w S (es.set el (spl (es.getD el []) off new)).flatten (xs.take (el*k+off)++us++xs.drop (el*k+off+us.length))∧(∀ l∈es.set el (spl (es.getD el []) off new),l.length=k):=by
 have hlu:=hn.length
 have hget:es.getD el []=es[el]:=by simp [List.getD,hel]
 have hek:es[el].length=k:=hk _ (List.getElem_mem hel)
 obtain ⟨h1,h2⟩:=CD hel hk
 have hlen:(spl (es.getD el []) off new).length=k:=by rw [hget];simp [spl,hek];omega
 refine ⟨?_,fun l hl=>?_⟩
 ·rw [List.set_eq_take_append_cons_drop]
  simp only [hel,if_true,List.flatten_append,List.flatten_cons]
  rw [h1] at hv
  obtain ⟨a1,a2⟩:=eM hv
  obtain ⟨b1,b2⟩:=eM a1
  rw [h2] at b1 b2
  simp only [List.length_append,h2,hek] at a1 a2 b1 b2
  have hsplit:es[el]=es[el].take off++((es[el].drop off).take new.length++es[el].drop (off+new.length)):=by
   rw [← List.drop_drop,List.take_append_drop,List.take_append_drop]
  rw [hsplit] at b2
  obtain ⟨c1,c2⟩:=eM b2
  obtain ⟨d1,d2⟩:=eM c2
  have e1:(es[el].take off).length=off:=by simp [hek];omega
  have e2:((es[el].drop off).take new.length).length=new.length:=by simp [hek];omega
  rw [e1] at c1 c2 d1 d2
  rw [e2] at d1 d2
  have hx:xs.take (el*k+off)++us++xs.drop (el*k+off+us.length) =
    xs.take (el*k)++((xs.drop (el*k)).take off++us++((xs.drop (el*k)).take k).drop (off+new.length)++xs.drop (el*k+k)):=by
   have hxl:=hv.length
   simp only [List.length_append,h2,hek] at hxl
   rw [hlu]
   have t1:xs.take (el*k+off)=xs.take (el*k)++(xs.drop (el*k)).take off:=by rw [List.take_add]
   have t2:xs.drop (el*k+off+new.length)=((xs.drop (el*k)).take k).drop (off+new.length)++xs.drop (el*k+k):=by
    have g1:xs.drop (el*k+off+new.length)=(xs.drop (el*k)).drop (off+new.length):=by rw [List.drop_drop];congr 1;omega
    have g2:xs.drop (el*k+k)=(xs.drop (el*k)).drop k:=by rw [List.drop_drop]
    rw [g1,g2]
    have hL:((xs.drop (el*k)).take k).length=k:=by simp;omega
    have:=List.drop_append_of_le_length (l₁:=(xs.drop (el*k)).take k) (l₂:=(xs.drop (el*k)).drop k) (i:=off+new.length) (by rw [hL];exact hoff)
    rw [List.take_append_drop] at this
    exact this
   rw [t1,t2]
   simp [List.append_assoc]
  rw [hx]
  refine CV.vals.append ?_ (CV.vals.append ?_ ?_)
  ·have:xs.take (el*k)=(xs.take (el*k+k)).take (el*k):=by rw [List.take_take];congr 1;omega
   rw [this];exact b1
  ·rw [hget]
   have t3:(xs.drop (el*k)).take k=(xs.take (el*k+k)).drop (el*k):=by rw [List.drop_take];congr 1;omega
   unfold spl
   refine CV.vals.append (CV.vals.append ?_ hn) ?_
   ·have:(xs.drop (el*k)).take off=((xs.take (el*k+k)).drop (el*k)).take off:=by rw [← t3,List.take_take];congr 1;omega
    rw [this];exact c1
   ·rw [t3]
    have:=d2
    rw [List.drop_drop] at this
    exact this
  ·exact a2
 ·rcases List.mem_or_eq_of_mem_set hl with hl | rfl
  ·exact hk l hl
  ·exact hlen
end Go.Sx
namespace Go.Sx
open Go Go.RowKit
variable [G:Ghost]
theorem MB (l us:List Value) (o N:Nat) (h:o+us.length≤N) (hN:N≤l.length) :
  (l.take o++us++l.drop (o+us.length)).take N=(l.take N).take o++us++(l.take N).drop (o+us.length):=by
 have _:=G
 have h1:(l.take o).length=o:=by simp;omega
 rw [List.take_append,List.take_append,List.take_take,List.length_append,h1,List.drop_take]
 have e1:min N o=o:=by omega
 have e2:us.take (N - o)=us:=List.take_of_length_le (by omega)
 rw [e1,e2,List.take_take]
 congr 2
 congr 1
 omega
section
variable {P:Program}
theorem OwnsS.store {w:World} {n0:Nat} {T:TypeId} {k:Nat} {v:Value} {n:Nat} {xs us:List Value} {o:Nat} (h:OwnsS w n0 T k v n xs) (hT:T<aI) (hk:o+us.length≤n*k) (hn:0<n) (h1:∀ u∈us,u.oneCell'=true) :
  ∃ g cap,aX v=some g∧v=.slice (some ⟨g,0,none⟩) n cap∧∃ w',(storeCells ⟨g,o,none⟩ us 0).run P w=.ok () w'∧OwnsV w' n0 T k v n (xs.take o++us++xs.drop (o+us.length))∧w.grownBy w' (some g):=by
 rcases h with ⟨_,_,h0,_⟩ | ⟨⟨hl,h0⟩,g',hg,hg'⟩
 ·omega
 ·rcases h0 with ⟨_,h0⟩ | ⟨g,cap,cur,rfl,hb,hc,hle,hcm,hsz,htk⟩
  ·omega
  ·have hcap:0<cap:=by omega
   obtain ⟨c,rfl⟩:∃ c,cap=c+1:=⟨cap - 1,by omega⟩
   simp only [aX,Option.some.injEq] at hg
   subst hg
   have hfit:o+0+us.length≤cur.size:=by rw [hsz];have:=Nat.mul_le_mul_right k hle;omega
   have hst:=run_storeCells_at P g o T us 0 cur w hc hfit h1
   simp only [Nat.add_zero] at hst
   have hglt:g<w.heap.size:=(Array.getElem?_eq_some_iff.1 hc).1
   refine ⟨g,c+1,rfl,rfl,_,hst,.inl ⟨hT,.inr ⟨⟨?_,.inr ⟨g,c+1,(cur.toList.take o++us++cur.toList.drop (o+us.length)).toArray,rfl,hb,?_,hle,hcm,?_,?_⟩⟩,g,rfl,rfl⟩⟩,?_⟩
   ·simp;omega
   ·simp [World.setRow,Array.getElem?_modify,hc]
   ·have:=hsz
    simp
    simp at hfit
    omega
   ·rw [← htk]
    have hnk:n*k≤cur.toList.length:=by simp [hsz];exact Nat.mul_le_mul_right k hle
    exact MB cur.toList us o (n*k) hk hnk
   ·refine ⟨rfl,rfl,rfl,by simp [World.setRow],fun q hq hne=>?_⟩
    simp only [World.setRow,Array.getElem?_modify]
    rw [if_neg (by rintro rfl;exact hne rfl)]
theorem sN {o:Oper} {st:St} {T:TypeId} {ao xo:Operand} {i u el off:Nat} {v:Vec} {ti:TI} {new:List AV} {cs:List CV} (hop:o.op=.store T ao xo) (ha:st.ev ao=.opt i u el off)
  (hv:st.V[i]? = some v) (hsl:v.sl=true) (hu:v.ver=u) (hel:el<v.es.length) (hti:bM P T=some ti) (hnew:(st.ev xo).cells=some new) (hcs:cV new=some cs) (hsz:cs.length=ti.size) (hoff:off+cs.length≤v.k) :
  Step P o st .any st.B (st.V.set i { v with es:=v.es.set el (spl (v.es.getD el []) off cs) }):=by
 intro n0 w0 e a w hr
 subst hu
 have hl:=Vec.sl_live hsl
 obtain ⟨xs,q1',q2,q3⟩:=hr.mem.vec i v hv hl
 have q1:=q1'.s (Vec.sl_T hsl)
 have hav:=(hr.ev ao).1
 rw [ha] at hav
 simp only [AV.holds] at hav
 obtain ⟨g0,hg0,hav⟩:=hav
 have hkk:(kss st.V).getD i 0=v.k:=BV hv
 rw [hkk] at hav
 have hone:new.all AV.one=true:=by
  rw [gG hcs]
  simp [AV.one]
 have hxv:=AV.cells_holds hnew (hr.ev xo).1 hone
 have h1c:=AV.all_one hone hxv
 rw [gG hcs] at hxv
 have hvals:CV.vals w e.S cs (a.eval xo).cells.toList:=fK hxv
 have hlen:=hvals.length
 have hfit:el*v.k+off+(a.eval xo).cells.toList.length≤v.es.length*v.k:=by
  rw [hlen]
  have:(el+1)*v.k≤v.es.length*v.k:=Nat.mul_le_mul_right _ hel
  rw [Nat.add_mul] at this
  omega
 obtain ⟨g,cp,hg,hvv,w',hrun,hown,AA⟩:=q1.store (P:=P) (Vec.sl_T hsl) hfit (by omega) h1c
 rw [hg0] at hg
 cases hg
 obtain ⟨r1,r2⟩:=QL q2 q3 hel (by omega) hvals
 obtain ⟨m1,m2⟩:=hr.mem.vecSet hv hl _ _ (by simpa using hown) r1 r2 (by rw [hg0];exact AA)
 refine ⟨.skip,undef,w',e,?_,.inr ⟨rfl,rfl⟩,m1,m2,by simp [AV.holds],by simp [AV.sco]⟩
 have hsz':(a.eval xo).cells.size=ti.size:=by rw [← hsz,← hlen];simp
 have:(Instr.storeAt T (a.eval ao) (a.eval xo)).run P w=.ok () w':=by
  rw [hav]
  simp [Instr.storeAt,Instr.sureAddr,storeVar,run_sizeOf hti,hsz',hrun]
 simp only [execOp,hop]
 simp [this]
theorem FF {o:Oper} {st:St} {T:TypeId} {x h:Operand} {i u:Nat} {v:Vec} {kk:IntKind} {n:Int} {s e' k b:Nat} {z:List Value} (hop:o.op=.slice T x none (some h) none) (hx:st.ev x=.own i u)
  (hv:st.V[i]? = some v) (hsl:v.sl=true) (hu:v.ver=u) (hh:st.ev h=.cv (.val (.int kk n))) (hn0:0≤n) (hn:n≤v.es.length) (hti:bM P T=some ⟨s,z,.slc e' k b⟩) (hk:k=v.k) (hk0:k≠0) :
  Step P o st (.own i (v.ver+1)) st.B (st.V.set i { v with ver:=v.ver+1,es:=v.es.take n.toNat }):=by
 intro n0 w0 e a w hr
 subst hu
 obtain ⟨hT,hkc,_⟩:=dI hti
 have hk0':P.cellsOf e'≠0:=by rw [← hkc];exact hk0
 have hl:=Vec.sl_live hsl
 obtain ⟨xs,q1',q2,q3⟩:=hr.mem.vec i v hv hl
 have q1:=q1'.s (Vec.sl_T hsl)
 have hav:=(hr.ev x).1
 rw [hx] at hav
 simp only [AV.holds] at hav
 have hhv:=(hr.ev h).1
 rw [hh] at hhv
 simp only [AV.holds,CV.holds] at hhv
 obtain ⟨ao,c,hs,hle,hcm⟩:=q1.slice
 have hB:=tG (P:=P) w v.es.length c none (some (.int kk n)) 0 n (.inl ⟨rfl,rfl⟩) (.inr ⟨kk,rfl⟩) (Int.le_refl _) hn0 hn hle
 have hlen:(v.es.take n.toNat).length=n.toNat:=by simp;omega
 have hnn:n.toNat≤v.es.length:=by omega
 obtain ⟨v',hv',hrun⟩:∃ v',(v'=.slice (if c=0 then ao else ao.map fun q=>q.add 0) n.toNat c)∧(Instr.sliceAt T (.slice ao v.es.length c) none (some (.int kk n)) none).run P w=.ok v' w:=by
  refine ⟨_,rfl,?_⟩
  simp only [Instr.sliceAt,Instr.slice,Sem.run_bind,run_underlying hT,Result.andThen_ok,hB,aM hk0',Sem.run_pure]
  simp
 have hadd:(ao.map fun q=>q.add 0)=ao:=by
  cases ao with
  | none=>rfl
  | some q=>simp [Addr.add]
 have hv'':v'=.slice ao n.toNat c:=by rw [hv',hadd];simp
 have hown:OwnsV w n0 v.T v.k v' (v.es.take n.toNat).length (xs.take (n.toNat*v.k))∧aX v'=aX (e.hdr i v.ver):=by
  rw [hlen,hv'']
  rcases q1 with ⟨a',h1,h2,h3⟩ | ⟨⟨h0,h1⟩,g,hg,hg'⟩
  ·rw [h1] at hs
   injection hs with hs1 hs2 hs3
   subst hs1;subst hs3
   have:n.toNat=0:=by omega
   exact ⟨.inl ⟨Vec.sl_T hsl,.inl ⟨a',by rw [this],this,by rw [h3];simp⟩⟩,by rw [h1];cases a' <;> rfl⟩
  ·rcases h1 with ⟨h1,h2⟩ | ⟨g1,cap,cur,h1,h2,h3,h4,h5,h6,h7⟩
   ·rw [h1] at hg;simp [aX] at hg
   ·rw [h1] at hs
    injection hs with hs1 hs2 hs3
    subst hs1;subst hs3
    rw [h1] at hg
    have hg1:=hg'
    refine ⟨.inl ⟨Vec.sl_T hsl,.inr ⟨⟨?_,.inr ⟨g1,cap,cur,rfl,h2,h3,by omega,h5,h6,?_⟩⟩,g,?_,?_⟩⟩,?_⟩
    ·have:=Nat.mul_le_mul_right v.k hnn
     simp only [List.length_take,h0]
     omega
    ·rw [← h7,List.take_take]
     congr 1
     have:=Nat.mul_le_mul_right v.k hnn
     omega
    ·have hc0:0<cap:=by
      cases cap with
      | zero=>simp [aX] at hg
      | succ c=>omega
     obtain ⟨c',rfl⟩:∃ c',cap=c'+1:=⟨cap - 1,by omega⟩
     exact hg
    ·rw [h1] at hg';exact hg'
    ·rw [h1];cases cap <;> rfl
 have hvals:CV.vals w e.S (v.es.take n.toNat).flatten (xs.take (n.toNat*v.k)):=by
  have hsp:v.es.flatten=(v.es.take n.toNat).flatten++(v.es.drop n.toNat).flatten:=by rw [← List.flatten_append,List.take_append_drop]
  rw [hsp] at q2
  have:=(eM q2).1
  have hfl:(v.es.take n.toNat).flatten.length=n.toNat*v.k:=by
   have:∀ (l:List (List CV)),(∀ x∈l,x.length=v.k)→l.flatten.length=l.length*v.k:=by
    intro l
    induction l with
    | nil=>intro _;simp
    | cons y l ih=>intro hl;simp [hl y (by simp),ih fun x hx=>hl x (by simp [hx]),Nat.add_mul];omega
   rw [this _ fun x hx=>q3 x (List.mem_of_mem_take hx),hlen]
  rw [hfl] at this
  exact this
 obtain ⟨e1,m1,m2,m3,_⟩:=hr.mem.vecStep (w':=w) hv hl v' (v.es.take n.toNat) (xs.take (n.toNat*v.k)) hown.1 hvals (fun l hl=>q3 l (List.mem_of_mem_take hl))
  ⟨rfl,rfl,rfl,Nat.le_refl _,fun _ _ _=>rfl⟩ (.inl hown.2)
 refine ⟨.value v',v',w,e1,?_,.inl rfl,m1,m2,?_,?_⟩
 ·simp only [execOp,hop,Option.map_none,Option.map_some,hhv.1,hav.1,hs]
  simp [hrun]
 ·simp only [AV.holds]
  exact ⟨m3.symm,by rw [hv''];rfl⟩
 ·have hi:=(List.getElem?_eq_some_iff.1 hv).1
  simp [AV.sco,vers,List.getD,hi]
end
end Go.Sx
namespace Go.Sx
open Go Go.RowKit
variable [G:Ghost]
section
variable {P:Program} {F:Fence} {n:Nat}
theorem QM (hF:Free F) {ops:List Oper} {o o2:Oper} {rest:List Oper} {st:St} {Q:St→Prop} {T:TypeId} {x l:Operand} {d i u:Nat} {v:Vec} {kk:IntKind} {lo:Int} {s e' k b:Nat} {z:List Value} {te:TI} {ats args}
  (hg:o.guard=none) (hg2:o2.guard=none) (hop:o.op=.slice T x (some l) none none) (hd:o.dst=some d) (hop2:o2.op=.call { callee:=.builtin .clear,args:=args,argTypes:=ats }) (hargs:args=#[.tmp d]) (hats:ats=#[T]) (hd2:o2.dst=none)
  (hdl:d<st.t.length) (hx:st.ev x=.own i u) (hv:st.V[i]? = some v) (hsl:v.sl=true) (hu:v.ver=u) (hh:st.ev l=.cv (.val (.int kk lo))) (h0:0≤lo) (h1:lo≤v.es.length)
  (hti:bM P T=some ⟨s,z,.slc e' k b⟩) (hk:k=v.k) (hk0:k≠0) (hte:bM P e'=some te) (hz:te.zero≠[]) (hzl:te.zero.length=k) (hz1:te.zero.all Value.oneCell'=true)
  (h:cK F n P ops.toArray rest ((st.put (some d) .any st.B st.V).put none .any st.B (st.V.set i { v with es:=v.es.take lo.toNat++List.replicate (v.es.length - lo.toNat) (te.zero.map .val) })) Q) :
  cK F n P ops.toArray (o::o2::rest) st Q:=by
 intro n0 w0 e a w Qr hr hkk
 subst hu
 obtain ⟨hT,hkc,_⟩:=dI hti
 have hk0':P.cellsOf e'≠0:=by rw [← hkc];exact hk0
 have hl:=Vec.sl_live hsl
 obtain ⟨xs,q1',q2,q3⟩:=hr.mem.vec i v hv hl
 have q1:=q1'.s (Vec.sl_T hsl)
 have hav:=(hr.ev x).1
 rw [hx] at hav
 simp only [AV.holds] at hav
 have hlv:=(hr.ev l).1
 rw [hh] at hlv
 simp only [AV.holds,CV.holds] at hlv
 obtain ⟨ao,c,hs,hle,hcm⟩:=q1.slice
 have hB:=tG (P:=P) w v.es.length c (some (.int kk lo)) none lo v.es.length (.inr ⟨kk,rfl⟩) (.inl ⟨rfl,rfl⟩) h0 h1 (Int.le_refl _) hle
 have hloN:lo.toNat≤v.es.length:=by omega
 obtain ⟨v1,hv1,hrun1⟩:∃ v1,v1=Value.slice (if c=lo.toNat then ao else ao.map fun q=>q.add (lo.toNat*v.k)) (v.es.length - lo.toNat) (c - lo.toNat)∧(Instr.sliceAt T (.slice ao v.es.length c) (some (.int kk lo)) none none).run P w=.ok v1 w:=by
  refine ⟨_,rfl,?_⟩
  simp only [Instr.sliceAt,Instr.slice,Sem.run_bind,run_underlying hT,Result.andThen_ok,hB,aM hk0',Sem.run_pure]
  rw [← hkc,hk]
  simp
 simp only [wpListIn,Region.wanted,hg,hg2,if_true]
 refine ⟨fun f _=>hF.fn f,?_⟩
 have hrun:(execOp a.eval o).run P w=.ok (.value v1) w:=by
  simp only [execOp,hop,Option.map_none,Option.map_some,hlv.1,hav.1,hs]
  simp [hrun1]
 rw [Oper.semAt_plain F _ _ (by intro c hc;rw [hc] at hop;cases hop),hrun]
 have hr1:=hr.put hr.mem (Ext.refl _ _ _ _ _) (x:=.any) (v:=v1) (by simp [AV.holds]) (by simp [AV.sco]) o.dst
 have htl:a.tmps.size=st.t.length:=by have:=hr.tm.length;simpa using this
 have hev:(a.put o.dst v1).eval (.tmp d)=v1:=by
  simp [Act.eval,Act.put,hd,Array.getD,htl,hdl]
 refine ⟨fun f _=>hF.fn f,?_⟩
 rw [Oper.semAt_plain F _ _ (by intro c hc;rw [hc] at hop2;cases hop2)]
 obtain ⟨zv,hzv,hzc⟩:=LQ hte hz w
 have hzs:zv.cells.size=te.zero.length:=by have:=congrArg List.length hzc;simpa using this
 have hzr:∀ m,(Builtin.zeroCells zv.cells m).toList=eQ te.zero m:=by
  intro m
  rw [← hzc]
  exact oI zv.cells (by rw [hzs,hzl];exact hk0) m
 have hrows:∀ m,CV.vals w e.S (List.replicate m (te.zero.map CV.val)).flatten (eQ te.zero m):=by
  have hz':CV.vals w e.S (te.zero.map CV.val) te.zero:=by
   have:∀ (l:List Value),l.all Value.oneCell'=true→CV.vals w e.S (l.map CV.val) l:=by
    intro l
    induction l with
    | nil=>intro _;simp [CV.vals]
    | cons y l ih =>
     intro hl
     simp only [List.all_cons,Bool.and_eq_true] at hl
     simp only [List.map_cons,CV.vals,CV.holds]
     exact ⟨⟨trivial,hl.1⟩,ih hl.2⟩
   exact this _ hz1
  intro m
  induction m with
  | zero=>simp [eQ,CV.vals]
  | succ m ih=>simp only [List.replicate_succ,List.flatten_cons,eQ];exact CV.vals.append hz' ih
 let es':=v.es.take lo.toNat++List.replicate (v.es.length - lo.toNat) (te.zero.map CV.val)
 have hes':es'.length=v.es.length:=by simp [es'];omega
 have hq3':∀ l∈es',l.length=v.k:=by
  intro l hl
  simp only [es',List.mem_append,List.mem_replicate] at hl
  rcases hl with hl | ⟨_,rfl⟩
  ·exact q3 l (List.mem_of_mem_take hl)
  ·simp [hzl,hk]
 have hfl:(v.es.take lo.toNat).flatten.length=lo.toNat*v.k:=by
  have:∀ (l:List (List CV)),(∀ x∈l,x.length=v.k)→l.flatten.length=l.length*v.k:=by
   intro l
   induction l with
   | nil=>intro _;simp
   | cons y l ih=>intro hl;simp [hl y (by simp),ih fun x hx=>hl x (by simp [hx]),Nat.add_mul];omega
  rw [this _ fun x hx=>q3 x (List.mem_of_mem_take hx),List.length_take,Nat.min_eq_left hloN]
 have hvals1:CV.vals w e.S (v.es.take lo.toNat).flatten (xs.take (lo.toNat*v.k)):=by
  have hsp:v.es.flatten=(v.es.take lo.toNat).flatten++(v.es.drop lo.toNat).flatten:=by rw [← List.flatten_append,List.take_append_drop]
  rw [hsp] at q2
  have:=(eM q2).1
  rw [hfl] at this
  exact this
 have hvals:CV.vals w e.S es'.flatten (xs.take (lo.toNat*v.k)++eQ te.zero (v.es.length - lo.toNat)):=by
  simp only [es',List.flatten_append]
  exact CV.vals.append hvals1 (hrows _)
 have hxl:=q1.len
 have hzone:∀ y∈eQ te.zero (v.es.length - lo.toNat),y.oneCell'=true:=fun y hy=>List.all_eq_true.1 (uR te.zero hz1 _) y hy
 have hzrl:(eQ te.zero (v.es.length - lo.toNat)).length=(v.es.length - lo.toNat)*v.k:=by rw [gX,hzl,hk]
 obtain ⟨w',hrun2,hm⟩:∃ w',(Builtin.clear_ #[T] o2.type #[v1]).run P w=.ok (.tuple #[]) w'∧(Mem n0 w0 e st.B (st.V.set i { v with es:=es' }) w'∧Ext e w st.B.length (vers st.V) (kss st.V) e w' st.B.length (vers (st.V.set i { v with es:=es' })) (kss (st.V.set i { v with es:=es' }))):=by
  by_cases hlast:v.es.length - lo.toNat=0
  ·refine ⟨w,?_,?_⟩
   ·rw [hv1,hlast]
    simp only [Builtin.clear_]
    cases (if c=lo.toNat then ao else ao.map fun q=>q.add (lo.toNat*v.k)) <;> simp [run_underlying hT]
   ·have he:es'=v.es:=by
     simp only [es',hlast,List.replicate_zero,List.append_nil]
     exact List.take_of_length_le (by omega)
    rw [he]
    have hvs:st.V.set i { v with es:=v.es }=st.V:=by
     refine List.ext_getElem? fun j=>?_
     rw [List.getElem?_set]
     split
     ·rename_i hj;subst hj;simp [(List.getElem?_eq_some_iff.1 hv).1,hv];exact (List.getElem?_eq_some_iff.1 hv).2.symm
     ·rfl
    rw [hvs]
    exact ⟨hr.mem,Ext.refl _ _ _ _ _⟩
  ·have hpos:0<v.es.length:=by omega
   have hfit:lo.toNat*v.k+(eQ te.zero (v.es.length - lo.toNat)).length≤v.es.length*v.k:=by
    rw [hzrl,← Nat.add_mul]
    exact Nat.mul_le_mul_right _ (by omega)
   obtain ⟨g,cp,hg',hvv,w',hst,hown,AA⟩:=q1.store (P:=P) (Vec.sl_T hsl) hfit hpos hzone
   refine ⟨w',?_,?_⟩
   ·rw [hs] at hvv
    injection hvv with hvv1 hvv2 hvv3
    subst hvv1
    have hcne:c≠lo.toNat:=by omega
    rw [hv1,if_neg hcne]
    simp only [Option.map_some,addr_add,Nat.zero_add]
    obtain ⟨m,hm⟩:∃ m,v.es.length - lo.toNat=m+1:=⟨v.es.length - lo.toNat - 1,by omega⟩
    simp only [Builtin.clear_]
    rw [hm] at hst ⊢
    simp [-eQ,run_underlying hT,hzv,hzr,hst]
   ·refine hr.mem.vecSet hv hl es' _ ?_ hvals hq3' (by rw [hg'];exact AA)
    rw [hes']
    have:xs.drop (lo.toNat*v.k+(eQ te.zero (v.es.length - lo.toNat)).length)=[]:=by
     apply List.drop_of_length_le
     rw [hzrl,hxl,← Nat.add_mul]
     exact Nat.mul_le_mul_right _ (by omega)
    rw [this,List.append_nil] at hown
    exact hown
 have hrunB:(execOp (a.put o.dst v1).eval o2).run P w=.ok (.value (.tuple #[])) w':=by
  subst hargs;subst hats
  simp only [execOp,hop2,resolve,invoke]
  simp [hev,builtin,hrun2]
 rw [hrunB]
 have hr2:=hr1.put (B':=st.B) (V':=st.V.set i { v with es:=es' }) (x:=.any) (v:=.tuple #[]) (e':=e) (w':=w') hm.1 hm.2 (by simp [AV.holds]) (by simp [AV.sco]) o2.dst
 have hfin:wpListIn F n P ops.toArray Qr rest ((a.put o.dst v1).put o2.dst (.tuple #[])) w':=by
  rw [hd2] at hr2 ⊢
  rw [hd] at hr2 ⊢
  exact h n0 w0 e _ w' Qr hr2 fun e'' st' a' w'' hq hrel hdf hx''=>hkk e'' st' a' w'' hq hrel hdf (hm.2.trans hx'')
 exact hfin
end
end Go.Sx
namespace Go.Sx
open Go Go.RowKit
variable [G:Ghost]
section
variable {F:Fence} {n:Nat} {P:Program} {b:Frame} {a:Act} {k:List Item} {cs:List Frame} {w:World}
theorem gY {c:Code}:step P (lone (b.atR a (.code (.scope c)::k)) cs w)=.next (lone (b.atR a (.code c::.inScope c::k)) cs w):=have _:=G;
 step_lone_go (by simp [stepG,stepG.exec,Frame.atR])
theorem FG {c:Code}:step P (lone (b.atR a (.inScope c::k)) cs w)=.next (lone (b.atR a k) cs w):=have _:=G;
 step_lone_go (by simp [stepG,stepG.exec,Frame.atR])
theorem CE {c:Code} {Q:Exit→Act→World→Prop} (h:c.wpIn F n P (fun ex a w=>match ex with | .goto _=>False | ex=>Q ex a w) a w):(Code.scope c).wpIn F n P Q a w:=by
 intro b k cs hro hb hr
 have h0:(lone (b.atR a (.code (.scope c)::k)) cs w).fenced P F:=fenced_calm hb hr rfl
 obtain ⟨e,a₁,w₁,hq,harr⟩:=h b (.inScope c::k) cs hro hb hr
 cases e with
 | normal=>exact ⟨.normal,a₁,w₁,hq,.head h0 gY (StepsIn.trans harr (.one (fenced_calm hb hr rfl) FG))⟩
 | exit id =>
  have hx:exitTo id (.inScope c::k)=exitTo id k:=by simp [exitTo]
  exact ⟨.exit id,a₁,w₁,hq,fun k' hk=>.head h0 gY (harr.1 k' (by rw [hx];exact hk)),
   fun hr' hk=>let ⟨k₁,h1,h2⟩:=harr.2 hr' (by rw [hx];exact hk);⟨k₁,h1,.head h0 gY h2⟩⟩
 | goto l=>exact hq.elim
 | ret=>exact ⟨_,a₁,w₁,hq,.of_steps (.one h0 gY) harr⟩
 | panic ch=>exact ⟨_,a₁,w₁,hq,.of_steps (.one h0 gY) harr⟩
 | outgrown=>exact ⟨_,a₁,w₁,hq,.of_steps (.one h0 gY) harr⟩
def aCr (Q:Exit→St→Prop):Exit→St→Prop
 | .goto _,_=>False
 | ex,st=>Q ex st
theorem aCs {c:Code} {st:St} {Q:Exit→St→Prop} (h:W F n P c st (aCr Q)):W F n P (.scope c) st Q:=by
 intro n0 w0 e a w Qr hr hk
 refine CE (h n0 w0 e a w _ hr ?_)
 intro ex e' st' a' w' hq hrel hdf hx
 cases ex with
 | goto l=>exact hq.elim
 | _=>exact hk _ e' st' a' w' hq hrel hdf hx
end
end Go.Sx
