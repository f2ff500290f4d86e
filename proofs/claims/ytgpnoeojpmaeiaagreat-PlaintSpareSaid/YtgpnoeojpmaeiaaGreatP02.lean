/-
 The laws of a pinder's court (plaints) hold at every input, without any condition.
-/
import Derived.IntWalk
import Derived.Laws.Cover3
import Derived.OrdersIn
import Derived.Still
import Derived.Test.YtgpnoeojpmaeiaaGreatP01
set_option linter.unusedSectionVars false
set_option linter.unusedVariables false
set_option linter.unusedSimpArgs false
namespace Go.Sx
open Go Go.RowKit
variable [G:Ghost]
section
variable {P:Program}
def AJ (c a b:AV):Option AV:=
 match c with
 | .cv (.val (.bool x)) =>
  match a,b with
  | .cv (.val (.bool p)),.cv (.val (.bool q))=>some (.cv (.val (.bool (if x then p else q))))
  | a,b=>if x then some a else some b
 | _=>none
variable {av:AV} {e:Env} {w:World} {ks:List Nat}
theorem LO {c a b:AV} (h:AJ c a b=some av) {vc va vb:Value} (hc:AV.holds e w ks c vc) (ha:AV.holds e w ks a va) (hb:AV.holds e w ks b vb) :
  ∃ x:Bool,vc=.bool x/\AV.holds e w ks av (if x then va else vb)/\∀ n vs,AV.sco n vs a->AV.sco n vs b->AV.sco n vs av:=by
 unfold AJ at h;grind [AV.holds,CV.holds]
def iA (x:AV) (i:Nat):Option AV:=
 match x with
 | .tup vs=>vs[i]?
 | _=>none
variable {x:AV} {u:Value}
theorem CU {i:Nat} (h:iA x i=some av) (hu:AV.holds e w ks x u) :
  ∃ r,(Instr.extract u i).run P w=.ok r w/\AV.holds e w ks av r/\∀ n vs,AV.sco n vs x->AV.sco n vs av:=by
 unfold iA at h;split at h
 ·obtain ⟨us,rfl,xe⟩:=hu
  obtain ⟨v,h1,h2⟩:=xe.get h;exact ⟨v,by simp_all [Instr.extract],h2,fun n ws hs=>by exact AV.scos_get hs h⟩
 grind
def qQ (P:Program) (st:St) (T:TypeId) (x:AV):Option AV:=
 match aZ P T with
 | some ⟨_,_,.slc _ _ _⟩ =>
  match x with
  | .cv (.row _ es)=>some (.cv (.val (.int .i64 es.length)))
  | .cv (.val (.slice none 0 0))=>some (.cv (.val (.int .i64 0)))
  | .own i u=>match st.V[i]? with
   | some v=>if v.sl&&v.ver == u then some (.cv (.val (.int .i64 v.es.length))) else none
   | none=>none
  | _=>none
 | some ⟨_,_,.arr n _ _⟩=>some (.cv (.val (.int .i64 n)))
 | _=>none
variable {T:TypeId}
theorem OL {st:St} (h:qQ P st T x=some av) {n0:Nat} {w0:World} {a:Act} (hr:Rel n0 w0 e st a w) (hu:AV.holds e w (kss st.V) x u) (T':TypeId) :
  ∃ r,(Builtin.len_ #[T] T' #[u]).run P w=.ok r w/\AV.holds e w (kss st.V) av r/\∀ n vs,AV.sco n vs av:=by
 unfold qQ at h;split at h
 ·rename_i s z et k by_ ai
  obtain ⟨hT,_,_⟩:=cZ ai;split at h
  ·injection h with h;subst h
   obtain ⟨ao,cap,rfl,_⟩:=hu;simp_all [Builtin.len_,run_underlying,AV.holds,CV.holds,Value.oneCell',goInt,AV.sco]
  ·injection h with h;subst h
   simp_all [AV.holds,CV.holds,Builtin.len_,run_underlying,Value.oneCell',goInt,AV.sco]
  ·split at h
   ·rename_i v hv
    split at h
    ·rename_i hc
     simp at hc;obtain ⟨hl,rfl⟩:=hc;injection h with h;subst h
     obtain ⟨xs,a1,a2,a3⟩:=hr.mem.vec _ v hv (Vec.sl_live hl);obtain ⟨ao,c,hs,_⟩:=(a1.s (Vec.sl_T hl)).slice;simp_all [Builtin.len_,run_underlying,AV.holds,CV.holds,Value.oneCell',goInt,AV.sco]
    grind
   grind
  grind
 ·rename_i s z n et k ai
  obtain ⟨hT,_⟩:=yQ ai;injection h with h;subst h
  simp_all [Builtin.len_,run_underlying,AV.holds,CV.holds,Value.oneCell',goInt,AV.sco]
 grind
def AK (mx:Bool) (args:List AV):Option AV:=
 match args with
 | [.cv (.val (.int k a)),.cv (.val (.int k' b))]=>if k=k' then some (.cv (.val (.int k (if mx then (if b > a then b else a) else (if b<a then b else a))))) else none
 | _=>none
def rR (P:Program) (src dst:TypeId) (x:AV):Option AV:=
 match P.underlying src,P.underlying dst with
 | some (.int _),some (.int k)=>match x with
  | .cv (.val (.int _ n))=>some (.cv (.val (.int k (k.wrap n))))
  | _=>none
 | _,_=>none
theorem LP {src dst:TypeId} (h:rR P src dst x=some av) (hu:AV.holds e w ks x u) :
  ∃ r,(convert src dst u).run P w=.ok r w/\AV.holds e w ks av r/\∀ n vs,AV.sco n vs av:=by
 unfold rR at h;split at h
 ·split at h
  ·injection h with h;subst h
   simp_all [AV.holds,CV.holds,convert,run_underlying,Conv.intToInt,Value.oneCell',AV.sco]
  grind
 grind
def yU (P:Program) (T:TypeId) (x:AV) (f:Nat):Option AV:=
 match P.underlying T with
 | some (.struct fs)=>match fs[f]? with
  | some fd=>match aZ P fd.type,x with
   | some te,.agg cs=>if te.kind.agg=true then (if fd.offset+te.size<=cs.length then some (.agg ((cs.drop fd.offset).take te.size)) else none) else cs[fd.offset]?
   | _,_=>none
  | none=>none
 | _=>none
theorem OM {f:Nat} (h:yU P T x f=some av) (hu:AV.holds e w ks x u) :
  ∃ r,(Instr.field T u f).run P w=.ok r w/\AV.holds e w ks av r/\∀ n vs,AV.sco n vs x->AV.sco n vs av:=by
 unfold yU at h;split at h
 ·split at h
  ·rename_i fd ua
   split at h
   ·rename_i te cs d7
    obtain ⟨us,rfl,xe⟩:=hu;split at h
    ·split at h
     ·injection h with h;subst h
      refine ⟨.agg (us.extract fd.offset (fd.offset+te.size)),by simp_all [Instr.field,run_underlying,asAgg,part,qP,run_sizeOf],?_,?_⟩
      ·refine ⟨_,rfl,?_⟩
       have:=(xe.drop fd.offset).take te.size;simp_all
      grind [AV.sco,AV.scos_iff]
     grind
    ·obtain ⟨v,h1,h2⟩:=xe.get h
     refine ⟨v,by simp_all [Instr.field,run_underlying,asAgg,part,qP],h2,fun n ws hs=>by exact AV.scos_get hs h⟩
   grind
  grind
 grind
def UV (P:Program) (T:TypeId) (x i:AV):Option AV:=
 match aZ P T,x,i with
 | some ⟨_,_,.arr n et 1⟩,.agg cs,.cv (.val (.int _ j)) =>
  match aZ P et with
  | some te=>if te.kind.agg then none else if 0<=j/\j<n then cs[j.toNat]? else none
  | none=>none
 | _,_,_=>none
def aI (k:Nat):Nat->List CV->List (List CV)
 | 0,_=>[]
 | n+1,l=>l.take k::aI k n (l.drop k)
theorem xH (k:Nat):∀ (n:Nat) (l:List CV),l.length=n*k->(aI k n l).flatten=l/\(∀ e∈aI k n l,e.length=k)/\(aI k n l).length=n
 | 0,l,h=>by grind [aI]
 | n+1,l,h=>by
  have:=xH k n (l.drop k) (by grind)
  simp_all [aI,Nat.add_mul]
def oV (P:Program) (T:TypeId) (x:AV) (lo hi:Option AV):Option AV:=
 match aZ P T with
 | some ⟨_,_,.slc _ k _⟩ =>
  if k=0 then none else
  match x with
  | .cv (.row k' es) =>
   if k'=k then
    match (match lo with | none=>some (0:Int) | some (.cv (.val (.int _ n)))=>some n | _=>none),(match hi with | none=>some (es.length:Int) | some (.cv (.val (.int _ n)))=>some n | _=>none) with
    | some l,some h=>if 0<=l/\l<=h/\h<=es.length then some (.cv (.row k ((es.take h.toNat).drop l.toNat))) else none
    | _,_=>none
   else none
  | _=>none
 | some ⟨_,_,.arr n _ k⟩ =>
  match x,lo,hi with
  | .cv (.ref cs),none,none=>if k≠0/\n*k<=cs.length/\n<=maxLen then some (.cv (.row k (aI k n (cs.take (n*k))))) else none
  | _,_,_=>none
 | _=>none
theorem AL {w:World} {S:Nat->Prop} {k:Nat}:∀ {es:List (List CV)} {b o:Nat},CV.rows w S k es b o->∀ n,CV.rows w S k (es.take n) b o
 | es,b,o,h,0=>by simp [CV.rows]
 | [],b,o,h,n+1=>by grind
 | e::es,b,o,h,n+1=>by
  exact ⟨h.1,h.2.1,AL h.2.2 n⟩
theorem AM {w:World} {S:Nat->Prop} {k:Nat}:∀ {es:List (List CV)} {b o:Nat},CV.rows w S k es b o->∀ n,CV.rows w S k (es.drop n) b (o+n*k)
 | es,b,o,h,0=>by grind
 | [],b,o,h,n+1=>by simp [CV.rows]
 | e::es,b,o,h,n+1=>by
  have:=AM h.2.2 n;grind
theorem run_sliceBound (w:World) {v:Value} {k:IntKind} {n:Int} (hv:v=.int k n) (y:Nat) (h0:0<=n) (h1:n<=y) (code:BoundsCode):(Instr.sliceBound v y code).run P w=.ok n.toNat w:=by
 simp_all [Instr.sliceBound,asIntOf]
theorem xI (w:World) (n cap:Nat) (vlo vhi:Option Value) (l h:Int) (ek:(vlo=none/\l=0)\/∃ k,vlo=some (.int k l)) (qm:(vhi=none/\h=n)\/∃ k,vhi=some (.int k h))
  (h0:0<=l) (h1:l<=h) (h2:h<=n) (hn:n<=cap):(Instr.sliceBounds true n cap vlo vhi none).run P w=.ok (l.toNat,h.toNat,cap) w:=by
 have co:∀ k code,(Instr.sliceBound (.int k h) cap code).run P w=.ok h.toNat w:=fun k code=>run_sliceBound w rfl cap (by omega) (by omega) code
 have lz:∀ k code,(Instr.sliceBound (.int k l) h.toNat code).run P w=.ok l.toNat w:=fun k code=>run_sliceBound w rfl _ (by omega) (by omega) code
 rcases ek with ⟨rfl,rfl⟩ | ⟨k,rfl⟩ <;> rcases qm with ⟨rfl,rfl⟩ | ⟨k',rfl⟩
 ·rfl
 ·simp [Instr.sliceBounds,co]
 ·simp_all [Instr.sliceBounds]
 simp_all [Instr.sliceBounds]
variable {lo:Option AV} {vlo:Option Value}
theorem HR {hi:Option AV} (h:oV P T x lo hi=some av) {vhi:Option Value} (hu:AV.holds e w ks x u)
  (ek:∀ y,lo=some y->∃ v,vlo=some v/\AV.holds e w ks y v) (Cg:lo=none->vlo=none) (qm:∀ y,hi=some y->∃ v,vhi=some v/\AV.holds e w ks y v) (Is:hi=none->vhi=none) :
  ∃ r,(Instr.sliceAt T u vlo vhi none).run P w=.ok r w/\AV.holds e w ks av r/\∀ n vs,AV.sco n vs av:=by
 unfold oV at h;split at h
 ·rename_i s z et k by_ ai
  obtain ⟨hT,rfl,rfl⟩:=cZ ai;split at h
  ·cases h
  ·rename_i hk
   split at h
   ·rename_i k' es
    split at h
    ·rename_i gm
     subst gm;split at h
     ·rename_i l hh hl Ch
      split at h
      ·rename_i hc
       injection h with h;subst h
       obtain ⟨ao,cap,rfl,bt,fq,b8⟩:=hu
       have hH:(vhi=none/\hh=es.length)\/∃ k,vhi=some (.int k hh):=by
        grind [AV.holds,CV.holds]
       have hL:(vlo=none/\l=0)\/∃ k,vlo=some (.int k l):=by
        grind [AV.holds,CV.holds]
       have hB:=xI (P:=P) w es.length cap vlo vhi l hh hL hH hc.1 hc.2.1 hc.2.2 bt;have ak:((es.take hh.toNat).drop l.toNat).length=hh.toNat - l.toNat:=by grind
       refine ⟨_,by simp [Instr.sliceAt,Instr.slice,run_underlying hT,hB,aS hk];rfl,?_,by simp [AV.sco]⟩
       refine ⟨_,cap - l.toNat,by rw [ak],by omega,by omega,?_⟩
       by_cases Ci:(es.take hh.toNat).drop l.toNat=[]
       ·grind
       ·right
        rcases b8 with rfl | ⟨b,o,rfl,hS,bj⟩
        ·grind
        ·have bY:cap≠l.toNat:=by
          grind
         rw [if_neg bY];simp only [Option.map_some,addr_add];exact ⟨b,_,rfl,hS,AM (AL bj _) _⟩
      grind
     grind
    grind
   grind
 ·rename_i s z n et k ai
  obtain ⟨hT,hk⟩:=yQ ai;split at h
  ·rename_i cs
   split at h
   ·rename_i hc
    injection h with h;subst h
    obtain ⟨cy,bt,Cj⟩:=hc;obtain ⟨b,o,rfl,hS,bc⟩:=hu;have cn:=aS (P:=P) (T:=et) (by omega) w
    have uh:(⟨b,o,none⟩:Addr).add 0=⟨b,o,none⟩:=by rfl
    have hl:(cs.take (n*k)).length=n*k:=by grind
    obtain ⟨c1,c2,c3⟩:=xH k n (cs.take (n*k)) hl;obtain ⟨vs,h1,h2,h3⟩:=(bc.take (n*k)).vals;refine ⟨.slice (some ⟨b,o,none⟩) n n,?_,?_,by simp [AV.sco]⟩
    ·simp_all [Instr.sliceAt,run_underlying,Instr.sureAddr,Instr.sliceBounds]
    ·refine ⟨some ⟨b,o,none⟩,n,by rw [c3],by omega,Cj,.inr ⟨b,o,rfl,hS,?_⟩⟩
     exact CV.rows.of_vals c2 (by grind) h3
   grind
  grind
 grind
def uB (P:Program) (T:TypeId) (x:AV) (lo:Option AV) (hi mx:AV):Option AV:=
 match hi,mx with
 | .cv (.val (.int k n)),.cv (.val (.int _ m))=>if n=m then (match x with
  | .cv (.row k' es)=>oV P T (.cv (.row k' es)) lo (some (.cv (.val (.int k n))))
  | _=>none) else none
 | _,_=>none
theorem ON (w:World) (n cap:Nat) (vlo:Option Value) (l h:Int) (k1 k2:IntKind) (ek:(vlo=none/\l=0)\/∃ k,vlo=some (.int k l))
  (h0:0<=l) (h1:l<=h) (h2:h<=n) (hn:n<=cap):(Instr.sliceBounds true n cap vlo (some (.int k1 h)) (some (.int k2 h))).run P w=.ok (l.toNat,h.toNat,h.toNat) w:=by
 have co:∀ k code,(Instr.sliceBound (.int k h) cap code).run P w=.ok h.toNat w:=fun k code=>run_sliceBound w rfl cap (by omega) (by omega) code
 have yc:∀ k code,(Instr.sliceBound (.int k h) h.toNat code).run P w=.ok h.toNat w:=fun k code=>run_sliceBound w rfl _ (by omega) (by omega) code
 have lz:∀ k code,(Instr.sliceBound (.int k l) h.toNat code).run P w=.ok l.toNat w:=fun k code=>run_sliceBound w rfl _ (by omega) (by omega) code
 rcases ek with ⟨rfl,rfl⟩ | ⟨k,rfl⟩
 ·simp_all [Instr.sliceBounds]
 simp_all [Instr.sliceBounds]
theorem EM {hi mx:AV} (h:uB P T x lo hi mx=some av) {vhi vmx:Value} (hu:AV.holds e w ks x u)
  (ek:∀ y,lo=some y->∃ v,vlo=some v/\AV.holds e w ks y v) (Cg:lo=none->vlo=none) (qm:AV.holds e w ks hi vhi) (Cj:AV.holds e w ks mx vmx) :
  ∃ r,(Instr.sliceAt T u vlo (some vhi) (some vmx)).run P w=.ok r w/\AV.holds e w ks av r/\∀ n vs,AV.sco n vs av:=by
 unfold uB at h;split at h
 case h_2=>cases h
 rename_i q nn q' mm;split at h
 case isFalse=>cases h
 rename_i ui;subst ui;split at h
 case h_2=>cases h
 rename_i k' es;obtain ⟨rfl,_⟩:=qm;obtain ⟨rfl,_⟩:=Cj;unfold oV at h;split at h
 ·rename_i s z et k by_ ai
  obtain ⟨hT,rfl,rfl⟩:=cZ ai;split at h
  ·cases h
  ·rename_i hk
   simp only at h;split at h
   ·rename_i gm
    subst gm;split at h
    ·rename_i l hh hl Ch
     split at h
     ·rename_i hc
      injection h with h;subst h
      simp at Ch;subst Ch;obtain ⟨ao,cap,rfl,bt,fq,b8⟩:=hu
      have hL:(vlo=none/\l=0)\/∃ k,vlo=some (.int k l):=by
       grind [AV.holds,CV.holds]
      have hB:=ON (P:=P) w es.length cap vlo l nn q q' hL hc.1 hc.2.1 hc.2.2 bt;have ak:((es.take nn.toNat).drop l.toNat).length=nn.toNat - l.toNat:=by grind
      refine ⟨_,by simp [Instr.sliceAt,Instr.slice,run_underlying hT,hB,aS hk];rfl,?_,by simp [AV.sco]⟩
      refine ⟨_,nn.toNat - l.toNat,by rw [ak],by omega,by omega,?_⟩
      by_cases Ci:(es.take nn.toNat).drop l.toNat=[]
      ·grind
      ·right
       rcases b8 with rfl | ⟨b,o,rfl,hS,bj⟩
       ·grind
       ·have bY:nn.toNat≠l.toNat:=by
         grind
        rw [if_neg bY];simp only [Option.map_some,addr_add];exact ⟨b,_,rfl,hS,AM (AL bj _) _⟩
     grind
    grind
   grind
 ·grind
 grind
end
section
variable {P:Program}
def iR (z:List Value):Nat->List Value
 | 0=>[]
 | n+1=>z++iR z n
theorem lR (z:List Value):∀ n,(iR z n).length=n*z.length
 | 0=>by simp [iR]
 | n+1=>by simp [iR,lR z n,Nat.add_mul];omega
theorem OO (z:List Value) (hz:z.length≠0):∀ n i,i<n*z.length->(iR z n)[i]? = z[i % z.length]?
 | 0,i,h=>by omega
 | n+1,i,h=>by
  simp only [iR,List.getElem?_append];split
  ·rename_i hi;rw [Nat.mod_eq_of_lt hi]
  ·rename_i hi
   rw [OO z hz n (i - z.length) (by rw [Nat.add_mul] at h;omega)]
   congr 1;rw [<- Nat.mod_eq_sub_mod (by omega)]
theorem EN (z:List Value) (h:z.all Value.oneCell'=true):∀ n,(iR z n).all Value.oneCell'=true
 | 0=>by rfl
 | n+1=>by simp only [iR,List.all_append,h,EN z h n,Bool.and_self]
theorem rS (z:Array Value) (hz:z.size≠0) (n:Nat):((Array.range (n*z.size)).map (z[· % z.size]!)).toList=iR z.toList n:=by
 apply List.ext_getElem?;grind [OO,lR]
def dX:List AV->Option (List CV)
 | []=>some []
 | .cv c::xs=>(dX xs).map (c::·)
 | _::_=>none
theorem qR:∀ {xs:List AV} {cs:List CV},dX xs=some cs->xs=cs.map .cv
 | [],cs,h=>by grind [dX]
 | x::xs,cs,h=>by
  cases x <;> simp [dX] at h;obtain ⟨ds,h1,rfl⟩:=h;simp [qR h1]
theorem jO {e:Env} {w:World} {ks:List Nat}:∀ {cs:List CV} {vs:List Value},AV.all e w ks (cs.map .cv) vs->CV.vals w e.S cs vs
 | [],[],_=>by simp [CV.vals]
 | c::cs,v::vs,h=>by
  simpa using ⟨h.1,jO h.2⟩
 | [],_::_,h=>by grind [AV.all]
 | _::_,[],h=>by grind [AV.all]
abbrev Out:=AV×List Box×List Vec
def mW (P:Program) (st:St) (T:TypeId):Option Out:=
 match aZ P T with
 | some ti=>if ti.zero≠[]/\ti.zero.all Value.oneCell'=true then some (.ptr st.B.length 0,st.B++[Box.mk true T (fL ti.zero)],st.V) else none
 | none=>none
def EO (st:St) (T:TypeId) (x:AV):Option Out:=
 match x.cells with
 | some cs=>if cs.all AV.one then some (.ptr st.B.length 0,st.B++[Box.mk true T cs],st.V) else none
 | none=>none
def bH (P:Program) (st:St) (T:TypeId) (len:Nat) (parts:List (Nat×AV)):Option Out:=
 match aZ P T with
 | some ⟨_,_,.slc e k _⟩ =>
  match aZ P e with
  | some te =>
   if te.zero.length=k/\te.size=k/\k≠0/\te.zero.all Value.oneCell'=true/\len*k<=2 ^ 24 then
    match fX (fun i=>some (i*k,k)) (fL (iR te.zero len)) parts with
    | some out=>(dX out).map fun cs=>(.own st.V.length 0,st.B,st.V++[Vec.mk true e k 0 (aI k len cs)])
    | none=>none
   else none
  | none=>none
 | _=>none
def wW (st:St) (k:Nat) (x:AV):Option (List (List CV)):=
 match x with
 | .cv (.row k' es)=>if k'=k then some es else none
 | .cv (.val (.slice none 0 0))=>some []
 | .own j u=>match st.V[j]? with
  | some v=>if v.sl&&v.ver == u&&v.k == k then some v.es else none
  | none=>none
 | _=>none
def qS (P:Program) (st:St) (T:TypeId) (s x:AV):Option Out:=
 match aZ P T,s with
 | some ⟨_,_,.slc e k by_⟩,.own i u =>
  match aZ P e,st.V[i]?,wW st k x with
  | some te,some v,some new =>
   if v.sl&&v.ver == u&&v.k == k&&v.T == e then
    (if te.zero.length=k/\te.size=k/\k≠0 then
     (if (v.es.length+new.length)*by_<=140737488355328/\v.es.length+new.length<=maxLen then
      some (.own i (v.ver+1),st.B,st.V.set i { v with ver:=v.ver+1,es:=v.es++new }) else none) else none) else none
  | _,_,_=>none
 | _,_=>none
def nK (P:Program) (st:St) (T:TypeId) (x:AV):Option Out:=
 match aZ P T with
 | some ⟨_,_,.slc e k _⟩ =>
  if k=0 then none else
  match x with
  | .cv (.row _ _)=>some (.own st.V.length 0,st.B,st.V++[Vec.mk true e k 0 []])
  | _=>none
 | _=>none
variable {n0:Nat} {w0 w:World} {e:Env} {st:St} {a:Act}
theorem OP (hr:Rel n0 w0 e st a w) (T:TypeId) {cs:List AV} {vs:Array Value} (dj:AV.scos st.B.length (vers st.V) cs) (hv:AV.all e w (kss st.V) cs vs.toList) :
  ∃ e',Mem n0 w0 e' (st.B++[Box.mk true T cs]) st.V (w.alloc (.cells vs T))/\cL e st w e' (st.B++[Box.mk true T cs]) st.V (w.alloc (.cells vs T)) /\
   AV.holds e' (w.alloc (.cells vs T)) (kss st.V) (.ptr st.B.length 0) (.pointer (some ⟨w.heap.size,0,none⟩)):=by
 obtain ⟨e',h1,h2,h3,_⟩:=hr.mem.newBox T cs vs dj hv;grind [AV.holds]
variable {T:TypeId} {av:AV} {B':List Box} {V':List Vec}
theorem HS (h:mW P st T=some (av,B',V')) (hr:Rel n0 w0 e st a w) :
  ∃ v w' e',(Instr.alloc T true (.tuple #[])).run P w=.ok v w'/\Mem n0 w0 e' B' V' w'/\cL e st w e' B' V' w'/\AV.holds e' w' (kss V') av v/\AV.sco B'.length (vers V') av:=by
 unfold mW at h;split at h
 ·rename_i ti ai
  split at h
  ·rename_i hz
   obtain ⟨rfl,rfl,rfl⟩:=h;obtain ⟨z,f9,ug⟩:=EK ai hz.1 w;obtain ⟨e',h1,h2,h3⟩:=OP hr T (cs:=fL ti.zero) (vs:=z.cells) (pS _ _ _) (by rw [ug];exact nJ hz.2)
   exact ⟨_,_,e',by simp [Instr.alloc,f9,newVar,newRow],h1,h2,h3,by simp [AV.sco]⟩
  grind
 grind
variable {x:AV}
theorem OQ (h:EO st T x=some (av,B',V')) (hr:Rel n0 w0 e st a w)
  {u:Value} (hu:AV.holds e w (kss st.V) x u) (hs:AV.sco st.B.length (vers st.V) x) :
  ∃ v w' e',(Instr.box T u).run P w=.ok v w'/\Mem n0 w0 e' B' V' w'/\cL e st w e' B' V' w'/\AV.holds e' w' (kss V') av v/\AV.sco B'.length (vers V') av:=by
 unfold EO at h;split at h
 ·rename_i cs bc
  split at h
  ·rename_i ho
   obtain ⟨rfl,rfl,rfl⟩:=h;obtain ⟨e',h1,h2,h3⟩:=OP hr T (AV.cells_scoped bc hs) (AV.cells_holds bc hu ho);exact ⟨_,_,e',by rfl,h1,h2,h3,by simp [AV.sco]⟩
  grind
 grind
theorem nL {len:Nat} {parts:List (Nat×AV)} (h:bH P st T len parts=some (av,B',V')) (hr:Rel n0 w0 e st a w) {vparts:Array (Nat×Value)}
  (hi:parts.map (·.1)=vparts.toList.map (·.1)) (hv:AV.all e w (kss st.V) (parts.map (·.2)) (vparts.toList.map (·.2))) :
  ∃ v w' e',(Instr.buildSlice T len vparts).run P w=.ok v w'/\Mem n0 w0 e' B' V' w'/\cL e st w e' B' V' w'/\AV.holds e' w' (kss V') av v/\AV.sco B'.length (vers V') av:=by
 unfold bH at h;split at h
 ·rename_i s z et k by_ ai
  obtain ⟨hT,hk,_⟩:=cZ ai;split at h
  ·rename_i te d7
   split at h
   ·rename_i hc
    obtain ⟨hz,cn,cy,dq,Ck⟩:=hc;split at h
    ·rename_i out qn
     cases i9:dX out with
     | none=>grind
     | some cs =>
      obtain ⟨ie,d,h1,h2,h3,h4,h5⟩:=fA d7
      obtain ⟨zv,ug,ya⟩:∃ z,ie.zero=some z/\z.cells.toList=te.zero:=by
       grind
      have uj:ie.size=k:=by omega
      have ub:zv.cells.size=k:=by grind
      have jg:=rS zv.cells (by omega) len
      rw [ub,ya] at jg
      obtain ⟨vout,a1,a2,a3⟩:=mV (vcells:=(Array.range (len*k)).map (zv.cells[· % k]!)) qn
       (by rw [jg];exact nJ (EN _ dq _)) hi hv
      have Cl:out.length=len*k:=by grind [fL]
      have bc:=qR i9;have bw:cs.length=len*k:=by grind
      have gz:=xH k len cs bw
      by_cases ak:len*k=0
      ·
       have yd:len=0:=by
        rcases Nat.mul_eq_zero.1 ak with h | h
        ·exact h
        omega
       subst yd
       have ag:(Instr.buildSlice T 0 vparts).run P w=.ok (.slice (some ⟨w.heap.size,0,none⟩) 0 0) (w.alloc (.cells vout et)):=by
        have r0:Array.range 0=#[]:=rfl;have a1':Instr.fill (fun i=>some (i*k,k)) #[] vparts.toList=some vout:=by grind
        simp [Instr.buildSlice,run_underlying hT,run_sizeOf d7,cn,r0,a1',newRow]
       obtain ⟨e',b1,b2,b3,_⟩:=hr.mem.newVec (w':=w.alloc (.cells vout et)) et k (.slice (some ⟨w.heap.size,0,none⟩) 0 0) (aI k 0 cs) []
        (.inl ⟨eJ ai,.inl ⟨_,rfl,by rfl,rfl⟩⟩) (by simp [aI,CV.vals]) gz.2.1 (World.grownBy_alloc _ _ _) (fun g hg=>by simp [aY] at hg)
       grind [AV.holds,Value.oneCell',AV.sco]
      ·have ag:=run_buildSlice (P:=P) w T et len vparts vout ie zv hT h1 ug (by grind) (by grind) (by rw [uj,ub];exact a1)
       have dk:CV.vals w e.S (aI k len cs).flatten vout.toList:=by
        rw [gz.1];rw [bc] at a2;exact jO a2
       have jr:vout.size=len*k:=by have:=dk.length;grind
       have au:=World.ownsRow_lit (base:=n0) (e:=et) (size:=k) w vout len hr.mem.base (by simp [maxLen];have:=Nat.le_mul_of_pos_right len (Nat.pos_of_ne_zero cy);omega) jr
       obtain ⟨e',b1,b2,b3,_⟩:=hr.mem.newVec (w':=w.alloc (.cells vout et)) et k (.slice (some ⟨w.heap.size,0,none⟩) len len) (aI k len cs) vout.toList
        (by rw [gz.2.2];exact OwnsV.of_row (eJ ai) au) dk gz.2.1 (World.grownBy_alloc _ _ _) (fun g hg=>by cases len <;> simp [aY] at hg;omega)
       grind [AV.holds,Value.oneCell',AV.sco]
    grind
   grind
  grind
 grind
theorem EP {s:AV} (h:qS P st T s x=some (av,B',V')) (hr:Rel n0 w0 e st a w) {us ux:Value} (hs:AV.holds e w (kss st.V) s us) (hx:AV.holds e w (kss st.V) x ux) (T':TypeId) :
  ∃ v w' e',(Builtin.append_ #[T,T] T' #[us,ux]).run P w=.ok v w'/\Mem n0 w0 e' B' V' w'/\cL e st w e' B' V' w'/\AV.holds e' w' (kss V') av v/\AV.sco B'.length (vers V') av:=by
 unfold qS at h;split at h
 ·rename_i s' z et k by_ i u ai
  obtain ⟨hT,hk,xc⟩:=cZ ai;split at h
  ·rename_i te v new d7 hv aj
   split at h
   ·rename_i hc
    simp at hc;obtain ⟨⟨⟨hl,rfl⟩,sj⟩,It⟩:=hc;split at h
    ·split at h
     ·rename_i A8
      obtain ⟨rfl,rfl,rfl⟩:=h;obtain ⟨ie,d,h1,h2,h3,h4,h5⟩:=fA d7
      obtain ⟨zv,ug,ya⟩:∃ z,ie.zero=some z/\z.cells.toList=te.zero:=by
       grind
      have uj:ie.size=k:=by omega
      have ub:zv.cells.size=k:=by grind
      have Cm:ie.bytes=by_:=by grind [Program.bytesOf]
      obtain ⟨rfl,dq⟩:=hs;have qj:=Vec.sl_T hl;replace hl:=Vec.sl_live hl;obtain ⟨xs,a1',a2,a3⟩:=hr.mem.vec i v hv hl;have a1:=a1'.s qj;rw [sj,It] at a1
      have nh:∃ (ao:Option Addr) (c:Nat) (news:List Value),ux=.slice ao new.length c/\CV.vals w e.S new.flatten news/\(∀ l∈new,l.length=k)/\(ao=none->new.length=0) /\
        (∀ ad,ao=some ad->∀ j u,news[j]? = some u->w.cell? (ad.add j)=some u):=by
       have rows_vals:∀ {es:List (List CV)} {b o:Nat},CV.rows w e.S k es b o->∃ news,CV.vals w e.S es.flatten news/\(∀ l∈es,l.length=k)/\∀ j u,news[j]? = some u->w.cell? ⟨b,o+j,none⟩=some u:=by
        intro es
        induction es with
        | nil=>intro b o _;exact ⟨[],by simp [CV.vals],by simp,by simp⟩
        | cons l es ih =>
         intro b o bj;obtain ⟨r1,r2,r3⟩:=bj;obtain ⟨vs1,c1,c2,c3⟩:=r2.vals;obtain ⟨vs2,d1,d2,d3⟩:=ih r3;refine ⟨vs1++vs2,by simpa using c1.append d1,fun m hm=>(List.mem_cons.1 hm).elim (fun h=>h▸r1) (d2 m),?_⟩
         grind
       unfold wW at aj;split at aj
       ·split at aj
        ·injection aj with aj;subst aj
         obtain ⟨ao,cap,rfl,bt,fq,b8⟩:=hx;rcases b8 with rfl | ⟨b,o,rfl,hS,bj⟩
         ·exact ⟨ao,cap,[],rfl,by simp [CV.vals],by simp,by simp,by simp⟩
         grind [addr_add]
        grind
       ·injection aj with aj;subst aj
        obtain ⟨rfl,_⟩:=hx;exact ⟨none,0,[],rfl,by simp [CV.vals],by simp,by simp,by simp⟩
       ·rename_i j u'
        split at aj
        ·rename_i y hy
         split at aj
         ·rename_i Gu
          simp at Gu;obtain ⟨⟨aq,rfl⟩,Nb⟩:=Gu;injection aj with aj;subst aj
          obtain ⟨rfl,_⟩:=hx;obtain ⟨ys,b1',b2,b3⟩:=hr.mem.vec j y hy (Vec.sl_live aq);have b1:=b1'.s (Vec.sl_T aq);obtain ⟨ao,c,hs,bt,_⟩:=b1.slice;refine ⟨ao,c,ys,hs,b2,by grind,?_,?_⟩
          ·intro In
           rcases b1 with ⟨_,_,h0,_⟩ | ⟨_,g,hg,_⟩
           ·exact h0
           grind [aY]
          ·intro ad Nc
           rcases b1 with ⟨_,_,_,h0⟩ | ⟨b1,g,hg,eg⟩
           ·grind
           ·have:ad=⟨g,0,none⟩:=by
             rcases b1.2 with ⟨h0,_⟩ | ⟨g',cap,cur,h0,_⟩
             ·grind
             grind [Value.ownBlock]
            subst this;exact b1.cells eg
         grind
        grind
       grind
      obtain ⟨ao,c,news,rfl,d1,d2,d3,d4⟩:=nh
      have uk:news.length=new.length*k:=by
       rw [d1.length]
       have:∀ (l:List (List CV)),(∀ m∈l,m.length=k)->l.flatten.length=l.length*k:=by
        intro l hl
        induction l with
        | nil=>simp
        | cons m l ih=>grind
       grind
      obtain ⟨v',w',ag,r1,r2,r3⟩:=RR (P:=P) w n0 T T' et ie zv k by_ hT h1 ug uj Cm ub (by omega) _ v.es.length xs a1 (eJ ai) ao new.length c news uk d3 d4 d1.one A8.2 A8.1 hr.mem.base
      obtain ⟨e',b1,b2,b3,_⟩:=hr.mem.vecStep (w':=w') hv hl v' (v.es++new) (xs++news) (by grind)
       (by rw [List.flatten_append];exact a2.append d1) (fun l gl=>(List.mem_append.1 gl).elim (a3 l) (fun h=>(d2 l h).trans sj.symm)) r2 r3
      refine ⟨v',w',e',ag,b1,b2,by exact ⟨b3.symm,r1.one⟩,?_⟩
      simp [AV.sco];grind
     grind
    grind
   grind
  grind
 grind
theorem ER (h:nK P st T x=some (av,B',V')) (hr:Rel n0 w0 e st a w) {u:Value} (hu:AV.holds e w (kss st.V) x u) {k1 k2:IntKind} :
  ∃ v w' e',(Instr.sliceAt T u none (some (.int k1 0)) (some (.int k2 0))).run P w=.ok v w'/\Mem n0 w0 e' B' V' w'/\cL e st w e' B' V' w'/\AV.holds e' w' (kss V') av v/\AV.sco B'.length (vers V') av:=by
 unfold nK at h;split at h
 ·rename_i s z et k by_ ai
  obtain ⟨hT,rfl,_⟩:=cZ ai;split at h
  ·cases h
  rename_i cy;split at h
  ·rename_i k' es
   obtain ⟨ao,cap,rfl,bt,fq,b8⟩:=hu
   have ag:(Instr.sliceAt T (.slice ao es.length cap) none (some (.int k1 0)) (some (.int k2 0))).run P w=.ok (.slice ao 0 0) w:=by
    simp [Instr.sliceAt,Instr.slice,run_underlying hT,Instr.sliceBounds,Instr.sliceBound,asIntOf,aS cy]
   obtain ⟨e',b1,b2,b3,_⟩:=hr.mem.newVec (w':=w) et (P.cellsOf et) (.slice ao 0 0) [] [] (.inl ⟨eJ ai,.inl ⟨ao,rfl,rfl,rfl⟩⟩) (by simp [CV.vals]) (by simp)
    ⟨rfl,rfl,rfl,Nat.le_refl _,fun _ _ _=>rfl⟩ (fun g hg=>by simp_all [aY])
   grind [AV.holds,Value.oneCell',AV.sco]
  grind
 grind
end
section
variable {P:Program}
def fH (st:St):Option Operand->Option AV
 | none=>none
 | some x=>some (st.ev x)
def wX (x:AV):Option AV:=match x with
 | .ptr i o=>some (.ptr i o)
 | .opt i g el o=>some (.opt i g el o)
 | .cv (.ref cs)=>some (.cv (.ref cs))
 | _=>none
variable {av:AV} {ks:List Nat}
theorem ES {x:AV} (h:wX x=some av) {e:Env} {w:World} {u:Value} (hu:AV.holds e w ks x u):∃ p,u=.pointer (some p)/\av=x:=by
 unfold wX at h;grind [AV.holds,CV.holds]
def bI (P:Program) (st:St) (op:Op):Option Out:=
 match op with
 | .move x=>some (st.ev x,st.B,st.V)
 | .assign x=>some (st.ev x,st.B,st.V)
 | .pick c a b=>(AJ (st.ev c) (st.ev a) (st.ev b)).map (·,st.B,st.V)
 | .alloc T=>mW P st T
 | .box T x=>EO st T (st.ev x)
 | .build T parts=>(lO P T (parts.toList.map fun p=>(p.1,st.ev p.2))).map (·,st.B,st.V)
 | .buildSlice T len parts=>bH P st T len (parts.toList.map fun p=>(p.1,st.ev p.2))
 | .load T a=>(fW P st T (st.ev a)).map (·,st.B,st.V)
 | .store T a x=>(fK P st T (st.ev a) (st.ev x)).map (AV.any,·)
 | .binOp op T x y _=>(nI P op T (st.ev x) (st.ev y)).map (·,st.B,st.V)
 | .unOp op _ x=>(LN op (st.ev x)).map (·,st.B,st.V)
 | .fieldAddr T x f=>(cT P T (st.ev x) f).map (·,st.B,st.V)
 | .indexAddr T x i=>(dW P st T (st.ev x) (st.ev i)).map (·,st.B,st.V)
 | .index T x i=>(UV P T (st.ev x) (st.ev i)).map (·,st.B,st.V)
 | .extract x i=>(iA (st.ev x) i).map (·,st.B,st.V)
 | .convert T T' x=>(rR P T T' (st.ev x)).map (·,st.B,st.V)
 | .field T x f=>(yU P T (st.ev x) f).map (·,st.B,st.V)
 | .nilCheck x=>(wX (st.ev x)).map (·,st.B,st.V)
 | .makeFunc (.func f) first caps=>if pQ (caps.toList.map st.ev)=true then none else
  if first.size=0 then some (.fn f (caps.toList.map st.ev),st.B,st.V) else if caps.size=0/\first.size=1 then some (.fn f (.gd [false] .any::first.toList.map st.ev),st.B,st.V) else none
 | .slice T x lo hi none=>(oV P T (st.ev x) (fH st lo) (fH st hi)).map (·,st.B,st.V)
 | .slice T x none (some (.const (.int _ 0))) (some (.const (.int _ 0)))=>nK P st T (st.ev x)
 | .slice T x lo (some (.tmp p)) (some (.tmp q))=>(uB P T (st.ev x) (fH st lo) (st.ev (.tmp p)) (st.ev (.tmp q))).map (·,st.B,st.V)
 | .call { callee:=.builtin .len,args,argTypes } =>
  match args.toList,argTypes.toList with
  | [x],[T]=>(qQ P st T (st.ev x)).map (·,st.B,st.V)
  | _,_=>none
 | .call { callee:=.builtin .append,args,argTypes } =>
  match args.toList,argTypes.toList with
  | [s,x],[T,T']=>if T=T' then qS P st T (st.ev s) (st.ev x) else none
  | _,_=>none
 | .call { callee:=.builtin .max,args,.. }=>(AK true (args.toList.map st.ev)).map (·,st.B,st.V)
 | .call { callee:=.builtin .min,args,.. }=>(AK false (args.toList.map st.ev)).map (·,st.B,st.V)
 | _=>none
theorem Rel.evs {n0:Nat} {w0:World} {e:Env} {st:St} {a:Act} {w:World} (h:Rel n0 w0 e st a w):∀ (l:List Operand),AV.all e w (kss st.V) (l.map st.ev) (l.map a.eval)/\AV.scos st.B.length (vers st.V) (l.map st.ev)
 | []=>by simp [AV.all,AV.scos]
 | x::l=>by
  have h1:=h.ev x;have h2:=h.evs l;grind [AV.all,AV.scos]
variable {B':List Box} {V':List Vec}
theorem aU {o:Option AV} {st:St} (h:o.map (·,st.B,st.V)=some (av,B',V')):o=some av/\B'=st.B/\V'=st.V:=by
 cases o with
 | none=>grind
 | some x=>grind
theorem aAx (w:World) (mx:Bool) {args:List AV} (h:AK mx args=some av) {e:Env} {vs:Array Value} (hv:AV.all e w ks args vs.toList) (ts:Array TypeId) (T:TypeId) :
  ∃ r,(if mx then Builtin.max_ ts T vs else Builtin.min_ ts T vs).run P w=.ok r w/\AV.holds e w ks av r/\∀ n us,AV.sco n us av:=by
 unfold AK at h;split at h
 ·split at h
  ·injection h with h;subst h
   match dk:vs.toList,hv with
   | [v1,v2],hv =>
    obtain ⟨⟨rfl,_⟩,⟨rfl,_⟩,_⟩:=hv;cases mx
    ·simp_all [Builtin.min_,Builtin.min2,AV.holds,CV.holds,Value.oneCell',AV.sco]
    simp_all [Builtin.max_,Builtin.max2,AV.holds,CV.holds,Value.oneCell',AV.sco]
   | [],hv=>grind [AV.all]
   | [_],hv=>grind [AV.all]
   | _::_::_::_,hv=>grind [AV.all]
  grind
 grind
theorem rT {o:Oper} {st:St} (h:bI P st o.op=some (av,B',V')):Step P o st av B' V':=by
 intro n0 w0 e a w hr
 have pure1:∀ {s:Sem Value} {r:Value},(execOp a.eval o)=(do pure (.value (<- s)))->s.run P w=.ok r w->B'=st.B->V'=st.V->AV.holds e w (kss st.V) av r->AV.sco st.B.length (vers st.V) av ->
   ∃ nx v w' e',(execOp a.eval o).run P w=.ok nx w'/\(nx=.value v\/(nx=.skip/\v=undef))/\Mem n0 w0 e' B' V' w'/\cL e st w e' B' V' w'/\AV.holds e' w' (kss V') av v/\AV.sco B'.length (vers V') av:=by
  intro s r h1 h2 h3 h4 h5 h6;subst h3;subst h4;exact ⟨_,r,w,e,by simp_all,.inl rfl,hr.mem,Ext.refl _ _ _ _ _,h5,h6⟩
 have mem1:∀ {s:Sem Value},(execOp a.eval o)=(do pure (.value (<- s))) ->
   (∃ v w' e',s.run P w=.ok v w'/\Mem n0 w0 e' B' V' w'/\cL e st w e' B' V' w'/\AV.holds e' w' (kss V') av v/\AV.sco B'.length (vers V') av) ->
   ∃ nx v w' e',(execOp a.eval o).run P w=.ok nx w'/\(nx=.value v\/(nx=.skip/\v=undef))/\Mem n0 w0 e' B' V' w'/\cL e st w e' B' V' w'/\AV.holds e' w' (kss V') av v/\AV.sco B'.length (vers V') av:=by
  intro s h1 ⟨v,w',e',h2,h3⟩;exact ⟨_,v,w',e',by simp_all,.inl rfl,h3⟩
 unfold bI at h;split at h
 ·rename_i x aa
  obtain ⟨rfl,rfl,rfl⟩:=h;have:=hr.ev x;exact ⟨_,_,w,e,by simp [execOp,aa],.inl rfl,hr.mem,Ext.refl _ _ _ _ _,this.1,this.2⟩
 ·rename_i x aa
  obtain ⟨rfl,rfl,rfl⟩:=h;have:=hr.ev x;exact ⟨_,_,w,e,by simp [execOp,aa],.inl rfl,hr.mem,Ext.refl _ _ _ _ _,this.1,this.2⟩
 ·rename_i c x y aa
  obtain ⟨h1,rfl,rfl⟩:=aU h;obtain ⟨q,hq,h2,h3⟩:=LO h1 (hr.ev c).1 (hr.ev x).1 (hr.ev y).1;exact ⟨_,_,w,e,by simp [execOp,aa,hq,asBool],.inl rfl,hr.mem,Ext.refl _ _ _ _ _,h2,h3 _ _ (hr.ev x).2 (hr.ev y).2⟩
 ·rename_i T aa
  exact mem1 (by grind [execOp]) (HS h hr)
 ·rename_i T x aa
  exact mem1 (by grind [execOp]) (OQ h hr (hr.ev x).1 (hr.ev x).2)
 ·rename_i T parts aa
  obtain ⟨h1,rfl,rfl⟩:=aU h;have b8:=hr.evs (parts.toList.map (·.2))
  obtain ⟨r,a1,a2,a3⟩:=HQ (vparts:=parts.map fun p=>(p.1,a.eval p.2)) h1 (by simp) (by simpa [Function.comp_def] using b8.1)
  grind [execOp,Function.comp_def]
 ·rename_i T len parts aa
  have b8:=hr.evs (parts.toList.map (·.2))
  exact mem1 (by grind [execOp]) (nL (vparts:=parts.map fun p=>(p.1,a.eval p.2)) h hr (by simp) (by simp_all [Function.comp_def]))
 ·rename_i T x aa
  obtain ⟨h1,rfl,rfl⟩:=aU h;obtain ⟨r,a1,a2,a3⟩:=rQ h1 hr (hr.ev x).1;grind [execOp]
 ·rename_i T x y aa
  cases hs:fK P st T (st.ev x) (st.ev y) with
  | none=>grind
  | some q =>
   simp [hs] at h;obtain ⟨rfl,rfl,rfl⟩:=h;obtain ⟨w',e',a1,a2,a3⟩:=HP hs hr (hr.ev x).1 (hr.ev y).1 (hr.ev y).2;exact ⟨_,undef,w',e',by simp [execOp,aa,a1],.inr ⟨rfl,rfl⟩,a2,a3,by simp [AV.holds],by simp [AV.sco]⟩
 ·rename_i op T x y yT aa
  obtain ⟨h1,rfl,rfl⟩:=aU h;obtain ⟨r,a1,a2,a3⟩:=OJ h1 (hr.ev x).1 (hr.ev y).1 x y;grind [execOp]
 ·rename_i op T x aa
  obtain ⟨h1,rfl,rfl⟩:=aU h;obtain ⟨r,a1,a2,a3⟩:=RT (P:=P) h1 (hr.ev x).1;grind [execOp]
 ·rename_i T x f aa
  obtain ⟨h1,rfl,rfl⟩:=aU h;obtain ⟨r,a1,a2,a3⟩:=yR h1 (hr.ev x).1;exact pure1 (by grind [execOp]) a1 rfl rfl a2 (a3 _ _ (hr.ev x).2)
 ·rename_i T x i aa
  obtain ⟨h1,rfl,rfl⟩:=aU h;obtain ⟨r,a1,a2,a3⟩:=yS h1 hr (hr.ev x).1 (hr.ev i).1 (hr.ev x).2;grind [execOp]
 ·rename_i T x i aa
  obtain ⟨h1,rfl,rfl⟩:=aU h;unfold UV at h1;split at h1
  ·rename_i s z n et cs k j ai hx hi
   obtain ⟨hT,hk⟩:=yQ ai;split at h1
   ·rename_i te d7
    split at h1
    ·cases h1
    ·rename_i dv
     split at h1
     ·rename_i hj
      have pw:=(hr.ev x).1;have A7:=(hr.ev i).1;rw [hx] at pw;rw [hi] at A7;obtain ⟨vs,dk,ct⟩:=pw;obtain ⟨v,b1,b2⟩:=ct.get h1;have cn:=aS (P:=P) (T:=et) (by omega) w
      rw [<- hk] at cn;have b1':vs[j.toNat]? = some v:=by simpa using b1
      refine pure1 (s:=Instr.index T (a.eval x) (a.eval i)) (r:=v) (by grind [execOp]) ?_ rfl rfl b2 ?_
      ·rw [dk,A7.1]
       simp [Instr.index,asIntOf,run_underlying hT,hj,cn,part,qP d7,dv,b1']
      ·have:=(hr.ev x).2
       rw [hx] at this;exact AV.scos_get this h1
     ·cases h1
   ·cases h1
  ·cases h1
 ·rename_i x i aa
  obtain ⟨h1,rfl,rfl⟩:=aU h;obtain ⟨r,a1,a2,a3⟩:=CU (P:=P) h1 (hr.ev x).1;exact pure1 (by grind [execOp]) a1 rfl rfl a2 (a3 _ _ (hr.ev x).2)
 ·rename_i T T' x aa
  obtain ⟨h1,rfl,rfl⟩:=aU h;obtain ⟨r,a1,a2,a3⟩:=LP (P:=P) h1 (hr.ev x).1;grind [execOp]
 ·rename_i T x f aa
  obtain ⟨h1,rfl,rfl⟩:=aU h;obtain ⟨r,a1,a2,a3⟩:=OM (P:=P) h1 (hr.ev x).1;exact pure1 (by simp only [execOp,aa]) a1 rfl rfl a2 (a3 _ _ (hr.ev x).2)
 ·rename_i x aa
  obtain ⟨h1,rfl,rfl⟩:=aU h;obtain ⟨p,hp,iy⟩:=ES h1 (hr.ev x).1;exact ⟨_,a.eval x,w,e,by simp_all [execOp],.inl rfl,hr.mem,Ext.refl _ _ _ _ _,by rw [iy];exact (hr.ev x).1,by rw [iy];exact (hr.ev x).2⟩
 ·rename_i f first caps aa
  split at h
  ·cases h
  rename_i ia;split at h
  ·rename_i hf
   obtain ⟨rfl,rfl,rfl⟩:=h;have b8:=hr.evs caps.toList;have Iu:first=#[]:=Array.eq_empty_of_size_eq_zero hf
   subst Iu;exact pure1 (s:=Instr.makeFunc (.func f) (Array.map a.eval #[]) (caps.map a.eval)) (r:=.func (.func f) #[] (caps.map a.eval)) (by simp only [execOp,aa]) (by simp [Instr.makeFunc]) rfl rfl (by simp only [AV.holds];exact ⟨_,by rw [eq_false_of_ne_true ia];rfl,by simpa using b8.1⟩) (by simp only [AV.sco];exact b8.2)
  ·split at h
   ·rename_i hc
    simp only [Option.some.injEq,Prod.mk.injEq] at h;obtain ⟨rfl,rfl,rfl⟩:=h;have b8:=hr.evs first.toList
    have Iv:caps=#[]:=Array.eq_empty_of_size_eq_zero hc.1;subst Iv;refine pure1 (s:=Instr.makeFunc (.func f) (first.map a.eval) (Array.map a.eval #[])) (r:=.func (.func f) (first.map a.eval) #[]) (by simp only [execOp,aa]) (by simp [Instr.makeFunc]) rfl rfl ?_ (by simp only [AV.sco,AV.scos,true_and];exact b8.2)
    simp only [AV.holds];refine ⟨#[undef]++first.map a.eval,?_,?_⟩
    ·exact (OG f (by simpa using hc.2)).symm
    ·simp only [Array.toList_append,List.singleton_append,AV.all,Array.toList_map]
     exact ⟨by simp [AV.holds],b8.1⟩
   ·cases h
 ·rename_i T x lo hi aa
  obtain ⟨h1,rfl,rfl⟩:=aU h
  obtain ⟨r,a1,a2,a3⟩:=HR (vlo:=lo.map a.eval) (vhi:=hi.map a.eval) h1 (hr.ev x).1
   (fun y hy=>by cases lo with | none=>simp [fH] at hy | some l=>simp [fH] at hy;subst hy;exact ⟨_,rfl,(hr.ev l).1⟩) (fun hl=>by cases lo <;> simp_all [fH])
   (fun y hy=>by cases hi with | none=>simp [fH] at hy | some l=>simp [fH] at hy;subst hy;exact ⟨_,rfl,(hr.ev l).1⟩) (fun hl=>by cases hi <;> simp_all [fH])
  exact pure1 (s:=Instr.sliceAt T (a.eval x) (lo.map a.eval) (hi.map a.eval) none) (by simp only [execOp,aa];rfl) a1 rfl rfl a2 (a3 _ _)
 ·rename_i T x k1 k2 aa
  exact mem1 (s:=Instr.sliceAt T (a.eval x) none (some (.int k1 0)) (some (.int k2 0))) (by simp only [execOp,aa];rfl) (ER h hr (hr.ev x).1)
 ·rename_i T x lo p q aa
  obtain ⟨h1,rfl,rfl⟩:=aU h
  obtain ⟨r,a1,a2,a3⟩:=EM (vlo:=lo.map a.eval) h1 (hr.ev x).1
   (fun y hy=>by cases lo with | none=>simp [fH] at hy | some l=>simp [fH] at hy;subst hy;exact ⟨_,rfl,(hr.ev l).1⟩) (fun hl=>by cases lo <;> simp_all [fH]) (hr.ev (.tmp p)).1 (hr.ev (.tmp q)).1
  exact pure1 (s:=Instr.sliceAt T (a.eval x) (lo.map a.eval) (some (a.eval (.tmp p))) (some (a.eval (.tmp q)))) (by simp only [execOp,aa];rfl) a1 rfl rfl a2 (a3 _ _)
 ·rename_i args argTypes aa
  split at h
  ·rename_i x T ac ul
   obtain ⟨h1,rfl,rfl⟩:=aU h;obtain ⟨r,a1,a2,a3⟩:=OL h1 hr (hr.ev x).1 o.type;have ib:args=#[x]:=by rw [<- Array.toArray_toList (xs:=args),ac]
   have ni:argTypes=#[T]:=by rw [<- Array.toArray_toList (xs:=argTypes),ul]
   subst ib;subst ni;exact ⟨_,r,w,e,by simp [execOp,aa,resolve,invoke,builtin,a1],.inl rfl,hr.mem,Ext.refl _ _ _ _ _,a2,a3 _ _⟩
  ·cases h
 ·rename_i args argTypes aa
  split at h
  ·rename_i s x T T' ac ul
   split at h
   ·rename_i Iw
    subst Iw;have ib:args=#[s,x]:=by rw [<- Array.toArray_toList (xs:=args),ac]
    have ni:argTypes=#[T,T]:=by rw [<- Array.toArray_toList (xs:=argTypes),ul]
    subst ib;subst ni;obtain ⟨v,w',e',a1,a2⟩:=EP h hr (hr.ev s).1 (hr.ev x).1 o.type;exact ⟨_,v,w',e',by simp [execOp,aa,resolve,invoke,builtin,a1],.inl rfl,a2⟩
   ·cases h
  ·cases h
 ·rename_i args argTypes aa
  obtain ⟨h1,rfl,rfl⟩:=aU h;obtain ⟨r,a1,a2,a3⟩:=aAx (P:=P) w true h1 (vs:=args.map a.eval) (by simpa using (hr.evs args.toList).1) argTypes o.type
  simp only [if_true] at a1;exact ⟨_,r,w,e,by simp [execOp,aa,resolve,invoke,builtin,a1],.inl rfl,hr.mem,Ext.refl _ _ _ _ _,a2,a3 _ _⟩
 ·rename_i args argTypes aa
  obtain ⟨h1,rfl,rfl⟩:=aU h;obtain ⟨r,a1,a2,a3⟩:=aAx (P:=P) w false h1 (vs:=args.map a.eval) (by simpa using (hr.evs args.toList).1) argTypes o.type
  simp only [Bool.false_eq_true,if_false] at a1;exact ⟨_,r,w,e,by simp [execOp,aa,resolve,invoke,builtin,a1],.inl rfl,hr.mem,Ext.refl _ _ _ _ _,a2,a3 _ _⟩
 ·cases h
end
end Go.Sx
namespace Go
def Sem.prog (P:Program) {α:Type}:Sem α->Prop
 | .pure _=>True
 | .program k=>(k P).prog P
 | .halt _=>True
 | _=>False
section
variable {P:Program} {α β:Type}
variable {f:α->Sem β}
theorem uC {s:Sem α} (hs:s.prog P) (h:∀ a,(f a).prog P):(s >>= f).prog P:=by
 show (s.bind f).prog P
 induction s with
 | pure a=>exact h a
 | halt h=>exact trivial
 | program k ih=>exact ih P hs
 | _=>exact hs.elim
theorem jZ {s:Sem α} {a:α} {w w':World} (hs:s.prog P) (hr:s.run P w=.ok a w') (h:(f a).calm P):(s >>= f).calm P:=by
 show (s.bind f).calm P
 induction s with
 | pure b=>simp only [Sem.run,Result.ok.injEq] at hr;rw [<- hr.1] at h;exact h
 | halt h=>exact trivial
 | program k ih=>exact ih P hs hr
 | _=>exact hs.elim
theorem dJ (t:TypeId):(underlying t).prog P:=by
 unfold underlying;refine uC (s:=program) trivial fun p=>?_
 split <;> trivial
theorem pT (t:TypeId):(typeInfo t).prog P:=by
 unfold typeInfo;refine uC (s:=program) trivial fun p=>?_
 split <;> trivial
theorem IY (t:TypeId) (cs:Array Value) (o:Nat):(part t cs o).prog P:=by
 unfold part;refine uC (by unfold isAgg;refine uC (dJ t) fun i=>?_;split <;> trivial) fun b=>?_
 cases b
 ·show Sem.prog P (match cs[o]? with | some v=>pure v | none=>stuck "part: no such cell");split <;> trivial
 ·exact uC (uC (pT t) fun _=>trivial) fun _=>trivial
theorem LQ {γ:Type} (f:γ->β->Sem (ForInStep β)):∀ (l:List γ) (b:β),(∀ x∈l,∀ b,(f x b).calm P)->(forIn l b f).calm P
 | [],b,_=>by rw [List.forIn_nil];trivial
 | x::l,b,h=>by
  rw [List.forIn_cons];refine k_b (h x (by simp) b) fun r=>?_
  cases r
  ·exact trivial
  ·exact LQ f l _ fun y hy=>h y (by simp [hy])
end
end Go
namespace Go.Sx
open Go Go.RowKit
variable [G:Ghost]
section
variable {P:Program}
def aEQ (P:Program) (D:Nat) (T:TypeId) (l:List LK):Prop:=
 ∀ (x y:Value),shp P T x->shp P T y->x.cells.toList.map kOf=l.map some->y.cells.toList.map kOf=l.map some->(Op.equalIn D T x y).calm P
theorem ET {d:Nat} (xs:Array Value):∀ (fs:List Field) (off:Nat) (l:List LK),RS P (eqK P d) off fs=some l->((xs.toList.drop off).take l.length).map kOf=l.map some ->
  ∀ f∈fs,∃ l1,eqK P d f.type=some l1/\l1.length=P.cellsOf f.type/\l1.length≠0/\((xs.toList.drop f.offset).take l1.length).map kOf=l1.map some
 | [],_,_,_,_,f,hf=>by cases hf
 | g::fs,off,l,h,hx,f,hf=>by
  simp only [RS] at h;split at h
  ·rename_i hg
   obtain ⟨hn,rfl⟩:=hg;split at h
   ·rename_i l1 i8
    split at h
    ·rename_i hc
     simp at h;obtain ⟨l2,l9,rfl⟩:=h;rw [List.length_append,fG,List.map_append,List.map_append] at hx
     have qk:(((xs.toList.drop g.offset).take l1.length).map kOf).length=l1.length:=by
      grind [List.length_append]
     obtain ⟨ar,dw⟩:=List.append_inj hx (by grind)
     rcases List.mem_cons.1 hf with rfl | hf
     ·exact ⟨l1,i8,hc.1,hc.2,ar⟩
     ·exact ET xs fs _ l2 l9 dw f hf
    ·cases h
   ·cases h
  ·cases h
theorem LR (xs:Array Value) (l:List LK):∀ (n i:Nat),((xs.toList.drop (i*l.length)).take (n*l.length)).map kOf=((List.replicate n l).flatten).map some ->
  ∀ j,i<=j->j<i+n->((xs.toList.drop (j*l.length)).take l.length).map kOf=l.map some
 | 0,i,_,j,h1,h2=>by omega
 | n+1,i,hx,j,h1,h2=>by
  have nf:(n+1)*l.length=l.length+n*l.length:=by grind
  rw [nf,fG,List.replicate_succ,List.flatten_cons,List.map_append,List.map_append] at hx;have jo:i*l.length+l.length=(i+1)*l.length:=by grind
  rw [jo] at hx
  have qk:(((xs.toList.drop (i*l.length)).take l.length).map kOf).length=l.length:=by
   grind [List.length_append]
  obtain ⟨ar,dw⟩:=List.append_inj hx (by grind)
  rcases Nat.eq_or_lt_of_le h1 with rfl | h1
  ·exact ar
  ·exact LR xs l n (i+1) dw j h1 (by omega)
theorem UW {D d:Nat} {T:TypeId} {l1:List LK} {xs ys:Array Value} {o:Nat} {β:Type} {f:Bool->Sem β} (IH:aEQ P D T l1) (hk:eqK P d T=some l1) (ak:l1.length=P.cellsOf T) (bY:l1.length≠0)
  (hx:((xs.toList.drop o).take l1.length).map kOf=l1.map some) (hy:((ys.toList.drop o).take l1.length).map kOf=l1.map some) (hf:∀ b,(f b).calm P) :
  (do let b <- Op.equalIn D T (<- part T xs o) (<- part T ys o);f b:Sem β).calm P:=by
 obtain ⟨a,pa,sa,ca⟩:=lE hk ak bY hx (default:World);obtain ⟨b,pb,sb,cb⟩:=lE hk ak bY hy (default:World);exact jZ (IY _ _ _) pa (jZ (IY _ _ _) pb (k_b (IH a b sa sb (by rw [ca];exact hx) (by rw [cb];exact hy)) hf))
theorem aAy:∀ (d k:Nat) (T:TypeId) (l:List LK),eqK P d T=some l->aEQ P (k+d) T l
 | 0,k,T,l,h=>by grind [eqK]
 | d+1,k,T,l,h=>by
  intro x y sx sy hx hy;unfold eqK at h;unfold shp at sx sy;cases hu:P.underlying T with
  | none=>grind
  | some kd =>
   rw [hu] at sx sy;rw [show k+(d+1)=(k+d)+1 from rfl];unfold Op.equalIn;refine jZ (a:=kd) (w:=default) (w':=default) (dJ T) (run_underlying hu _) ?_;cases kd <;> simp only [hu,reduceCtorEq,Option.some.injEq] at h
   case bool =>
    subst h;rw [sx] at hx;rw [sy] at hy;cases x <;> simp [kOf] at hx;cases y <;> simp [kOf] at hy;trivial
   case int q =>
    subst h;rw [sx] at hx;rw [sy] at hy;cases x <;> simp [kOf] at hx;cases y <;> simp [kOf] at hy;subst hx;subst hy;simp only [if_true];trivial
   case array n e =>
    obtain ⟨xs,rfl⟩:=sx;obtain ⟨ys,rfl⟩:=sy;split at h
    ·rename_i l1 i8
     split at h
     ·rename_i hc
      simp only [Option.some.injEq] at h;subst h;simp [Value.cells] at hx hy;have Ip:((List.replicate n l1).flatten).length=n*l1.length:=by simp
      have qk:xs.toList.length=n*l1.length:=by have:=congrArg List.length hx;simpa using this
      have ue:ys.toList.length=n*l1.length:=by have:=congrArg List.length hy;simpa using this
      refine jZ (a:=P.cellsOf e) (w:=default) (w':=default) (uC (pT e) fun _=>trivial) (oU (by omega) _) ?_
      simp only [Std.Legacy.Range.forIn_eq_forIn_range',Std.Legacy.Range.size,Nat.sub_zero,Nat.add_one_sub_one,Nat.div_one];refine k_b (LQ _ _ _ fun j hj b=>?_) fun r=>?_
      ·rw [List.mem_range'] at hj
       obtain ⟨j',gg,rfl⟩:=hj;have ar:=LR xs l1 n 0 (by simpa [qk,List.take_of_length_le] using hx) (0+1*j') (by omega) (by omega)
       have kx:=LR ys l1 n 0 (by simpa [ue,List.take_of_length_le] using hy) (0+1*j') (by omega) (by omega)
       rw [<- hc.1];exact UW (aAy d k e l1 i8) i8 hc.1 hc.2 ar kx fun b=>by cases b <;> exact trivial
      ·obtain ⟨r,u⟩:=r;cases r <;> trivial
     ·cases h
    ·cases h
   case struct fs =>
    obtain ⟨xs,rfl⟩:=sx;obtain ⟨ys,rfl⟩:=sy;split at h
    ·cases h
    ·rename_i ax
     simp [Value.cells] at hx hy;have qk:xs.toList.length=l.length:=by have:=congrArg List.length hx;grind
     have ue:ys.toList.length=l.length:=by have:=congrArg List.length hy;grind
     refine jZ (s:=program) (a:=P) (w:=default) (w':=default) trivial rfl ?_;rw [if_neg ax];rw [<- Array.forIn_toList];refine k_b (LQ _ _ _ fun f hf b=>?_) fun r=>?_
     ·obtain ⟨l1,h1,h2,h3,ar⟩:=ET xs fs.toList 0 l h (by simpa [qk,List.take_of_length_le] using hx) f hf
      obtain ⟨l1',A9,_,_,kx⟩:=ET ys fs.toList 0 l h (by simpa [ue,List.take_of_length_le] using hy) f hf
      rw [h1] at A9;cases A9;split
      ·exact UW (aAy d k f.type l1 h1) h1 h2 h3 ar kx fun b=>by cases b <;> exact trivial
      ·exact trivial
     ·obtain ⟨r,u⟩:=r;cases r <;> trivial
end
end Go.Sx
namespace Go
section
variable {P:Program} {α β:Type}
theorem UX (e:TypeId) (h:Bool) (o:Value):(Instr.alloc e h o).calm P:=by
 unfold Instr.alloc;refine k_b (fF e) fun z=>?_
 split
 ·exact k_b (EE _ _ _) fun _=>trivial
 ·exact k_b (qM _ _) fun _=>trivial
theorem aGM (e:TypeId) (v:Value):(Instr.box e v).calm P:=k_b (qM _ _) fun _=>trivial
theorem LS {γ:Type} (f:γ->Sem α) (h:∀ x,(f x).calm P) (l:Array γ):(l.mapM f).calm P:=by
 rw [Array.mapM_eq_mapM_toList];exact k_b (RM f h _) fun _=>trivial
theorem aC6 (t:TypeId) (ps:Array (Nat×Value)):(Instr.build t ps).calm P:=by
 unfold Instr.build
 (repeat' first | exact trivial | exact fF _ | exact aX _ | exact eZ _ | exact qL _ _ | exact qM _ _ | exact nG _ | exact jE _ | exact tV _ | exact EF _ _ _ | exact qN _ _ _ _ | (refine LS _ (fun _=>?_) _) | (refine k_b ?_ fun _=>?_) | split | dsimp only)
theorem rU (t:TypeId) (n:Nat) (ps:Array (Nat×Value)):(Instr.buildSlice t n ps).calm P:=by
 unfold Instr.buildSlice
 (repeat' first | exact trivial | exact fF _ | exact aX _ | exact eZ _ | exact qL _ _ | exact qM _ _ | exact nG _ | exact jE _ | exact tV _ | exact EF _ _ _ | exact qN _ _ _ _ | (refine LS _ (fun _=>?_) _) | (refine k_b ?_ fun _=>?_) | split | dsimp only)
theorem jE (v:Value):(Instr.sureAddr v).calm P:=by unfold Instr.sureAddr;split <;> trivial
theorem OS (t:TypeId) (v:Value):(Instr.loadAt t v).calm P:=k_b (jE v) fun _=>IT _ _
theorem qT (t:TypeId) (a v:Value):(Instr.storeAt t a v).calm P:=k_b (jE a) fun _=>EE _ _ _
theorem XJ (t:TypeId) (x i:Value):(Instr.indexAt t x i).calm P:=by
 unfold Instr.indexAt
 (repeat' first | exact trivial | exact fF _ | exact aX _ | exact eZ _ | exact qL _ _ | exact qM _ _ | exact nG _ | exact jE _ | exact tV _ | exact EF _ _ _ | exact qN _ _ _ _ | (refine LS _ (fun _=>?_) _) | (refine k_b ?_ fun _=>?_) | split | dsimp only)
theorem UY (t:TypeId) (x i:Value):(Instr.index t x i).calm P:=by
 unfold Instr.index;refine k_b (nG i) fun ki=>k_b (aX t) fun u=>?_
 split
 ·split
  ·exact k_b (eZ _) fun _=>EF _ _ _
  ·exact qN _ _ _ _
 ·split
  ·trivial
  ·exact qN _ _ _ _
 ·trivial
theorem IZ (v:Value) (i:Nat):(Instr.extract v i).calm P:=by
 unfold Instr.extract;split
 ·split <;> trivial
 ·trivial
theorem aC7 (v:Value):(asAgg v).calm P:=by unfold asAgg;split <;> trivial
theorem aC8 (t:TypeId) (x:Value) (i:Nat):(Instr.field t x i).calm P:=by
 unfold Instr.field;refine k_b (aX t) fun u=>?_
 split
 ·split
  ·exact k_b (aC7 _) fun _=>EF _ _ _
  ·trivial
 ·trivial
theorem LU (x:Value) (y:Nat) (c:BoundsCode):(Instr.sliceBound x y c).calm P:=by
 unfold Instr.sliceBound;refine k_b (nG x) fun ki=>?_
 obtain ⟨k,i⟩:=ki;simp only [];split
 ·trivial
 ·exact qN _ _ _ _
theorem lP (s:Bool) (n c:Nat) (lo hi mx:Option Value):(Instr.sliceBounds s n c lo hi mx).calm P:=by
 unfold Instr.sliceBounds;cases mx <;> cases hi <;> cases lo <;> simp only [] <;> (repeat' first | exact trivial | exact LU _ _ _ | (refine k_b ?_ fun _=>?_))
theorem aC9 (t:TypeId) (x:Value) (lo hi mx:Option Value):(Instr.slice t x lo hi mx).calm P:=by
 unfold Instr.slice;refine k_b (aX t) fun u=>?_
 split
 ·split
  ·exact trivial
  ·exact k_b (lP _ _ _ _ _ _) fun q=>trivial
 ·exact k_b (lP _ _ _ _ _ _) fun q=>k_b (eZ _) fun _=>trivial
 ·refine k_b (tV _) fun a=>k_b (aX _) fun u=>?_
  split
  ·exact k_b (lP _ _ _ _ _ _) fun q=>k_b (eZ _) fun _=>trivial
  ·trivial
 ·trivial
theorem qU (t:TypeId) (x:Value) (lo hi mx:Option Value):(Instr.sliceAt t x lo hi mx).calm P:=by
 unfold Instr.sliceAt;refine k_b (aX t) fun u=>?_
 split
 ·exact k_b (jE _) fun a=>k_b (lP _ _ _ _ _ _) fun q=>k_b (eZ _) fun _=>trivial
 ·exact aC9 _ _ _ _ _
theorem rV (s n:Nat) (v:Value):(Builtin.firstCells s n v).calm P:=by
 unfold Builtin.firstCells;split <;> first | trivial | exact tU _ _
theorem UZ (v:Value):(Builtin.lenOf v).calm P:=by unfold Builtin.lenOf;split <;> trivial
theorem JA (n:Nat):(askRoom n).calm P:=by
 unfold askRoom;split
 ·exact .inl ⟨rfl,trivial⟩
 ·trivial
theorem aER (ts:Array TypeId) (t:TypeId) (args:Array Value):(Builtin.len_ ts t args).calm P:=by
 unfold Builtin.len_;split
 ·refine k_b (aX _) fun u=>?_
  split <;> first | trivial | skip
  ·refine k_b (aX _) fun u=>?_
   split <;> trivial
  ·refine k_b (tT _) fun o=>?_
   split <;> trivial
  ·refine k_b (tT _) fun o=>?_
   split <;> trivial
 ·trivial
theorem aDa (ts:Array TypeId) (t:TypeId) (args:Array Value):(Builtin.clear_ ts t args).calm P:=by
 unfold Builtin.clear_;split
 ·refine k_b (aX _) fun u=>?_
  extract_lets jp
  have hj:∀ u,(jp u).calm P:=fun u=>trivial
  split
  ·exact hj ()
  ·exact hj ()
  ·exact hj ()
  ·refine k_b (tT _) fun o=>?_
   split
   ·exact k_b (qK _ _ rfl) fun r=>hj r
   ·trivial
  ·exact k_b (fF _) fun _=>k_b (jX _ _ _) fun r=>hj r
  ·trivial
 ·trivial
theorem uD (t:TypeId) (l c:Value):(Instr.makeSlice t l c).calm P:=by
 unfold Instr.makeSlice
 repeat' first | exact trivial | exact aX _ | exact LG _ | exact gJ _ | exact hZ _ | exact JA _ | exact eZ _ | exact fF _ | exact qL _ _ | exact yM _ | (refine k_b ?_ fun _=>?_) | split | dsimp only
theorem aFq (ts:Array TypeId) (t:TypeId) (args:Array Value):(Builtin.copy_ ts t args).calm P:=by
 unfold Builtin.copy_
 repeat' first | exact trivial | exact aX _ | exact eZ _ | exact rV _ _ _ | exact UZ _ | exact tU _ _ | exact jX _ _ _ | (refine k_b ?_ fun _=>?_) | split | dsimp only
end
end Go
namespace Go.Sx
open Go Go.RowKit
variable [G:Ghost]
section
variable {P:Program}
theorem aDb (op:BinOp) (k:IntKind) (a:Int) (k':IntKind) (b:Int):(Op.shift op k a k' b).calm P:=by
 unfold Op.shift
 repeat' first | exact trivial | exact hZ _ | (refine k_b ?_ fun _=>?_) | split
theorem EU (op:BinOp) (k:IntKind) (a b:Int):(Op.intArith op k a b).calm P:=by unfold Op.intArith;split <;> trivial
theorem aAz (op:BinOp) (a b:Int):(Op.intCmp op a b).calm P:=by unfold Op.intCmp;split <;> trivial
theorem aAA (op:BinOp) (k:IntKind) (a b:Int):(Op.intDiv op k a b).calm P:=by
 unfold Op.intDiv
 repeat' first | exact trivial | exact hZ _ | split
theorem JB (op:BinOp) (k:IntKind) (a b:Int):(Op.intBits op k a b).calm P:=by
 unfold Op.intBits
 repeat' first | exact trivial | exact hZ _ | split
variable {T:TypeId} {x av:AV} {u:Value}
theorem aDc {op:BinOp} {y:AV} (h:nI P op T x y=some av) {e:Env} {w:World} {ks:List Nat} {v:Value} (hu:AV.holds e w ks x u) (hv:AV.holds e w ks y v) (xo yo:Operand) :
  ((do eqGuard op T xo yo u v;binOp op T u v):Sem Value).calm P:=by
 unfold nI at h;split at h
 ·rename_i k a k' b
  obtain ⟨rfl,_⟩:=hu;obtain ⟨rfl,_⟩:=hv;refine k_b ?_ fun _=>?_
  ·unfold eqGuard
   cases op <;> exact trivial
  ·cases op <;> simp only [binOp] <;> (repeat' first | exact trivial | exact aDb _ _ _ _ _ | exact EU _ _ _ _ | exact aAA _ _ _ _ | exact JB _ _ _ _ | exact aAz _ _ _ | split)
 ·rename_i a b
  obtain ⟨rfl,_⟩:=hu;obtain ⟨rfl,_⟩:=hv;split at h
  ·rename_i s z ai
   have hT:P.underlying T=some .bool:=by
    obtain ⟨i,d,h1,h2,h3,h4,h5⟩:=fA ai;grind
   have iy:(Op.equal T (.bool a) (.bool b)).calm P:=by
    unfold Op.equal Op.maxDepth;rw [Op.equalIn];exact jZ (dJ T) (run_underlying hT default) trivial
   cases op <;> simp only [Option.some.injEq,reduceCtorEq] at h
   ·exact k_b trivial fun _=>k_b iy fun _=>trivial
   ·exact k_b trivial fun _=>k_b iy fun _=>trivial
  cases h
 ·obtain ⟨us,rfl,hu⟩:=hu
  obtain ⟨vs,rfl,hv⟩:=hv;split at h
  ·rename_i l hl
   split at h
   ·rename_i b hb
    obtain ⟨h1,h2,h3⟩:=tZ hb hu hv;unfold eqT at hl;split at hl
    ·cases hl
    ·rename_i hg
     have hk:eqK P 100 T=some l/\(∀ a,shp P T (.agg a)):=by
      split at hl
      ·exact ⟨hl,fun a=>by unfold shp;grind⟩
      ·exact ⟨hl,fun a=>by unfold shp;grind⟩
      ·cases hl
     have hE:(Op.equal T (.agg us) (.agg vs)).calm P:=aAy 100 9900 T l hk.1 _ _ (hk.2 _) (hk.2 _) (by simpa [Value.cells] using h1) (by simpa [Value.cells] using h2)
     have hG:∀ q,(eqGuard q T xo yo (.agg us) (.agg vs)).calm P:=fun q=>by
      unfold eqGuard
      have:Sem.calm P (do
       if !(<- program).eqGuardType (<- program).depth T then return
       if <- Op.eqGuardIn Op.maxDepth T (.agg us) (.agg vs) then unsupported (.noEntry "binop/eql: two nil values of an interface type with methods, in a part of a struct or an array"):Sem Unit):=by
        refine jZ (s:=program) (a:=P) (w:=default) (w':=default) trivial rfl (jZ (s:=program) (a:=P) (w:=default) (w':=default) trivial rfl ?_);have:P.eqGuardType P.depth T=false:=by simpa using hg
        simp only [this];trivial
      cases q <;> first | exact this | trivial
     cases op <;> simp only [Option.some.injEq,reduceCtorEq] at h
     ·exact k_b (hG _) fun _=>k_b hE fun _=>trivial
     ·exact k_b (hG _) fun _=>k_b hE fun _=>trivial
   ·cases h
  ·cases h
 ·cases h
theorem aDd (op:UnOp) (v:Value):(Op.unary op v).calm P:=by
 unfold Op.unary;split <;> first | trivial | exact EU _ _ _ _ | exact JB _ _ _ _
theorem XK {f:Nat} (h:cT P T x f=some av) (u:Value):(Instr.fieldAt T u f).calm P:=by
 unfold cT at h;split at h
 ·rename_i s z fs ai
  obtain ⟨ff,hT,x9⟩:=EL ai;split at h
  ·rename_i o sz hf
   split at h
   ·cases h
   ·subst x9
    cases ua:ff.toList[f]? with
    | none=>grind
    | some fd =>
     simp [ua] at hf;obtain ⟨rfl,rfl⟩:=hf;have ql:ff[f]? = some fd:=by grind
     unfold Instr.fieldAt;refine jZ (dJ T) (run_underlying hT default) ?_;simp only [ql];refine k_b (jE u) fun a=>k_b ?_ fun _=>trivial
     unfold fieldPlace;refine jZ (uC (pT _) fun _=>trivial) (aS (P:=P) (T:=fd.type) (by assumption) default) ?_
     rename_i bY;rw [if_neg bY];trivial
  ·cases h
 ·cases h
theorem aFr {T':TypeId} (h:rR P T T' x=some av) {e:Env} {w:World} {ks:List Nat} (hu:AV.holds e w ks x u):(convert T T' u).calm P:=by
 unfold rR at h;split at h
 ·rename_i h1 h2
  split at h
  ·obtain ⟨rfl,_⟩:=hu
   unfold convert;refine jZ (dJ T) (run_underlying h1 default) (jZ (dJ T') (run_underlying h2 default) ?_);trivial
  ·cases h
 ·cases h
theorem aAB (ts:Array TypeId) (t:TypeId) (args:Array Value):(Builtin.append_ ts t args).calm P:=by
 unfold Builtin.append_;have hz:∀ (n sz:Nat) (e:TypeId),Sem.calm P (do pure (Builtin.zeroCells (<- zeroValue e).cells n):Sem (Array Value)):=fun n sz e=>k_b (fF e) fun _=>trivial
 have ha:∀ (z:Bool) (sz n:Nat) (x:Value) (e:TypeId),Sem.calm P (if (!z)=true then Builtin.firstCells sz n x else if n*sz=0 then pure #[] else do pure (Builtin.zeroCells (<- zeroValue e).cells n):Sem (Array Value)):=fun z sz n x e=>by
  split
  ·exact rV _ _ _
  ·split
   ·trivial
   ·exact hz n sz e
 split
 ·rename_i sType s x hs
  refine k_b (aX _) fun u=>?_
  split
  ·rename_i elem
   split
   ·rename_i base sLen sCap
    refine k_b (eZ _) fun size=>?_
    extract_lets u1 jp
    have Gv:∀ z,(jp z).calm P:=fun z=>by
     unfold jp;clear jp
     extract_lets j2
     have Ba:∀ n,(j2 n).calm P:=fun n=>by
      unfold j2;clear j2
      extract_lets app need j0 j4 j3
      have ky:app.calm P:=ha _ _ _ _ _
      have Gw:∀ u,(j4 u).calm P:=fun u =>
       k_b (yM _) fun _=>k_b (gJ _) fun _=>k_b (JA _) fun _=>k_b (rV _ _ _) fun _=>k_b ky fun _=>k_b (fF _) fun _=>k_b (qL _ _) fun _=>trivial
      have Gy:∀ u,(j3 u).calm P:=fun u=>by
       unfold j3;refine k_b (gJ _) fun ti=>?_
       split
       ·refine k_b ?_ fun r=>Gw r
        split
        ·exact hZ _
        ·refine Sem.dead_calm _ (Sem.dead_bind _ _ fun b=>?_)
         cases b <;> trivial
       ·exact Gw ()
      split
      ·refine k_b ky fun new=>?_
       split
       ·exact k_b (jX _ _ _) fun _=>trivial
       ·trivial
      ·refine k_b (gJ _) fun ti=>?_
       split
       ·exact k_b (hZ _) fun r=>Gy r
       ·exact Gy ()
     clear_value j2
     split
     ·refine k_b (LG _) fun m=>?_
      extract_lets l j6 j5
      have Gz:∀ u,(j6 u).calm P:=fun u=>k_b (k_p _) fun r=>Ba r
      have GE:∀ u,(j5 u).calm P:=fun u=>by
       unfold j5;refine k_b (gJ _) fun ti=>?_
       split
       ·exact k_b (yM _) fun _=>k_b (hZ _) fun r=>Gz r
       ·exact Gz ()
      split
      ·exact k_b (hZ _) fun r=>GE r
      ·exact GE ()
     ·exact k_b (UZ _) fun _=>Ba _
    clear_value jp
    split
    ·exact k_b (aX _) fun _=>k_b (k_p _) fun _=>Gv _
    ·exact k_b (k_p _) fun _=>Gv _
   ·trivial
  ·trivial
 ·trivial
theorem k_v {s:Sem Value} (h:s.calm P):Sem.calm P (do pure (Next.value (<- s))):=k_b h fun _=>trivial
theorem aAC {v:Value} {k k':IntKind} {a b:Int} (hu:u=.int k a) (hv:v=.int k' b):(Builtin.max2 u v).calm P/\(Builtin.min2 u v).calm P:=by
 subst hu;subst hv;exact ⟨trivial,trivial⟩
theorem aGN (mx:Bool) {args:List AV} (h:AK mx args=some av) {e:Env} {w:World} {ks:List Nat} {vs:Array Value} (hv:AV.all e w ks args vs.toList) (ts:Array TypeId) (T:TypeId) :
  (if mx then Builtin.max_ ts T vs else Builtin.min_ ts T vs).calm P:=by
 unfold AK at h;split at h
 ·match dk:vs.toList,hv with
  | [v1,v2],hv =>
   obtain ⟨⟨rfl,_⟩,⟨rfl,_⟩,_⟩:=hv;cases mx
   ·simp only [Builtin.min_,dk]
    exact k_b (aAC rfl rfl).2 fun _=>trivial
   ·simp only [Builtin.max_,dk]
    exact k_b (aAC rfl rfl).1 fun _=>trivial
  | [],hv=>exact hv.elim
  | [_],hv=>exact hv.2.elim
  | _::_::_::_,hv=>exact hv.2.2.elim
 ·cases h
variable {o:Oper} {a:Act}
theorem vP {st:St} {q:Out} (h:bI P st o.op=some q) {n0:Nat} {w0:World} {e:Env} {w:World} (hr:Rel n0 w0 e st a w):(execOp a.eval o).calm P:=by
 obtain ⟨av,B',V'⟩:=q;unfold bI at h;split at h
 ·rename_i x aa;simp only [execOp,aa];trivial
 ·rename_i x aa;simp only [execOp,aa];trivial
 ·rename_i c x y aa;simp only [execOp,aa];exact k_b (aAt _) fun _=>trivial
 ·rename_i T aa;simp only [execOp,aa];exact k_v (UX _ _ _)
 ·rename_i T x aa;simp only [execOp,aa];exact k_v (aGM _ _)
 ·rename_i T parts aa;simp only [execOp,aa];exact k_v (aC6 _ _)
 ·rename_i T len parts aa;simp only [execOp,aa];exact k_v (rU _ _ _)
 ·rename_i T x aa;simp only [execOp,aa];exact k_v (OS _ _)
 ·rename_i T x y aa;simp only [execOp,aa];exact k_b (qT _ _ _) fun _=>trivial
 ·rename_i op T x y yT aa
  obtain ⟨h1,rfl,rfl⟩:=aU h;simp only [execOp,aa];exact k_v (aDc h1 (hr.ev x).1 (hr.ev y).1 x y)
 ·rename_i op T x aa;simp only [execOp,aa];exact k_v (aDd _ _)
 ·rename_i T x f aa
  obtain ⟨h1,rfl,rfl⟩:=aU h;simp only [execOp,aa];exact k_v (XK h1 _)
 ·rename_i T x i aa;simp only [execOp,aa];exact k_v (XJ _ _ _)
 ·rename_i T x i aa;simp only [execOp,aa];exact k_v (UY _ _ _)
 ·rename_i x i aa;simp only [execOp,aa];exact k_v (IZ _ _)
 ·rename_i T T' x aa
  obtain ⟨h1,rfl,rfl⟩:=aU h;simp only [execOp,aa];exact k_v (aFr h1 (hr.ev x).1)
 ·rename_i T x f aa;simp only [execOp,aa];exact k_v (aC8 _ _ _)
 ·rename_i x aa
  obtain ⟨h1,rfl,rfl⟩:=aU h;obtain ⟨p,hp,iy⟩:=ES h1 (hr.ev x).1;simp only [execOp,aa,hp];trivial
 ·rename_i f first caps aa;simp only [execOp,aa];exact k_v trivial
 ·rename_i T x lo hi aa;simp only [execOp,aa];exact k_v (qU _ _ _ _ _)
 ·rename_i T x k1 k2 aa;simp only [execOp,aa];exact k_v (qU _ _ _ _ _)
 ·rename_i T x lo p q aa;simp only [execOp,aa];exact k_v (qU _ _ _ _ _)
 ·rename_i args argTypes aa;simp only [execOp,aa];exact k_v (aER _ _ _)
 ·rename_i args argTypes aa;simp only [execOp,aa];exact k_v (aAB _ _ _)
 ·rename_i args argTypes aa
  obtain ⟨h1,rfl,rfl⟩:=aU h;have b8:=hr.evs args.toList;simp only [execOp,aa];exact k_v (aGN true h1 (vs:=args.map a.eval) (by simpa using b8.1) argTypes o.type)
 ·rename_i args argTypes aa
  obtain ⟨h1,rfl,rfl⟩:=aU h;have b8:=hr.evs args.toList;simp only [execOp,aa];exact k_v (aGN false h1 (vs:=args.map a.eval) (by simpa using b8.1) argTypes o.type)
 ·cases h
def Ent (P:Program) (f:FuncId):Prop:=∀ as:Array Value,(∀ w,(callFunc f as).run P w=.ok (.enter f as) w)/\(callFunc f as).calm P
variable {args:Array Operand} {ts:Array TypeId} {first cvs:Array Value}
theorem VA {x:Operand} {f:FuncId} (aa:o.op=.call { callee:=.value x,args,argTypes:=ts })
  (hx:a.eval x=.func (.func f) first cvs) (da:Ent P f):(execOp a.eval o).calm P:=by
 simp only [execOp,aa,resolve,hx,Deferred.ofValue];exact (da ((first++args.map a.eval)++cvs)).2
variable {K:Act->World->Prop}
theorem jF {F:Fence} {n:Nat} [C:Co P] {w:World} (hd:∀ c,o.op≠.defer c) (hc:(execOp a.eval o).calm P)
  (h:∀ w₁,Rely w w₁->∃ r v w',(execOp a.eval o).run P w₁=.ok r w'/\(r=.value v\/(r=.skip/\v=undef))/\K (a.put o.dst v) w'):o.wpCo F n P a w K:=by
 have hs:o.semAt F.round a.eval=execOp a.eval o:=Oper.semAt_plain F _ _ hd;refine .inl ⟨by rw [hs];exact hc,fun w₁ hw=>?_⟩
 obtain ⟨r,v,w',h1,h2,h3⟩:=h w₁ hw;rw [hs];rcases h2 with rfl | ⟨rfl,rfl⟩
 ·exact ⟨_,w',h1,h3⟩
 ·exact ⟨_,w',h1,h3⟩
theorem yV {F:Fence} {n:Nat} [C:Co P] {w:World} {x:Operand} {f:FuncId} (aa:o.op=.call { callee:=.value x,args,argTypes:=ts })
  (hx:a.eval x=.func (.func f) first cvs) (da:Ent P f) (h:∀ w₁,Rely w w₁->CallsCo F.plain (n - 1) P f (first++args.map a.eval++cvs) w₁ fun en w''=>∃ v,en=.returned v/\K (a.put o.dst v) w''):o.wpCo F n P a w K:=by
 have hs:o.semAt F.round a.eval=execOp a.eval o:=Oper.semAt_plain F _ _ (by rw [aa];intro c hc;cases hc)
 refine .inl ⟨by rw [hs];exact VA aa hx da,fun w₁ hw=>?_⟩
 rw [hs];refine ⟨.enter f (first++args.map a.eval++cvs),w₁,?_,CallsCo.anyRound (F:=F) (n:=n) (F':=F.plain) (n':=n - 1) (h w₁ hw)⟩
 have:=(da (first++args.map a.eval++cvs)).1 w₁
 simp only [execOp,aa,resolve,hx,Deferred.ofValue];exact this
theorem Rel.rely {n0:Nat} {w0:World} {e:Env} {st:St} {w w₁:World} (h:Rel n0 w0 e st a w) (hw:Rely w w₁):Rel n0 w0 e st a w₁/\cL e st w e st.B st.V w₁:=by
 have hx:cL e st w e st.B st.V w₁:=yO (fun b hb=>hw.block b (h.mem.ro b hb)) hw.size
 exact ⟨⟨AV.all.mono hx _ _ h.sc h.tm,h.sc,h.mem.keep (fun b hb=>hw.block b hb) hw.size (h.mem.below.trans (hw.mono h.mem.nbase))⟩,hx⟩
end
structure Free (F:Fence):Prop where
 fn:∀ f,F.fn f
 depth:F.depth=none
 alive:F.alive=false
theorem XL:Free Fence.wide:=⟨fun _=>trivial,rfl,rfl⟩
theorem Free.inRound {F:Fence} (h:Free F) (l:Nat):Free (F.inRound l):=⟨h.fn,h.depth,h.alive⟩
theorem Free.plain {F:Fence} (h:Free F):Free F.plain:=⟨h.fn,h.depth,h.alive⟩
section
variable {F:Fence} {n:Nat} {P:Program} [C:Co P] {ops:Array Oper}
def cE (F:Fence) (n:Nat) (P:Program) [Co P] (ops:Array Oper) (l:List Oper) (st:St) (Q:St->Prop):Prop:=
 ∀ n0 w0 e a w (Qr:Exit->Act->World->Prop),Rel n0 w0 e st a w ->
  (∀ e' st' a' w',Q st'->Rel n0 w0 e' st' a' w'->a'.defers=a.defers->cL e st w e' st'.B st'.V w'->Qr .normal a' w')->bP F n P ops Qr l a w
def OT (F:Fence) (n:Nat) (P:Program) [Co P] (ops:Array Oper) (o:Oper) (rest:List Oper) (st:St) (Q:St->Prop):Prop:=
 ∀ n0 w0 e a w (Qr:Exit->Act->World->Prop),Rel n0 w0 e st a w ->
  (∀ e' st' a' w',Q st'->Rel n0 w0 e' st' a' w'->a'.defers=a.defers->cL e st w e' st'.B st'.V w'->Qr .normal a' w')->o.wpCo F n P a w (bP F n P ops Qr rest)
variable {st:St}
theorem aN {Q:St->Prop} (h:Q st):cE F n P ops [] st Q:=
 fun _ _ e a w _ hr hk=>LJ (hk e st a w h hr rfl (Ext.refl _ _ _ _ _))
variable {a:Act}
theorem Rel.slot {n0:Nat} {w0:World} {e:Env} {w:World} (h:Rel n0 w0 e st a w) {d:Nat} {c:Bool} (hd:st.t[d]? = some (.cv (.val (.bool c)))):a.tmps[d]? = some (.bool c):=by
 obtain ⟨v,h1,h2⟩:=h.tm.get hd;grind [AV.holds,CV.holds]
def CallP (P:Program) [Co P] (f:FuncId) (args:List AV) (B:List Box) (V:List Vec) (K:AV->List Box->List Vec->Prop):Prop:=
 ∀ (F:Fence) (n:Nat),Free F->F.round=none->∀ n0 w0 e w (vs:Array Value),Mem n0 w0 e B V w->AV.all e w (kss V) args vs.toList->AV.scos B.length (vers V) args ->
  CallsCo F n P f vs w fun en w'=>∃ e' B' V' r v,en=.returned v/\K r B' V'/\Mem n0 w0 e' B' V' w'/\Ext e w B.length (vers V) (kss V) e' w' B'.length (vers V') (kss V') /\
   AV.holds e' w' (kss V') r v/\AV.sco B'.length (vers V') r
theorem CallP.mono {f:FuncId} {args:List AV} {B:List Box} {V:List Vec} {K K':AV->List Box->List Vec->Prop} (h:CallP P f args B V K) (hk:∀ r B V,K r B V->K' r B V):CallP P f args B V K':=
 fun F n h1 h2 n0 w0 e w vs h3 h4 h5=>CallsCo.mono (h F n h1 h2 n0 w0 e w vs h3 h4 h5) fun _ _ ⟨e',B',V',r,v,a1,a2,a3⟩=>⟨e',B',V',r,v,a1,hk _ _ _ a2,a3⟩
def dA:AV->Option (FuncId×List AV)
 | .cv (.fn f caps)=>some (f,caps.map .cv)
 | .fn f caps=>if pQ caps=true then none else some (f,caps)
 | _=>none
theorem qV (hF:Free F) {o:Oper} {rest:List Oper} {Q:St->Prop} {x:Operand} {args:Array Operand} {ts:Array TypeId} {f:FuncId} {caps:List AV}
  (aa:o.op=.call { callee:=.value x,args,argTypes:=ts }) (hx:dA (st.ev x)=some (f,caps))
  (da:Ent P f)
  (h:CallP P f (args.toList.map st.ev++caps) st.B st.V fun r B' V'=>cE F n P ops rest (st.put o.dst r B' V') Q):OT F n P ops o rest st Q:=by
 intro n0 w0 e a w Qr hr hk;have cr:=hr.ev x
 obtain ⟨cvs,hf,i9,bc⟩:∃ cvs:Array Value,a.eval x=.func (.func f) #[] cvs/\AV.all e w (kss st.V) caps cvs.toList/\AV.scos st.B.length (vers st.V) caps:=by
  unfold dA at hx;split at hx
  ·rename_i g cs hg
   obtain ⟨rfl,rfl⟩:=hx;rw [hg] at cr;obtain ⟨⟨vs,h1,h2⟩,_⟩:=cr;exact ⟨vs,h1,AV.all.of_vals h2,AV.scos_cv _ _ _⟩
  ·rename_i g cs hg
   split at hx
   ·cases hx
   ·rename_i ia
    obtain ⟨rfl,rfl⟩:=hx;rw [hg] at cr;obtain ⟨⟨vs,h1,h2⟩,h3⟩:=cr;rw [eq_false_of_ne_true ia] at h1;exact ⟨vs,h1,h2,h3⟩
  grind
 have b8:=hr.evs args.toList;have ft:o.semAt F.round a.eval=execOp a.eval o:=Oper.semAt_plain F _ _ (by grind)
 refine .inl ⟨by rw [ft];exact VA aa hf da,fun w₁ hw₁=>?_⟩
 obtain ⟨cf,ar⟩:=hr.rely hw₁
 have ag:(execOp a.eval o).run P w₁=.ok (.enter f (args.map a.eval++cvs)) w₁:=by
  have:=fun as=>(da as).1
  grind [execOp,resolve,Deferred.ofValue,invoke]
 rw [ft];refine ⟨_,w₁,ag,?_⟩;have Cn:=cf.evs args.toList
 refine CallsCo.anyRound (F:=F) (n:=n) (F':=F.plain) (n':=n - 1) (CallsCo.mono (h F.plain (n - 1) hF.plain rfl n0 w0 e w₁ (args.map a.eval++cvs) cf.mem (by simpa using Cn.1.append (AV.all.mono ar _ _ bc i9)) (by
  grind [AV.scos_iff])) ?_)
 rintro en w' ⟨e',B',V',r,v,rfl,hK,hm,mq,kz,dj⟩;have ba:=cf.put hm mq kz dj o.dst;exact ⟨v,rfl,hK n0 w0 e' _ w' Qr ba fun e'' st' a' w'' hq af bq hx=>hk e'' st' a' w'' hq af (by rw [bq];cases o.dst <;> rfl) (ar.trans (mq.trans hx))⟩
def W (F:Fence) (n:Nat) (P:Program) [Co P] (c:Code) (st:St) (Q:Exit->St->Prop):Prop:=
 ∀ n0 w0 e a w (Qr:Exit->Act->World->Prop),Rel n0 w0 e st a w ->
  (∀ x e' st' a' w',Q x st'->Rel n0 w0 e' st' a' w'->a'.defers=a.defers->cL e st w e' st'.B st'.V w'->Qr x a' w')->c.wpCo F n P Qr a w
variable {Q:Exit->St->Prop}
theorem aV {id:Nat} (h:cE F n P ops ops.toList st (Q .normal)):W F n P (.region id ops false) st Q:=
 fun n0 w0 e a w Qr hr hk=>lD (h n0 w0 e a w Qr hr fun e' st' a' w' hq af bq hx=>hk .normal e' st' a' w' hq af bq hx)
theorem dG {x y:Code} (h:W F n P x st fun ex st'=>match ex with | .normal=>W F n P y st' Q | ex=>Q ex st'):W F n P (.seq x y) st Q:=by
 intro n0 w0 e a w Qr hr hk;refine tW (h n0 w0 e a w _ hr ?_);intro ex e' st' a' w' hq af bq hx;cases ex with
 | normal=>exact hq n0 w0 e' a' w' Qr af fun x e'' st'' a'' w'' nk de Cp ap=>hk x e'' st'' a'' w'' nk de (Cp.trans bq) (hx.trans ap)
 | _=>exact hk _ e' st' a' w' hq af bq hx
theorem mF {st:St} {Q:Exit->St->Prop} (h:Q .normal st):W F n P .skip st Q:=
 fun _ _ e a w _ hr hk=>XH (hk _ e st a w h hr rfl (Ext.refl _ _ _ _ _))
theorem aDe {l:Nat} (h:Q .normal st):W F n P (.label l) st Q:=
 fun _ _ e a w _ hr hk=>RN (hk _ e st a w h hr rfl (Ext.refl _ _ _ _ _))
theorem yW {st:St} {Q:Exit->St->Prop} (h:Q .ret st):W F n P .ret st Q:=
 fun _ _ e a w _ hr hk=>OB (hk _ e st a w h hr rfl (Ext.refl _ _ _ _ _))
theorem EW {id:Nat} {st:St} {Q:Exit->St->Prop} (h:Q (.exit id) st):W F n P (.exit id) st Q:=
 fun _ _ e a w _ hr hk=>IV (hk _ e st a w h hr rfl (Ext.refl _ _ _ _ _))
theorem mG {c:Operand} {x y:Code} {b:Bool} (hc:st.ev c=.cv (.val (.bool b))) (ht:b=true->W F n P x st Q) (hf:b=false->W F n P y st Q):W F n P (.cond c x y) st Q:=by
 intro n0 w0 e a w Qr hr hk;have h1:=(hr.ev c).1;rw [hc] at h1;exact mE h1.1 (fun hb=>ht hb n0 w0 e a w Qr hr hk) (fun hb=>hf hb n0 w0 e a w Qr hr hk)
theorem oW {id:Nat} {c:Code} (h:W F n P c st fun ex st'=>match ex with | .exit i=>if i=id then Q .normal st' else Q (.exit i) st' | ex=>Q ex st'):W F n P (.block id c) st Q:=by
 intro n0 w0 e a w Qr hr hk;refine xE (h n0 w0 e a w _ hr ?_);grind [Exit.inBlock]
def AV.le (x y:AV):Prop:=∀ e w ks v,AV.holds e w ks x v->AV.holds e w ks y v
theorem AV.le_refl (x:AV):AV.le x x:=fun _ _ _ _ h=>h
theorem AV.le_any (x:AV):AV.le x .any:=fun _ _ _ _ _=>by simp [AV.holds]
inductive AV.les:List AV->List AV->Prop
 | nil:AV.les [] []
 | cons {x y xs ys}:AV.le x y->AV.les xs ys->AV.les (x::xs) (y::ys)
theorem AV.les_refl:∀ (xs:List AV),AV.les xs xs
 | []=>.nil
 | x::xs=>.cons (AV.le_refl x) (AV.les_refl xs)
theorem AV.les.all {e:Env} {w:World} {ks:List Nat}:∀ {xs ys:List AV},AV.les xs ys->∀ {vs:List Value},AV.all e w ks xs vs->AV.all e w ks ys vs
 | _,_,.nil,[],h=>h
 | _,_,.cons h hs,v::vs,ha=>by
  exact ⟨h _ _ _ _ ha.1,hs.all ha.2⟩
 | _,_,.cons _ _,[],ha=>by grind [AV.all]
structure Weak (s s1:St):Prop where
 t:AV.les s.t s1.t
 B:∀ (i:Nat) (b1:Box),s1.B[i]? = some b1->∃ b,s.B[i]? = some b/\(b1.live=true->b.live=true/\b1.T=b.T/\AV.les b.cs b1.cs)
 V:∀ (i:Nat) (v1:Vec),s1.V[i]? = some v1->∃ v,s.V[i]? = some v/\v1.ver=v.ver/\v1.k=v.k/\(v1.live=true\/v1.T=ghT->v1=v)
 sct:AV.scos s1.B.length (vers s1.V) s1.t
 scB:∀ (i:Nat) (b1:Box),s1.B[i]? = some b1->AV.scos s1.B.length (vers s1.V) b1.cs
variable {s s1:St}
theorem Weak.ver (h:Weak s s1):∀ i,i<s1.V.length->(vers s1.V).getD i 0=(vers s.V).getD i 0/\(kss s1.V).getD i 0=(kss s.V).getD i 0:=by
 intro i hi;obtain ⟨v,hv,h1,h2,_⟩:=h.V i s1.V[i] (by simp)
 grind
theorem Rel.weak {n0:Nat} {w0:World} {e:Env} {w:World} (h:Rel n0 w0 e s a w) (hw:Weak s s1):Rel n0 w0 e s1 a w:=by
 have hx:Ext e w s1.B.length (vers s1.V) (kss s.V) e w s1.B.length (vers s1.V) (kss s1.V):=
  ⟨RO.refl _ _,fun _ _=>rfl,fun _ _ _ _=>rfl,Nat.le_refl _,Nat.le_refl _,fun _ _=>Nat.le_refl _,fun i hi=>(hw.ver i (by grind)).2,Nat.le_refl _,fun _ h=>.inl h,rfl,fun _=>rfl,rfl⟩
 refine ⟨AV.all.mono hx _ _ hw.sct (hw.t.all h.tm),hw.sct,⟨?_,hw.scB,?_,?_,?_,?_,?_,?_,h.mem.ro,h.mem.below,h.mem.base,h.mem.bl,h.mem.hid.of rfl ⟨rfl,rfl⟩ (fun _ h=>.inl h) (fun i v1 cx hT=>by obtain ⟨v,hv,_,_,k9⟩:=hw.V i v1 cx;grind) (fun _ _ _=>rfl) (fun i b1 co hl=>?_) (fun i v1 g cx hl hg=>?_)⟩⟩
 rotate_left 7
 ·obtain ⟨b,hb,sk⟩:=hw.B i b1 co
  grind
 ·obtain ⟨v,hv,_,_,k9⟩:=hw.V i v1 cx
  grind
 ·intro i b1 co hl
  obtain ⟨b,hb,sk⟩:=hw.B i b1 co;obtain ⟨bo,hT,bt⟩:=sk hl;obtain ⟨vs,a1,a2⟩:=h.mem.box i b hb bo;exact ⟨vs,by grind,AV.all.mono hx _ _ (hw.scB i b1 co) (bt.all a2)⟩
 ·intro i b1 co hl
  obtain ⟨b,hb,sk⟩:=hw.B i b1 co;exact h.mem.boxlo i b hb (sk hl).1
 ·intro i j b1 c1 co um hl gl iy
  obtain ⟨b,hb,sk⟩:=hw.B i b1 co;obtain ⟨c,hc,l4⟩:=hw.B j c1 um;exact h.mem.boxinj i j b c hb hc (sk hl).1 (l4 gl).1 iy
 ·intro i v1 cx hl
  obtain ⟨v,hv,_,_,k9⟩:=hw.V i v1 cx;obtain rfl:=k9 (.inl hl);exact h.mem.vec i v1 hv hl
 ·intro i v1 g cx hl hg
  obtain ⟨v,hv,_,_,k9⟩:=hw.V i v1 cx;obtain rfl:=k9 (.inl hl);exact h.mem.vecS i v1 g hv hl hg
 ·intro i v1 j b1 g cx hl co bo hg
  obtain ⟨v,hv,_,_,k9⟩:=hw.V i v1 cx;obtain rfl:=k9 (.inl hl);obtain ⟨b,hb,sk⟩:=hw.B j b1 co;exact h.mem.vecbox i v1 j b g hv hl hb (sk bo).1 hg
 ·intro i v1 j u1 g cx hl A4 gl hg eg
  obtain ⟨v,hv,_,_,k9⟩:=hw.V i v1 cx;obtain rfl:=k9 (.inl hl);obtain ⟨u,hu,_,_,Ix⟩:=hw.V j u1 A4;obtain rfl:=Ix (.inl gl);exact h.mem.vecinj i v1 j u1 g hv hl hu gl hg eg
theorem Ext.weak {e e':Env} {w w':World} {nB:Nat} {vs ks:List Nat} (h:Ext e w nB vs ks e' w' s.B.length (vers s.V) (kss s.V)) (hw:Weak s s1) (hB:nB<=s1.B.length) (hV:vs.length<=s1.V.length) :
  Ext e w nB vs ks e' w' s1.B.length (vers s1.V) (kss s1.V):=
 ⟨h.ro,h.ρ,h.hdr,hB,by grind,fun i hi=>by rw [(hw.ver i (by omega)).1];exact h.verle i hi,fun i hi=>by rw [(hw.ver i (by omega)).2];exact h.kseq i hi,h.sz,h.snew,h.be,h.he,h.ye⟩
theorem exists_least {p:Nat->Prop} (h:∃ m,p m):∃ m,p m/\∀ k,p k->m<=k:=by
 obtain ⟨m,hm⟩:=h
 induction m using Nat.strongRecOn with
 | _ m ih =>
  grind
def xJ (P:Program) (st:St):ResultVar->Option AV
 | .tmp t=>some (st.t.getD t .any)
 | .cell t T=>fW P st T (st.t.getD t .any)
def mH (P:Program) (st:St):List ResultVar->Option (List AV)
 | []=>some []
 | r::rs=>match xJ P st r,mH P st rs with
  | some x,some xs=>some (x::xs)
  | _,_=>none
def nM (P:Program) (st:St) (rs:List ResultVar):Option AV:=
 match mH P st rs with
 | some [x]=>some x
 | some xs=>some (.tup xs)
 | none=>none
theorem aAD {n0:Nat} {w0:World} {e:Env} {w:World} (h:Rel n0 w0 e st a w) (t:Nat):AV.holds e w (kss st.V) (st.t.getD t .any) (a.tmps.getD t undef)/\AV.sco st.B.length (vers st.V) (st.t.getD t .any):=
 h.ev (.tmp t)
def RU (tmps:Array Value) (r:ResultVar):Sem Value:=
 match r with
 | .tmp t=>pure (tmps.getD t undef)
 | .cell p t=>do loadVar t (<- asAddr (tmps.getD p undef))
theorem RV (fn:Func) (tmps:Array Value):results fn tmps=(do
  let vs <- fn.results.mapM (RU tmps)
  pure (if h:vs.size=1 then vs[0] else .tuple vs)):=rfl
theorem yX {n0:Nat} {w0:World} {e:Env} {st:St} {a:Act} {w:World} (h:Rel n0 w0 e st a w):∀ (rs:List ResultVar) (xs:List AV),mH P st rs=some xs ->
  ∃ vs:List Value,(rs.mapM (RU a.tmps)).run P w=.ok vs w/\AV.all e w (kss st.V) xs vs/\AV.scos st.B.length (vers st.V) xs
 | [],xs,hx=>by simp_all [mH,AV.all,AV.scos]
 | r::rs,xs,hx=>by
  simp [mH] at hx;split at hx
  ·rename_i y ys hy ms
   injection hx with hx;subst hx
   obtain ⟨vs,h1,h2,h3⟩:=yX h rs ys ms
   have dq:∃ v,(RU a.tmps r).run P w=.ok v w/\AV.holds e w (kss st.V) y v/\AV.sco st.B.length (vers st.V) y:=by
    cases r with
    | tmp t =>
     simp [xJ] at hy;subst hy;exact ⟨_,rfl,(aAD h t).1,(aAD h t).2⟩
    | cell p t =>
     obtain ⟨v,a1,a2,a3⟩:=rQ hy h (aAD h p).1;refine ⟨v,?_,a2,a3⟩
     have:∃ ad,a.tmps.getD p undef=.pointer (some ad):=by
      cases hp:a.tmps.getD p undef with
      | pointer o =>
       cases o with
       | some ad=>simp
       | none=>simp_all [Instr.loadAt,Instr.sureAddr]
      | _=>rw [hp] at a1;simp [Instr.loadAt,Instr.sureAddr] at a1
     show (do loadVar t (<- asAddr (a.tmps.getD p undef)):Sem Value).run P w=_
     grind [Instr.loadAt,Instr.sureAddr,asAddr]
   obtain ⟨v,b1,b2,b3⟩:=dq;simp_all [AV.all,AV.scos]
  grind
theorem uE {fn:Func} {n0:Nat} {w0:World} {e:Env} {w:World} (h:Rel n0 w0 e st a w) {r:AV} (hr:nM P st fn.results.toList=some r) :
  ∃ v,(results fn a.tmps).run P w=.ok v w/\AV.holds e w (kss st.V) r v/\AV.sco st.B.length (vers st.V) r:=by
 unfold nM at hr;cases hx:mH P st fn.results.toList with
 | none=>grind
 | some xs =>
  obtain ⟨vs,h1,h2,h3⟩:=yX h _ xs hx
  have ag:(results fn a.tmps).run P w=.ok (if h:vs.length=1 then vs[0] else .tuple vs.toArray) w:=by
   simp_all [RV,Array.mapM_eq_mapM_toList]
  refine ⟨_,ag,?_⟩;have hl:=h2.length;rw [hx] at hr
  match xs,vs,hl,h2,h3,hr with
  | [x],[v],_,h2,h3,hr =>
   grind [AV.all,AV.scos]
  | [],[],_,h2,h3,hr =>
   grind [AV.holds,AV.sco]
  | x::y::xs,v::u::vs,_,h2,h3,hr =>
   grind [AV.holds,AV.sco]
end
section
variable {F:Fence} {n:Nat} {P:Program} [C:Co P] {ops:Array Oper}
end
section
variable {F:Fence} {n:Nat} {P:Program} [C:Co P]
theorem put_defers (a:Act) (d:Option Nat) (v:Value):(a.put d v).defers=a.defers:=by cases d <;> rfl
end
mutual
def AV.shift (k:Nat):AV->AV
 | .any=>.any
 | .cv c=>.cv c
 | .ptr i o=>.ptr i o
 | .own i u=>.own (k+i) u
 | .opt i u el o=>.opt (k+i) u el o
 | .agg cs=>.agg (AV.shifts k cs)
 | .tup cs=>.tup (AV.shifts k cs)
 | .fn f cs=>.fn f (AV.shifts k cs)
 | .gd L x=>.gd L (AV.shift k x)
def AV.shifts (k:Nat):List AV->List AV
 | []=>[]
 | x::xs=>AV.shift k x::AV.shifts k xs
end
theorem CE (k:Nat) (xs:List AV):pQ (AV.shifts k xs)=pQ xs:=by
 match xs with
 | []=>rfl
 | .gd L x::r =>
  match L,x with
  | [],_=>rfl
  | true::_,_=>rfl
  | false::_::_,_=>rfl
  | [false],.any=>rfl
  | [false],.cv _=>rfl
  | [false],.ptr _ _=>rfl
  | [false],.own _ _=>rfl
  | [false],.opt _ _ _ _=>rfl
  | [false],.agg _=>rfl
  | [false],.tup _=>rfl
  | [false],.fn _ _=>rfl
  | [false],.gd _ _=>rfl
 | .any::_=>rfl
 | .cv _::_=>rfl
 | .ptr _ _::_=>rfl
 | .own _ _::_=>rfl
 | .opt _ _ _ _::_=>rfl
 | .agg _::_=>rfl
 | .tup _::_=>rfl
 | .fn _ _::_=>rfl
theorem VB (cs:List CV):pQ (cs.map .cv)=false:=by cases cs <;> rfl
def CV.flat:CV->Bool
 | .val _=>true
 | _=>false
mutual
def AV.flat:AV->Bool
 | .any=>true
 | .cv c=>c.flat
 | .ptr _ _=>true
 | .own _ _=>true
 | .opt _ _ _ _=>true
 | .agg cs=>AV.flats cs
 | .tup cs=>AV.flats cs
 | .fn _ cs=>AV.flats cs
 | .gd _ x=>AV.flat x
def AV.flats:List AV->Bool
 | []=>true
 | x::xs=>AV.flat x&&AV.flats xs
end
def Vec.flat (v:Vec):Bool:=v.es.all fun l=>l.all CV.flat
theorem CV.flat_holds {w w':World} {S S':Nat->Prop} {c:CV} {v:Value} (hf:c.flat=true) (h:CV.holds w S c v):CV.holds w' S' c v:=by
 cases c <;> simp [CV.flat] at hf;grind [CV.holds]
theorem CV.flat_vals {w w':World} {S S':Nat->Prop}:∀ {cs:List CV} {vs:List Value},cs.all CV.flat=true->CV.vals w S cs vs->CV.vals w' S' cs vs
 | [],[],_,_=>by simp [CV.vals]
 | c::cs,v::vs,hf,h=>by
  simp only [List.all_cons,Bool.and_eq_true] at hf;exact ⟨CV.flat_holds hf.1 h.1,CV.flat_vals hf.2 h.2⟩
 | [],_::_,_,h=>by grind [CV.vals]
 | _::_,[],_,h=>by grind [CV.vals]
section
variable {e e1:Env} {w:World} {k nB:Nat} {ks ks1 vs1:List Nat}
mutual
theorem AV.shift_holds (hS:∀ b,e1.S b->e.S b) (hh:∀ i u,i<vs1.length->e.hdr (k+i) u=e1.hdr i u) (hk:∀ i,i<vs1.length->ks.getD (k+i) 0=ks1.getD i 0) :
  ∀ (x:AV) (v:Value),AV.sco 0 vs1 x->AV.holds e1 w ks1 x v->AV.holds e w ks (AV.shift k x) v
 | .any,_,_,_=>by simp [AV.shift,AV.holds]
 | .cv c,v,_,h=>by exact CV.holds.mono ⟨hS,fun _ _=>rfl⟩ c v h
 | .ptr i o,v,hs,h=>by grind [AV.sco]
 | .own i u,v,hs,h=>by grind [AV.shift,AV.holds,AV.sco]
 | .opt i u el o,v,hs,h=>by grind [AV.shift,AV.holds,AV.sco]
 | .agg cs,v,hs,h=>by
  obtain ⟨us,h1,h2⟩:=h;exact ⟨us,h1,AV.shifts_holds hS hh hk cs _ hs h2⟩
 | .tup cs,v,hs,h=>by
  obtain ⟨us,h1,h2⟩:=h;exact ⟨us,h1,AV.shifts_holds hS hh hk cs _ hs h2⟩
 | .fn f cs,v,hs,h=>by
  obtain ⟨us,h1,h2⟩:=h;exact ⟨us,by grind [CE],AV.shifts_holds hS hh hk cs _ hs h2⟩
 | .gd L x,v,hs,h=>by
  exact ⟨fun hl=>AV.shift_holds hS hh hk x v hs (h.1 hl),h.2⟩
theorem AV.shifts_holds (hS:∀ b,e1.S b->e.S b) (hh:∀ i u,i<vs1.length->e.hdr (k+i) u=e1.hdr i u) (hk:∀ i,i<vs1.length->ks.getD (k+i) 0=ks1.getD i 0) :
  ∀ (xs:List AV) (us:List Value),AV.scos 0 vs1 xs->AV.all e1 w ks1 xs us->AV.all e w ks (AV.shifts k xs) us
 | [],[],_,_=>by simp [AV.shifts,AV.all]
 | x::xs,u::us,hs,h=>by
  exact ⟨AV.shift_holds hS hh hk x u hs.1 h.1,AV.shifts_holds hS hh hk xs us hs.2 h.2⟩
 | [],_::_,_,h=>by grind [AV.all]
 | _::_,[],_,h=>by grind [AV.all]
end
mutual
theorem AV.shift_flat (hh:∀ i u,i<vs1.length->e.hdr (k+i) u=e1.hdr i u) (hk:∀ i,i<vs1.length->ks.getD (k+i) 0=ks1.getD i 0) :
  ∀ (x:AV) (v:Value),AV.flat x=true->AV.sco 0 vs1 x->AV.holds e1 w ks1 x v->AV.holds e w ks (AV.shift k x) v
 | .any,_,_,_,_=>by simp [AV.shift,AV.holds]
 | .cv c,v,hf,_,h=>by exact CV.flat_holds hf h
 | .ptr i o,v,_,hs,h=>by grind [AV.sco]
 | .own i u,v,_,hs,h=>by grind [AV.shift,AV.holds,AV.sco]
 | .opt i u el o,v,_,hs,h=>by grind [AV.shift,AV.holds,AV.sco]
 | .agg cs,v,hf,hs,h=>by
  obtain ⟨us,h1,h2⟩:=h;exact ⟨us,h1,AV.shifts_flat hh hk cs _ hf hs h2⟩
 | .tup cs,v,hf,hs,h=>by
  obtain ⟨us,h1,h2⟩:=h;exact ⟨us,h1,AV.shifts_flat hh hk cs _ hf hs h2⟩
 | .fn f cs,v,hf,hs,h=>by
  obtain ⟨us,h1,h2⟩:=h;exact ⟨us,by grind [CE],AV.shifts_flat hh hk cs _ hf hs h2⟩
 | .gd L x,v,hf,hs,h=>by
  exact ⟨fun hl=>AV.shift_flat hh hk x v hf hs (h.1 hl),h.2⟩
theorem AV.shifts_flat (hh:∀ i u,i<vs1.length->e.hdr (k+i) u=e1.hdr i u) (hk:∀ i,i<vs1.length->ks.getD (k+i) 0=ks1.getD i 0) :
  ∀ (xs:List AV) (us:List Value),AV.flats xs=true->AV.scos 0 vs1 xs->AV.all e1 w ks1 xs us->AV.all e w ks (AV.shifts k xs) us
 | [],[],_,_,_=>by simp [AV.shifts,AV.all]
 | x::xs,u::us,hf,hs,h=>by
  simp [AV.flats] at hf hs h ⊢;exact ⟨AV.shift_flat hh hk x u hf.1 hs.1 h.1,AV.shifts_flat hh hk xs us hf.2 hs.2 h.2⟩
 | [],_::_,_,_,h=>by grind [AV.all]
 | _::_,[],_,_,h=>by grind [AV.all]
end
mutual
theorem AV.shift_scoped (hV:k+vs1.length<=ks.length) (bt:∀ i,i<vs1.length->vs1.getD i 0<=ks.getD (k+i) 0):∀ (x:AV),AV.sco 0 vs1 x->AV.sco nB ks (AV.shift k x)
 | .any,_=>by simp [AV.shift,AV.sco]
 | .cv c,_=>by simp [AV.shift,AV.sco]
 | .ptr i o,hs=>by grind [AV.sco]
 | .own i u,hs=>by grind [AV.shift,AV.sco]
 | .opt i u el o,hs=>by grind [AV.shift,AV.sco]
 | .agg cs,hs=>by exact AV.shifts_scoped hV bt cs hs
 | .tup cs,hs=>by exact AV.shifts_scoped hV bt cs hs
 | .fn f cs,hs=>by exact AV.shifts_scoped hV bt cs hs
 | .gd L x,hs=>by exact AV.shift_scoped hV bt x hs
theorem AV.shifts_scoped (hV:k+vs1.length<=ks.length) (bt:∀ i,i<vs1.length->vs1.getD i 0<=ks.getD (k+i) 0):∀ (xs:List AV),AV.scos 0 vs1 xs->AV.scos nB ks (AV.shifts k xs)
 | [],_=>by simp [AV.shifts,AV.scos]
 | x::xs,hs=>by
  exact ⟨AV.shift_scoped hV bt x hs.1,AV.shifts_scoped hV bt xs hs.2⟩
end
end
section
variable {P:Program} [C:Co P]
theorem Mem.beside {n0:Nat} {w0:World} {e:Env} {B:List Box} {V:List Vec} {w w':World} (h:Mem n0 w0 e B V w) {e1:Env} {V0:List Vec} (h1:Mem w.heap.size w e1 [] V0 w') (kx:e1.y=false)
  (S':Nat->Prop) (Cq:∀ b,e.S b->S' b) (yg:∀ b,S' b->e.S b\/(w.heap.size<=b/\b<w'.heap.size/\e1.S b))
  (hv:∀ (i:Nat) (x:Vec),V0[i]? = some x->x.live=true->∀ xs,CV.vals w' e1.S x.es.flatten xs->CV.vals w' S' x.es.flatten xs) :
  ∃ e',(e'.ρ=e.ρ/\e'.H=e.H)/\e'.S=S'/\(∀ i u,i<V.length->e'.hdr i u=e.hdr i u)/\(∀ i u,e'.hdr (V.length+i) u=e1.hdr i u) /\
   Mem n0 w0 e' B (V++V0) w'/\Ext e w B.length (vers V) (kss V) e' w' B.length (vers (V++V0)) (kss (V++V0)):=by
 have hb:Below w.heap.size w w':=by have:=h1.below;grind [Env.nb_false]
 let e':Env:={ ρ:=e.ρ,hdr:=fun i u=>if i<V.length then e.hdr i u else e1.hdr (i - V.length) u,S:=S',base:=e.base,H:=e.H,y:=e.y }
 have nm:∀ i u,i<V.length->e'.hdr i u=e.hdr i u:=fun i u hi=>by grind
 have px:∀ i u,e'.hdr (V.length+i) u=e1.hdr i u:=fun i u=>by
  grind
 have hx:Ext e w B.length (vers V) (kss V) e' w' B.length (vers (V++V0)) (kss (V++V0)):=by
  refine ⟨⟨Cq,fun b cd=>hb.block b (h.ro b cd)⟩,fun _ _=>rfl,fun i u hi hu=>nm i u (by grind),Nat.le_refl _,by simp,fun i hi=>?_,fun i hi=>?_,hb.size,fun b cd=>(yg b cd).elim .inl fun hq=>.inr (Nat.le_trans (Nat.le_trans h.bl.1 h.base) hq.1),rfl,fun _=>rfl,rfl⟩
  ·grind
  grind
 have ae:∀ (i:Nat) (x:Vec),(V++V0)[i]? = some x->(i<V.length/\V[i]? = some x/\e'.hdr i x.ver=e.hdr i x.ver)\/(∃ j,i=V.length+j/\V0[j]? = some x/\e'.hdr i x.ver=e1.hdr j x.ver):=by
  grind
 have ek:∀ (j:Nat) (y:Vec),V[j]? = some y->y.live=true->∀ g,aY (e.hdr j y.ver)=some g->g<w.heap.size:=by
  intro j y hy aq g hg;obtain ⟨ys,a1,_⟩:=h.vec j y hy aq;exact (a1.lt g hg).2
 have qm:∀ (j:Nat) (y:Vec),V0[j]? = some y->y.live=true->∀ g,aY (e1.hdr j y.ver)=some g->w.heap.size<=g:=by
  intro j y hy aq g hg;obtain ⟨ys,a1,_⟩:=h1.vec j y hy aq;exact (a1.lt g hg).1
 refine ⟨e',⟨rfl,rfl⟩,rfl,nm,px,⟨?_,?_,?_,h.boxinj,?_,?_,?_,?_,?_,h.below.trans (hb.mono h.nbase),Nat.le_trans h.base hb.size,h.bl,h.hid.of rfl ⟨rfl,rfl⟩ (fun b cd=>(yg b cd).imp id fun hq=>h.hid.new hq.1) (SameG.app fun y hy hT=>by obtain ⟨i,hi,rfl⟩:=List.mem_iff_getElem.1 hy;have:=(h1.hid.gh i V0[i] (by simp) hT).2.1;grind) (fun b cd _=>hb.block b cd) (fun i b hb hl=>.inl ⟨i,b,hb,hl,rfl⟩) (fun i x g hi hl hg=>?_)⟩,hx⟩
 rotate_left 8
 ·grind
 ·intro i b cd hl
  obtain ⟨vs,a1,a2⟩:=h.box i b cd hl;exact ⟨vs,(hb.block _ (Array.getElem?_eq_some_iff.1 a1).1).trans a1,AV.all.mono hx _ _ (h.boxsc i b cd) a2⟩
 ·intro i b cd;exact hx.scos (h.boxsc i b cd)
 ·intro i b cd hl
  have a:=h.boxlo i b cd hl;have an:=h.lt_box cd hl;grind
 ·intro i x hi hl
  rcases ae i x hi with ⟨an,hi,he⟩ | ⟨j,rfl,hi,he⟩
  ·obtain ⟨xs,a1,a2,a3⟩:=h.vec i x hi hl
   exact ⟨xs,by rw [he];exact a1.keep fun g hg=>hb.block g (a1.lt g hg).2,CV.vals.mono hx.ro _ _ a2,a3⟩
  ·obtain ⟨xs,a1,a2,a3⟩:=h1.vec j x hi hl
   refine ⟨xs,?_,hv j x hi hl xs a2,a3⟩;rw [he];exact a1.base h.base
 ·intro i x g hi hl hg
  rcases ae i x hi with ⟨an,hi,he⟩ | ⟨j,rfl,hi,he⟩
  ·rw [he] at hg
   intro hc;rcases yg _ hc with hc | hc
   ·exact h.vecS i x g hi hl hg hc
   grind
  ·rw [he] at hg
   intro hc;rcases yg _ hc with hc | hc
   ·have:=h.ro g hc;grind
   ·exact h1.vecS j x g hi hl hg hc.2.2
 ·intro i x j b g hi hl cd bo hg
  rcases ae i x hi with ⟨an,hi,he⟩ | ⟨j',rfl,hi,he⟩
  ·rw [he] at hg;exact h.vecbox i x j b g hi hl cd bo hg
  ·have:=h.lt_box cd bo
   grind
 ·intro i x j y g hi hl hj gl hg eg
  rcases ae i x hi with ⟨an,qo,he⟩ | ⟨i',Nd,qo,he⟩ <;> rcases ae j y hj with ⟨Cr,so,ga⟩ | ⟨j',yh,so,ga⟩
  ·rw [he] at hg;rw [ga] at eg;exact h.vecinj i x j y g qo hl so gl hg eg
  ·grind
  ·grind
  ·rw [he] at hg;rw [ga] at eg
   have:=h1.vecinj i' x j' y g qo hl so gl hg eg;omega
 ·intro b cd
  rcases yg b cd with cd | cd
  ·exact Nat.lt_of_lt_of_le (h.ro b cd) hb.size
  omega
theorem Mem.nothing (e:Env) (w:World) (am:∀ b,e.S b->b<w.heap.size):Mem w.heap.size w { e with base:=w.heap.size,H:=fun _=>none,y:=false } [] [] w:=
 ⟨by simp,by simp,by simp,by simp,by simp,by simp,by simp,by simp,am,Below.refl _ _,Nat.le_refl _,⟨Nat.le_refl _,by simp⟩,⟨by simp,by simp,by simp,by simp,by simp⟩⟩
mutual
theorem AV.rebase {e:Env} {w:World} {ks:List Nat} (b0:Nat):∀ (x:AV) (v:Value),AV.holds e w ks x v->AV.holds { e with base:=b0,H:=fun _=>none,y:=false } w ks x v
 | .any,_,_=>by simp [AV.holds]
 | .cv c,v,h=>by grind [AV.holds]
 | .ptr i o,v,h=>by grind [AV.holds]
 | .own i u,v,h=>by grind [AV.holds]
 | .opt i u el o,v,h=>by grind [AV.holds]
 | .agg cs,v,h=>by
  obtain ⟨us,h1,h2⟩:=h;exact ⟨us,h1,AV.rebases b0 cs _ h2⟩
 | .tup cs,v,h=>by
  obtain ⟨us,h1,h2⟩:=h;exact ⟨us,h1,AV.rebases b0 cs _ h2⟩
 | .fn f cs,v,h=>by
  obtain ⟨us,h1,h2⟩:=h;exact ⟨us,h1,AV.rebases b0 cs _ h2⟩
 | .gd L x,v,h=>by
  exact ⟨fun hl=>AV.rebase b0 x v (h.1 hl),h.2⟩
theorem AV.rebases {e:Env} {w:World} {ks:List Nat} (b0:Nat):∀ (xs:List AV) (us:List Value),AV.all e w ks xs us->AV.all { e with base:=b0,H:=fun _=>none,y:=false } w ks xs us
 | [],[],_=>by simp [AV.all]
 | x::xs,u::us,h=>by exact ⟨AV.rebase b0 x u h.1,AV.rebases b0 xs us h.2⟩
 | [],_::_,h=>by grind [AV.all]
 | _::_,[],h=>by grind [AV.all]
end
variable {args:List AV} {K:AV->List Box->List Vec->Prop}
theorem CallP.frame {f:FuncId} (h:CallP P f args [] [] K) (hK:∀ r B V,K r B V->B=[]) (ac:AV.scos 0 [] args) (B:List Box) (V:List Vec) :
  CallP P f args B V fun r B' V'=>∃ r0 V0,K r0 [] V0/\r=AV.shift V.length r0/\B'=B/\V'=V++V0:=by
 intro F n hF am n0 w0 e w vs hm hv hs;have ei:Ext e w 0 [] (kss V) e w 0 [] []:=⟨RO.refl _ _,fun _ _=>rfl,fun _ _ _ _=>rfl,Nat.le_refl _,Nat.le_refl _,fun _ _=>Nat.le_refl _,fun i hi=>by grind,Nat.le_refl _,fun _ h=>.inl h,rfl,fun _=>rfl,rfl⟩
 refine CallsCo.mono (h F n hF am w.heap.size w { e with base:=w.heap.size,H:=fun _=>none,y:=false } w vs (Mem.nothing e w hm.ro) (AV.rebases _ _ _ (AV.all.mono ei _ _ ac hv)) ac) ?_
 rintro en w' ⟨e1,B1,V0,r0,v,rfl,hk,h1,ar,hr,dj⟩;obtain rfl:=hK _ _ _ hk;obtain ⟨e',hρ,hS,nm,px,dl,hx⟩:=hm.beside h1 ar.ye e1.S (fun b hb=>ar.ro.sub b hb) (fun b hb=>(ar.snew b hb).elim .inl fun hl=>.inr ⟨hl,h1.ro b hb,hb⟩) (fun _ _ _ _ _ h=>h)
 refine ⟨e',B,V++V0,AV.shift V.length r0,v,rfl,⟨r0,V0,hk,rfl,rfl,rfl⟩,dl,hx,?_,?_⟩
 ·refine AV.shift_holds (fun b hb=>by grind) (fun i u _=>px i u) (fun i hi=>?_) r0 v dj hr
  grind
 ·refine AV.shift_scoped (by simp) (fun i hi=>?_) r0 dj
  grind
def fB (V:List Vec):AV->Option CV
 | .cv c=>some c
 | .own i u=>match V[i]? with
  | some v=>if (v.live&&v.ver == u)=true then (if v.T<bE then some (.row v.k v.es) else if v.k=v.T / bE then some (.mp (v.k - 1) v.es) else none) else none
  | none=>none
 | _=>none
def dR (V:List Vec):List AV->Option (List CV)
 | []=>some []
 | x::xs=>match fB V x,dR V xs with
  | some c,some cs=>some (c::cs)
  | _,_=>none
mutual
def AV.lend (B:List Box) (V:List Vec):AV->AV
 | .own i u=>match fB V (.own i u) with
  | some c=>.cv c
  | none=>.any
 | .ptr i 0 =>
  match B[i]? with
  | some b=>if b.live then (match dR V b.cs with | some cs=>.cv (.ref cs) | none=>.any) else .any
  | none=>.any
 | .agg cs=>.agg (AV.lends B V cs)
 | .tup cs=>.tup (AV.lends B V cs)
 | .fn f cs=>if pQ cs=true then .any else .fn f (AV.lends B V cs)
 | .cv c=>.cv c
 | _=>.any
def AV.lends (B:List Box) (V:List Vec):List AV->List AV
 | []=>[]
 | x::xs=>AV.lend B V x::AV.lends B V xs
end
theorem RX {B:List Box} {V:List Vec} {xs:List AV} (h:¬pQ xs=true):pQ (AV.lends B V xs)=false:=by
 match xs with
 | []=>rfl
 | x::r =>
  have:∀ L y,AV.lend B V x≠.gd L y:=by
   cases x with
   | ptr i o =>
    cases o with
    | zero=>grind [AV.lend]
    | succ o=>simp [AV.lend]
   | own i u=>grind [AV.lend]
   | fn f cs=>grind [AV.lend]
   | _=>simp [AV.lend]
  simp [AV.lends];unfold pQ;grind
section
variable {n0:Nat} {w0:World} {e:Env} {B:List Box} {V:List Vec} {w:World}
variable {S:Nat->Prop}
theorem lendV_holds (h:Mem n0 w0 e B V w) (hS:∀ b,e.S b->S b) {x:AV} (jj:∀ (i u:Nat),x=.own i u->∀ (x:Vec) (g:Nat),V[i]? = some x->x.live=true->aY (e.hdr i x.ver)=some g->S g) {c:CV} (hx:fB V x=some c) {v:Value} (hv:AV.holds e w (kss V) x v):CV.holds w S c v:=by
 unfold fB at hx;split at hx
 ·cases hx
  exact CV.holds.mono ⟨fun b hb=>hS b hb,fun _ _=>rfl⟩ c v hv
 ·rename_i i u
  split at hx
  ·rename_i x hi
   split at hx
   ·rename_i hc
    simp at hc;obtain ⟨hl,rfl⟩:=hc;obtain ⟨rfl,_⟩:=hv;obtain ⟨xs,a1',a2,a3⟩:=h.vec i x hi hl;have bu:=CV.vals.mono (S':=S) (w':=w) ⟨fun b hb=>hS b hb,fun _ _=>rfl⟩ _ _ a2
    split at hx
    ·rename_i qj
     cases hx;have a1:=a1'.s qj;obtain ⟨ao,c,hs,bt,fq⟩:=a1.slice;refine ⟨ao,c,hs,bt,fq,?_⟩;rcases a1 with ⟨_,_,h0,_⟩ | ⟨a1,g,hg,eg⟩
     ·grind
     ·right
      rcases a1.2 with ⟨h0,_⟩ | ⟨g',cap,cur,h0,_⟩
      ·grind [aY]
      ·have em:g'=g:=by grind [Value.ownBlock]
       subst em;rw [h0] at hs;injection hs with jn ud GT
       exact ⟨g',0,jn.symm,jj i _ rfl x g' hi hl hg,CV.rows.of_vals a3 bu fun j u hj=>by simpa [addr_add] using a1.cells eg j u hj⟩
    ·rename_i qj
     split at hx
     ·rename_i hk
      cases hx;obtain ⟨hT,b,arr,c,b1,b2,b3,b4,b5,b6⟩:=a1'.m (Nat.not_lt.1 qj)
      have yi:x.k=x.k - 1+1:=by
       have:1<=x.k:=by rw [hk];exact (Nat.one_le_div_iff (by decide)).2 (Nat.le_of_lt hT)
       omega
      refine ⟨b,arr,c,_,b1,jj i _ rfl x b hi hl (by rw [b1];rfl),b3,b5,b6,?_⟩
      have:=yN (kn:=x.k - 1) bu fun l hm=>by grind
      grind
     grind
   grind
  grind
 grind
theorem lendVs_holds (h:Mem n0 w0 e B V w) {S:Nat->Prop} (hS:∀ b,e.S b->S b) (jj:∀ (i:Nat) (x:Vec) (g:Nat),V[i]? = some x->x.live=true->aY (e.hdr i x.ver)=some g->S g):∀ {xs:List AV} {cs:List CV} {vs:List Value},dR V xs=some cs->AV.all e w (kss V) xs vs->CV.vals w S cs vs
 | [],cs,vs,hx,hv=>by
  grind [dR,AV.all,CV.vals]
 | x::xs,cs,[],hx,hv=>by grind [AV.all]
 | x::xs,cs,v::vs,hx,hv=>by
  simp [dR] at hx;split at hx
  ·rename_i c cs' h1 h2
   cases hx;exact ⟨lendV_holds h hS (fun i _ _=>jj i) h1 hv.1,lendVs_holds h hS jj h2 hv.2⟩
  grind
mutual
theorem AV.lend_holds' (h:Mem n0 w0 e B V w) {S:Nat->Prop} (hS:∀ b,e.S b->S b) (nq:∀ (i:Nat) (b:Box),B[i]? = some b->b.live=true->S (e.ρ i)) (jj:∀ (i:Nat) (x:Vec) (g:Nat),V[i]? = some x->x.live=true->aY (e.hdr i x.ver)=some g->S g):∀ (x:AV) (v:Value),AV.holds e w (kss V) x v->AV.holds { e with S:=S } w [] (AV.lend B V x) v
 | .any,_,_=>by simp [AV.lend,AV.holds]
 | .cv c,v,hv=>by
  exact CV.holds.mono ⟨fun b hb=>hS b hb,fun _ _=>rfl⟩ c v hv
 | .ptr i 0,v,hv=>by
  simp [AV.lend];split
  ·rename_i b hb
   split
   ·rename_i hl
    split
    ·rename_i cs bc
     obtain ⟨vs,a1,a2⟩:=h.box i b hb hl;have bu:=lendVs_holds h hS jj bc a2;refine ⟨e.ρ i,0,hv,nq i b hb hl,CV.cells.of_vals bu fun j u hj=>?_⟩
     grind [cell_of_row]
    ·simp [AV.holds]
   ·simp [AV.holds]
  ·simp [AV.holds]
 | .ptr i (o+1),v,hv=>by simp [AV.lend,AV.holds]
 | .own i u,v,hv=>by
  simp [AV.lend];split
  ·rename_i c hc
   exact lendV_holds h hS (fun i _ _=>jj i) hc hv
  ·simp [AV.holds]
 | .opt _ _ _ _,_,_=>by simp [AV.lend,AV.holds]
 | .gd _ _,_,_=>by simp [AV.lend,AV.holds]
 | .agg cs,v,hv=>by
  obtain ⟨us,h1,h2⟩:=hv;exact ⟨us,h1,AV.lends_holds' h hS nq jj cs _ h2⟩
 | .tup cs,v,hv=>by
  obtain ⟨us,h1,h2⟩:=hv;exact ⟨us,h1,AV.lends_holds' h hS nq jj cs _ h2⟩
 | .fn f cs,v,hv=>by
  simp [AV.lend];split
  ·simp [AV.holds]
  ·obtain ⟨us,h1,h2⟩:=hv
   exact ⟨us,by simp_all [RX],AV.lends_holds' h hS nq jj cs _ h2⟩
theorem AV.lends_holds' (h:Mem n0 w0 e B V w) {S:Nat->Prop} (hS:∀ b,e.S b->S b) (nq:∀ (i:Nat) (b:Box),B[i]? = some b->b.live=true->S (e.ρ i)) (jj:∀ (i:Nat) (x:Vec) (g:Nat),V[i]? = some x->x.live=true->aY (e.hdr i x.ver)=some g->S g):∀ (xs:List AV) (us:List Value),AV.all e w (kss V) xs us->AV.all { e with S:=S } w [] (AV.lends B V xs) us
 | [],[],_=>by simp [AV.lends,AV.all]
 | x::xs,u::us,hv=>by
  exact ⟨AV.lend_holds' h hS nq jj x u hv.1,AV.lends_holds' h hS nq jj xs us hv.2⟩
 | [],_::_,hv=>by grind [AV.all]
 | _::_,[],hv=>by grind [AV.all]
end
theorem AV.lends_holds (h:Mem n0 w0 e B V w) (hS:∀ b,b<w.heap.size->S b) (xs:List AV) (us:List Value) (hv:AV.all e w (kss V) xs us):AV.all { e with S:=S } w [] (AV.lends B V xs) us:=
 AV.lends_holds' h (fun b hb=>hS b (h.ro b hb)) (fun i b hb hl=>hS _ (h.lt_box hb hl)) (fun i x g hx hl hg=>hS _ (by obtain ⟨xs,a1,_⟩:=h.vec i x hx hl;exact (a1.lt g hg).2)) xs us hv
end
mutual
theorem AV.lend_scoped (B:List Box) (V:List Vec):∀ (x:AV),AV.sco 0 [] (AV.lend B V x)
 | .any=>by simp [AV.lend,AV.sco]
 | .cv c=>by simp [AV.lend,AV.sco]
 | .ptr i 0=>by grind [AV.lend,AV.sco]
 | .ptr i (o+1)=>by simp [AV.lend,AV.sco]
 | .own i u=>by grind [AV.lend,AV.sco]
 | .opt _ _ _ _=>by simp [AV.lend,AV.sco]
 | .gd _ _=>by simp [AV.lend,AV.sco]
 | .agg cs=>by exact AV.lends_scoped B V cs
 | .tup cs=>by exact AV.lends_scoped B V cs
 | .fn f cs=>by
  simp [AV.lend];split
  ·simp [AV.sco]
  ·exact AV.lends_scoped B V cs
theorem AV.lends_scoped (B:List Box) (V:List Vec):∀ (xs:List AV),AV.scos 0 [] (AV.lends B V xs)
 | []=>by simp [AV.lends,AV.scos]
 | x::xs=>by exact ⟨AV.lend_scoped B V x,AV.lends_scoped B V xs⟩
end
theorem CallP.lend {f:FuncId} {args':List AV} {B:List Box} {V:List Vec} (ha:AV.lends B V args=args') (h:CallP P f args' [] [] K)
  (hK:∀ r B V,K r B V->B=[]/\AV.flat r=true/\V.all Vec.flat=true) :
  CallP P f args B V fun r B' V'=>∃ r0 V0,K r0 [] V0/\r=AV.shift V.length r0/\B'=B/\V'=V++V0:=by
 intro F n hF am n0 w0 e w vs hm hv hs;subst ha;refine CallsCo.mono (h F n hF am w.heap.size w { e with S:=fun b=>b<w.heap.size,base:=w.heap.size,H:=fun _=>none,y:=false } w vs (Mem.nothing { e with S:=fun b=>b<w.heap.size } w fun b hb=>hb) (AV.rebases _ _ _ (AV.lends_holds hm (fun b hb=>hb) _ _ hv)) (AV.lends_scoped B V args)) ?_
 rintro en w' ⟨e1,B1,V0,r0,v,rfl,hk,h1,ar,hr,dj⟩;obtain ⟨rfl,kj,Iy⟩:=hK _ _ _ hk
 have dx:∀ (i:Nat) (x:Vec),V0[i]? = some x->x.es.flatten.all CV.flat=true:=by
  intro i x hi;have h2:=List.all_eq_true.1 Iy x (List.mem_of_getElem? hi);grind [Vec.flat]
 obtain ⟨e',hρ,hS,nm,px,dl,hx⟩:=hm.beside h1 ar.ye e.S (fun b hb=>hb) (fun b hb=>.inl hb) (fun i x hi _ xs js=>CV.flat_vals (dx i x hi) js)
 refine ⟨e',B,V++V0,AV.shift V.length r0,v,rfl,⟨r0,V0,hk,rfl,rfl,rfl⟩,dl,hx,?_,?_⟩
 ·refine AV.shift_flat (vs1:=vers V0) (fun i u _=>px i u) (fun i hi=>?_) r0 v kj dj hr
  grind
 ·refine AV.shift_scoped (by simp) (fun i hi=>?_) r0 dj
  grind
end
attribute [simp] bI St.ev St.put yP Value.oneCell' nI OI DL AJ fW fK splice AV.cells AV.one LN cT dW fX fL lO iA qQ AK UV oV iR dX aI mW EO bH wW qS nK fH xJ mH nM UU mP AV.lend AV.lends AV.shift AV.shifts AV.flat AV.flats CV.flat Vec.flat dA TK.agg AV.sco AV.scos
section
variable {e e1:Env} {w:World} {k nB:Nat} {ks ks1 vs1:List Nat}
end
section
variable {P:Program} [C:Co P]
end
section
variable {F:Fence} {n:Nat} {P:Program} [C:Co P]
end
mutual
def AV.closed:AV->Bool
 | .any=>true
 | .cv _=>true
 | .agg cs=>AV.closeds cs
 | .tup cs=>AV.closeds cs
 | .fn _ cs=>AV.closeds cs
 | _=>false
def AV.closeds:List AV->Bool
 | []=>true
 | x::xs=>AV.closed x&&AV.closeds xs
end
mutual
theorem AV.shift_closed (k:Nat):∀ (x:AV),AV.closed x=true->AV.shift k x=x
 | .any,_=>by rfl
 | .cv c,_=>by rfl
 | .agg cs,h=>by simp only [AV.closed] at h;simp [AV.shift,AV.shifts_closed k cs h]
 | .tup cs,h=>by simp only [AV.closed] at h;simp [AV.shift,AV.shifts_closed k cs h]
 | .fn f cs,h=>by simp only [AV.closed] at h;simp [AV.shift,AV.shifts_closed k cs h]
 | .ptr _ _,h=>by rfl
 | .own _ _,h=>by grind [AV.closed]
 | .opt _ _ _ _,h=>by grind [AV.closed]
 | .gd _ _,h=>by grind [AV.closed]
theorem AV.shifts_closed (k:Nat):∀ (xs:List AV),AV.closeds xs=true->AV.shifts k xs=xs
 | [],_=>by rfl
 | x::xs,h=>by simp_all [AV.closeds,AV.shift_closed,AV.shifts_closed]
end
mutual
theorem AV.lend_closed (B:List Box) (V:List Vec):∀ (x:AV),AV.closed (AV.lend B V x)=true
 | .any=>by rfl
 | .cv c=>by rfl
 | .ptr i 0=>by grind [AV.lend,AV.closed]
 | .ptr i (o+1)=>by rfl
 | .own i u=>by grind [AV.lend,AV.closed]
 | .opt _ _ _ _=>by rfl
 | .gd _ _=>by rfl
 | .agg cs=>by exact AV.lends_closed B V cs
 | .tup cs=>by exact AV.lends_closed B V cs
 | .fn f cs=>by
  simp;split
  ·rfl
  ·exact AV.lends_closed B V cs
theorem AV.lends_closed (B:List Box) (V:List Vec):∀ (xs:List AV),AV.closeds (AV.lends B V xs)=true
 | []=>by rfl
 | x::xs=>by simp only [AV.lends,AV.closeds,AV.lend_closed B V x,AV.lends_closed B V xs,Bool.and_self]
end
mutual
theorem AV.sco_closed (nB:Nat) (vs:List Nat):∀ (x:AV),AV.closed x=true->AV.sco nB vs x
 | .any,_=>by simp
 | .cv c,_=>by simp
 | .agg cs,h=>by exact AV.scos_closed nB vs cs h
 | .tup cs,h=>by exact AV.scos_closed nB vs cs h
 | .fn f cs,h=>by exact AV.scos_closed nB vs cs h
 | .ptr _ _,h=>by grind [AV.closed]
 | .own _ _,h=>by grind [AV.closed]
 | .opt _ _ _ _,h=>by grind [AV.closed]
 | .gd _ _,h=>by grind [AV.closed]
theorem AV.scos_closed (nB:Nat) (vs:List Nat):∀ (xs:List AV),AV.closeds xs=true->AV.scos nB vs xs
 | [],_=>by simp
 | x::xs,h=>by simp [AV.closeds] at h;exact ⟨AV.sco_closed nB vs x h.1,AV.scos_closed nB vs xs h.2⟩
end
mutual
theorem AV.closed_holds {e e':Env} {w:World} {ks ks':List Nat} (hS:∀ b,e.S b->e'.S b):∀ (x:AV) (v:Value),AV.closed x=true->AV.holds e w ks x v->AV.holds e' w ks' x v
 | .any,_,_,_=>by simp [AV.holds]
 | .cv c,v,_,h=>by exact CV.holds.mono ⟨hS,fun _ _=>rfl⟩ c v h
 | .agg cs,v,hc,h=>by
  obtain ⟨us,h1,h2⟩:=h;exact ⟨us,h1,AV.closeds_holds hS cs _ hc h2⟩
 | .tup cs,v,hc,h=>by
  obtain ⟨us,h1,h2⟩:=h;exact ⟨us,h1,AV.closeds_holds hS cs _ hc h2⟩
 | .fn f cs,v,hc,h=>by
  obtain ⟨us,h1,h2⟩:=h;exact ⟨us,h1,AV.closeds_holds hS cs _ hc h2⟩
 | .ptr _ _,_,h,_=>by grind [AV.closed]
 | .own _ _,_,h,_=>by grind [AV.closed]
 | .opt _ _ _ _,_,h,_=>by grind [AV.closed]
 | .gd _ _,_,h,_=>by grind [AV.closed]
theorem AV.closeds_holds {e e':Env} {w:World} {ks ks':List Nat} (hS:∀ b,e.S b->e'.S b):∀ (xs:List AV) (us:List Value),AV.closeds xs=true->AV.all e w ks xs us->AV.all e' w ks' xs us
 | [],[],_,_=>by simp [AV.all]
 | x::xs,u::us,hc,h=>by
  simp [AV.closeds] at hc;exact ⟨AV.closed_holds hS x u hc.1 h.1,AV.closeds_holds hS xs us hc.2 h.2⟩
 | [],_::_,_,h=>by grind [AV.all]
 | _::_,[],_,h=>by grind [AV.all]
end
mutual
def AV.bnm:AV->List Nat
 | .ptr i _=>[i]
 | .agg xs=>AV.bnms xs
 | .tup xs=>AV.bnms xs
 | .fn _ xs=>AV.bnms xs
 | .gd _ x=>AV.bnm x
 | _=>[]
def AV.bnms:List AV->List Nat
 | []=>[]
 | x::xs=>AV.bnm x++AV.bnms xs
end
mutual
def AV.vnm:AV->List Nat
 | .own i _=>[i]
 | .opt i _ _ _=>[i]
 | .agg xs=>AV.vnms xs
 | .tup xs=>AV.vnms xs
 | .fn _ xs=>AV.vnms xs
 | .gd _ x=>AV.vnm x
 | _=>[]
def AV.vnms:List AV->List Nat
 | []=>[]
 | x::xs=>AV.vnm x++AV.vnms xs
end
def bvs (B:List Box) (l:List Nat):List Nat:=l.flatMap fun i=>match B[i]? with
 | some b=>AV.vnms b.cs
 | none=>[]
theorem aDf (B:List Box) (l l':List Nat):bvs B (l++l')=bvs B l++bvs B l':=by simp [bvs]
theorem EX {V V':List Vec}:∀ (xs:List AV),(∀ i∈AV.vnms xs,V'[i]? = V[i]?)->dR V' xs=dR V xs
 | [],_=>rfl
 | x::xs,h=>by
  simp only [AV.vnms,List.mem_append] at h
  have h1:fB V' x=fB V x:=by
   cases x with
   | own i u=>simp only [fB,h i (.inl (by simp [AV.vnm]))]
   | _=>rfl
  simp only [dR,h1,EX xs fun i hi=>h i (.inr hi)]
mutual
theorem AV.lend_agr {B B':List Box} {V V':List Vec}:∀ (x:AV),(∀ i∈AV.bnm x,B'[i]? = B[i]?)->(∀ i∈AV.vnm x,V'[i]? = V[i]?)->(∀ i∈bvs B (AV.bnm x),V'[i]? = V[i]?)->AV.lend B' V' x=AV.lend B V x
 | .any,_,_,_=>by rfl
 | .cv _,_,_,_=>by rfl
 | .ptr i 0,h,_,h3=>by
  grind [AV.lend,AV.bnm,EX,bvs]
 | .ptr i (o+1),_,_,_=>by rfl
 | .own i u,_,h,_=>by grind [AV.lend,fB,AV.vnm]
 | .opt _ _ _ _,_,_,_=>by rfl
 | .gd _ _,_,_,_=>by rfl
 | .agg cs,h1,h2,h3=>by simp only [AV.lend,AV.lends_agr cs (by simpa only [AV.bnm] using h1) (by simpa only [AV.vnm] using h2) (by simpa only [AV.bnm] using h3)]
 | .tup cs,h1,h2,h3=>by simp only [AV.lend,AV.lends_agr cs (by simpa only [AV.bnm] using h1) (by simpa only [AV.vnm] using h2) (by simpa only [AV.bnm] using h3)]
 | .fn f cs,h1,h2,h3=>by simp only [AV.lend,AV.lends_agr cs (by simpa only [AV.bnm] using h1) (by simpa only [AV.vnm] using h2) (by simpa only [AV.bnm] using h3)]
theorem AV.lends_agr {B B':List Box} {V V':List Vec}:∀ (xs:List AV),(∀ i∈AV.bnms xs,B'[i]? = B[i]?)->(∀ i∈AV.vnms xs,V'[i]? = V[i]?)->(∀ i∈bvs B (AV.bnms xs),V'[i]? = V[i]?)->AV.lends B' V' xs=AV.lends B V xs
 | [],_,_,_=>rfl
 | x::xs,h1,h2,h3=>by
  simp only [AV.bnms,AV.vnms,aDf,List.mem_append] at h1 h2 h3;simp only [AV.lends,AV.lend_agr x (fun i hi=>h1 i (.inl hi)) (fun i hi=>h2 i (.inl hi)) (fun i hi=>h3 i (.inl hi)),AV.lends_agr xs (fun i hi=>h1 i (.inr hi)) (fun i hi=>h2 i (.inr hi)) (fun i hi=>h3 i (.inr hi))]
end
def SpecR (P:Program) [Co P] (f:FuncId) (args:List AV) (r:AV):Prop:=CallP P f args [] [] fun r' B V=>r'=r/\B=[]/\V=[]
section
variable {P:Program} [C:Co P]
def CallPc (P:Program) [Co P] (f:FuncId) (args:List AV) (K:AV->List Box->List Vec->Prop):Prop:=
 ∀ (F:Fence) (n:Nat),Free F->F.round=none->∀ n0 w0 e w (vs:Array Value),e.y=false/\e.H=(fun _=>none)->Mem n0 w0 e [] [] w->AV.all e w (kss []) args vs.toList->AV.scos 0 [] args ->
  CallsCo F n P f vs w fun en w'=>∃ e' B' V' r v,en=.returned v/\K r B' V'/\Mem n0 w0 e' B' V' w'/\Ext e w 0 [] [] e' w' B'.length (vers V') (kss V') /\
   AV.holds e' w' (kss V') r v/\AV.sco B'.length (vers V') r
variable {args:List AV}
theorem CallP.freeze {f:FuncId} {K:AV->List Box->List Vec->Prop} (h:CallPc P f args K) (ac:AV.scos 0 [] args) :
  CallP P f args [] [] fun r B V=>B=[]/\V=[]/\∃ r0 B0 V0,K r0 B0 V0/\r=AV.lend B0 V0 r0:=by
 intro F n hF am n0 w0 e w vs hm hv hs;refine CallsCo.mono (h F n hF am w.heap.size w { e with base:=w.heap.size,H:=fun _=>none,y:=false } w vs ⟨rfl,rfl⟩ (Mem.nothing e w hm.ro) (AV.rebases _ _ _ hv) ac) ?_
 rintro en w' ⟨e1,B1,V0,r0,v,rfl,hk,h1,ar,hr,dj⟩
 let S':Nat->Prop:=fun b=>e.S b\/(w.heap.size<=b/\b<w'.heap.size)
 have hS:∀ b,e1.S b->S' b:=fun b hb=>(ar.snew b hb).elim .inl fun hl=>.inr ⟨hl,h1.ro b hb⟩
 have ba:=AV.lend_holds' h1 (S:=S') hS (fun i b hb hl=>.inr ⟨(h1.boxlo i b hb hl).1,h1.lt_box hb hl⟩) (fun i x g hx hl hg=>.inr (by obtain ⟨xs,a1,_⟩:=h1.vec i x hx hl;exact a1.lt g hg)) r0 v hr
 have h2:Mem w.heap.size w { e1 with S:=S' } [] [] w':=by
  refine ⟨by simp,by simp,by simp,by simp,by simp,by simp,by simp,by simp,?_,h1.below,h1.base,h1.bl,h1.hid.of rfl ⟨rfl,rfl⟩ (fun b _=>.inr (by rw [ar.he rfl])) (fun i x h=>by grind) (fun _ _ _=>rfl) (by simp) (by simp)⟩
  rintro b (hb | hb)
  ·exact h1.ro b (ar.ro.sub b hb)
  omega
 obtain ⟨e',hρ,G0,nm,px,dl,hx⟩:=hm.beside h2 ar.ye S' (fun b hb=>.inl hb) (fun b hb=>hb.elim .inl fun hl=>.inr ⟨hl.1,hl.2,.inr hl⟩) (fun _ _ _ _ _ h=>h)
 refine ⟨e',[],[],AV.lend B1 V0 r0,v,rfl,⟨rfl,rfl,r0,B1,V0,hk,rfl⟩,dl,hx,?_,AV.lend_scoped B1 V0 r0⟩;exact AV.closed_holds (e:={ e1 with S:=S' }) (fun b hb=>by grind) _ v (AV.lend_closed B1 V0 r0) ba
theorem SpecR.frame {f:FuncId} {args:List AV} {r:AV} (h:SpecR P f args r) (ac:AV.closeds args=true) (hr:AV.closed r=true) (B:List Box) (V:List Vec) :
  CallP P f args B V fun r' B' V'=>r'=r/\B'=B/\V'=V:=
 CallP.mono (CallP.frame h (fun _ _ _ h=>h.2.1) (AV.scos_closed _ _ _ ac) B V) fun r' B' V' ⟨r0,V0,⟨h1,_,h2⟩,h3,h4,h5⟩=>by
  subst h1;subst h2;subst h3;exact ⟨AV.shift_closed _ _ hr,h4,by grind⟩
theorem SpecR.lent {f:FuncId} {args':List AV} {r:AV} (h:SpecR P f args' r) {B:List Box} {V:List Vec} (ha:AV.lends B V args=args') (hr:AV.closed r=true) (eh:AV.flat r=true) :
  CallP P f args B V fun r' B' V'=>r'=r/\B'=B/\V'=V:=
 CallP.mono (CallP.lend ha h fun r' B V ⟨h1,h2,h3⟩=>⟨h2,by grind,by grind⟩) fun r' B' V' ⟨r0,V0,⟨h1,_,h2⟩,h3,h4,h5⟩=>by
  subst h1;subst h3;exact ⟨AV.shift_closed _ _ hr,h4,by grind⟩
end
def nN:Op->Nat
 | .move _=>0
 | .assign _=>0
 | .pick _ _ _=>0
 | .build _ _=>0
 | .binOp _ _ _ _ _=>0
 | .unOp _ _ _=>0
 | .fieldAddr _ _ _=>0
 | .index _ _ _=>0
 | .extract _ _=>0
 | .convert _ _ _=>0
 | .nilCheck _=>0
 | .field _ _ _=>0
 | .call { callee:=.builtin .max,.. }=>0
 | .call { callee:=.builtin .min,.. }=>0
 | .load _ _=>1
 | .indexAddr _ _ _=>1
 | .slice _ _ _ _ none=>1
 | .slice _ _ _ (some (.tmp _)) (some (.tmp _))=>1
 | .buildSlice _ _ _=>1
 | .call { callee:=.builtin .len,.. }=>1
 | .call { callee:=.value _,.. }=>1
 | .store _ _ _=>2
 | .alloc _=>3
 | _=>4
def wl (lo:List Oper) (i:Nat):List Bool:=lo.foldl (fun acc o=>acc++[o.after.any fun e=>Region.binds .any e&&(e.on == i || acc.getD e.on false)]) []
theorem LV (lo:List Oper) (o:Oper) (i:Nat):wl (lo++[o]) i=wl lo i++[o.after.any fun e=>Region.binds .any e&&(e.on == i || (wl lo i).getD e.on false)]:=by
 simp [wl]
theorem XM (i:Nat) (lo:List Oper):(wl lo i).length=lo.length:=by
 rw [<- List.reverse_reverse lo]
 induction lo.reverse with
 | nil=>rfl
 | cons o l ih=>grind [List.reverse_cons,LV]
theorem VC (i:Nat) (lo:List Oper):∀ (j:Nat),(wl lo i).getD j false=true->∃ oj,lo[j]? = some oj/\∃ e∈oj.after,Region.binds .any e=true/\(e.on=i\/(e.on<j/\(wl lo i).getD e.on false=true)):=by
 rw [<- List.reverse_reverse lo]
 induction lo.reverse with
 | nil=>grind [wl]
 | cons o l ih =>
  have hl:=XM i l.reverse
  have un:∀ k,k<l.reverse.length->(wl (l.reverse++[o]) i).getD k false=(wl l.reverse i).getD k false:=by
   grind [LV]
  grind [LV]
theorem yY {l:Array Bool} {k:Nat} (h:l.getD k false=true):l.getD k true=true:=by
 grind
def Down (lo:List Oper) (listed:Array Bool):Prop:=
 ∀ j oj,lo[j]? = some oj->listed.getD j true=true->∀ e∈oj.after,Region.binds .any e=true->listed.getD e.on true=true
theorem Down.wl {lo:List Oper} {listed:Array Bool} (h:Down lo listed) {i:Nat} (hi:listed.getD i true=false):∀ (j:Nat),listed.getD j true=true->(wl lo i).getD j false=false:=by
 intro j
 induction j using Nat.strongRecOn with
 | _ j ih =>
  intro hj;cases hw:(Go.Sx.wl lo i).getD j false with
  | false=>rfl
  | true =>
   obtain ⟨oj,h1,e,h2,h3,h4⟩:=VC i lo j hw;have h5:=h j oj h1 hj e h2 h3;grind
variable {listed:Array Bool}
theorem Down.ready {lo:List Oper} (h:Down lo listed) {i j:Nat} (hi:listed.getD i true=false) {oj:Oper} (hj:lo[j]? = some oj) (ct:∀ e∈oj.after,Region.binds .any e=true->listed.getD e.on true=true) :
  (Go.Sx.wl lo i).getD j false=false:=by
 cases hw:(Go.Sx.wl lo i).getD j false with
 | false=>rfl
 | true =>
  obtain ⟨oj',h1,e,h2,h3,h4⟩:=VC i lo j hw;rw [hj] at h1;cases h1;have h5:=ct e h2 h3;rcases h4 with h4 | ⟨h4,h6⟩
  ·grind
  ·rw [h.wl hi _ h5] at h6;cases h6
theorem Down.set {lo:List Oper} (h:Down lo listed) {j:Nat} {oj:Oper} (hj:lo[j]? = some oj) (ct:∀ e∈oj.after,Region.binds .any e=true->listed.getD e.on true=true):Down lo (listed.setIfInBounds j true):=by
 intro k ok hk hl e he hb
 have key:∀ x,listed.getD x true=true->(listed.setIfInBounds j true).getD x true=true:=by
  intro x hx
  by_cases Nf:j=x
  ·simp_all
  simp_all
 by_cases ik:j=k
 ·grind
 ·rw [getD_set_ne true ik] at hl
  exact key _ (h k ok hk hl e he hb)
section
variable (F:Fence) (n:Nat) (P:Program) [C:Co P] (lo:List Oper) (b0:Nat)
def aGO (o:Oper) (s:St) (A:AV) (B':List Box):Prop:=
 ∀ n0 w0 e a w (Q:Exit->Act->World->Prop) (K:Act->World->Prop),Rel n0 w0 e s a w ->
  (∀ e' v w',Mem n0 w0 e' B' s.V w'->cL e s w e' B' s.V w'->AV.holds e' w' (kss s.V) A v->AV.sco B'.length (vers s.V) A->K (a.put o.dst v) w') ->
  if Region.wanted o (yielded lo.toArray a.tmps)=true then o.wpCo F n P a w K else K (a.put o.dst undef) w
def nB (be:Option (List Box)) (B:List Box):List Box:=be.getD B
variable {F n P lo b0}
def stp (o:Oper) (s:St) (A:AV) (be:Option (List Box)):St:=s.put o.dst A (nB be s.B) s.V
theorem put_get {s:St} {dst:Option Nat} {A:AV} {B:List Box} {V:List Vec} {d:Nat} (h:∀ x,dst=some x->x≠d):(s.put dst A B V).t[d]? = s.t[d]?:=by
 cases dst with
 | none=>rfl
 | some x=>simp_all
end
section
variable {F:Fence} {n:Nat} {P:Program} [C:Co P] {lo:List Oper} {b0:Nat}
def aDg (F:Fence) (n:Nat) (P:Program) [Co P] (o:Oper) (s:St) (A:AV) (B':List Box):Prop:=
 ∀ n0 w0 e a w (Q:Exit->Act->World->Prop) (K:Act->World->Prop),Rel n0 w0 e s a w ->
  (∀ e' v w',Mem n0 w0 e' B' s.V w'->cL e s w e' B' s.V w'->AV.holds e' w' (kss s.V) A v->AV.sco B'.length (vers s.V) A->K (a.put o.dst v) w')->o.wpCo F n P a w K
variable {o:Oper} {s:St} {A:AV}
theorem LW (hF:Free F) {B':List Box} (h:bI P s o.op=some (A,B',s.V)):aDg F n P o s A B':=by
 intro n0 w0 e a w Q K hr hk;refine jF (by grind [bI]) (vP h hr) fun w₁ hw=>?_
 obtain ⟨cf,ar⟩:=hr.rely hw;obtain ⟨nx,v,w',e',h1,h2,h3,h4,h5,h6⟩:=rT h n0 w0 e a w₁ cf;exact ⟨nx,v,w',h1,h2,hk e' v w' h3 (ar.trans h4) h5 h6⟩
theorem AN (hF:Free F) {x:Operand} {args:Array Operand} {ts:Array TypeId} {f:FuncId} {caps:List AV}
  (aa:o.op=.call { callee:=.value x,args,argTypes:=ts }) (hx:dA (s.ev x)=some (f,caps))
  (da:Ent P f)
  (h:CallP P f (args.toList.map s.ev++caps) s.B s.V fun r B' V'=>r=A/\B'=s.B/\V'=s.V):aDg F n P o s A s.B:=by
 intro n0 w0 e a w Q K hr hk;have cr:=hr.ev x
 obtain ⟨cvs,hf,i9,bc⟩:∃ cvs:Array Value,a.eval x=.func (.func f) #[] cvs/\AV.all e w (kss s.V) caps cvs.toList/\AV.scos s.B.length (vers s.V) caps:=by
  unfold dA at hx;split at hx
  ·rename_i g cs hg
   obtain ⟨rfl,rfl⟩:=hx;rw [hg] at cr;obtain ⟨⟨vs,h1,h2⟩,_⟩:=cr;exact ⟨vs,h1,AV.all.of_vals h2,AV.scos_cv _ _ _⟩
  ·rename_i g cs hg
   split at hx
   ·cases hx
   ·rename_i ia
    obtain ⟨rfl,rfl⟩:=hx;rw [hg] at cr;obtain ⟨⟨vs,h1,h2⟩,h3⟩:=cr;rw [eq_false_of_ne_true ia] at h1;exact ⟨vs,h1,h2,h3⟩
  grind
 refine yV aa hf da fun w₁ hw=>?_
 obtain ⟨cf,ar⟩:=hr.rely hw;have b8:=cf.evs args.toList
 refine CallsCo.mono (h F.plain (n - 1) hF.plain rfl n0 w0 e w₁ (#[]++args.map a.eval++cvs) cf.mem (by simpa using b8.1.append (AV.all.mono ar _ _ bc i9)) (by
  grind [AV.scos_iff])) ?_
 rintro en w' ⟨e',B',V',r,v,rfl,⟨rfl,rfl,rfl⟩,hm,mq,kz,dj⟩;exact ⟨v,rfl,hk e' v w' hm (ar.trans mq) kz dj⟩
theorem lF {s':St} (h:∀ d∈o.looksAt lo.toArray,s'.t[d]? = s.t[d]?):∀ x∈o.op.operands,s'.ev x=s.ev x:=by
 intro x hx;cases x with
 | tmp d =>
  have:d∈o.looksAt lo.toArray:=List.mem_append_left _ (List.mem_filterMap.2 ⟨.tmp d,by grind,rfl⟩)
  simp_all
 | const v=>rfl
 | global g=>rfl
 | func f=>rfl
def RY:Op->Bool
 | .buildSlice _ _ _=>true
 | _=>false
def xK (P:Program) (st:St):Op->Option AV
 | .buildSlice T len parts =>
  if AV.closeds (parts.toList.map fun p=>st.ev p.2) then
   match bH P ⟨[],[],[]⟩ T len (parts.toList.map fun p=>(p.1,st.ev p.2)) with
   | some (A,B,V)=>some (AV.lend B V A)
   | none=>none
  else none
 | _=>none
theorem Mem.froze {n0:Nat} {w0:World} {e:Env} {B:List Box} {V:List Vec} {w w':World} (hm:Mem n0 w0 e B V w) {e1:Env} {B1:List Box} {V0:List Vec} (h1:Mem w.heap.size w e1 B1 V0 w')
  (ar:Ext { e with base:=w.heap.size,H:=fun _=>none,y:=false } w 0 [] [] e1 w' B1.length (vers V0) (kss V0)) {r0:AV} {v:Value} (hr:AV.holds e1 w' (kss V0) r0 v) :
  ∃ e',Mem n0 w0 e' B V w'/\Ext e w B.length (vers V) (kss V) e' w' B.length (vers V) (kss V)/\AV.holds e' w' (kss V) (AV.lend B1 V0 r0) v:=by
 let S':Nat->Prop:=fun b=>e.S b\/(w.heap.size<=b/\b<w'.heap.size)
 have hS:∀ b,e1.S b->S' b:=fun b hb=>(ar.snew b hb).elim .inl fun hl=>.inr ⟨hl,h1.ro b hb⟩
 have ba:=AV.lend_holds' h1 (S:=S') hS (fun i b hb hl=>.inr ⟨(h1.boxlo i b hb hl).1,h1.lt_box hb hl⟩) (fun i x g hx hl hg=>.inr (by obtain ⟨xs,a1,_⟩:=h1.vec i x hx hl;exact a1.lt g hg)) r0 v hr
 have h2:Mem w.heap.size w { e1 with S:=S' } [] [] w':=by
  refine ⟨by simp,by simp,by simp,by simp,by simp,by simp,by simp,by simp,?_,h1.below,h1.base,h1.bl,h1.hid.of rfl ⟨rfl,rfl⟩ (fun b _=>.inr (by rw [ar.he rfl])) (fun i x h=>by grind) (fun _ _ _=>rfl) (by simp) (by simp)⟩
  rintro b (hb | hb)
  ·exact h1.ro b (ar.ro.sub b hb)
  omega
 obtain ⟨e',hρ,G0,nm,px,dl,hx⟩:=hm.beside h2 ar.ye S' (fun b hb=>.inl hb) (fun b hb=>hb.elim .inl fun hl=>.inr ⟨hl.1,hl.2,.inr hl⟩) (fun _ _ _ _ _ h=>h)
 refine ⟨e',by grind,by grind,?_⟩
 exact AV.closed_holds (e:={ e1 with S:=S' }) (fun b hb=>by grind) _ v (AV.lend_closed B1 V0 r0) ba
theorem XN (hF:Free F) (h:xK P s o.op=some A):aDg F n P o s A s.B:=by
 intro n0 w0 e a w Q K hr hk;unfold xK at h;split at h
 ·rename_i T len parts aa
  split at h
  ·rename_i bw
   split at h
   ·rename_i A0 B0 V0 he
    injection h with h
    subst h;refine jF (by grind) (by simp only [execOp,aa];exact k_v (rU _ _ _)) fun w₁ hw=>?_
    obtain ⟨cf,ar⟩:=hr.rely hw
    let a0:Act:={ tmps:=#[],defers:=[] }
    have gq:Rel w₁.heap.size w₁ { e with base:=w₁.heap.size,H:=fun _=>none,y:=false } ⟨[],[],[]⟩ a0 w₁:=⟨by simp [AV.all,a0],by simp,Mem.nothing e w₁ cf.mem.ro⟩
    have b8:=cf.evs (parts.toList.map (·.2))
    have Cs:AV.all { e with base:=w₁.heap.size,H:=fun _=>none,y:=false } w₁ (kss ([]:List Vec)) (parts.toList.map fun p=>s.ev p.2) (parts.toList.map fun p=>a.eval p.2):=
     AV.closeds_holds (e:=e) (e':={ e with base:=w₁.heap.size,H:=fun _=>none,y:=false }) (fun _ h=>h) _ _ bw (by simpa [Function.comp_def] using b8.1)
    obtain ⟨v,w',e1,g1,g2,g3,g4,g5⟩:=nL he gq (vparts:=(parts.toList.map fun p=>(p.1,a.eval p.2)).toArray) (by simp) (by grind [Function.comp_def])
    obtain ⟨e',f1,f2,f3⟩:=cf.mem.froze g2 g3 g4
    have ag:(execOp a.eval o).run P w₁=.ok (.value v) w':=by
     simp [execOp]
     have:(parts.map fun x=>(x.1,a.eval x.2))=(parts.toList.map fun p=>(p.1,a.eval p.2)).toArray:=by
      grind
     simp_all
    exact ⟨_,v,w',ag,.inl rfl,hk e' v w' f1 (ar.trans f2) f3 (AV.sco_closed _ _ _ (AV.lend_closed _ _ _))⟩
   grind
  grind
 grind
end
section
variable {F:Fence} {n:Nat} {P:Program} [C:Co P] {lo:List Oper} {b0:Nat}
end
section
variable {F:Fence} {n:Nat} {P:Program} [C:Co P]
end
attribute [simp] xK RY nN stp nB AV.closed AV.closeds
section
variable {P:Program} [C:Co P]
theorem OU {f:FuncId} {fn:Func} {c:Code} {args:List AV} {B:List Box} {V:List Vec} {K:AV->List Box->List Vec->Prop} (hf:P.funcs[f]? = some fn) (hb:fn.body=some c)
  (h:∀ (F:Fence) (n:Nat),Free F->W F n P c ⟨args++List.replicate (fn.ntmps - args.length) .any,B,V⟩ fun ex st'=>(ex=.normal\/ex=.ret)/\∃ r,nM P st' fn.results.toList=some r/\K r st'.B st'.V) :
  CallP P f args B V K:=by
 intro F n hF am n0 w0 e w vs hm hv hs;refine iQ hf hb ?_ am
 have af:Rel n0 w0 e ⟨args++List.replicate (fn.ntmps - args.length) .any,B,V⟩ { tmps:=vs++Array.replicate (fn.ntmps - vs.size) undef,defers:=[] } w:=by
  have hl:vs.size=args.length:=by have:=hv.length;omega
  refine ⟨?_,?_,hm⟩
  ·simp [hl]
   refine hv.append ?_;generalize fn.ntmps - args.length=k
   induction k with
   | zero=>simp [AV.all]
   | succ k ih=>grind [AV.all,AV.holds]
  grind [AV.scos_iff,AV.sco]
 refine h F n hF n0 w0 e _ w _ af ?_;rintro ex e' st' a' w' ⟨ja,r,hr,hK⟩ de bq hx
 have dn:gL P fn a'.tmps (fun en w'=>∃ e' B' V' r v,en=.returned v/\K r B' V'/\Mem n0 w0 e' B' V' w'/\Ext e w B.length (vers V) (kss V) e' w' B'.length (vers V') (kss V') /\
   AV.holds e' w' (kss V') r v/\AV.sco B'.length (vers V') r) a'.defers w':=by
  rw [bq];intro w₁ hw₁;obtain ⟨jb,dw⟩:=de.rely hw₁;obtain ⟨v,a1,a2,a3⟩:=uE (fn:=fn) jb hr;exact ⟨v,a1,e',st'.B,st'.V,r,v,rfl,hK,jb.mem,hx.trans dw,a2,a3⟩
 rcases ja with rfl | rfl
 ·exact dn
 ·exact dn
end
def lk:List (Nat×AV)->Nat->AV
 | [],_=>.any
 | (k,x)::l,d=>if k=d then x else lk l d
def mkT (n:Nat) (l:List (Nat×AV)):List AV:=(List.range n).map (lk l)
@[simp] theorem aIM (d:Nat):lk [] d=.any:=rfl
@[simp] theorem vQ (k:Nat) (x:AV) (l:List (Nat×AV)) (d:Nat):lk ((k,x)::l) d=if k=d then x else lk l d:=rfl
@[simp] theorem EY (n:Nat) (l:List (Nat×AV)):(mkT n l).length=n:=by simp [mkT]
@[simp] theorem LX (n:Nat) (l:List (Nat×AV)) (d:Nat):(mkT n l)[d]? = if d<n then some (lk l d) else none:=by
  simp only [mkT,List.getElem?_map];split
  ·rename_i h;simp [h]
  ·rename_i h;simp [h]
@[simp] theorem aES (n:Nat) (l:List (Nat×AV)) (d:Nat) (h:d<(mkT n l).length):(mkT n l)[d]=lk l d:=by simp [mkT]
@[simp] theorem aDh (n:Nat) (l:List (Nat×AV)) (d:Nat) (x:AV):(mkT n l).set d x=mkT n ((d,x)::l):=by
  refine List.ext_getElem? fun i=>?_
  rw [List.getElem?_set,LX,LX,EY]
  by_cases h:d=i
  ·subst h;simp
  ·simp [h]
theorem nO (f:AV->AV) (hf:f .any=.any):∀ (l:List (Nat×AV)) (d:Nat),lk (l.map fun p=>(p.1,f p.2)) d=f (lk l d)
 | [],d=>by simp [hf]
 | (k,x)::l,d=>by simp [nO f hf l d];grind
def dB:Nat->List AV->List (Nat×AV)
 | _,[]=>[]
 | k,x::xs=>(k,x)::dB (k+1) xs
theorem VD:∀ (xs:List AV) (k d:Nat),lk (dB k xs) d=if d<k then .any else (xs[d - k]?).getD .any
 | [],k,d=>by simp [dB]
 | x::xs,k,d=>by
  simp [dB,VD xs (k+1) d];grind
theorem start_eq (args:List AV) (n:Nat) (h:args.length<=n):args++List.replicate (n - args.length) .any=mkT n (dB 0 args):=by
 refine List.ext_getElem? fun i=>?_
 grind [LX,VD]
theorem vR (f:Nat->AV):∀ (ks:List Nat) (d:Nat),lk (ks.map fun k=>(k,f k)) d=if ks.contains d then f d else .any
 | [],d=>by simp
 | k::ks,d=>by
  simp [vR f ks d];grind
section
variable {F:Fence} {n:Nat} {P:Program} [C:Co P]
end
attribute [simp] dB
section
variable {F:Fence} {n:Nat} {P:Program} [C:Co P]
end
section
variable {F:Fence} {n:Nat} {P:Program} [C:Co P]
end
def dS (P:Program) (f:FuncId):Bool:=
 match P.funcs[f]? with
 | some fn=>!(fn.name == "runtime.NumGoroutine")&&fn.body.isSome
 | none=>false
theorem enters {P:Program} {f:FuncId} (h:dS P f=true):Ent P f:=by
 unfold dS at h;split at h
 ·rename_i fn la
  simp at h;obtain ⟨c,hc⟩:=Option.isSome_iff_exists.1 h.2;intro as;refine ⟨fun w=>by simp_all [callFunc],?_⟩
  unfold callFunc;refine jZ (s:=program) (a:=P) (w:=default) (w':=default) trivial rfl ?_;simp only [la,hc];split
  ·trivial
  ·trivial
 ·cases h
def fzB (i:Nat) (cs:List CV):AV->AV
 | .ptr j o=>if j=i then .cv (.ref (cs.drop o)) else .ptr j o
 | x=>x
def fzV (i:Nat) (ver:Nat) (c:CV):AV->AV
 | .own j u=>if j=i/\u=ver then .cv c else .own j u
 | x=>x
section
variable {F:Fence} {n:Nat} {P:Program} [C:Co P]
theorem Rel.freezeV {n0:Nat} {w0:World} {e:Env} {st:St} {a:Act} {w:World} (hr:Rel n0 w0 e st a w) {i:Nat} {x:Vec} {c:CV} (hx:st.V[i]? = some x) (hl:x.live=true) (hc:fB st.V (.own i x.ver)=some c) :
  ∃ e',Rel n0 w0 e' ⟨st.t.map (fzV i x.ver c),st.B,st.V.set i { x with live:=false }⟩ a w/\cL e st w e' st.B (st.V.set i { x with live:=false }) w:=by
 let S':Nat->Prop:=fun b=>e.S b\/aY (e.hdr i x.ver)=some b
 let e':Env:={ e with S:=S' }
 let V':=st.V.set i { x with live:=false }
 have ir:vers V'=vers st.V:=by
  refine List.ext_getElem? fun j=>?_
  grind
 obtain ⟨xs,a1,a2,a3⟩:=hr.mem.vec i x hx hl
 have ae:∀ (j:Nat) (y:Vec),V'[j]? = some y->y.live=true->j≠i/\st.V[j]? = some y:=by
  grind
 have fw:cL e st w e' st.B V' w:=by
  refine ⟨⟨fun b hb=>.inl hb,fun _ _=>rfl⟩,fun _ _=>rfl,fun _ _ _ _=>rfl,Nat.le_refl _,by grind,fun j _=>by grind,fun j _=>by grind,Nat.le_refl _,?_,rfl,fun _=>rfl,rfl⟩
  rintro b (hb | hb)
  ·grind
  ·exact .inr (Nat.le_trans hr.mem.bl.1 (a1.lt b hb).1)
 have am:RO w e.S w S':=⟨fun b hb=>.inl hb,fun _ _=>rfl⟩
 have hm:Mem n0 w0 e' st.B V' w:=by
  refine ⟨?_,?_,?_,hr.mem.boxinj,?_,?_,?_,?_,?_,hr.mem.below,hr.mem.base,hr.mem.bl,hr.mem.hid.of rfl ⟨rfl,rfl⟩ (fun b hb=>hb.imp id fun hg=>hr.mem.hid.vec i x b hx hl hg) (SameG.set (show x.T≠ghT from hr.mem.liveT hx hl)) (fun _ _ _=>rfl) (fun i b hb hl=>.inl ⟨i,b,hb,hl,rfl⟩) (fun j y g hj aq hg=>.inl ⟨j,y,(ae j y hj aq).2,aq,hg⟩)⟩
  ·intro j b hb bo
   obtain ⟨vs,h1,h2⟩:=hr.mem.box j b hb bo;exact ⟨vs,h1,AV.all.mono fw _ _ (hr.mem.boxsc j b hb) h2⟩
  ·intro j b hb
   rw [ir];exact hr.mem.boxsc j b hb
  ·intro j b hb bo
   obtain ⟨h1,h2⟩:=hr.mem.boxlo j b hb bo;refine ⟨h1,?_⟩;rintro (hs | hs)
   ·grind
   ·exact hr.mem.vecbox i x j b _ hx hl hb bo hs rfl
  ·intro j y hj aq
   obtain ⟨_,gg⟩:=ae j y hj aq;obtain ⟨ys,h1,h2,h3⟩:=hr.mem.vec j y gg aq;exact ⟨ys,h1,CV.vals.mono am _ _ h2,h3⟩
  ·intro j y g hj aq hg
   obtain ⟨bY,gg⟩:=ae j y hj aq;rintro (hs | hs)
   ·exact hr.mem.vecS j y g gg aq hg hs
   ·exact bY (hr.mem.vecinj j y i x g gg aq hx hl hg hs)
  ·intro j y k b g hj aq hb bo hg
   obtain ⟨_,gg⟩:=ae j y hj aq;exact hr.mem.vecbox j y k b g gg aq hb bo hg
  ·intro j y k z g hj aq hk eu hg eg
   obtain ⟨_,gg⟩:=ae j y hj aq;obtain ⟨_,kc⟩:=ae k z hk eu;exact hr.mem.vecinj j y k z g gg aq kc eu hg eg
  ·rintro b (hb | hb)
   ·exact hr.mem.ro b hb
   ·exact (a1.lt b hb).2
 have dq:∀ (y:AV) (v:Value),AV.sco st.B.length (vers st.V) y->AV.holds e w (kss st.V) y v->AV.holds e' w (kss V') (fzV i x.ver c y) v:=by
  intro y v hs hv;have lc:=AV.holds.mono fw y v hs hv;unfold fzV;split
  ·rename_i j u
   split
   ·rename_i hj
    obtain ⟨rfl,rfl⟩:=hj
    have:=lendV_holds hr.mem (S:=S') (fun b hb=>.inl hb) (x:=.own j x.ver) (fun i' u' he y g hy aq hg=>by
     grind) hc hv
    grind [AV.holds]
   omega
  omega
 refine ⟨e',⟨?_,?_,hm⟩,fw⟩
 ·have:∀ (xs:List AV) (us:List Value),AV.scos st.B.length (vers st.V) xs->AV.all e w (kss st.V) xs us->AV.all e' w (kss V') (xs.map (fzV i x.ver c)) us:=by
   intro xs
   induction xs with
   | nil=>grind [AV.all]
   | cons y ys ih =>
    intro us hs h;cases us with
    | nil=>grind [AV.all]
    | cons v us =>
     grind [AV.all,AV.scos]
  exact this _ _ hr.sc hr.tm
 ·rw [ir,AV.scos_iff]
  intro y hy;simp at hy;obtain ⟨z,hz,rfl⟩:=hy;have:=AV.scos_iff.1 hr.sc z hz;unfold fzV;grind [AV.sco]
end
section
variable {F:Fence} {n:Nat} {P:Program} [C:Co P]
theorem Rel.freezeB {n0:Nat} {w0:World} {e:Env} {st:St} {a:Act} {w:World} (hr:Rel n0 w0 e st a w) {i:Nat} {x:Box} {cs:List CV} (hx:st.B[i]? = some x) (hl:x.live=true) (bc:dX x.cs=some cs) :
  ∃ e',Rel n0 w0 e' ⟨st.t.map (fzB i cs),st.B.set i { x with live:=false },st.V⟩ a w/\cL e st w e' (st.B.set i { x with live:=false }) st.V w:=by
 let S':Nat->Prop:=fun b=>e.S b\/b=e.ρ i
 let e':Env:={ e with S:=S' }
 let B':=st.B.set i { x with live:=false }
 have hi:i<st.B.length:=(List.getElem?_eq_some_iff.1 hx).1;have ak:B'.length=st.B.length:=by grind
 obtain ⟨vs,a1,a2⟩:=hr.mem.box i x hx hl;have ek:=hr.mem.boxlo i x hx hl
 have ae:∀ (j:Nat) (y:Box),B'[j]? = some y->y.live=true->j≠i/\st.B[j]? = some y:=by
  grind
 have fw:cL e st w e' B' st.V w:=by
  refine ⟨⟨fun b hb=>.inl hb,fun _ _=>rfl⟩,fun _ _=>rfl,fun _ _ _ _=>rfl,by omega,Nat.le_refl _,fun j _=>Nat.le_refl _,fun j _=>rfl,Nat.le_refl _,?_,rfl,fun _=>rfl,rfl⟩
  rintro b (hb | hb)
  ·grind
  ·exact .inr (by rw [hb];exact Nat.le_trans hr.mem.bl.1 ek.1)
 have am:RO w e.S w S':=⟨fun b hb=>.inl hb,fun _ _=>rfl⟩
 have hm:Mem n0 w0 e' B' st.V w:=by
  refine ⟨?_,?_,?_,?_,?_,?_,?_,hr.mem.vecinj,?_,hr.mem.below,hr.mem.base,hr.mem.bl,hr.mem.hid.of rfl ⟨rfl,rfl⟩ (fun b hb=>hb.imp id fun hg=>by rw [hg];exact hr.mem.hid.box i x hx hl) (SameG.refl _) (fun _ _ _=>rfl) (fun j y hj aq=>.inl ⟨j,y,(ae j y hj aq).2,aq,rfl⟩) (fun i x g hi hl hg=>.inl ⟨i,x,hi,hl,hg⟩)⟩
  ·intro j b hb bo
   obtain ⟨_,cd⟩:=ae j b hb bo;obtain ⟨us,h1,h2⟩:=hr.mem.box j b cd bo;exact ⟨us,h1,AV.all.mono fw _ _ (hr.mem.boxsc j b cd) h2⟩
  ·intro j b hb
   rw [ak];rw [List.getElem?_set] at hb;split at hb
   ·simp at hb
    subst hb;exact hr.mem.boxsc i x hx
   ·exact hr.mem.boxsc j b hb
  ·intro j b hb bo
   obtain ⟨bY,cd⟩:=ae j b hb bo;obtain ⟨h1,h2⟩:=hr.mem.boxlo j b cd bo;refine ⟨h1,?_⟩;rintro (hs | hs)
   ·grind
   ·exact bY (hr.mem.boxinj j i b x cd hx bo hl hs)
  ·intro j k b c hb hc bo bw he
   obtain ⟨_,cd⟩:=ae j b hb bo;obtain ⟨_,gc⟩:=ae k c hc bw;exact hr.mem.boxinj j k b c cd gc bo bw he
  ·intro j y hj aq
   obtain ⟨ys,h1,h2,h3⟩:=hr.mem.vec j y hj aq;exact ⟨ys,h1,CV.vals.mono am _ _ h2,h3⟩
  ·intro j y g hj aq hg
   rintro (hs | hs)
   ·exact hr.mem.vecS j y g hj aq hg hs
   ·exact hr.mem.vecbox j y i x g hj aq hx hl hg hs.symm
  ·intro j y k b g hj aq hb bo hg
   obtain ⟨_,cd⟩:=ae k b hb bo;exact hr.mem.vecbox j y k b g hj aq cd bo hg
  ·rintro b (hb | hb)
   ·exact hr.mem.ro b hb
   grind
 have ce:CV.cells w S' cs (e.ρ i) 0:=by
  rw [qR bc] at a2;have bu:=CV.vals.mono am _ _ (jO a2);refine CV.cells.of_vals bu fun j u hj=>?_
  grind [cell_of_row]
 have dq:∀ (y:AV) (v:Value),AV.sco st.B.length (vers st.V) y->AV.holds e w (kss st.V) y v->AV.holds e' w (kss st.V) (fzB i cs y) v:=by
  intro y v hs hv;have lc:=AV.holds.mono fw y v hs hv;unfold fzB;split
  ·rename_i j o
   split
   ·rename_i hc
    subst hc;exact ⟨e.ρ j,o,hv,.inr rfl,by simpa using ce.drop o⟩
   omega
  omega
 refine ⟨e',⟨?_,?_,hm⟩,fw⟩
 ·have:∀ (xs:List AV) (us:List Value),AV.scos st.B.length (vers st.V) xs->AV.all e w (kss st.V) xs us->AV.all e' w (kss st.V) (xs.map (fzB i cs)) us:=by
   intro xs
   induction xs with
   | nil=>grind [AV.all]
   | cons y ys ih =>
    intro us hs h;cases us with
    | nil=>grind [AV.all]
    | cons v us =>
     grind [AV.all,AV.scos]
  exact this _ _ hr.sc hr.tm
 ·rw [ak,AV.scos_iff]
  intro y hy;simp at hy;obtain ⟨z,hz,rfl⟩:=hy;have:=AV.scos_iff.1 hr.sc z hz;unfold fzB;grind [AV.sco]
end
attribute [simp] fzB fzV
end Go.Sx
