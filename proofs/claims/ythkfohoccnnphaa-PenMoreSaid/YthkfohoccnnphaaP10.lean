/-
  The law PenMore of the pens of a pound holds at every input, without any condition.
-/
import Derived.KernelRfl
import Derived.Shelf.Slices.Delete
import Derived.Shelf.Slices.In.SortNone
import Derived.Shelf.Sort.Plain
import Derived.Sort.OwnSortedInts
import Derived.Test.YthkfohoccnnphaaProg
import Derived.Test.YthkfohoccnnphaaRows
import Derived.Test.YthkfohoccnnphaaP09
namespace Go.Proofs.Ythkfohoccnnphaa
open Go Go.Sx Go.Pen
set_option maxRecDepth 10000
attribute [local simp] Bool.and_assoc Bool.or_assoc
variable {its:ITS}
structure Fit (y:Yard):Prop where
  p:y.pens.length<9223372036854775807
  k:y.kinds.length<9223372036854775807
theorem has9 {y:Yard} (hy:y.ok=true) {l:List Int} (h:sortsOk y l=true):∀ s∈l,1≤s∧s≤9:=fun s hs=>has_range hy (sorts_has h s hs)
def isP (y:Yard) (l p:List Int):Bool:=p.length == l.length&&okZ y (l.zip p)
theorem isP_mem {y:Yard} {l p:List Int}:isP y l p=true↔p∈PL y l:=by
  rw [mem_PL]
  unfold isP
  rw [Bool.and_eq_true,beq_iff_eq]
  constructor
  · rintro ⟨h1,h2⟩;exact ⟨h1,by rw [okP_eq h1];exact h2⟩
  · rintro ⟨h1,h2⟩;exact ⟨h1,by rw [← okP_eq h1];exact h2⟩
def checkPlace (y:Yard) (l p:List Int):Int:=if asked y l=0 then (if isP y l p=true then 0 else 52) else asked y l
theorem w_CheckPlace (n:Nat) {y:Yard} (hf:Fit y) (l p:List Int) (hl:l.length<9223372036854775807) (hp:p.length<9223372036854775807) :
    D its (n+8) n_pen_CheckPlace [.row 1 y.ps,.row 4 y.ks,.row 1 (ints l),.row 1 (ints p)]=some [ci (checkPlace y l p)]:=by
  rw [q_pen_CheckPlace]
  unfold R_pen_CheckPlace checkPlace
  rw [w_asked _ y l hf.p hf.k hl]
  by_cases h:asked y l=0
  · obtain ⟨hy,hs⟩:=asked_ok h
    have:=sorts_len hs
    have hfl:=w_fill (its:=its) (n+5) hy l p (has9 hy hs) (by omega) hp
    change D its (n+7) _ _=some [refIf (isP y l p) _,cb (isP y l p)] at hfl
    cases hi:isP y l p <;> simp [h,refIf,hfl,hi]
  · simp [h]
def fl (y:Yard) (z:BP):List CV:=[.row 1 (ints (freeZ y z)),.row 1 (ints (sortZ y z))]
theorem w_placed (n:Nat) {y:Yard} (hf:Fit y) (l p:List Int) (hl:l.length<9223372036854775807) (hp:p.length<9223372036854775807) :
    D its (n+8) n_pen_placed [.row 1 y.ps,.row 4 y.ks,.row 1 (ints l),.row 1 (ints p)]=some [refIf (checkPlace y l p == 0) (pc y),refIf (checkPlace y l p == 0) (fl y (l.zip p)),ci (checkPlace y l p)]:=by
  rw [q_pen_placed]
  unfold R_pen_placed checkPlace
  rw [w_asked _ y l hf.p hf.k hl]
  by_cases h:asked y l=0
  · obtain ⟨hy,hs⟩:=asked_ok h
    have:=sorts_len hs
    have hfl:=w_fill (its:=its) (n+5) hy l p (has9 hy hs) (by omega) hp
    change D its (n+7) _ _=some [refIf (isP y l p) (fl y (l.zip p)),cb (isP y l p)] at hfl
    cases hi:isP y l p <;> simp [h,refIf,hfl,hi]
  · simp [h,refIf]
theorem checkPlace_ok {y:Yard} {l p:List Int} (h:checkPlace y l p=0):y.ok=true∧sortsOk y l=true∧isP y l p=true:=by
  unfold checkPlace at h
  by_cases ha:asked y l=0
  · obtain ⟨hy,hs⟩:=asked_ok ha
    rw [if_pos ha] at h
    refine ⟨hy,hs,?_⟩
    cases hi:isP y l p with
    | true=>rfl
    | false=>rw [hi] at h;simp at h
  · rw [if_neg ha] at h;exact absurd h ha
theorem isP_len {y:Yard} {l p:List Int} (h:isP y l p=true):p.length=l.length∧okZ y (l.zip p)=true:=by
  unfold isP at h
  simpa using h
theorem w_Free (n:Nat) {y:Yard} (hf:Fit y) (l p:List Int) (hl:l.length<9223372036854775807) (hp:p.length<9223372036854775807) :
    D its (n+9) n_pen_Free [.row 1 y.ps,.row 4 y.ks,.row 1 (ints l),.row 1 (ints p)]=some (if checkPlace y l p=0 then [.row 1 (ints (freeZ y (l.zip p))),ci 0] else [.row 1 [],ci (checkPlace y l p)]):=by
  rw [q_pen_Free]
  unfold R_pen_Free
  rw [w_placed _ hf l p hl hp]
  by_cases h:checkPlace y l p=0
  · simp [h,refIf,fl,gr,cR,oks,Lf.ok]
  · simp [h]
theorem w_takes (n:Nat) {y:Yard} (hy:y.ok=true) {z:BP} (hz:∀ x∈z,1≤x.1∧x.1≤9) {s:Int} (hs:1≤s∧s≤9) {q:Nat} (hq:q<y.pens.length) :
    D its (n+1) n___pen_pound__takes [.ref (pc y),.ref (fl y z),ci (q:Int),ci s]=some [cb (canGo y z s q)]:=by
  rw [q___pen_pound__takes]
  unfold R___pen_pound__takes
  have hin:within (q:Int) 0 ((y.pens.length:Int) - 1)=true:=by simp [within];omega
  rw [canGo_test hy hz hs hin (pf_mask hy (a:=s.toNat) (by omega) |>.congr fun b _=>by rw [show ((s.toNat:Nat):Int)=s by omega])]
  obtain ⟨k1,k2⟩:=pc_kind hy (s:=s) (by omega) (by omega) (c:=1) (by omega)
  obtain ⟨k3,k4⟩:=pc_mask (y:=y) (s:=s) (by omega) (by omega)
  have k5:((0:Int)≤s)=True:=eq_true (by omega)
  have k7:(s<Int.ofNat 10)=True:=eq_true (by show s<10;omega)
  have e3:inb (q:Int) (ints (freeZ y z))=true:=inb_ints (by simpa using hq)
  have e4:el (ints (freeZ y z)) (q:Int)=[ci (y.pens.getD q 0 - Pen.load y z q)]:=by rw [el_ints (by simpa using hq),freeZ_get]
  have e5:inb (q:Int) (ints (sortZ y z))=true:=inb_ints (by simpa using hq)
  have e6:el (ints (sortZ y z)) (q:Int)=[ci (maskZ z q:Int)]:=by rw [el_ints (by simpa using hq),sortZ_get]
  have f0:oks [.row 1] (fl y z) 0=true:=rfl
  have f1:oks [.row 1] (List.drop 1 (fl y z)) 0=true:=rfl
  have f2:gr (fl y z) 0=ints (freeZ y z):=rfl
  have f3:gr (List.drop 1 (fl y z)) 0=ints (sortZ y z):=rfl
  simp only [k1,k2,k3,k4,k5,k7,decide_true,Bool.and_self,chk_true,List.drop_zero,f0,f1,f2,f3,e3,e4,e5,e6,li1,kd_room,gi_z,Int.toNat_natCast]
  by_cases hr:rm y s≤y.pens.getD q 0 - Pen.load y z q
  · have hr':=eq_true hr
    simp only [hr',decide_true,iteB,retO_ret,Bool.true_and]
  · have hr':=eq_false hr
    simp only [hr',decide_false,iteB,retO_ret,Bool.false_and]
theorem zip9 {y:Yard} (hy:y.ok=true) {l p:List Int} (h:sortsOk y l=true):∀ x∈l.zip p,1≤x.1∧x.1≤9:=fun x hx=>has9 hy h x.1 (List.of_mem_zip hx).1
def addP (y:Yard) (z:BP) (s:Int):Option Nat:=(List.range y.pens.length).find? fun (q:Nat)=>canGo y z s (q:Int)
theorem w_Add (n:Nat) {y:Yard} (hf:Fit y) (l p:List Int) (s:Int) (hl:l.length<9223372036854775807) (hp:p.length<9223372036854775807) :
    D its (n+9) n_pen_Add [.row 1 y.ps,.row 4 y.ks,.row 1 (ints l),.row 1 (ints p),ci s]=some (if checkPlace y l p=0 then (if has y s=true then (if l.length=8 then [ci 0,ci 2] else match addP y (l.zip p) s with | some q=>[ci (q:Int),ci 0] | none=>[ci 0,ci 53]) else [ci 0,ci 51]) else [ci 0,ci (checkPlace y l p)]):=by
  rw [q_pen_Add]
  unfold R_pen_Add
  rw [w_placed _ hf l p hl hp]
  by_cases h:checkPlace y l p=0
  · obtain ⟨hy,hs,hi⟩:=checkPlace_ok h
    have h8:=sorts_len hs
    have h5:=(ok_length hy).1
    simp only [h,beq_self_eq_true,refIf,if_true,callO_val,gi_s,gi_z,List.getD_cons_zero,List.getD_cons_succ,isRefC_ref,cF_ref,chk_true,w_has _ hy,gb_z]
    have hb:((0:Int) != 0)=false:=rfl
    rw [hb]
    simp only [iteB]
    cases hh:has y s with
    | false=>simp
    | true =>
      have h9:=has_range hy hh
      simp only [Bool.not_true,il_ints',if_true,List.drop_zero,pc_ok,chk_true,pc_gr,il_ps]
      by_cases h8':l.length=8
      · have:(((l.length:Int)) == 8)=true:=by simp;omega
        rw [this,if_pos h8']
        rfl
      · have:(((l.length:Int)) == 8)=false:=by simp;omega
        rw [this,if_neg h8']
        simp only
        rw [loop_find y.pens.length (fun i=>[ci (i:Int)]) (fun (q:Nat)=>canGo y (l.zip p) s (q:Int)) (fun i=>some (.ret [ci (i:Int),ci 0])) (some (.br 1 [])) ?hv ?hR ?hX (fun i hi hp=>?s1) (fun i hi hp=>?s2) ?s3]
        case hv=>rfl
        case hR=>simp
        case hX=>simp
        case s3=>simp
        case s1=>simp only [gi_z,eq_true (show ((i:Int)<(y.pens.length:Int)) by omega),decide_true,w_takes _ hy (zip9 hy hs) h9 hi,callO_val,gb_z,hp,wr_nat (show i<9223372036854775807 by omega)]
        case s2=>simp only [gi_z,eq_true (show ((i:Int)<(y.pens.length:Int)) by omega),decide_true,w_takes _ hy (zip9 hy hs) h9 hi,callO_val,gb_z,hp]
        · unfold addP
          cases (List.range y.pens.length).find? (fun (q:Nat)=>canGo y (l.zip p) s (q:Int)) <;> simp
  · simp [h]
end Go.Proofs.Ythkfohoccnnphaa
namespace Go.Proofs.Ythkfohoccnnphaa
open Go Go.Sx Go.Pen
set_option maxRecDepth 10000
attribute [local simp] Bool.and_assoc Bool.or_assoc
variable {its:ITS}
def yl (x:List Int):List CV:=[.row 1 (ints x)]
structure ItsM (its:ITS):Prop where
  all:∀ n y l,y.ok=true→sortsOk y l=true→D its (n+1) 116 [.ref [.row 1 (ints l)],.ref [.ref (pc y)]]=some [.row 0 ((PL y l).map yl),shC (.lent 3 1)]
  lists:∀ n k many:Nat,k<9→0<many→many<10→D its (n+1) 121 [.ref [ci (many:Int)],.ref [ci (k:Int)]]=some [.row 0 ((rls k many 0).map yl),shC (.clo [.one (.row 1)])]
  del:∀ n (l:List Int) (i:Nat),i<l.length→l.length<1000000→D its (n+1) 82 [.row 1 (ints l),.fn 3 [],ci (i:Int),ci ((i+1:Nat):Int)]=some [.row 1 (ints (l.eraseIdx i)),.val (.bool true)]
  sort:∀ n (l:List Int),l.length<1000000→D its (n+1) 70 [.row 1 (ints l),.fn 3 []]=some [.row 1 (ints (l.mergeSort fun a b=>decide (a≤b))),.val (.bool false)]
theorem itVJ_of {M:Den} {f:FuncId} {caps:List CV} {rows:List (List CV)} {sh:YSh} (hs:sg f=none) (h:M f caps=some [.row 0 rows,shC sh]):itVJ sg M (.fn f caps) sh=some rows:=by
  simp [itVJ,hs,h]
theorem sg116:sg 116=none:=rfl
theorem sg121:sg 121=none:=rfl
theorem PL_len {y:Yard} {l x:List Int} (h:x∈PL y l):x.length=l.length:=(mem_PL.1 h).1
theorem clone8 {x:List Int} (h:x.length≤8):nilD (ints x) (some (.ret [.row 1 []])) (chk (fitA 0 x.length 8) (some (.ret [.row 1 (ints x)])))=some (.ret [.row 1 (ints x)]):=by
  have:=clone_row 1 8 (fun x:Int=>[ci x]) x (by omega) (by omega)
  rw [List.length_map] at this
  exact this
theorem w_all (n:Nat) (x:List CV) (l:List (List CV)):D its (n+1) n___pen_pound__all [.ref x,.row 1 l]=some [.fn 116 [.ref [.row 1 l],.ref [.ref x]]]:=by
  rw [q___pen_pound__all];rfl
theorem nth_range {step:List CV→List CV→Option Ou} {R:Option Ou} (h0:∀ (x:List Int) c d,x.length≤8→step (yl x) [ci 0,c,d]=some (.ret [.row 1 (ints x),cb true]))
    (h1:∀ (x:List Int) (k:Nat) c d,k<100000→step (yl x) [ci ((k+1:Nat):Int),c,d]=some (.nx [ci (k:Int),.row 1 (cR c),cb (cB d)])):∀ (rows:List (List Int)) (k:Nat) (c d:CV),k<100000→(∀ x∈rows,x.length≤8) →
    seqO (brO (rangeK step (rows.map yl) [ci (k:Int),c,d])) (fun _=>R)=match rows[k]? with | some x=>some (.ret [.row 1 (ints x),cb true]) | none=>R
  | [],k,c,d,_,_=>by simp [rangeK,brO]
  | x::rows,0,c,d,_,h=>by
    simp only [List.map_cons,rangeK]
    rw [show ((0:Nat):Int)=0 from rfl,h0 x c d (h x (by simp))]
    rfl
  | x::rows,k+1,c,d,hk,h=>by
    simp only [List.map_cons,rangeK,h1 x k c d (by omega),List.getElem?_cons_succ]
    exact nth_range h0 h1 rows k _ _ (by omega) fun z hz=>h z (by simp [hz])
theorem w_nth (hI:ItsM its) (n:Nat) {y:Yard} (hy:y.ok=true) {l:List Int} (hs:sortsOk y l=true) (k:Nat) (hk:k<100000) :
    D its (n+2) n___pen_pound__nth [.ref (pc y),.row 1 (ints l),ci (k:Int)]=some (match (PL y l)[k]? with | some x=>[.row 1 (ints x),cb true] | none=>[.row 1 [],cb false]):=by
  rw [q___pen_pound__nth]
  unfold R___pen_pound__nth
  rw [w_all,callO_val,List.getD_cons_zero,itVJ_of sg116 (hI.all n y l hy hs),rangeJO]
  have h8:=sorts_len hs
  rw [nth_range (R:=some (.ret [.row 1 [],cb false])) ?h0 ?h1 _ _ _ _ hk (fun x hx=>by rw [PL_len hx];exact h8)]
  case h0 =>
    intro x c d hx
    simp only [gi_z,yl,gr_z,ints_length,clone8 hx]
    rfl
  case h1 =>
    intro x k c d hk
    have e:(((k+1:Nat):Int) == 0)=false:=by simp;omega
    have e2:wr (((k+1:Nat):Int) - 1)=(k:Int):=by rw [wr_of] <;> omega
    simp only [gi_z,e,e2]
    rfl
  · cases (PL y l)[k]? <;> rfl
theorem w_Place (hI:ItsM its) (n:Nat) {y:Yard} (hf:Fit y) (l:List Int) (hl:l.length<9223372036854775807) :
    D its (n+8) n_pen_Place [.row 1 y.ps,.row 4 y.ks,.row 1 (ints l)]=some (if asked y l=0 then (match (PL y l)[0]? with | some x=>[.row 1 (ints x),ci 0] | none=>[.row 1 [],ci 53]) else [.row 1 [],ci (asked y l)]):=by
  rw [q_pen_Place]
  unfold R_pen_Place
  rw [w_asked _ y l hf.p hf.k hl]
  by_cases h:asked y l=0
  · obtain ⟨hy,hs⟩:=asked_ok h
    have hn:=w_nth hI (n+5) hy hs 0 (by omega)
    rw [show ((0:Nat):Int)=0 from rfl] at hn
    simp only [h,beq_self_eq_true,refIf,if_true,callO_val,gi_s,gi_z,List.getD_cons_zero,isRefC_ref,cF_ref,chk_true,hn]
    have hb:((0:Int) != 0)=false:=rfl
    rw [hb]
    simp only [iteB]
    cases (PL y l)[0]? <;> rfl
  · simp [h]
theorem count_range {step:List CV→List CV→Option Ou} (h:∀ (x:List Int) (m:Nat),m<1000→step (yl x) [ci (m:Int)]=if m+1=1000 then some (.br 0 [ci 1000]) else some (.nx [ci ((m+1:Nat):Int)])):∀ (rows:List (List Int)) (m:Nat),m<1000 →
    brO (rangeK step (rows.map yl) [ci (m:Int)])=some (.nx [ci ((min 1000 (m+rows.length):Nat):Int)])
  | [],m,hm=>by
    simp only [List.map_nil,rangeK,brO,List.length_nil]
    rw [show min 1000 (m+0)=m by omega]
  | x::rows,m,hm=>by
    simp only [List.map_cons,rangeK,h x m hm]
    by_cases e:m+1=1000
    · rw [if_pos e]
      simp only [brO,List.length_cons]
      rw [show min 1000 (m+(rows.length+1))=1000 by omega]
      rfl
    · rw [if_neg e]
      have:=count_range h rows (m+1) (by omega)
      simp only [this,List.length_cons]
      rw [show m+1+rows.length=m+(rows.length+1) by omega]
theorem w_Count (hI:ItsM its) (n:Nat) {y:Yard} (hf:Fit y) (l:List Int) (hl:l.length<9223372036854775807) :
    D its (n+8) n_pen_Count [.row 1 y.ps,.row 4 y.ks,.row 1 (ints l)]=some (if asked y l=0 then [ci ((min 1000 (PL y l).length:Nat):Int),ci 0] else [ci 0,ci (asked y l)]):=by
  rw [q_pen_Count]
  unfold R_pen_Count
  rw [w_asked _ y l hf.p hf.k hl]
  by_cases h:asked y l=0
  · obtain ⟨hy,hs⟩:=asked_ok h
    simp only [h,beq_self_eq_true,refIf,if_true,callO_val,gi_s,gi_z,List.getD_cons_zero,isRefC_ref,cF_ref,chk_true,w_all,itVJ_of sg116 (hI.all _ y l hy hs),rangeJO]
    have hc:=count_range (step:=fun x2 v2=>iteB (wr (gi v2 0+1) == 1000) (some (.br 0 [ci (wr (gi v2 0+1))])) (some (.nx [ci (wr (gi v2 0+1))]))) ?hh (PL y l) 0 (by omega)
    case hh =>
      intro x m hm
      simp only [gi_z,wr_nat (show m<9223372036854775807 by omega)]
      by_cases e:m+1=1000
      · rw [if_pos e,e];rfl
      · rw [if_neg e]
        have:((((m+1:Nat):Int)) == 1000)=false:=by simp;omega
        rw [this];rfl
    rw [show ((0:Nat):Int)=0 from rfl,Nat.zero_add] at hc
    rw [hc]
    rfl
  · simp [h]
theorem w_Take (hI:ItsM its) (n:Nat) {y:Yard} (hf:Fit y) (l p:List Int) (i:Int) (hl:l.length<9223372036854775807) (hp:p.length<9223372036854775807) :
    D its (n+9) n_pen_Take [.row 1 y.ps,.row 4 y.ks,.row 1 (ints l),.row 1 (ints p),ci i]=some (if checkPlace y l p=0 then (if within i 0 ((l.length:Int) - 1)=true then [.row 1 (ints (l.eraseIdx i.toNat)),.row 1 (ints (p.eraseIdx i.toNat)),ci 0] else [.row 1 [],.row 1 [],ci 1]) else [.row 1 [],.row 1 [],ci (checkPlace y l p)]):=by
  rw [q_pen_Take]
  unfold R_pen_Take
  rw [w_placed _ hf l p hl hp]
  by_cases h:checkPlace y l p=0
  · obtain ⟨hy,hs,hi⟩:=checkPlace_ok h
    have h8:=sorts_len hs
    have hpl:=(isP_len hi).1
    have hwl:wr ((l.length:Int) - 1)=(l.length:Int) - 1:=by rw [wr_of] <;> omega
    simp only [h,callO_val,gi_s,gi_z,il_ints',hwl,w_in,gb_z]
    have hb:((0:Int) != 0)=false:=rfl
    rw [hb]
    simp only [iteB]
    cases hin:within i 0 ((l.length:Int) - 1) with
    | false=>simp
    | true =>
      have hin':=hin
      simp only [within,Bool.and_eq_true,decide_eq_true_eq] at hin'
      obtain ⟨m,rfl⟩:∃ m:Nat,i=m:=⟨i.toNat,by omega⟩
      have d1:=hI.del (n+7) l m (by omega) (by omega)
      have d2:=hI.del (n+7) p m (by omega) (by omega)
      simp only [Bool.not_true,ints_length,clone8 h8,clone8 (show p.length≤8 by omega),inlO_ret,gr_z,wr_nat (show m<9223372036854775807 by omega),d1,d2,callO_val,Int.toNat_natCast]
      rfl
  · simp [h]
end Go.Proofs.Ythkfohoccnnphaa
namespace Go.Proofs.Ythkfohoccnnphaa
open Go Go.Sx Go.Pen
set_option maxRecDepth 10000
attribute [local simp] Bool.and_assoc Bool.or_assoc
variable {its:ITS}
def kk (l:List Int) (j:Nat):Bool:=decide ((j:Int)∈l)
def keyOf (x:List Int):List Bool:=[kk x 0,kk x 1,kk x 2,kk x 3,kk x 4]
theorem kk_snoc (l:List Int) (q j:Nat):kk (l++[(q:Int)]) j=(kk l j || decide (j=q)):=by
  unfold kk
  rw [Bool.eq_iff_iff]
  simp only [List.mem_append,List.mem_singleton,decide_eq_true_eq,Bool.or_eq_true]
  exact or_congr Iff.rfl Int.ofNat_inj
theorem used_kk (l:List Int) (q:Nat):used [] (l++[(q:Int)])=used [] l+if kk l q=true then 0 else 1:=by
  rw [used_snoc]
  simp [kk]
theorem used_key {x z:List Int} (hx:∀ q∈x,0≤q∧q<5) (hz:∀ q∈z,0≤q∧q<5) (h:keyOf x=keyOf z):used [] x=used [] z:=by
  rw [used_cnt (n:=5) x hx,used_cnt (n:=5) z hz]
  simp only [keyOf,kk,List.cons.injEq,and_true] at h
  obtain ⟨h0,h1,h2,h3,h4⟩:=h
  refine cnt_congr fun i hi=>?_
  match i,hi with
  | 0,_=>exact h0
  | 1,_=>exact h1
  | 2,_=>exact h2
  | 3,_=>exact h3
  | 4,_=>exact h4
def usedSt (l:List Int) (i:Nat):List CV:=[ci (used [] l:Int),ci (i:Int),cb (kk l 0),cb (kk l 1),cb (kk l 2),cb (kk l 3),cb (kk l 4)]
theorem usedStep_eq {x:List Int} (hx:∀ q∈x,0≤q∧q<5) (hl:x.length≤8) {i:Nat} (hi:i<x.length):usedStep (ints x) (usedSt (x.take i) i)=some (.nx (usedSt (x.take (i+1)) (i+1))):=by
  obtain ⟨h0,h5⟩:=hx _ (List.getElem_mem hi)
  obtain ⟨q,hq⟩:∃ q:Nat,x[i]=q:=⟨x[i].toNat,by omega⟩
  have hq5:q<5:=by omega
  have hu:=used_le_len (x.take i) []
  rw [List.length_take] at hu
  rw [← List.take_append_getElem hi,hq]
  generalize x.take i=l at hu
  have hw:wr ((used [] l:Int)+1)=((used [] l+1:Nat):Int):=wr_nat (by omega)
  have hlt:((i:Int)<(x.length:Int))=True:=eq_true (by omega)
  have hil:(i<x.length)=True:=eq_true hi
  unfold usedStep usedSt
  simp only [gi_z,gi_s,il_ints',hlt,inb_ints hi,el_ints hi,hq,Int.toNat_natCast,ints_length,hil,decide_true,li1,chk_true,wr_nat (show i<9223372036854775807 by omega),used_kk,kk_snoc]
  generalize used [] l=u at hw ⊢
  match q,hq5 with
  | 0,_=>cases hk:kk l 0 <;> simp only [gb_s,gb_z,hk] <;> simp [hw]
  | 1,_=>cases hk:kk l 1 <;> simp only [gb_s,gb_z,hk] <;> simp [hw]
  | 2,_=>cases hk:kk l 2 <;> simp only [gb_s,gb_z,hk] <;> simp [hw]
  | 3,_=>cases hk:kk l 3 <;> simp only [gb_s,gb_z,hk] <;> simp [hw]
  | 4,_=>cases hk:kk l 4 <;> simp only [gb_s,gb_z,hk] <;> simp [hw]
theorem used_loop {x:List Int} (hx:∀ q∈x,0≤q∧q<5) (hl:x.length≤8):loopD (usedStep (ints x)) [ci 0,ci 0,cb false,cb false,cb false,cb false,cb false]=some (.br 2 (ci (used [] x:Int)::(keyOf x).map cb)):=by
  rw [(loop_foldI x (fun i (_:Unit)=>usedSt (x.take i) i) (fun _ _=>()) (fun _ _=>True) 2 (fun _=>ci (used [] x:Int)::(keyOf x).map cb) () ?hv trivial ?hs ?he).1]
  case hv=>rfl
  case hs=>exact fun i hi _ _=>⟨usedStep_eq hx hl hi,trivial⟩
  case he =>
    intro _ _
    rw [List.take_length]
    unfold usedStep usedSt
    simp only [gi_z,gi_s,il_ints',eq_false (show ¬((x.length:Int)<(x.length:Int)) by omega),decide_false,iteB,gb_s,gb_z]
    rfl
end Go.Proofs.Ythkfohoccnnphaa
namespace Go.Proofs.Ythkfohoccnnphaa
open Go Go.Sx Go.Pen
set_option maxRecDepth 10000
attribute [local simp] Bool.and_assoc Bool.or_assoc
variable {its:ITS}
abbrev KA:=List (List Bool×Bool)
def rowK (az:KA):List (List CV):=rowA (fun l:List Bool=>l.map cb) cb az
theorem fwStep_eq {x:List Int} (hx:∀ q∈x,0≤q∧q<5) (hl:x.length≤8) (c:CV) (f:Nat) {az:KA} (ha:∀ e∈az,e.1.length=5) :
    fwStep (yl x) [c,ci (f:Int),.row 6 (rowK az)]=some (.nx (if used [] x<f∧getA az (keyOf x)≠some true then [.row 1 (ints x),ci (used [] x:Int),.row 6 (rowK (setA az (keyOf x) true))] else [.row 1 (cR c),ci (f:Int),.row 6 (rowK (setA az (keyOf x) true))])):=by
  have hk5:(keyOf x).length=5:=rfl
  have hok:okEs [.bool,.bool,.bool,.bool,.bool] .bool (rowK az)=true:=okEs_row fun e he=>by rw [kC_bools (ha e he)];rfl
  have hlook:=(mapI_bools 5).look (vc:=cb) (k:=keyOf x) hk5 (.bool false) ha
  have hupd:=(mapI_bools 5).upd (vc:=cb) (k:=keyOf x) hk5 true ha
  have hkc:[cb (kk x 0),cb (kk x 1),cb (kk x 2),cb (kk x 3),cb (kk x 4)]=(keyOf x).map cb:=rfl
  unfold fwStep
  simp only [yl,gr_z,used_loop hx hl,blkO_br,gi_z,gi_s,gr_s,gb_s]
  have hke:∀ u:CV,[cb (gb (u::(keyOf x).map cb) 1),cb (gb (u::(keyOf x).map cb) 2),cb (gb (u::(keyOf x).map cb) 3),cb (gb (u::(keyOf x).map cb) 4),cb (gb (u::(keyOf x).map cb) 5)]=(keyOf x).map cb:=fun u=>rfl
  have hke':[cb (gb ((keyOf x).map cb) 0),cb (gb ((keyOf x).map cb) 1),cb (gb ((keyOf x).map cb) 2),cb (gb ((keyOf x).map cb) 3),cb (gb ((keyOf x).map cb) 4)]=(keyOf x).map cb:=rfl
  simp only [hok,chk_true,hke',ints_length,clone8 hl,inlO_ret,gr_z]
  unfold rowK
  rw [hlook,hupd]
  by_cases h1:used [] x<f
  · have h1':((used [] x:Int)<(f:Int))=True:=eq_true (by omega)
    simp only [h1',decide_true,iteB,h1,true_and]
    cases hg:getA az (keyOf x) with
    | none=>simp;rfl
    | some b=>cases b <;> simp <;> rfl
  · have h1':((used [] x:Int)<(f:Int))=False:=eq_false (by omega)
    simp only [h1',decide_false,iteB,h1,false_and,if_false]
    simp
    rfl
def InvF (n:Nat) (b:Option (List Int)) (f:Nat) (az:KA):Prop:=
  (∀ e∈az,e.1.length=5)∧(match b with | none=>f=n+1∧az=[] | some a=>f=used [] a∧∀ z:List Int,(∀ q∈z,0≤q∧q<5)→getA az (keyOf z)=some true→f≤used [] z)
theorem fw_range {n:Nat} (hn:n≤5):∀ (rows:List (List Int)) (b:Option (List Int)) (c:CV) (f:Nat) (az:KA),(∀ x∈rows,(∀ q∈x,0≤q∧q<(n:Int))∧x.length≤8)→InvF n b f az→(∀ a,b=some a→cR c=ints a) →
    ∃ c' az',rangeK fwStep (rows.map yl) [c,ci (f:Int),.row 6 (rowK az)]=some (.nx [c',ci ((match best (used []) b rows with | none=>n+1 | some a=>used [] a:Nat):Int),.row 6 (rowK az')])∧∀ a,best (used []) b rows=some a→cR c'=ints a
  | [],b,c,f,az,_,hi,hc=>by
    refine ⟨c,az,?_,?_⟩
    · cases b with
      | none=>simp only [List.map_nil,rangeK,best];rw [hi.2.1]
      | some a=>simp only [List.map_nil,rangeK,best];rw [hi.2.1]
    · cases b with
      | none=>intro a h;cases h
      | some a=>intro a' h;simp only [best] at h;exact hc a' h
  | x::rows,b,c,f,az,hx,hi,hc=>by
    obtain ⟨hxr,hx8⟩:=hx x (by simp)
    have hx5:∀ q∈x,0≤q∧q<5:=fun q hq=>by have:=hxr q hq;omega
    have hset:∀ e∈setA az (keyOf x) true,e.1.length=5:=setA_ok (ok:=fun l:List Bool=>l.length=5) rfl true hi.1
    simp only [List.map_cons,rangeK,fwStep_eq hx5 hx8 c f hi.1]
    have hxn:used [] x<n+1:=by rw [used_cnt (n:=n) x hxr];have:=cnt_le (fun i=>decide ((i:Int)∈x)) n;omega
    cases b with
    | none =>
      obtain ⟨hf,has⟩:=hi.2
      have hcond:used [] x<f∧getA az (keyOf x)≠some true:=⟨by omega,by rw [has];simp [getA]⟩
      rw [if_pos hcond]
      have hi':InvF n (some x) (used [] x) (setA az (keyOf x) true):=by
        refine ⟨hset,rfl,fun z hz hg=>?_⟩
        rw [getA_setA] at hg
        split at hg
        · rename_i e;rw [used_key hx5 hz e.symm];exact Nat.le_refl _
        · rw [has] at hg;simp [getA] at hg
      exact fw_range hn rows (some x) (.row 1 (ints x)) (used [] x) _ (fun z hz=>hx z (by simp [hz])) hi' (fun a h=>by cases h;rfl)
    | some a =>
      obtain ⟨hf,hg⟩:=hi.2
      by_cases hlt:used [] x<used [] a
      · have hcond:used [] x<f∧getA az (keyOf x)≠some true:=⟨by omega,fun h=>by have:=hg x hx5 h;omega⟩
        rw [if_pos hcond]
        have hi':InvF n (some x) (used [] x) (setA az (keyOf x) true):=by
          refine ⟨hset,rfl,fun z hz hg'=>?_⟩
          rw [getA_setA] at hg'
          split at hg'
          · rename_i e;rw [used_key hx5 hz e.symm];exact Nat.le_refl _
          · have:=hg z hz hg';omega
        have:=fw_range hn rows (some x) (.row 1 (ints x)) (used [] x) _ (fun z hz=>hx z (by simp [hz])) hi' (fun a h=>by cases h;rfl)
        simp only [best,if_pos hlt]
        exact this
      · have hcond:¬(used [] x<f∧getA az (keyOf x)≠some true):=fun h=>hlt (by omega)
        rw [if_neg hcond]
        have hi':InvF n (some a) f (setA az (keyOf x) true):=by
          refine ⟨hset,hf,fun z hz hg'=>?_⟩
          rw [getA_setA] at hg'
          split at hg'
          · rename_i e;rw [used_key hz hx5 e];omega
          · exact hg z hz hg'
        have:=fw_range hn rows (some a) (.row 1 (cR c)) f _ (fun z hz=>hx z (by simp [hz])) hi' (fun a' h=>hc a' h)
        simp only [best,if_neg hlt]
        exact this
theorem PL_range {y:Yard} {l x:List Int} (h:x∈PL y l):∀ q∈x,0≤q∧q<(y.pens.length:Int):=by
  obtain ⟨h1,h2⟩:=mem_PL.1 h
  intro q hq
  obtain ⟨i,hi,rfl⟩:=List.mem_iff_getElem.1 hq
  rw [okP_eq h1] at h2
  unfold okZ at h2
  rw [List.all_eq_true] at h2
  have hz:i<(l.zip x).length:=by simp;omega
  have:=h2 i (by simpa using hz)
  rw [List.getElem?_eq_getElem hz] at this
  simp only [canGo,within,Bool.and_eq_true,decide_eq_true_eq,List.getElem_zip] at this
  obtain ⟨⟨⟨a,b⟩,_⟩,_⟩:=this
  exact ⟨a,by omega⟩
theorem w_Fewest (hI:ItsM its) (n:Nat) {y:Yard} (hf:Fit y) (l:List Int) (hl:l.length<9223372036854775807) :
    D its (n+8) n_pen_Fewest [.row 1 y.ps,.row 4 y.ks,.row 1 (ints l)]=some (if asked y l=0 then (match fewest y l with | some x=>[.row 1 (ints x),ci 0] | none=>[.row 1 [],ci 53]) else [.row 1 [],ci (asked y l)]):=by
  rw [q_pen_Fewest]
  unfold fewestR
  rw [w_asked _ y l hf.p hf.k hl]
  by_cases h:asked y l=0
  · obtain ⟨hy,hs⟩:=asked_ok h
    have h8:=sorts_len hs
    have h5:=(ok_length hy).1
    have hw:wr ((y.pens.length:Int)+1)=((y.pens.length+1:Nat):Int):=wr_nat (by omega)
    simp only [h,beq_self_eq_true,refIf,if_true,callO_val,gi_s,gi_z,List.getD_cons_zero,isRefC_ref,cF_ref,chk_true,w_all,itVJ_of sg116 (hI.all _ y l hy hs),rangeJO,List.drop_zero,pc_ok,pc_gr,il_ps,hw]
    have hb:((0:Int) != 0)=false:=rfl
    rw [hb]
    simp only [iteB]
    obtain ⟨c',az',e1,e2⟩:=fw_range h5 (PL y l) none (.val (Value.slice none 0 0)) (y.pens.length+1) [] (fun x hx=>⟨PL_range hx,by rw [PL_len hx];exact h8⟩) ⟨by simp,rfl,rfl⟩ (by simp)
    have e3:rangeK fwStep ((PL y l).map yl) [.val (Value.slice none 0 0),ci ((y.pens.length+1:Nat):Int),.row 6 []]=_:=e1
    rw [e3]
    simp only [brO,seqO_nx,gi_s,gi_z]
    unfold fewest
    cases hbst:best (used []) none (PL y l) with
    | none =>
      have:(((y.pens.length+1:Nat):Int) > (y.pens.length:Int))=True:=eq_true (by omega)
      simp only [this,decide_true]
      rfl
    | some a =>
      have hm:=(best_first (PL_sorted y l) hbst).1
      have hxn:used [] a≤y.pens.length:=by rw [used_cnt (n:=y.pens.length) a (PL_range hm)];exact cnt_le _ _
      have:((((used [] a:Nat):Int)) > (y.pens.length:Int))=False:=eq_false (by omega)
      simp only [this,decide_false]
      show some [CV.row 1 (gr [c',_,_] 0),_]=_
      rw [show gr [c',ci ((used [] a:Nat):Int),CV.row 6 (rowK az')] 0=cR c' from rfl,e2 a hbst]
  · simp [h]
end Go.Proofs.Ythkfohoccnnphaa
namespace Go.Proofs.Ythkfohoccnnphaa
open Go Go.Sx Go.Pen
set_option maxRecDepth 10000
attribute [local simp] Bool.and_assoc Bool.or_assoc
variable {its:ITS}
def mixC (f:Nat→Int):List CV:=(List.range 10).map fun j=>ci (f j)
def mixG (f:Nat→Int) (q:Int):Nat→Int:=fun j=>if decide (j=0+(q.toNat*1))=true then wr (gi (mixC f) (0+(q.toNat*1))+1) else f j
theorem mixUp_eq (q i:Int) (f:Nat→Int):mixUp q (ci i::mixC f)=ci (wr (i+1))::mixC (mixG f q):=by kernel_rfl
theorem mixC_cis (i:Int) (f:Nat→Int):cis (ci i::mixC f) 1 10=mixC f:=by kernel_rfl
theorem mixC_cis0 (f:Nat→Int):cis (mixC f) 0 10=mixC f:=by kernel_rfl
theorem mixC_gi (f:Nat→Int) {j:Nat} (h:j<10):gi (mixC f) j=f j:=by
  unfold gi mixC
  rw [List.getD_eq_getElem?_getD]
  simp [h]
theorem mixC_oks (f:Nat→Int) {j:Nat} (h:j<10):oks [li] (mixC f) j=true:=oks_int1 (by simp [intsFrom,mixC,ok_ci]) (by simpa [mixC] using h)
theorem mixStep_eq {l:List Int} (hl:∀ s∈l,1≤s∧s≤9) (hll:l.length<1000000) {i:Nat} (hi:i<l.length) :
    mixStep (ints l) (ci (i:Int)::mixC fun j=>((l.take i).count (j:Int):Int))=some (.nx (ci ((i+1:Nat):Int)::mixC fun j=>((l.take (i+1)).count (j:Int):Int))):=by
  have h9:=hl _ (List.getElem_mem hi)
  have k5:((0:Int)≤l[i])=True:=eq_true (by omega)
  have k7:(l[i]<Int.ofNat 10)=True:=eq_true (by show l[i]<10;omega)
  have hlt:((i:Int)<(l.length:Int))=True:=eq_true (by omega)
  have hj:0+l[i].toNat*1<10:=by omega
  unfold mixStep
  simp only [gi_z,il_ints',hlt,decide_true,iteB,inb_ints hi,el_ints hi,li1,chk_true,k5,k7,Bool.and_self,mixC_cis,mixC_oks _ hj,mixUp_eq,wr_nat (show i<9223372036854775807 by omega)]
  have:mixG (fun (j:Nat)=>((l.take i).count (j:Int):Int)) l[i]=fun (j:Nat)=>((l.take (i+1)).count (j:Int):Int):=by
    funext j
    have hc:(l.take i).count (l[i])≤(l.take i).length:=List.count_le_length
    rw [List.length_take] at hc
    rw [← List.take_append_getElem hi,List.count_append,List.count_singleton]
    unfold mixG
    rw [mixC_gi _ hj]
    by_cases e:j=l[i].toNat
    · have e2:((j:Nat):Int)=l[i]:=by omega
      have e3:((0+l[i].toNat*1:Nat):Int)=l[i]:=by omega
      rw [if_pos (by simp [e]),e2,e3]
      simp only [beq_self_eq_true,if_true]
      rw [wr_of] <;> omega
    · rw [if_neg (by simp;omega)]
      have e2:(l[i] == (j:Int))=false:=by simp;omega
      rw [e2];simp
  rw [this]
theorem mix_cells (l:List Int):mixC (fun j=>(l.count (j:Int):Int))=(mix l).map ci:=by
  unfold mixC mix
  rw [List.map_map];rfl
theorem mix_loop {l:List Int} (hl:∀ s∈l,1≤s∧s≤9) (hll:l.length<1000000):loopD (mixStep (ints l)) [ci 0,ci 0,ci 0,ci 0,ci 0,ci 0,ci 0,ci 0,ci 0,ci 0,ci 0]=some (.br 0 ((mix l).map ci)):=by
  rw [(loop_foldI l (fun i (_:Unit)=>ci (i:Int)::mixC fun j=>((l.take i).count (j:Int):Int)) (fun _ _=>()) (fun _ _=>True) 0 (fun _=>(mix l).map ci) () ?hv trivial ?hs ?he).1]
  case hv=>rfl
  case hs=>exact fun i hi _ _=>⟨mixStep_eq hl hll hi,trivial⟩
  case he =>
    intro _ _
    rw [List.take_length]
    unfold mixStep
    simp only [gi_z,il_ints',eq_false (show ¬((l.length:Int)<(l.length:Int)) by omega),decide_false,iteB,mixC_cis]
    rw [mix_cells]
theorem mix_cis (l:List Int):cis ((mix l).map ci) 0 10=(mix l).map ci:=by rw [← mix_cells,mixC_cis0]
theorem mix_len (l:List Int):(mix l).length=10:=by simp [mix]
abbrev MA:=List (List Int×Bool)
def rowM (tr:MA):List (List CV):=rowA (fun l:List Int=>l.map ci) cb tr
def Kept (y:Yard) (tr:MA):Prop:=(∀ e∈tr,e.1.length=10)∧∀ (l:List Int) (b:Bool),l.all (has y)=true→getA tr (mix l)=some b→b=can y l
theorem Kept.nil (y:Yard):Kept y []:=⟨by simp,fun l b _ h=>by simp [getA] at h⟩
theorem Kept.set {y:Yard} (hy:y.ok=true) {tr:MA} (h:Kept y tr) {l:List Int} (hl:l.all (has y)=true):Kept y (setA tr (mix l) (can y l)):=by
  refine ⟨setA_ok (ok:=fun l:List Int=>l.length=10) (mix_len l) _ h.1,fun l' b hl' hg=>?_⟩
  rw [getA_setA] at hg
  split at hg
  · rename_i e
    cases hg
    exact (can_mix hy hl' hl e).symm
  · exact h.2 l' b hl' hg
theorem rowM_ok {y:Yard} {tr:MA} (h:Kept y tr):okEs [(.int .i64),(.int .i64),(.int .i64),(.int .i64),(.int .i64),(.int .i64),(.int .i64),(.int .i64),(.int .i64),(.int .i64)] .bool (rowM tr)=true:=
  okEs_row fun e he=>by rw [kC_ints (h.1 e he)];rfl
theorem rowM_pos {y:Yard} {tr:MA} (h:Kept y tr) (l:List Int):decide (posM 10 ((mix l).map ci) (rowM tr)<(rowM tr).length)=(getA tr (mix l)).isSome:=by
  have:=(mapI_ints 10).pos (vc:=cb) (k:=mix l) (mix_len l) h.1
  rw [Bool.eq_iff_iff,decide_eq_true_eq]
  exact this
theorem rowM_look {y:Yard} {tr:MA} (h:Kept y tr) (l:List Int):lookM 10 ((mix l).map ci) (.bool false) (rowM tr)=match getA tr (mix l) with | some v=>cb v | none=>.val (.bool false):=by
  have:=(mapI_ints 10).look (vc:=cb) (k:=mix l) (mix_len l) (.bool false) h.1
  unfold rowM
  cases hg:getA tr (mix l) <;> rw [hg] at this <;> exact this
theorem rowM_upd {y:Yard} {tr:MA} (h:Kept y tr) (l:List Int) (b:Bool):updM 10 ((mix l).map ci) (cb b) (rowM tr)=rowM (setA tr (mix l) b):=
  (mapI_ints 10).upd (vc:=cb) (k:=mix l) (mix_len l) b h.1
theorem nth_can (y:Yard) (l:List Int):can y l=(PL y l)[0]?.isSome:=by
  unfold can
  cases PL y l <;> rfl
theorem w_nth0 (hI:ItsM its) (n:Nat) {y:Yard} (hy:y.ok=true) {l:List Int} (hs:sortsOk y l=true) :
    ∃ c,D its (n+2) n___pen_pound__nth [.ref (pc y),.row 1 (ints l),ci 0]=some [c,cb (can y l)]:=by
  have:=w_nth hI n hy hs 0 (by omega)
  rw [nth_can]
  rw [show ((0:Nat):Int)=0 from rfl] at this
  rw [this]
  cases (PL y l)[0]? with
  | some x=>exact ⟨_,rfl⟩
  | none=>exact ⟨_,rfl⟩
theorem all_has {y:Yard} {l:List Int} (h:sortsOk y l=true):l.all (has y)=true:=List.all_eq_true.2 (sorts_has h)
theorem fits_tail {y:Yard} (hy:y.ok=true) {l:List Int} (hl:l.all (has y)=true) {tr:MA} (hk:Kept y tr) {call:Option (List CV)} {c:CV} (hc:call=some [c,cb (can y l)]) :
    ∃ tr',Kept y tr'∧(seqO (iteB (!(decide ((posM 10 ((mix l).map ci) (rowM tr))<(List.length (rowM tr))))) (callO call fun v13=>chk (okEs [(.int .i64),(.int .i64),(.int .i64),(.int .i64),(.int .i64),(.int .i64),(.int .i64),(.int .i64),(.int .i64),(.int .i64)] .bool (rowM tr))<|some (.nx [cb (gb v13 1),CV.row 11 (updM 10 ((mix l).map ci) (cb (gb v13 1)) (rowM tr))])) (some (.nx [cb (cB (lookM 10 ((mix l).map ci) (.bool false) (rowM tr))),CV.row 11 (rowM tr)]))) fun v13=>some (.ret [cb (gb v13 0),CV.row 11 (gr v13 1)]))=some (.ret [cb (can y l),CV.row 11 (rowM tr')]):=by
  rw [rowM_pos hk l,rowM_look hk l,hc]
  cases hg:getA tr (mix l) with
  | none =>
    refine ⟨_,hk.set hy hl,?_⟩
    simp only [Option.isSome_none,Bool.not_false,iteB,callO_val,rowM_ok hk,chk_true,gb_s,gb_z,rowM_upd hk,seqO_nx,gr_s,gr_z]
  | some b =>
    refine ⟨tr,hk,?_⟩
    have:=hk.2 l b hl hg
    simp only [Option.isSome_some,Bool.not_true,iteB,seqO_nx,gb_z,gr_s,gr_z,cB_cb,this]
end Go.Proofs.Ythkfohoccnnphaa
namespace Go.Proofs.Ythkfohoccnnphaa
open Go Go.Sx Go.Pen
set_option maxRecDepth 10000
attribute [local simp] Bool.and_assoc Bool.or_assoc
variable {its:ITS}
theorem w_of (n:Nat) (p c:CV) (l by_:List Int) (h:inR l by_) (hb:by_.length<1000000):D its (n+1) n__pen_plea__of [p,.row 1 (ints l),c,.row 1 (ints by_)]=some [.row 1 (ints (ofL l by_))]:=by
  rw [q__pen_plea__of]
  unfold R__pen_plea__of
  rw [(loop_foldI by_ (fun i (_:Unit)=>[ci (i:Int),.row 1 (ints (ofL l (by_.take i)))]) (fun _ _=>()) (fun _ _=>True) 0 (fun _=>[.row 1 (ints (ofL l by_))]) () ?hv trivial ?hs ?he).1]
  case hv=>rfl
  case hs =>
    intro i hi _ _
    refine ⟨?_,trivial⟩
    obtain ⟨h0,h1⟩:=h _ (List.getElem_mem hi)
    obtain ⟨m,hm⟩:∃ m:Nat,by_[i]=m:=⟨by_[i].toNat,by omega⟩
    have hml:m<l.length:=by omega
    have hlt:((i:Int)<(by_.length:Int))=True:=eq_true (by omega)
    have hf:fitA (ints (ofL l (by_.take i))).length 1 8=true:=fitA_of (by rw [ints_length,ofL_len,List.length_take];omega) (by rw [ints_length,ofL_len,List.length_take];omega)
    have e:ofL l (by_.take (i+1))=ofL l (by_.take i)++[l[m]]:=by
      rw [← List.take_append_getElem hi,hm]
      unfold ofL
      rw [List.map_append]
      simp [hml]
    rw [e]
    simp only [gi_z,gi_s,il_ints',hlt,decide_true,iteB,inb_ints hi,el_ints hi,li1,chk_true,hm,inb_ints hml,el_ints hml,gr_s,gr_z,hf,chunk_s,chunk_z,List.take_succ_cons,List.take_zero,ints_snoc,wr_nat (show i<9223372036854775807 by omega)]
  case he =>
    intro _ _
    rw [List.take_length]
    simp only [gi_z,il_ints',eq_false (show ¬((by_.length:Int)<(by_.length:Int)) by omega),decide_false,iteB,gr_s,gr_z]
  · simp
theorem sum_loop {y:Yard} (hy:y.ok=true):loopD (sumIn (pc y)) [ci 0,ci 0]=some (.br 0 [ci (total y)]):=by
  have h5:=(ok_length hy).1
  rw [(loop_foldI y.pens (fun i (s:Int)=>[ci s,ci (i:Int)]) (fun n x=>n+x) (fun i s=>0≤s∧s≤1000*(i:Int)) 0 (fun s=>[ci s]) 0 ?hv ?h0 ?hs ?he).1]
  case hv=>rfl
  case h0=>simp
  case hs =>
    intro i hi s hP
    have hr:=pens_range hy hi
    have hlt:((i:Int)<(y.pens.length:Int))=True:=eq_true (by omega)
    have hw:wr (s+y.pens[i])=s+y.pens[i]:=by rw [wr_of] <;> omega
    refine ⟨?_,by omega,by omega⟩
    unfold sumIn
    simp only [List.drop_zero,pc_gr,gi_s,gi_z,il_ps,hlt,decide_true,iteB,inb_ps hi,el_ps hi,li1,chk_true,hw,wr_nat (show i<9223372036854775807 by omega)]
  case he =>
    intro s _
    unfold sumIn
    simp only [List.drop_zero,pc_gr,gi_s,gi_z,il_ps,eq_false (show ¬((y.pens.length:Int)<(y.pens.length:Int)) by omega),decide_false,iteB]
  · rfl
theorem indO_of {h:CV→Option (List CV)} {r:List CV} (hh:∀ c,h c=some r) (K:List CV→Option Ou):indO h K=K r:=by
  unfold indO
  rw [if_pos (fun c=>by rw [hh c,hh dC]),hh dC];rfl
theorem muchO_eq (n:Nat) {y:Yard} (hy:y.ok=true) {l:List Int} (hl:∀ s∈l,1≤s∧s≤9) {by_:List Int} (hb:inR l by_) (hbl:by_.length<1000000) :
    muchO (D its (n+2)) (pc y) (ints l) (ints by_)=some (.ret [cb (much y l by_)]):=by
  unfold muchO
  rw [List.drop_zero,List.drop_zero,pc_ok,chk_true,sum_loop hy,blkO_br,indO_of (fun c=>w_of (n+1) _ c l by_ hb hbl)]
  simp only [gr_z]
  rw [w_room (n+1) hy (ofL l by_) (fun s hs=>hl s (ofL_mem hb hs)) (by rw [ofL_len];omega)]
  rfl
theorem lMuch_loop (hI:ItsM its) (n:Nat) {y:Yard} (hy:y.ok=true) {l:List Int} (hl:∀ s∈l,1≤s∧s≤9):∀ (k:Nat) (by_:List Int),inR l by_→by_.length≤8→k≤by_.length →
    loopD (lMuch (D its (n+2)) (pc y) (ints l)) [.row 1 (ints by_),ci ((k:Int) - 1)]=some (.br 0 [.row 1 (ints (least (much y l) k by_))])
  | 0,by_,_,_,_=>by
    refine loop_end ?_ (by simp)
    unfold lMuch
    simp only [gi_s,gi_z,eq_false (show ¬(((0:Nat):Int) - 1≥0) by omega),decide_false,iteB,gr_z,least]
  | k+1,by_,hb,h8,hk=>by
    have e:(((k+1:Nat):Int) - 1)=(k:Int):=by omega
    have hd:=hI.del (n+1) by_ k (by omega) (by omega)
    have hm:=muchO_eq (its:=its) n hy hl (inR_erase hb k) (by have:=List.length_eraseIdx_le by_ k;omega)
    have hstep:lMuch (D its (n+2)) (pc y) (ints l) [.row 1 (ints by_),ci (((k+1:Nat):Int) - 1)]=some (.nx [.row 1 (ints (if much y l (by_.eraseIdx k)=true then by_.eraseIdx k else by_)),ci ((k:Int) - 1)]):=by
      unfold lMuch
      have hw:wr ((k:Int) - 1)=(k:Int) - 1:=by rw [wr_of] <;> omega
      simp only [e,gi_s,gi_z,eq_true (show ((k:Int)≥0) by omega),decide_true,iteB,gr_z,ints_length,clone8 h8,inlO_ret,wr_nat (show k<9223372036854775807 by omega),hd,callO_val,hw]
      rw [show mutR 1 true [CV.row 1 (ints (by_.eraseIdx k)),CV.val (.bool true)]=true from rfl,chk_true,hm,inlO_ret,gb_z]
      cases much y l (by_.eraseIdx k) <;> rfl
    rw [loop_eq hstep]
    simp only [least]
    refine lMuch_loop hI n hy hl k _ ?_ ?_ ?_
    · split
      · exact inR_erase hb k
      · exact hb
    · split
      · have:=List.length_eraseIdx_le by_ k;omega
      · exact h8
    · split
      · rw [List.length_eraseIdx_of_lt (by omega)];omega
      · omega
theorem find_big (y:Yard) (s:Int):(y.pens.findIdx? fun n=>decide (rm y s≤n))=none↔isBig y s=true:=by
  rw [idx_any]
  unfold isBig
  rw [Bool.eq_false_iff,List.all_eq_true]
  simp [List.any_eq_true]
theorem bigO_eq {y:Yard} (hy:y.ok=true) {l:List Int} (hl:∀ s∈l,1≤s∧s≤9) {by_:List Int} (hb:inR l by_):bigO (pc y) (ints l) (ints by_)=some (.ret [cb (big y l by_)]):=by
  unfold bigO big
  by_cases h1:by_.length=1
  · match by_,h1 with
    | [i],_ =>
      obtain ⟨h0,hi⟩:=hb i (by simp)
      obtain ⟨m,rfl⟩:∃ m:Nat,i=m:=⟨i.toNat,by omega⟩
      have hm:m<l.length:=by omega
      have h9:=hl _ (List.getElem_mem hm)
      have h5:=(ok_length hy).1
      obtain ⟨k1,k2⟩:=pc_kind hy (s:=l[m]) (by omega) (by omega) (c:=1) (by omega)
      have hil:(il (ints [((m:Nat):Int)]) == 1)=true:=rfl
      rw [hil]
      simp only [iteB,List.drop_zero,pc_ok,chk_true]
      rw [loop_idx (fun n=>decide (rm y l[m]≤n)) y.pens (fun i=>some (.ret [ci (i:Int)])) (some (.br 0 [])) (fun i=>[ci (i:Int)]) ?hv ?hR ?hX (fun i hi hp=>?h1) (fun i hi hp=>?h2) ?h3]
      case hv=>rfl
      case hR=>simp
      case hX=>simp
      case h3 =>
        unfold bigIn
        simp only [List.drop_zero,pc_gr,gi_z,il_ps,eq_false (show ¬((y.pens.length:Int)<(y.pens.length:Int)) by omega),decide_false,iteB]
      all_goals
        have e0:inb 0 (ints [((m:Nat):Int)])=true:=rfl
        have e1:(ints [((m:Nat):Int)]).getD 0 []=[ci ((m:Nat):Int)]:=rfl
        have k5:((0:Int)≤l[m])=True:=eq_true (by omega)
        have k7:(l[m]<Int.ofNat 10)=True:=eq_true (by show l[m]<10;omega)
      case h1 =>
        have hp':(rm y l[m]≤y.pens[i])=False:=eq_false (by simpa using hp)
        unfold bigIn
        simp only [List.drop_zero,pc_gr,gi_z,il_ps,eq_true (show ((i:Int)<(y.pens.length:Int)) by omega),decide_true,iteB,inb_ps hi,el_ps hi,li1,chk_true,e0,e1,inb_ints hm,el_ints hm,k5,k7,Bool.and_self,k1,k2,kd_room,hp',decide_false,inlO_ret,gb_z,wr_nat (show i<9223372036854775807 by omega)]
      case h2 =>
        have hp':(rm y l[m]≤y.pens[i])=True:=eq_true (by simpa using hp)
        unfold bigIn
        simp only [List.drop_zero,pc_gr,gi_z,il_ps,eq_true (show ((i:Int)<(y.pens.length:Int)) by omega),decide_true,iteB,inb_ps hi,el_ps hi,li1,chk_true,e0,e1,inb_ints hm,el_ints hm,k5,k7,Bool.and_self,k1,k2,kd_room,hp',inlO_ret,gb_z]
      · have hfb:=find_big y l[m]
        have hd:l.getD (([((m:Nat):Int)]:List Int).headD 0).toNat 0=l[m]:=by simp [hm]
        rw [hd]
        cases hf:y.pens.findIdx? (fun n=>decide (rm y l[m]≤n)) with
        | none=>rw [hfb.1 hf];rfl
        | some i =>
          have:isBig y l[m]=false:=by
            cases hc:isBig y l[m] with
            | false=>rfl
            | true=>rw [hfb.2 hc] at hf;cases hf
          rw [this]
          simp
  · have hil:(il (ints by_) == 1)=false:=by simp;omega
    rw [hil]
    simp only [iteB,decide_eq_false h1,Bool.false_and]
theorem w_lists (n:Nat) (a b:Int):D its (n+1) n_pen_lists [ci a,ci b]=some [.fn 121 [.ref [ci b],.ref [ci a]]]:=by
  rw [q_pen_lists];rfl
theorem big_range {y:Yard} (hy:y.ok=true) {l:List Int} (hl:∀ s∈l,1≤s∧s≤9):∀ (rows:List (List Int)) (a b:Int) (c:CV),(∀ x∈rows,inR l x) →
    (match rows.find? (big y l) with
      | some x=>rangeK (bigRg (pc y) (ints l)) (rows.map yl) [ci a,c,ci b]=some (.ret [ci 1,.row 1 (ints x),ci 0])
      | none=>∃ c',rangeK (bigRg (pc y) (ints l)) (rows.map yl) [ci a,c,ci b]=some (.nx [ci a,c',ci b]))
  | [],a,b,c,_=>⟨c,rfl⟩
  | x::rows,a,b,c,h=>by
    have hb:=bigO_eq hy hl (h x (by simp))
    cases hp:big y l x with
    | true =>
      rw [List.find?_cons_of_pos hp]
      simp only [List.map_cons,rangeK]
      unfold bigRg
      simp only [yl,gr_z,hb,inlO_ret,gb_z,hp,iteB]
    | false =>
      rw [List.find?_cons_of_neg (by simp [hp])]
      have ih:=big_range hy hl rows a b (.row 1 (cR c)) fun z hz=>h z (by simp [hz])
      have e:rangeK (bigRg (pc y) (ints l)) ((x::rows).map yl) [ci a,c,ci b]=rangeK (bigRg (pc y) (ints l)) (rows.map yl) [ci a,.row 1 (cR c),ci b]:=by
        simp only [List.map_cons,rangeK]
        have:bigRg (pc y) (ints l) (yl x) [ci a,c,ci b]=some (.nx [ci a,.row 1 (cR c),ci b]):=by
          unfold bigRg
          simp only [yl,gr_z,hb,inlO_ret,gb_z,hp,iteB]
          rfl
        rw [this]
      rw [e]
      exact ih
theorem many2_loop (n:Nat) {y:Yard} (hy:y.ok=true) {l:List Int} (hl:∀ s∈l,1≤s∧s≤9) {by_:List Int} (hb:inR l by_) (hbl:by_.length<1000000) {i:Nat} (hi:i<by_.length) :
    loopD (many2 (D its (n+1)) (pc y) (ints l) (ints by_) (i:Int)) [ci 0]=if ((List.range i).all fun j=>apt y ((ofL l by_).getD i 0) ((ofL l by_).getD j 0))=true then some (.br 2 []) else some (.ret [cb false]):=by
  have hget:∀ j,j<by_.length→∃ m:Nat,by_[j]? = some (m:Int)∧m<l.length∧(ofL l by_).getD j 0=l.getD m 0:=by
    intro j hj
    obtain ⟨h0,h1⟩:=hb _ (List.getElem_mem hj)
    refine ⟨by_[j].toNat,?_,by omega,?_⟩
    · rw [List.getElem?_eq_getElem hj];congr 1;omega
    · simp [ofL,hj]
  obtain ⟨mi,hmi,hmil,hoi⟩:=hget i hi
  have hmi':by_[i]=(mi:Int):=by rw [List.getElem?_eq_getElem hi] at hmi;exact Option.some.inj hmi
  have htl:(by_.take i).length=i:=by rw [List.length_take];omega
  have hst:∀ j,j<i→many2 (D its (n+1)) (pc y) (ints l) (ints by_) (i:Int) [ci (j:Int)]=if apt y ((ofL l by_).getD i 0) ((ofL l by_).getD j 0)=true then some (.nx [ci ((j+1:Nat):Int)]) else some (.ret [cb false]):=by
    intro j hj
    obtain ⟨mj,hmj,hmjl,hoj⟩:=hget j (by omega)
    have hjt:j<(by_.take i).length:=by omega
    have hmj':(by_.take i)[j]=(mj:Int):=by
      rw [List.getElem_take]
      rw [List.getElem?_eq_getElem (by omega)] at hmj
      exact Option.some.inj hmj
    have hdi:l.getD mi 0=l[mi]:=by simp [hmil]
    have hdj:l.getD mj 0=l[mj]:=by simp [hmjl]
    rw [hoi,hoj,hdi,hdj]
    have hpa:=w_parts (its:=its) n hy (hl _ (List.getElem_mem hmil)) (hl _ (List.getElem_mem hmjl))
    unfold many2
    simp only [gi_z,List.drop_zero,Int.toNat_natCast,ints_take,il_ints',htl,eq_true (show ((j:Int)<(i:Int)) by omega),decide_true,iteB,inb_ints hjt,el_ints hjt,li1,chk_true,hmj',el_ints hi,hmi',inb_ints hmil,el_ints hmil,inb_ints hmjl,el_ints hmjl,hpa,callO_val,gb_z,wr_nat (show j<9223372036854775807 by omega)]
    cases apt y l[mi] l[mj] <;> rfl
  rw [loop_find i (fun j=>[ci (j:Int)]) (fun j=>!apt y ((ofL l by_).getD i 0) ((ofL l by_).getD j 0)) (fun _=>some (.ret [cb false])) (some (.br 2 [])) ?hv ?hR ?hX (fun j hj hp=>?s1) (fun j hj hp=>?s2) ?s3]
  case hv=>rfl
  case hR=>simp
  case hX=>simp
  case s3 =>
    unfold many2
    simp only [gi_z,List.drop_zero,Int.toNat_natCast,ints_take,il_ints',htl,eq_false (show ¬((i:Int)<(i:Int)) by omega),decide_false,iteB]
  case s1=>rw [hst j hj,if_pos (by simpa using hp)]
  case s2=>rw [hst j hj,if_neg (by simpa using hp)]
  · cases hf:(List.range i).find? (fun j=>!apt y ((ofL l by_).getD i 0) ((ofL l by_).getD j 0)) with
    | none =>
      rw [List.find?_eq_none] at hf
      rw [if_pos]
      rw [List.all_eq_true]
      intro j hj
      have:=hf j hj
      simpa using this
    | some j =>
      have h1:=List.find?_some hf
      have h2:=List.mem_of_find?_eq_some hf
      rw [if_neg]
      intro hc
      rw [List.all_eq_true] at hc
      rw [hc j h2] at h1
      cases h1
theorem manyO_eq (n:Nat) {y:Yard} (hy:y.ok=true) {l:List Int} (hl:∀ s∈l,1≤s∧s≤9) {by_:List Int} (hb:inR l by_) (hbl:by_.length<1000000) :
    manyO (D its (n+1)) (pc y) (ints l) (ints by_)=some (.ret [cb (many y l by_)]):=by
  have h5:=(ok_length hy).1
  unfold manyO
  rw [loop_find by_.length (fun i=>[ci (i:Int)]) (fun i=>!((List.range i).all fun j=>apt y ((ofL l by_).getD i 0) ((ofL l by_).getD j 0))) (fun _=>some (.ret [cb false])) (some (.br 0 [])) ?hv ?hR ?hX (fun i hi hp=>?s1) (fun i hi hp=>?s2) ?s3]
  case hv=>rfl
  case hR=>simp
  case hX=>simp
  case s3 =>
    unfold many1
    simp only [gi_z,il_ints',eq_false (show ¬((by_.length:Int)<(by_.length:Int)) by omega),decide_false,iteB]
  case s1 =>
    simp only [Bool.not_eq_false'] at hp
    unfold many1
    simp only [gi_z,il_ints',eq_true (show ((i:Int)<(by_.length:Int)) by omega),eq_true (show ((i:Int)≤(by_.length:Int)) by omega),eq_true (show ((0:Int)≤(i:Int)) by omega),Int.le_refl,Nat.le_refl,decide_true,Bool.and_self,iteB,inb_ints hi,el_ints hi,li1,chk_true,many2_loop n hy hl hb hbl hi,hp,if_true,blkO_br,wr_nat (show i<9223372036854775807 by omega)]
  case s2 =>
    simp only [Bool.not_eq_true'] at hp
    unfold many1
    simp only [gi_z,il_ints',eq_true (show ((i:Int)<(by_.length:Int)) by omega),eq_true (show ((i:Int)≤(by_.length:Int)) by omega),eq_true (show ((0:Int)≤(i:Int)) by omega),Int.le_refl,Nat.le_refl,decide_true,Bool.and_self,iteB,inb_ints hi,el_ints hi,li1,chk_true,many2_loop n hy hl hb hbl hi,hp,Bool.false_eq_true,if_false,blkO_ret]
  · have hal:(List.range by_.length).find? (fun i=>!((List.range i).all fun j=>apt y ((ofL l by_).getD i 0) ((ofL l by_).getD j 0)))=none↔alien y (ofL l by_)=true:=by
      rw [List.find?_eq_none]
      unfold alien
      rw [ofL_len,List.all_eq_true]
      refine forall_congr' fun i=>forall_congr' fun hi=>?_
      simp
    unfold many
    cases hf:(List.range by_.length).find? (fun i=>!((List.range i).all fun j=>apt y ((ofL l by_).getD i 0) ((ofL l by_).getD j 0))) with
    | none =>
      rw [hal.1 hf,Bool.true_and]
      simp only [blkO_br,List.drop_zero,pc_ok,chk_true,pc_gr,il_ps,il_ints',wr_nat (show y.pens.length<9223372036854775807 by omega)]
      congr 4
      rw [Bool.eq_iff_iff]
      simp only [beq_iff_eq,decide_eq_true_eq]
      omega
    | some i =>
      have:alien y (ofL l by_)=false:=by
        cases hc:alien y (ofL l by_) with
        | false=>rfl
        | true=>rw [hal.2 hc] at hf;cases hf
      rw [this]
      rfl
theorem many_range (n:Nat) {y:Yard} (hy:y.ok=true) {l:List Int} (hl:∀ s∈l,1≤s∧s≤9):∀ (rows:List (List Int)) (vs:List CV),(∀ x∈rows,inR l x∧x.length<1000000) →
    (match rows.find? (many y l) with
      | some x=>rangeK (manyRg (D its (n+1)) (pc y) (ints l)) (rows.map yl) vs=some (.ret [ci 3,.row 1 (ints x),ci 0])
      | none=>∃ vs',rangeK (manyRg (D its (n+1)) (pc y) (ints l)) (rows.map yl) vs=some (.nx vs'))
  | [],vs,_=>⟨vs,rfl⟩
  | x::rows,vs,h=>by
    have hb:=manyO_eq (its:=its) n hy hl (h x (by simp)).1 (h x (by simp)).2
    cases hp:many y l x with
    | true =>
      rw [List.find?_cons_of_pos hp]
      simp only [List.map_cons,rangeK]
      unfold manyRg
      simp only [yl,gr_z,hb,inlO_ret,gb_z,hp,iteB]
    | false =>
      rw [List.find?_cons_of_neg (by simp [hp])]
      have ih:=many_range n hy hl rows [ci (gi vs 0),.row 1 (gr vs 1),ci (gi vs 2)] fun z hz=>h z (by simp [hz])
      have e:rangeK (manyRg (D its (n+1)) (pc y) (ints l)) ((x::rows).map yl) vs=rangeK (manyRg (D its (n+1)) (pc y) (ints l)) (rows.map yl) [ci (gi vs 0),.row 1 (gr vs 1),ci (gi vs 2)]:=by
        simp only [List.map_cons,rangeK]
        have:manyRg (D its (n+1)) (pc y) (ints l) (yl x) vs=some (.nx [ci (gi vs 0),.row 1 (gr vs 1),ci (gi vs 2)]):=by
          unfold manyRg
          simp only [yl,gr_z,hb,inlO_ret,gb_z,hp,iteB]
        rw [this]
      rw [e]
      exact ih
end Go.Proofs.Ythkfohoccnnphaa
namespace Go.Proofs.Ythkfohoccnnphaa
open Go Go.Sx Go.Pen
set_option maxRecDepth 10000
attribute [local simp] Bool.and_assoc Bool.or_assoc
variable {its:ITS}
theorem ofL_sorts {y:Yard} {l by_:List Int} (hs:sortsOk y l=true) (hb:inR l by_) (h8:by_.length≤8):sortsOk y (ofL l by_)=true:=by
  unfold sortsOk
  rw [ofL_len,Bool.and_eq_true,decide_eq_true_eq,List.all_eq_true]
  exact ⟨h8,fun s hm=>sorts_has hs s (ofL_mem hb hm)⟩
theorem tightO_eq (hI:ItsM its) (n:Nat) {y:Yard} (hy:y.ok=true) {l:List Int} (hs:sortsOk y l=true) {by_:List Int} (hb:inR l by_) (h8:by_.length≤8) {tr:MA} (hk:Kept y tr) :
    ∃ tr',Kept y tr'∧tightO (D its (n+2)) (pc y) (ints l) (ints by_) (rowM tr)=some (.ret [cb (tightB y l by_),.row 11 (rowM tr')]):=by
  have hso:=ofL_sorts hs hb h8
  obtain ⟨c,hc⟩:=w_nth0 hI n hy hso
  obtain ⟨tr',hk',e⟩:=fits_tail hy (all_has hso) hk hc
  refine ⟨tr',hk',?_⟩
  unfold tightO
  rw [indO_of (fun c=>w_of (n+1) _ c l by_ hb (by omega))]
  simp only [gr_z]
  rw [mix_loop (has9 hy hso) (by rw [ofL_len];omega),blkO_br]
  rw [rowM_ok hk] at e ⊢
  simp only [mix_cis,chk_true] at e ⊢
  rw [e]
  rfl
theorem lTight_loop (hI:ItsM its) (n:Nat) {y:Yard} (hy:y.ok=true) {l:List Int} (hs:sortsOk y l=true):∀ (k:Nat) (by_:List Int) (tr:MA),inR l by_→by_.length≤8→k≤by_.length→Kept y tr →
    ∃ tr',loopD (lTight (D its (n+2)) (pc y) (ints l)) [.row 1 (ints by_),ci ((k:Int) - 1),.row 11 (rowM tr)]=some (.br 0 [.row 1 (ints (least (tightB y l) k by_)),.row 11 tr'])
  | 0,by_,tr,_,_,_,_=>by
    refine ⟨rowM tr,loop_end ?_ (by simp)⟩
    unfold lTight
    simp only [gi_s,gi_z,eq_false (show ¬(((0:Nat):Int) - 1≥0) by omega),decide_false,iteB,gr_z,gr_s,least]
  | k+1,by_,tr,hb,h8,hk,ht=>by
    have e:(((k+1:Nat):Int) - 1)=(k:Int):=by omega
    have hd:=hI.del (n+1) by_ k (by omega) (by omega)
    have hel:=List.length_eraseIdx_le by_ k
    obtain ⟨tr1,ht1,hm⟩:=tightO_eq (its:=its) hI n hy hs (inR_erase hb k) (by omega) ht
    have hstep:lTight (D its (n+2)) (pc y) (ints l) [.row 1 (ints by_),ci (((k+1:Nat):Int) - 1),.row 11 (rowM tr)]=some (.nx [.row 1 (ints (if tightB y l (by_.eraseIdx k)=true then by_.eraseIdx k else by_)),ci ((k:Int) - 1),.row 11 (rowM tr1)]):=by
      unfold lTight
      have hw:wr ((k:Int) - 1)=(k:Int) - 1:=by rw [wr_of] <;> omega
      simp only [e,gi_s,gi_z,eq_true (show ((k:Int)≥0) by omega),decide_true,iteB,gr_z,gr_s,ints_length,clone8 h8,inlO_ret,wr_nat (show k<9223372036854775807 by omega),hd,callO_val,hw]
      rw [show mutR 1 true [CV.row 1 (ints (by_.eraseIdx k)),CV.val (.bool true)]=true from rfl,chk_true,hm,inlO_ret,gb_z]
      cases tightB y l (by_.eraseIdx k) <;> rfl
    rw [loop_eq hstep]
    simp only [least]
    refine lTight_loop hI n hy hs k _ _ ?_ ?_ ?_ ht1
    · split
      · exact inR_erase hb k
      · exact hb
    · split
      · omega
      · exact h8
    · split
      · rw [List.length_eraseIdx_of_lt (by omega)];omega
      · omega
theorem all_loop {l:List Int} (hl:l.length<1000000):loopD (allIn (ints l)) [ci 0,.row 1 []]=some (.br 2 [.row 1 (ints (idx l))]):=by
  rw [(loop_foldI l (fun i (_:Unit)=>[ci (i:Int),.row 1 (ints ((List.range i).map fun (j:Nat)=>(j:Int)))]) (fun _ _=>()) (fun _ _=>True) 2 (fun _=>[.row 1 (ints (idx l))]) () ?hv trivial ?hs ?he).1]
  case hv=>rfl
  case hs =>
    intro i hi _ _
    refine ⟨?_,trivial⟩
    have hf:fitA (ints ((List.range i).map fun (j:Nat)=>(j:Int))).length 1 8=true:=fitA_of (by simp;omega) (by simp;omega)
    rw [List.range_succ,List.map_append]
    unfold allIn
    simp only [gi_z,il_ints',eq_true (show ((i:Int)<(l.length:Int)) by omega),decide_true,iteB,gr_s,gr_z,hf,chk_true,chunk_s,chunk_z,List.take_succ_cons,List.take_zero,ints_snoc,wr_nat (show i<9223372036854775807 by omega),List.map_cons,List.map_nil]
  case he =>
    intro _ _
    unfold allIn
    simp only [gi_z,il_ints',eq_false (show ¬((l.length:Int)<(l.length:Int)) by omega),decide_false,iteB,gr_s,gr_z]
    rfl
theorem idx_len (l:List Int):(idx l).length=l.length:=by simp [idx]
theorem rls_inR {l x:List Int} {k:Nat} (h:x∈rls l.length k 0):inR l x∧x.length=k:=by
  obtain ⟨h1,_,h3⟩:=mem_rls.1 h
  exact ⟨fun i hi=>by have:=h3 i hi;omega,h1⟩
theorem w_Refuse (hI:ItsM its) (n:Nat) {y:Yard} (hf:Fit y) (l:List Int) (hl:l.length<9223372036854775807) :
    D its (n+8) n_pen_Refuse [.row 1 y.ps,.row 4 y.ks,.row 1 (ints l)]=some (if asked y l=0 then [ci (refuse y l).1,.row 1 (ints (refuse y l).2.1),ci (refuse y l).2.2] else [ci 0,.row 1 [],ci (asked y l)]):=by
  rw [q_pen_Refuse]
  unfold refuseS
  have hask:=w_asked (its:=its) n y l hf.p hf.k hl
  change D its (n+7) 72 _=_ at hask
  rw [hask]
  by_cases h':¬asked y l=0
  · simp [h']
  have h:asked y l=0:=Decidable.of_not_not h'
  obtain ⟨hy,hs⟩:=asked_ok h
  have h8:=sorts_len hs
  have h5:=(ok_length hy).1
  have h9:=has9 hy hs
  obtain ⟨c0,hn0⟩:=w_nth0 hI (n+5) hy hs
  change D its (n+7) 74 _=_ at hn0
  have hli:∀ a b:Int,D its (n+7) 93 [ci a,ci b]=some [.fn 121 [.ref [ci b],.ref [ci a]]]:=w_lists (n+6)
  have hb0:((0:Int) != 0)=false:=rfl
  have hw:wr ((y.pens.length:Int)+1)=((y.pens.length+1:Nat):Int):=wr_nat (by omega)
  have hwl:wr (((idx l).length:Int) - 1)=((l.length:Nat):Int) - 1:=by rw [idx_len,wr_of] <;> omega
  have hl1:=itVJ_of (M:=D its (n+7)) sg121 (hI.lists (n+6) l.length 1 (by omega) (by omega) (by omega))
  have hl2:=itVJ_of (M:=D its (n+7)) sg121 (hI.lists (n+6) l.length (y.pens.length+1) (by omega) (by omega) (by omega))
  have hmo:=muchO_eq (its:=its) (n+5) hy h9 (inR_idx l) (by rw [idx_len];omega)
  have hkept:Kept y (setA [] (mix l) (can y l)):=(Kept.nil y).set hy (all_has hs)
  have hupd:=rowM_upd (Kept.nil y) l (can y l)
  obtain ⟨tr',hlt⟩:=lTight_loop hI (n+5) hy hs l.length (idx l) (setA [] (mix l) (can y l)) (inR_idx l) (by rw [idx_len];omega) (by rw [idx_len];omega) hkept
  have hlm:=lMuch_loop hI (n+5) hy h9 l.length (idx l) (inR_idx l) (by rw [idx_len];omega) (by rw [idx_len];omega)
  have hbr:=big_range hy h9 (rls l.length 1 0) 0 0 (.val (Value.slice none 0 0)) (fun x hx=>(rls_inR hx).1)
  have hmr:=fun vs=>many_range (its:=its) (n+6) hy h9 (rls l.length (y.pens.length+1) 0) vs (fun x hx=>⟨(rls_inR hx).1,by rw [(rls_inR hx).2];omega⟩)
  simp only [h,beq_self_eq_true,refIf,if_true,callO_val,gi_s,gi_z,hb0,iteB,List.getD_cons_zero,isRefC_ref,chk_true,cF_ref,mix_loop h9 (show l.length<1000000 by omega),blkO_br,hn0,gb_s,gb_z,mix_cis,seqO_nx,inlO_ret]
  rw [show ([]:List (List CV))=rowM [] from rfl,hupd]
  unfold refuse
  cases hc:can y l with
  | true=>rfl
  | false =>
    rw [hc] at hlt hkept
    simp only [il_ints',hli,callO_val,List.getD_cons_zero,Bool.false_eq_true,if_false]
    have hcast1:((1:Nat):Int)=1:=rfl
    rw [hcast1] at hl1
    rw [hl1]
    simp only [rangeJO]
    cases hfb:(rls l.length 1 0).find? (big y l) with
    | some x =>
      rw [hfb] at hbr
      simp only at hbr
      rw [hbr]
      rfl
    | none =>
      rw [hfb] at hbr
      obtain ⟨c',hbr⟩:=hbr
      rw [hbr]
      simp only [brO,seqO_nx]
      rw [show (rowM []:List (List CV))=[] from rfl,all_loop (by omega),blkO_br]
      simp only [gr_z,hmo,inlO_ret,gb_z,il_ints',hwl]
      cases hmu:much y l (idx l) with
      | true =>
        simp only [if_true]
        rw [hlm]
        rfl
      | false =>
        simp only [Bool.false_eq_true,if_false,List.drop_zero,pc_ok,chk_true,pc_gr,il_ps,hw,gi_s,gi_z]
        rw [hl2]
        simp only
        have hmr':=hmr [ci 0,.row 1 (gr [ci 0,c',ci 0] 1),ci 0]
        cases hfm:(rls l.length (y.pens.length+1) 0).find? (many y l) with
        | some x =>
          rw [hfm] at hmr'
          simp only at hmr'
          rw [hmr']
          rfl
        | none =>
          rw [hfm] at hmr'
          obtain ⟨vs',hmr'⟩:=hmr'
          rw [hmr']
          simp only [brO,seqO_nx,gr_s,gr_z]
          rw [hlt]
          rfl
end Go.Proofs.Ythkfohoccnnphaa
namespace Go.Proofs.Ythkfohoccnnphaa
open Go Go.Sx Go.Pen
set_option maxRecDepth 10000
attribute [local simp] Bool.and_assoc Bool.or_assoc
variable {its:ITS}
theorem day_loop {l:List Stay} (hl:l.length<1000000):loopD (dayStep (stays l)) [ci 0,.row 1 []]=some (.br 0 [.row 1 (ints (days l))]):=by
  rw [(loop_foldI l (fun i (_:Unit)=>[ci (i:Int),.row 1 (ints (days (l.take i)))]) (fun _ _=>()) (fun _ _=>True) 0 (fun _=>[.row 1 (ints (days l))]) () ?hv trivial ?hs ?he).1]
  case hv=>rfl
  case hs =>
    intro i hi _ _
    refine ⟨?_,trivial⟩
    have hd:=days_len (l.take i)
    rw [List.length_take] at hd
    have hf1:fitA (ints (days (l.take i))).length 1 8=true:=fitA_of (by rw [ints_length];omega) (by rw [ints_length];omega)
    have hf2:fitA (ints (days (l.take i)++[l[i].inn])).length 1 8=true:=fitA_of (by rw [ints_length,List.length_append,List.length_singleton];omega) (by rw [ints_length,List.length_append,List.length_singleton];omega)
    rw [← List.take_append_getElem hi,days_snoc]
    unfold dayStep
    simp only [gi_z,il_stays,eq_true (show ((i:Int)<(l.length:Int)) by omega),decide_true,inb_stays hi,el_stays hi,scv_oks,chk_true,gr_s,gr_z,hf1,scv1,scv2,chunk_s,chunk_z,List.take_succ_cons,List.take_zero,ints_snoc,hf2,wr_nat (show i<9223372036854775807 by omega)]
    unfold daysOf
    by_cases h:l[i].out=-1
    · have hb:(l[i].out != -1)=false:=by simp [h]
      simp only [hb,iteB,seqO_nx,gr_z,if_pos h]
    · have hb:(l[i].out != -1)=true:=by simp [h]
      simp only [hb,iteB,seqO_nx,gr_z,if_neg h,List.append_assoc,List.singleton_append]
  case he =>
    intro _ _
    rw [List.take_length]
    unfold dayStep
    simp only [gi_z,il_stays,eq_false (show ¬((l.length:Int)<(l.length:Int)) by omega),decide_false,iteB,gr_s,gr_z]
theorem sort_loop {l:List Stay} (hl:l.length<1000000) (d:Int):loopD (sortStep (stays l) (ints (thereOn l d))) [ci 0,.row 1 []]=some (.br 4 [.row 1 (ints (sortsOn l d))]):=by
  have hlen:(thereOn l d).length≤l.length:=places_len _ l 0
  rw [(loop_foldI (thereOn l d) (fun i (_:Unit)=>[ci (i:Int),.row 1 (ints (((thereOn l d).take i).map (sortAt l)))]) (fun _ _=>()) (fun _ _=>True) 4 (fun _=>[.row 1 (ints (sortsOn l d))]) () ?hv trivial ?hs ?he).1]
  case hv=>rfl
  case hs =>
    intro i hi _ _
    refine ⟨?_,trivial⟩
    obtain ⟨h0,h1⟩:=places_range (isThere d) l 0 _ (List.getElem_mem hi)
    change 0≤(thereOn l d)[i] at h0
    change (thereOn l d)[i]<0+(l.length:Int) at h1
    obtain ⟨m,hm⟩:∃ m:Nat,(thereOn l d)[i]=m:=⟨((thereOn l d)[i]).toNat,by omega⟩
    have hml:m<l.length:=by omega
    have hf:fitA (ints (((thereOn l d).take i).map (sortAt l))).length 1 8=true:=fitA_of (by simp;omega) (by simp;omega)
    have hs:sortAt l (thereOn l d)[i]=l[m].sort:=by rw [hm];simp [sortAt,hml]
    rw [← List.take_append_getElem hi,List.map_append,List.map_cons,List.map_nil,hs]
    unfold sortStep
    simp only [gi_z,il_ints',eq_true (show ((i:Int)<((thereOn l d).length:Int)) by omega),decide_true,iteB,inb_ints hi,el_ints hi,li1,chk_true,hm,inb_stays hml,el_stays hml,List.drop_zero,show oks [li] l[m].cv 0=true from rfl,gr_s,gr_z,hf,scv0,chunk_s,chunk_z,List.take_succ_cons,List.take_zero,ints_snoc,wr_nat (show i<9223372036854775807 by omega)]
  case he =>
    intro _ _
    rw [List.take_length,sortsOn_eq]
    unfold sortStep
    simp only [gi_z,il_ints',eq_false (show ¬(((thereOn l d).length:Int)<((thereOn l d).length:Int)) by omega),decide_false,iteB,gr_s,gr_z]
theorem sortsOn_has {y:Yard} {l:List Stay} (hs:staysOk y l=true) (d:Int):∀ s∈sortsOn l d,has y s=true:=by
  intro s hm
  obtain ⟨x,hx,rfl⟩:=List.mem_map.1 hm
  have:=(stays_ok hs).2 x ((List.mem_filter.1 hx).1)
  unfold okStay at this
  simp only [Bool.and_eq_true] at this
  exact this.1.1
theorem fullStep_eq (hI:ItsM its) (n:Nat) {y:Yard} (hy:y.ok=true) {l:List Stay} (hs:staysOk y l=true) {ds:List Int} (hds:ds.length<1000000) {i:Nat} (hi:i<ds.length) {tr:MA} (ht:Kept y tr) :
    ∃ tr',Kept y tr'∧fullStep (D its (n+2)) (.ref (pc y)) (stays l) (ints ds) [ci (i:Int),.row 11 (rowM tr)]=if fullOn y l ds[i]=true then some (.ret [ci ds[i],ci 0]) else some (.nx [ci ((i+1:Nat):Int),.row 11 (rowM tr')]):=by
  have h40:=(stays_ok hs).1
  have hth:=w_there (its:=its) (n+1) l ds[i] (by omega)
  change D its (n+2) 69 _=_ at hth
  have hsl:=sort_loop (l:=l) (by omega) ds[i]
  unfold fullOn
  by_cases h8:(sortsOn l ds[i]).length > 8
  · refine ⟨tr,ht,?_⟩
    unfold fullStep
    simp only [gi_z,il_ints',eq_true (show ((i:Int)<(ds.length:Int)) by omega),decide_true,iteB,inb_ints hi,el_ints hi,li1,chk_true,Int.toNat_natCast,ints_length,eq_true hi,hth,callO_val,gr_z,hsl,blkO_br,eq_true (show (((sortsOn l ds[i]).length:Int) > 8) by omega),seqO_nx,gb_z,eq_true h8,Bool.true_or,if_true]
  · have hso:sortsOk y (sortsOn l ds[i])=true:=by
      unfold sortsOk
      rw [Bool.and_eq_true,decide_eq_true_eq,List.all_eq_true]
      exact ⟨by omega,sortsOn_has hs _⟩
    obtain ⟨c,hc⟩:=w_nth0 hI n hy hso
    obtain ⟨tr',hk',e⟩:=fits_tail hy (all_has hso) ht hc
    refine ⟨tr',hk',?_⟩
    rw [rowM_ok ht] at e
    simp only [chk_true] at e
    unfold fullStep
    simp only [gi_z,il_ints',eq_true (show ((i:Int)<(ds.length:Int)) by omega),decide_true,inb_ints hi,el_ints hi,li1,chk_true,Int.toNat_natCast,ints_length,eq_true hi,hth,callO_val,gr_z,gr_s,hsl,blkO_br,eq_false (show ¬(((sortsOn l ds[i]).length:Int) > 8) by omega),decide_false,isRefC_ref,cF_ref,mix_loop (has9 hy hso) (show (sortsOn l ds[i]).length<1000000 by omega),rowM_ok ht,mix_cis]
    rw [e]
    simp only [iteB,inlO_ret,seqO_nx,gb_z,gr_s,gr_z,eq_false h8,decide_false,Bool.false_or,wr_nat (show i<9223372036854775807 by omega)]
    cases can y (sortsOn l ds[i]) <;> rfl
theorem full_loop (hI:ItsM its) (n:Nat) {y:Yard} (hy:y.ok=true) {l:List Stay} (hs:staysOk y l=true) {ds:List Int} (hds:ds.length<1000000):∀ (k i:Nat) (tr:MA),i+k=ds.length→Kept y tr →
    (match (ds.drop i).find? (fullOn y l) with
      | some d=>loopD (fullStep (D its (n+2)) (.ref (pc y)) (stays l) (ints ds)) [ci (i:Int),.row 11 (rowM tr)]=some (.ret [ci d,ci 0])
      | none=>∃ vs,loopD (fullStep (D its (n+2)) (.ref (pc y)) (stays l) (ints ds)) [ci (i:Int),.row 11 (rowM tr)]=some (.br 2 vs))
  | 0,i,tr,hk,_=>by
    rw [List.drop_eq_nil_of_le (by omega)]
    refine ⟨[.row 11 (rowM tr)],loop_end ?_ (by simp)⟩
    unfold fullStep
    simp only [gi_z,il_ints',eq_false (show ¬((i:Int)<(ds.length:Int)) by omega),decide_false,iteB,gr_s,gr_z]
  | k+1,i,tr,hk,ht=>by
    have hi:i<ds.length:=by omega
    obtain ⟨tr',ht',e⟩:=fullStep_eq hI n hy hs hds hi ht
    rw [List.drop_eq_getElem_cons hi]
    cases hf:fullOn y l ds[i] with
    | true =>
      rw [List.find?_cons_of_pos hf]
      rw [hf,if_pos rfl] at e
      exact loop_end e (by simp)
    | false =>
      rw [List.find?_cons_of_neg (by simp [hf])]
      rw [hf,if_neg (by simp)] at e
      have ih:=full_loop hI n hy hs hds k (i+1) tr' (by omega) ht'
      rw [loop_eq e]
      exact ih
theorem w_Full (hI:ItsM its) (n:Nat) {y:Yard} (hf:Fit y) (l:List Stay) (hl:l.length<9223372036854775807) :
    D its (n+8) n_pen_Full [.row 1 y.ps,.row 4 y.ks,.row 3 (stays l)]=some (if staying y l=0 then (match fullM y l with | some d=>[ci d,ci 0] | none=>[ci 0,ci 3]) else [ci 0,ci (staying y l)]):=by
  rw [q_pen_Full]
  unfold fullS
  have hask:=w_staying (its:=its) n y l hf.p hf.k hl
  change D its (n+7) 66 _=_ at hask
  rw [hask]
  by_cases h':¬staying y l=0
  · simp [h']
  have h:staying y l=0:=Decidable.of_not_not h'
  obtain ⟨hy,hs⟩:=staying_ok h
  have h40:=(stays_ok hs).1
  have hd:=days_len l
  have hb0:((0:Int) != 0)=false:=rfl
  have hso:=hI.sort (n+6) (days l) (by omega)
  have hfl:=full_loop hI (n+5) hy hs (ds:=sorted (days l)) (by rw [sorted_len];omega) (days l).length 0 [] (by rw [sorted_len];omega) (Kept.nil y)
  simp only [h,beq_self_eq_true,refIf,if_true,callO_val,gi_s,gi_z,hb0,iteB,List.getD_cons_zero,day_loop (show l.length<1000000 by omega),blkO_br,gr_z,hso]
  rw [show mutR 1 false [CV.row 1 (ints ((days l).mergeSort fun a b=>decide (a≤b))),CV.val (.bool false)]=true from rfl,chk_true]
  unfold fullM
  rw [List.drop_zero] at hfl
  cases hff:(sorted (days l)).find? (fullOn y l) with
  | some d =>
    rw [hff] at hfl
    simp only at hfl
    change retO (blkO 2 (loopD (fullStep (D its (n+5+2)) (.ref (pc y)) (stays l) (ints (sorted (days l)))) [ci ((0:Nat):Int),.row 11 (rowM [])]) _)=_
    rw [hfl]
    rfl
  | none =>
    rw [hff] at hfl
    obtain ⟨vs,hfl⟩:=hfl
    change retO (blkO 2 (loopD (fullStep (D its (n+5+2)) (.ref (pc y)) (stays l) (ints (sorted (days l)))) [ci ((0:Nat):Int),.row 11 (rowM [])]) _)=_
    rw [hfl,blkO_br]
    rfl
end Go.Proofs.Ythkfohoccnnphaa
namespace Go.Proofs.Ythkfohoccnnphaa
open Go Go.Sx Go.Pen
set_option maxRecDepth 100000
variable {its:ITS}
theorem w_Same (n:Nat) (a b:List Int) (ha:a.length<9223372036854775807):D its (n+1) n_r05_Same [.row 1 (ints a),.row 1 (ints b)]=some [cb (decide (a=b))]:=by
  rw [q_r05_Same]
  unfold R_r05_Same
  by_cases hl:a.length=b.length
  · have:(il (ints a) != il (ints b))=false:=by simp;omega
    rw [this]
    simp only [iteB]
    rw [loop_find a.length (fun i=>[ci (i:Int)]) (fun i=>decide (a[i]?≠b[i]?)) (fun _=>some (.ret [cb false])) (some (.br 0 [])) ?hv ?hR ?hX (fun i hi hp=>?s1) (fun i hi hp=>?s2) ?s3]
    case hv=>rfl
    case hR=>simp
    case hX=>simp
    case s3=>simp only [gi_z,il_ints',eq_false (show ¬((a.length:Int)<(a.length:Int)) by omega),decide_false]
    case s1 =>
      have hib:i<b.length:=by omega
      have hp':a[i]=b[i]:=by
        rw [List.getElem?_eq_getElem hi,List.getElem?_eq_getElem hib] at hp
        simpa using hp
      simp only [gi_z,il_ints',eq_true (show ((i:Int)<(a.length:Int)) by omega),decide_true,inb_ints hi,el_ints hi,inb_ints hib,el_ints hib,li1,chk_true,hp',wr_nat (show i<9223372036854775807 by omega)]
      simp
    case s2 =>
      have hib:i<b.length:=by omega
      have hp':¬a[i]=b[i]:=by
        rw [List.getElem?_eq_getElem hi,List.getElem?_eq_getElem hib] at hp
        simpa using hp
      have hb:(a[i] != b[i])=true:=by simp [hp']
      simp only [gi_z,il_ints',eq_true (show ((i:Int)<(a.length:Int)) by omega),decide_true,inb_ints hi,el_ints hi,inb_ints hib,el_ints hib,li1,chk_true,hb]
    · have key:(List.range a.length).find? (fun i=>decide (a[i]?≠b[i]?))=none↔a=b:=by
        rw [List.find?_eq_none]
        constructor
        · intro h
          apply List.ext_getElem? 
          intro i
          by_cases hi:i<a.length
          · have:=h i (by simpa using hi)
            simpa using this
          · rw [List.getElem?_eq_none (by omega),List.getElem?_eq_none (by omega)]
        · rintro rfl i _
          simp
      cases hf:(List.range a.length).find? (fun i=>decide (a[i]?≠b[i]?)) with
      | none =>
        rw [decide_eq_true (key.1 hf)]
        rfl
      | some i =>
        have:¬a=b:=fun h=>by rw [key.2 h] at hf;cases hf
        rw [decide_eq_false this]
        rfl
  · have:(il (ints a) != il (ints b))=true:=by simp;omega
    rw [this,decide_eq_false (fun h=>hl (by rw [h]))]
    rfl
def exY:Yard:=⟨[10,6,4],[⟨1,5,8,0⟩,⟨2,4,6,2⟩,⟨3,1,1,0⟩,⟨4,2,3,16⟩]⟩
def exL:List Stay:=[⟨1,3,6⟩,⟨2,4,-1⟩]
def exM:List Stay:=[⟨1,3,6⟩,⟨2,4,-1⟩,⟨1,5,9⟩,⟨1,5,9⟩,⟨4,5,6⟩]
theorem ex_fit:Fit exY:=⟨by decide,by decide⟩
theorem ex_a1:asked exY [1,1,2]=0:=by kernel_rfl
theorem ex_a2:asked exY [1,1,1,1]=0:=by kernel_rfl
theorem ex_a3:asked exY [4,4,4,4]=0:=by kernel_rfl
theorem ex_a4:asked exY [1,1,1,2,2]=0:=by kernel_rfl
theorem ex_a5:asked exY [1,4,4]=0:=by kernel_rfl
theorem ex_p1:PL exY [1,1,2]=[[0,0,1],[0,0,2],[0,1,2],[1,0,2]]:=by kernel_rfl
theorem ex_c1:checkPlace exY [1,1,2] [0,0,1]=0:=by kernel_rfl
theorem ex_f1:freeZ exY ([1,1,2].zip [0,0,1])=[0,2,4]:=by kernel_rfl
theorem ex_h3:has exY 3=true:=by kernel_rfl
theorem ex_ad:addP exY ([1,1,2].zip [0,0,1]) 3=some 1:=by kernel_rfl
theorem ex_r1:refuse exY [1,1,1,1]=(4,[0,1,2,3],0):=by kernel_rfl
theorem ex_r2:refuse exY [4,4,4,4]=(3,[0,1,2,3],0):=by kernel_rfl
theorem ex_r3:refuse exY [1,1,1,2,2]=(2,[0,1,2,3,4],0):=by kernel_rfl
theorem ex_w:fewest exY [1,4,4]=some [0,0,1]:=by kernel_rfl
theorem ex_s1:staying exY exL=0:=by kernel_rfl
theorem ex_s2:staying exY exM=0:=by kernel_rfl
theorem ex_e:eaten exY exL 5=36:=by kernel_rfl
theorem ex_e0:eaten exY exL 0=0:=by kernel_rfl
theorem ex_l:lasts exY exL 41=5:=by kernel_rfl
theorem ex_so:sorted [3,6,4,5,9,5,9,5,6]=[3,4,5,5,5,6,6,9,9]:=by simp [sorted,List.mergeSort,List.MergeSort.Internal.splitInTwo,List.merge]
theorem ex_f2:[3,4,5,5,5,6,6,9,9].find? (fullOn exY exM)=some 5:=by kernel_rfl
theorem ex_u:fullM exY exM=some 5:=by
  unfold fullM
  rw [show days exM=[3,6,4,5,9,5,9,5,6] from rfl,ex_so,ex_f2]
theorem w_yard (n:Nat):D its (n+1) n_law05_yard []=some [.row 1 exY.ps,.row 4 exY.ks]:=by
  rw [q_law05_yard];kernel_rfl
theorem w_sane (hI:ItsM its) (n:Nat):D its (n+10) n_law05_sane []=some [cb true]:=by
  rw [q_law05_sane]
  unfold R_law05_sane
  have h1:=w_Place hI (n+1) ex_fit [1,1,2] (by decide)
  rw [ex_a1,if_pos rfl,ex_p1] at h1
  have h2:=w_Count hI (n+1) ex_fit [1,1,2] (by decide)
  rw [ex_a1,if_pos rfl,ex_p1] at h2
  have h3:=w_Free (its:=its) n ex_fit [1,1,2] [0,0,1] (by decide) (by decide)
  rw [ex_c1,if_pos rfl,ex_f1] at h3
  have h4:=w_Add (its:=its) n ex_fit [1,1,2] [0,0,1] 3 (by decide) (by decide)
  rw [ex_c1,if_pos rfl,ex_h3,if_pos rfl,ex_ad,if_neg (by decide)] at h4
  have h5:=w_Refuse hI (n+1) ex_fit [1,1,1,1] (by decide)
  rw [ex_a2,if_pos rfl,ex_r1] at h5
  have h6:=w_Refuse hI (n+1) ex_fit [4,4,4,4] (by decide)
  rw [ex_a3,if_pos rfl,ex_r2] at h6
  have h7:=w_Refuse hI (n+1) ex_fit [1,1,1,2,2] (by decide)
  rw [ex_a4,if_pos rfl,ex_r3] at h7
  have h8:=w_Fewest hI (n+1) ex_fit [1,4,4] (by decide)
  rw [ex_a5,if_pos rfl,ex_w] at h8
  have h9:=w_Eaten (its:=its) (n+1) exY exL 5 (by decide) (by decide) (by decide)
  rw [ex_s1,if_pos rfl,if_pos (by decide),ex_e] at h9
  have h10:=w_Lasts (its:=its) (n+1) exY exL 41 (by decide) (by decide) (by decide)
  rw [ex_s1,if_pos rfl,if_pos (by decide),ex_e0,if_neg (by decide),ex_l] at h10
  have h11:=w_Full hI (n+1) ex_fit exM (by decide)
  rw [ex_s2,if_pos rfl,ex_u] at h11
  have e3:CV.row 1 (chunk 1 3 [ci 1,ci 1,ci 2])=.row 1 (ints [1,1,2]):=rfl
  have e4:CV.row 1 (chunk 1 4 [ci 1,ci 1,ci 1,ci 1])=.row 1 (ints [1,1,1,1]):=rfl
  have e5:CV.row 1 (chunk 1 4 [ci 4,ci 4,ci 4,ci 4])=.row 1 (ints [4,4,4,4]):=rfl
  have e6:CV.row 1 (chunk 1 5 [ci 1,ci 1,ci 1,ci 2,ci 2])=.row 1 (ints [1,1,1,2,2]):=rfl
  have e7:CV.row 1 (chunk 1 3 [ci 1,ci 4,ci 4])=.row 1 (ints [1,4,4]):=rfl
  have e8:CV.row 3 (chunk 3 2 [ci 1,ci 3,ci 6,ci 2,ci 4,ci (-1)])=.row 3 (stays exL):=rfl
  have e9:CV.row 3 ([[ci 1,ci 3,ci 6],[ci 2,ci 4,ci (-1)],[ci 1,ci 5,ci 9],[ci 1,ci 5,ci 9],[ci 4,ci 5,ci 6]])=.row 3 (stays exM):=rfl
  have f1:CV.row 1 (chunk 1 3 [ci 0,ci 0,ci 1])=.row 1 (ints [0,0,1]):=rfl
  have f2:CV.row 1 (chunk 1 3 [ci 0,ci 2,ci 4])=.row 1 (ints [0,2,4]):=rfl
  have f3:CV.row 1 (chunk 1 4 [ci 0,ci 1,ci 2,ci 3])=.row 1 (ints [0,1,2,3]):=rfl
  have f4:CV.row 1 (chunk 1 5 [ci 0,ci 1,ci 2,ci 3,ci 4])=.row 1 (ints [0,1,2,3,4]):=rfl
  have s (a:List Int) (h:a.length<9223372036854775807):D its (n+9) n_r05_Same [.row 1 (ints a),.row 1 (ints a)]=some [cb true]:=by rw [w_Same (n+8) a a h];simp
  simp only [w_yard,callO_val,gr_z,gr_s,e3,e4,e5,e6,e7,e8,e9,f1,f2,f3,f4,h1,h2,h3,h4,h5,h6,h7,h8,h9,h10,h11,List.getElem?_cons_zero,gi_s,gi_z,beq_self_eq_true,iteB,seqO_nx,gb_z,s [0,0,1] (by decide),s [0,2,4] (by decide),s [0,1,2,3] (by decide),s [0,1,2,3,4] (by decide)]
  rfl
end Go.Proofs.Ythkfohoccnnphaa
namespace Go.Proofs.Ythkfohoccnnphaa
open Go Go.Sx Go.Pen
set_option maxRecDepth 100000
def decI (pens:List (List CV)):List Int:=pens.map fun e=>gi e 0
theorem decI_ints (p:List Int):decI (ints p)=p:=by
  unfold decI ints
  rw [List.map_map]
  apply List.ext_getElem (by simp)
  intro i h1 h2
  simp
theorem plc_pls (y:Yard) (l:List Int):∀ (k:Nat) (p:List Int),p.length≤l.length→l.length - p.length<k →
    plc (fun pens=>okP y l (decI pens)) y.pens.length l.length k (ints p)=(pls y l (l.length - p.length) p).map ints
  | 0,_,_,h=>by omega
  | k+1,p,hp,hk=>by
    simp only [plc,ints_length]
    by_cases e:p.length=l.length
    · rw [if_pos e,e,Nat.sub_self]
      simp [pls]
    · rw [if_neg e]
      obtain ⟨m,hm⟩:∃ m,l.length - p.length=m+1:=⟨l.length - p.length - 1,by omega⟩
      rw [hm]
      simp only [pls,List.map_flatMap]
      congr 1
      funext i
      simp only [ints_snoc,decI_ints]
      split
      · have:=plc_pls y l k (p++[(i:Int)]) (by simp;omega) (by simp;omega)
        rw [this]
        rw [show l.length - (p++[(i:Int)]).length=m by simp;omega]
      · rfl
theorem fill_ok {its:ITS} (n:Nat) {y:Yard} (hy:y.ok=true) {l:List Int} (hs:sortsOk y l=true) (pens:List (List CV)) (hp:Ip pens) (hl:pens.length≤l.length) :
    ∃ c,D its (n+2) 75 [.ref (pc y),.row 1 ((ints l).take pens.length),.row 1 pens]=some [c,cb (okP y l (decI pens))]:=by
  obtain ⟨p,rfl⟩:=hp
  change ∃ c,D its (n+2) 75 [.ref (pc y),.row 1 ((ints l).take (ints p).length),.row 1 (ints p)]=some [c,cb (okP y l (decI (ints p)))]
  change (ints p).length≤l.length at hl
  rw [ints_length] at hl ⊢
  have h8:=sorts_len hs
  rw [decI_ints,ints_take]
  have:=w_fill (its:=its) n hy (l.take p.length) p (fun s h=>has9 hy hs s (List.mem_of_mem_take h)) (by rw [List.length_take];omega) (by omega)
  have hh:(p.length == (l.take p.length).length&&okZ y ((l.take p.length).zip p))=okP y l p:=by
    rw [← okP_take y l p hl]
    unfold okP
    have e:(l.take p.length).length=p.length:=by rw [List.length_take];omega
    simp [e]
  rw [hh] at this
  exact ⟨_,this⟩
theorem all_rows {y:Yard} (hy:y.ok=true) {l:List Int} (hs:sortsOk y l=true) :
    entB Try.prog 116=true∧IterJ Try.prog 116 [.ref [.row 1 (ints l)],.ref [.ref (pc y)]] (.lent 3 1) (foldY ((PL y l).map yl)):=by
  refine ⟨by kernel_rfl,?_⟩
  have h8:=sorts_len hs
  have h5:=(ok_length hy).1
  have h:=all_iter (M:=D its0 2) (fun {_}=>its0_fns 2) (by kernel_rfl) (D0_gh 2) (lrow:=ints l) (p:=pc y) (ok:=fun pens=>okP y l (decI pens)) (n:=y.pens.length) (len:=l.length)
    (fun pens hip hl=>fill_ok 0 hy hs pens hip hl) (by simp) (by omega) (by simp [Yard.ps]) (by omega) (by simp)
  have e:=plc_pls y l 9 [] (Nat.zero_le _) (by simp;omega)
  rw [ints_nil] at e
  rw [e] at h
  rw [List.map_map] at h
  exact h
theorem Kd_inj {a b:Kd} (h:a.cv=b.cv):a=b:=by
  cases a;cases b
  simp only [Kd.cv,List.cons.injEq,ci,CV.val.injEq,Value.int.injEq,and_true,true_and] at h
  obtain ⟨rfl,rfl,rfl,rfl⟩:=h
  rfl
theorem pc_inj {y z:Yard} (h:pc y=pc z):y=z:=by
  unfold pc at h
  simp only [List.cons.injEq,CV.row.injEq,true_and] at h
  obtain ⟨h1,h2,_⟩:=h
  cases y;cases z
  simp only [Yard.ps,Yard.ks] at h1 h2
  have:=ints_inj h1
  have h3:=List.map_inj_right (f:=Kd.cv) (fun _ _=>Kd_inj) |>.1 h2
  rw [this,h3]
open Classical in
noncomputable def allIt (caps:List CV):Option (List CV):=
  if h:∃ x:Yard×List Int,x.1.ok=true∧sortsOk x.1 x.2=true∧caps=[.ref [.row 1 (ints x.2)],.ref [.ref (pc x.1)]] then some [.row 0 ((PL h.choose.1 h.choose.2).map yl),shC (.lent 3 1)] else none
theorem allIt_eq {y:Yard} {l:List Int} (hy:y.ok=true) (hs:sortsOk y l=true):allIt [.ref [.row 1 (ints l)],.ref [.ref (pc y)]]=some [.row 0 ((PL y l).map yl),shC (.lent 3 1)]:=by
  have h:∃ x:Yard×List Int,x.1.ok=true∧sortsOk x.1 x.2=true∧[CV.ref [.row 1 (ints l)],.ref [.ref (pc y)]]=[.ref [.row 1 (ints x.2)],.ref [.ref (pc x.1)]]:=⟨(y,l),hy,hs,rfl⟩
  unfold allIt
  rw [dif_pos h]
  have hc:=h.choose_spec.2.2
  generalize h.choose=z at hc ⊢
  simp only [List.cons.injEq,CV.ref.injEq,CV.row.injEq,and_true,true_and] at hc
  rw [← ints_inj hc.1,← pc_inj hc.2]
theorem entO_iter {f:Nat} {it:List CV→Option (List CV)} {sh:YSh} (hsh:(∀ T,shC sh≠.fn T [])∧(∀ b,shC sh≠.val (.bool b))) (h:∀ caps out,it caps=some out→(∃ c cs,caps=.ref c::cs)∧∃ rows,out=[.row 0 rows,shC sh]∧entB Try.prog f=true∧IterJ Try.prog f caps sh (foldY rows)):EntO f it:=by
  intro caps out ho
  obtain ⟨⟨c,cs,rfl⟩,rows,rfl,he,hs⟩:=h caps out ho
  refine ⟨fun rows' sh' hr=>?_,fun xs hx=>by simp [intsOf] at hx,fun k es' T hr=>?_,fun T k cs e e' hdr h1 h2=>by simp at h1,fun k T b h1=>by simp at h1⟩
  · simp only [List.cons.injEq,CV.row.injEq,true_and,and_true] at hr
    obtain ⟨rfl,hr⟩:=hr
    rw [← shC_inj hr]
    exact ⟨he,hs⟩
  · simp only [List.cons.injEq,and_true] at hr
    exact absurd hr.2 (hsh.1 T)
theorem all_ent:EntO 116 allIt:=entO_iter (sh:=.lent 3 1) ⟨fun T=>by simp [shC],fun b=>by simp [shC]⟩ fun caps out h=>by
  unfold allIt at h
  split at h
  · rename_i hx
    obtain ⟨h1,h2,h3⟩:=hx.choose_spec
    generalize hx.choose=z at h h1 h2 h3
    subst h3
    cases h
    exact ⟨⟨_,_,rfl⟩,_,rfl,all_rows h1 h2⟩
  · cases h
theorem rls_rls (n many:Nat):∀ (k:Nat) (lst:List Int) (frm:Nat),lst.length≤many→n - frm<k →
    rlsC n many k (ints lst) frm=(rls n (many - lst.length) frm).map fun x=>ints (lst++x)
  | 0,_,_,_,h=>by omega
  | k+1,lst,frm,hl,hk=>by
    rw [rls_succ,ints_length]
    by_cases e:lst.length=many
    · rw [if_pos e,e,Nat.sub_self]
      simp [rls]
    · rw [if_neg e]
      obtain ⟨m,hm⟩:∃ m,many - lst.length=m+1:=⟨many - lst.length - 1,by omega⟩
      rw [hm]
      simp only [rls,List.map_flatMap,List.map_map]
      have hcong:∀ (r:List Nat),(∀ i∈r,n - (i+1)<k)→(r.flatMap fun (i:Nat)=>rlsC n many k (ints lst++[[ci (i:Int)]]) (i+1))=r.flatMap fun (a:Nat)=>(rls n m (a+1)).map ((fun x=>ints (lst++x))∘fun l=>(a:Int)::l):=by
        intro r
        induction r with
        | nil=>intro _;rfl
        | cons i r ih =>
          intro hr
          rw [List.flatMap_cons,List.flatMap_cons,ih fun j hj=>hr j (by simp [hj])]
          congr 1
          rw [ints_snoc,rls_rls n many k (lst++[(i:Int)]) (i+1) (by simp;omega) (hr i (by simp))]
          rw [show many - (lst++[(i:Int)]).length=m by simp;omega]
          apply List.map_congr_left
          intro x _
          simp
      exact hcong _ fun i hi=>by
        rw [List.mem_range'_1] at hi
        omega
theorem lists_rows {n many:Nat} (hn:n<9) (h0:0<many) (hm:many<10):entB Try.prog 121=true∧IterJ Try.prog 121 [.ref [ci (many:Int)],.ref [ci (n:Int)]] (.clo [.one (.row 1)]) (foldY ((rls n many 0).map yl)):=by
  refine ⟨by kernel_rfl,?_⟩
  have h:=lists_iter (M:=D its0 1) (fun {_}=>its0_fns 1) (by kernel_rfl) (D0_gh 1) hn h0 (show many<1000 by omega) (fun lst hl=>D0_clone 0 (by omega)) (D0_clone0 0)
  have e:=rls_rls n many 10 [] 0 (Nat.zero_le _) (by omega)
  rw [ints_nil] at e
  rw [e,List.map_map] at h
  exact h
def lstIt:List CV→Option (List CV)
  | [.ref [.val (.int .i64 m)],.ref [.val (.int .i64 n)]]=>if 0≤n∧n<9∧0<m∧m<10 then some [.row 0 ((rls n.toNat m.toNat 0).map yl),shC (.clo [.one (.row 1)])] else none
  | _=>none
theorem lstIt_eq {n many:Nat} (hn:n<9) (h0:0<many) (hm:many<10):lstIt [.ref [ci (many:Int)],.ref [ci (n:Int)]]=some [.row 0 ((rls n many 0).map yl),shC (.clo [.one (.row 1)])]:=by
  simp only [lstIt,ci]
  rw [if_pos (by omega)]
  simp
theorem lst_ent:EntO 121 lstIt:=entO_iter (sh:=.clo [.one (.row 1)]) ⟨fun T=>by simp [shC,scC],fun b=>by simp [shC,scC]⟩ fun caps out h=>by
  unfold lstIt at h
  split at h
  · split at h
    · rename_i m n hc
      cases h
      have:=lists_rows (n:=n.toNat) (many:=m.toNat) (by omega) (by omega) (by omega)
      rw [show ((m.toNat:Nat):Int)=m by omega,show ((n.toNat:Nat):Int)=n by omega] at this
      exact ⟨⟨_,_,rfl⟩,_,rfl,this⟩
    · cases h
  · cases h
end Go.Proofs.Ythkfohoccnnphaa
namespace Go.Proofs.Ythkfohoccnnphaa
open Go Go.Shelf
set_option maxRecDepth 100000
def ren23:Ren:=⟨fun x=>match x with | 23=>82 | n=>n,fun x=>match x with | 22=>22 | 3=>3 | 4=>4 | 0=>0 | n=>n,fun n=>n⟩
theorem lays23:Lays2.n23 Try.prog ren23:=by
  constructor <;> first | kernel_rfl | (intro w;kernel_rfl)
def ren189:Ren:=⟨fun x=>match x with | 189=>70 | 125=>114 | 257=>113 | 128=>138 | 129=>139 | 294=>129 | 295=>130 | 296=>131 | 297=>132 | 298=>133 | 299=>134 | 216=>135 | 300=>136 | 301=>137 | 328=>141 | 329=>142 | 330=>143 | 331=>144 | 332=>145 | 215=>146 | 343=>147 | n=>n,
  fun x=>match x with | 28=>22 | 3=>3 | 46=>141 | 0=>0 | 51=>159 | 53=>161 | 4=>4 | 183=>152 | 182=>151 | 131=>156 | 5=>5 | 9=>9 | 218=>162 | 222=>166 | 228=>168 | 229=>169 | n=>n,fun n=>n⟩
theorem lays189:Lays.n189 Try.prog ren189:=by
  constructor <;> first | kernel_rfl | (intro w;kernel_rfl)
end Go.Proofs.Ythkfohoccnnphaa
namespace Go.Proofs.Ythkfohoccnnphaa
open Go Go.Sx Go.Pen Go.Shelf Go.RowKit Go.Sort
set_option maxRecDepth 100000
theorem callsIn_free {F:Fence} (hF:Free F) (hr:F.round=none) {n:Nat} {P:Program} {f:FuncId} {args:Array Value} {w:World} {R:Ending→World→Prop} (h:Calls P f args w R):CallsIn F n P f args w R:=by
  rw [hF.wide hr]
  exact callsIn_wide.2 h
theorem vals_ints {w:World} {S:Nat→Prop}:∀ {l:List Int} {xs:List Value},CV.vals w S (ints l).flatten xs→xs=l.map (Value.int .i64)
  | [],[],_=>rfl
  | [],_::_,h=>by simp [ints,CV.vals] at h
  | _::_,[],h=>by simp [ints,CV.vals] at h
  | a::l,x::xs,h=>by
    simp only [ints,List.map_cons,List.flatten_cons,List.singleton_append,CV.vals,ci,CV.holds] at h
    rw [List.map_cons,h.1.1,vals_ints (l:=l) h.2]
theorem ints_vals {w:World} {S:Nat→Prop}:∀ (l:List Int),CV.vals w S (ints l).flatten (l.map (Value.int .i64))
  | []=>by simp [ints,CV.vals]
  | a::l=>by
    simp only [ints,List.map_cons,List.flatten_cons,List.singleton_append,CV.vals,ci,CV.holds]
    exact ⟨⟨trivial,rfl⟩,ints_vals l⟩
theorem ints_one (l:List Int):∀ x∈ints l,x.length=1:=by
  intro x hx
  obtain ⟨a,_,rfl⟩:=List.mem_map.1 hx
  rfl
theorem del_P (l:List Int) (i:Nat) (hi:i<l.length):MutP Try.prog 82 3 1 [ci (i:Int),ci ((i+1:Nat):Int)] (ints l) (ints (l.eraseIdx i)) true:=by
  intro B V j v hv hsl hT hk hes F n hF hro n0 w0 e w vs hm ha hs
  refine callsIn_free hF hro ?_
  have hl:=Vec.sl_live hsl
  obtain ⟨xs,hown0,hvals,hrows⟩:=hm.vec j v hv hl
  have hown:=hown0.s (Vec.sl_T hsl)
  rw [hes] at hvals hown hown0
  have hxs:=vals_ints hvals
  subst hxs
  rw [hT,hk] at hown
  rw [ints_length] at hown
  have hvs:vs=#[e.hdr j v.ver,.int .i64 (i:Int),.int .i64 ((i+1:Nat):Int)]:=by
    apply Array.ext'
    generalize vs.toList=us at ha
    match us,ha with
    | [a,b,c],ha =>
      simp only [List.map_cons,List.map_nil,AV.all,AV.holds,CV.holds,ci,and_true] at ha
      obtain ⟨⟨h1,_⟩,⟨h2,_⟩,h3,_⟩:=ha
      rw [h1,h2,h3]
  subst hvs
  rcases hown with ⟨a,_,h0,_⟩ | ⟨hrow,g0,hg0,hob⟩
  · omega
  rcases hrow.2 with ⟨_,h0⟩ | ⟨g,cap,cur,hh,hng,hb,h1,h2,h3,h4⟩
  · omega
  rw [Nat.mul_one] at h4
  have hH:Holds (Value.int .i64) w g 0 l.toArray:=holds_of_blockI hb h4
  have hcap:cap≤9223372036854775807:=h2
  have hcall:=Any.slices_Delete_int lays23 g 0 cap i (i+1) l w hH h1 hcap (Nat.le_succ i) hi
  rw [hh]
  refine Calls.mono hcall ?_
  rintro en w' ⟨rfl,q,rfl⟩
  rw [show l.length - (i+1 - i)=l.length - 1 by omega]
  let ts:List Int:=l.take i++l.drop (i+1)++List.replicate (i+1 - i) 0
  have htl:ts.length=l.length:=by simp [ts];omega
  have herl:(l.eraseIdx i).length=l.length - 1:=List.length_eraseIdx_of_lt hi
  have hhp:(putRow (Value.int .i64) (Sort.ahead w q) g 0 ts.toArray).heap[g]? = some (.cells (putCells (Value.int .i64) 0 ts.toArray cur) 3 (0,0)):=by
    have:=heap_sortedI (os:=#[]) (n:=q) ts.toArray hb
    rwa [grow_empty] at this
  have hgr:w.grownBy (putRow (Value.int .i64) (Sort.ahead w q) g 0 ts.toArray) (some g):=by
    have:=grownBy_sortedI (w:=w) (g:=g) (n:=q) (os:=#[]) ts.toArray
    rwa [grow_empty] at this
  have hsz:cur.size=cap:=by simpa using h3
  have htake:=take_putCellsI cur ts (by rw [htl,hsz];exact h1)
  have htk2:(putCells (Value.int .i64) 0 ts.toArray cur).toList.take (l.length - 1)=(l.eraseIdx i).map (Value.int .i64):=by
    have e1:(l.length - 1)=min (l.length - 1) ts.length:=by omega
    rw [e1,← List.take_take,htake,← List.map_take]
    congr 1
    have e2:ts=l.eraseIdx i++List.replicate (i+1 - i) 0:=by rw [List.eraseIdx_eq_take_drop_succ]
    rw [e2,List.take_append_of_le_length (by omega),← herl,List.take_length]
  have hown':OwnsV (putRow (Value.int .i64) (Sort.ahead w q) g 0 ts.toArray) n0 v.T v.k (.slice (some ⟨g,0,none⟩) (l.length - 1) cap) (ints (l.eraseIdx i)).length ((l.eraseIdx i).map (Value.int .i64)):=by
    rw [hT,hk,ints_length,herl]
    refine OwnsV.of_row (by decide) ⟨by simp [herl],.inr ⟨g,cap,_,rfl,hng,hhp,by omega,h2,?_,by rw [Nat.mul_one];exact htk2⟩⟩
    simp [putCells,hsz]
  have hoblk:oblk (e.hdr j v.ver)=some g:=by
    have hc:cap≠0:=by omega
    rw [hh]
    obtain ⟨c,rfl⟩:∃ c,cap=c+1:=⟨cap - 1,by omega⟩
    rfl
  have hoblk':oblk (.slice (some ⟨g,0,none⟩) (l.length - 1) cap)=some g:=by
    obtain ⟨c,rfl⟩:∃ c,cap=c+1:=⟨cap - 1,by omega⟩
    rfl
  obtain ⟨env',m1,m2,m3,_⟩:=hm.vecStep (w':=putRow (Value.int .i64) (Sort.ahead w q) g 0 ts.toArray) hv hl (.slice (some ⟨g,0,none⟩) (l.length - 1) cap) (ints (l.eraseIdx i)) ((l.eraseIdx i).map (Value.int .i64))
    hown' (ints_vals _) (by rw [hk];exact ints_one _) (by rw [hoblk];exact hgr) (.inl (by rw [hoblk,hoblk']))
  have hil:=(List.getElem?_eq_some_iff.1 hv).1
  refine ⟨env',B,_,.own j (v.ver+1),_,rfl,⟨by simp,rfl,rfl⟩,m1,m2,?_,?_⟩
  · simp only [AV.holds]
    exact ⟨m3.symm,rfl⟩
  · simp [AV.sco,vers,List.getD,hil]
theorem sort_P (l:List Int) (hl:l.length<1000000):MutP Try.prog 70 3 1 [] (ints l) (ints (sorted l)) false:=by
  intro B V j v hv hsl hT hk hes F n hF hro n0 w0 e w vs hm ha hs
  refine callsIn_free hF hro ?_
  have hlv:=Vec.sl_live hsl
  obtain ⟨xs,hown0,hvals,hrows⟩:=hm.vec j v hv hlv
  have hown:=hown0.s (Vec.sl_T hsl)
  rw [hes] at hvals hown hown0
  have hxs:=vals_ints hvals
  subst hxs
  rw [hT,hk] at hown
  rw [ints_length] at hown
  have hvs:vs=#[e.hdr j v.ver]:=by
    apply Array.ext'
    generalize vs.toList=us at ha
    match us,ha with
    | [a],ha =>
      simp only [List.map_nil,AV.all,AV.holds,and_true] at ha
      rw [ha.1]
  subst hvs
  have none_case:∀ (a:Option Addr) (c:Nat),e.hdr j v.ver=.slice a 0 c→l=[]→Calls Try.prog 70 #[e.hdr j v.ver] w fun en w'=>∃ e' B' V' r u,en=.returned u∧(r=(if false=true then AV.own j (v.ver+1) else .tup [])∧B'=B∧V'=V.set j ⟨v.live,v.T,v.k,if false=true then v.ver+1 else v.ver,ints (sorted l)⟩)∧Mem n0 w0 e' B' V' w'∧Ext e w B.length (vers V) (kss V) e' w' B'.length (vers V') (kss V')∧AV.holds e' w' (kss V') r u∧AV.sco B'.length (vers V') r:=by
    intro a c hh h0
    rw [hh]
    refine Calls.mono (Any.slices_Sort_int_none lays189 a c w) ?_
    rintro en w' ⟨rfl,rfl⟩
    subst h0
    obtain ⟨m1,m2⟩:=hm.vecSet (w':=w') hv hlv (ints (sorted [])) [] (by
      have:(ints (sorted []))=[]:=by simp [sorted,ints]
      rw [this]
      have h5:=hown0
      simp only [ints,List.map_nil,List.length_nil] at h5
      exact h5) (by simp [sorted,ints,CV.vals]) (by simp [sorted,ints]) (World.grownBy.refl w' _)
    exact ⟨e,B,_,.tup [],_,rfl,⟨by simp,rfl,rfl⟩,m1,m2,by simp [AV.holds,AV.all],by simp [AV.sco,AV.scos]⟩
  rcases hown with ⟨a,hh,h0,_⟩ | ⟨hrow,g0,hg0,hob⟩
  · exact none_case a 0 hh (List.length_eq_zero_iff.1 h0)
  rcases hrow.2 with ⟨hh,h0⟩ | ⟨g,cap,cur,hh,hng,hb,h1,h2,h3,h4⟩
  · exact none_case none 0 hh (List.length_eq_zero_iff.1 h0)
  rw [Nat.mul_one] at h4
  have hH:Holds (Value.int .i64) w g 0 l.toArray:=holds_of_blockI hb h4
  have hgl:g<w.heap.size:=(Array.getElem?_eq_some_iff.1 hb).1
  have hcall:=Any.slices_Sort_int lays189 g 0 cap l w hH hgl (by omega)
  rw [hh]
  refine Calls.mono hcall ?_
  rintro en w' ⟨rfl,q,os,rfl⟩
  have hsz:cur.size=cap*1:=h3
  have hsl':(sorted l).length=l.length:=sorted_len l
  have hrow':=ownsRow_sortedI (n:=q) (os:=os) hsl' hng hb h1 h2 hsz
  have hgr:=grownBy_sortedI (w:=w) (g:=g) (n:=q) (os:=os) (sorted l).toArray
  have hown':OwnsV (grow (putRow (Value.int .i64) (Sort.ahead w q) g 0 (sorted l).toArray) os) n0 v.T v.k (e.hdr j v.ver) (ints (sorted l)).length ((sorted l).map (Value.int .i64)):=by
    rw [hT,hk,ints_length,hsl',hh]
    exact OwnsV.of_row (by decide) hrow'
  have hoblk:w.grownBy (grow (putRow (Value.int .i64) (Sort.ahead w q) g 0 (sorted l).toArray) os) (oblk (e.hdr j v.ver)):=by
    rw [hg0]
    rw [hh] at hob
    simp only [Value.ownBlock,Option.some.injEq] at hob
    rw [← hob]
    exact hgr
  obtain ⟨m1,m2⟩:=hm.vecSet hv hlv (ints (sorted l)) _ hown' (ints_vals _) (by rw [hk];exact ints_one _) hoblk
  exact ⟨e,B,_,.tup [],_,rfl,⟨by simp,rfl,rfl⟩,m1,m2,by simp [AV.holds,AV.all],by simp [AV.sco,AV.scos]⟩
end Go.Proofs.Ythkfohoccnnphaa
namespace Go.Proofs.Ythkfohoccnnphaa
open Go Go.Sx Go.Pen
set_option maxRecDepth 100000
open Classical in
noncomputable def delIt:List CV→Option (List CV)
  | [.row 1 es,.fn 3 [],.val (.int .i64 lo),.val (.int .i64 hi)]=>if es=ints (decI es)∧0≤lo∧lo<es.length∧hi=lo+1 then some [.row 1 (ints ((decI es).eraseIdx lo.toNat)),.val (.bool true)] else none
  | _=>none
open Classical in
noncomputable def sortIt:List CV→Option (List CV)
  | [.row 1 es,.fn 3 []]=>if es=ints (decI es)∧es.length<1000000 then some [.row 1 (ints (sorted (decI es))),.val (.bool false)] else none
  | _=>none
theorem entO_mut {f:Nat} {it:List CV→Option (List CV)} (h:∀ caps out,it caps=some out→∃ es cs es' hdr,caps=.row 1 es::.fn 3 []::cs∧out=[.row 1 es',.val (.bool hdr)]∧entB Try.prog f=true∧MutP Try.prog f 3 1 cs es es' hdr):EntO f it:=by
  intro caps out ho
  obtain ⟨es,cs,es',hdr,rfl,rfl,he,hm⟩:=h caps out ho
  refine ⟨fun rows sh hr=>by simp at hr,fun xs hx=>by simp [intsOf] at hx,fun k e T hr=>by simp at hr,fun T k cs1 e e' hd h1 h2=>?_,fun k T b h1=>by simp at h1⟩
  simp only [List.cons.injEq,CV.row.injEq,CV.fn.injEq,CV.val.injEq,Value.bool.injEq,and_true] at h1 h2
  obtain ⟨⟨rfl,rfl⟩,rfl,rfl⟩:=h1
  obtain ⟨⟨_,rfl⟩,rfl⟩:=h2
  exact ⟨he,hm⟩
theorem del_ent:EntO 82 delIt:=entO_mut fun caps out h=>by
  unfold delIt at h
  split at h
  · rename_i es lo hi
    split at h
    · rename_i hc
      obtain ⟨he,h0,h1,rfl⟩:=hc
      cases h
      have hl:(decI es).length=es.length:=by simp [decI]
      obtain ⟨m,rfl⟩:∃ m:Nat,lo=m:=⟨lo.toNat,by omega⟩
      have:=del_P (decI es) m (by omega)
      rw [← he] at this
      exact ⟨es,_,_,true,rfl,rfl,by kernel_rfl,this⟩
    · cases h
  · cases h
theorem sort_ent:EntO 70 sortIt:=entO_mut fun caps out h=>by
  unfold sortIt at h
  split at h
  · rename_i es
    split at h
    · rename_i hc
      obtain ⟨he,h0⟩:=hc
      cases h
      have hl:(decI es).length=es.length:=by simp [decI]
      have:=sort_P (decI es) (by omega)
      rw [← he] at this
      exact ⟨es,_,_,false,rfl,rfl,by kernel_rfl,this⟩
    · cases h
  · cases h
noncomputable def its:ITS:=[(76,cloneIt),(116,allIt),(121,lstIt),(82,delIt),(70,sortIt)]
theorem its_ok:ItsOk Try.prog its:=by
  intro e he
  simp only [its,List.mem_cons,List.not_mem_nil,or_false] at he
  rcases he with rfl | rfl | rfl | rfl | rfl
  · exact clone_ent
  · exact all_ent
  · exact lst_ent
  · exact del_ent
  · exact sort_ent
theorem its_fns (n:Nat):Fns Try.prog sg (D its n):=den_fns its_ok (by constructor <;> kernel_rfl) tb_ok n
theorem D_lst (n:Nat) (vs:List CV):D its (n+1) 121 vs=lstIt vs:=by kernel_rfl
theorem D_del (n:Nat) (vs:List CV):D its (n+1) 82 vs=delIt vs:=by kernel_rfl
theorem D_srt (n:Nat) (vs:List CV):D its (n+1) 70 vs=sortIt vs:=by kernel_rfl
theorem itsM:ItsM its where
  all n y l hy hs:=by
    show allIt _=_
    exact allIt_eq hy hs
  lists n k many hk h0 hm:=by
    rw [D_lst]
    exact lstIt_eq hk h0 hm
  del n l i hi hl:=by
    rw [D_del]
    simp only [delIt,ci]
    rw [if_pos (by rw [decI_ints,ints_length];refine ⟨rfl,?_,?_,?_⟩ <;> omega),decI_ints]
    simp
  sort n l hl:=by
    rw [D_srt]
    simp only [sortIt]
    rw [if_pos (by rw [decI_ints,ints_length];exact ⟨rfl,hl⟩),decI_ints]
    rfl
theorem sane_true (n:Nat):D its (n+10) n_law05_sane []=some [cb true]:=w_sane itsM n
theorem spec_of {f:FuncId} {g:Sig} {vs out:List CV} {n:Nat} (hg:sg f=some g) (h:D its n f vs=some out):SpecR Try.prog f (Sc.avs g.ps vs 0) (Sc.res g.rs out):=(its_fns n).spec f g vs out hg h
end Go.Proofs.Ythkfohoccnnphaa
namespace Go.Proofs.Ythkfohoccnnphaa
open Go Go.Sx Go.Pen
set_option maxRecDepth 100000
theorem shp_int {n:Nat} {c:List CV} (h:Shp Try.prog (n+1) 3 c):∃ m:Int,c=[ci m]∧-9223372036854775808≤m∧m<9223372036854775808:=by
  simp only [Shp,Try.underlying3] at h
  obtain ⟨m,rfl,hm⟩:=h
  refine ⟨m,rfl,?_⟩
  simp [Lit.wf,IntKind.min,IntKind.max,IntKind.signed,IntKind.bits] at hm
  omega
theorem shp_intl {n:Nat}:∀ {k:Nat} {c:List CV},ShpL (Shp Try.prog (n+1)) (List.replicate k 3) c→∃ l:List Int,l.length=k∧c=l.map ci∧∀ m∈l,-9223372036854775808≤m∧m<9223372036854775808
  | 0,c,h=>⟨[],rfl,h,by simp⟩
  | k+1,c,h=>by
    simp only [List.replicate_succ,ShpL] at h
    obtain ⟨a,b,rfl,h1,h2⟩:=h
    obtain ⟨m,rfl,hm⟩:=shp_int h1
    obtain ⟨l,h3,rfl,hl⟩:=shp_intl h2
    exact ⟨m::l,by simp [h3],rfl,by simpa using ⟨hm,hl⟩⟩
theorem rows_cv {A:Type} {cv:A→List CV}:∀ {es:List (List CV)},(∀ x∈es,∃ a,x=cv a)→∃ l:List A,es=l.map cv
  | [],_=>⟨[],rfl⟩
  | e::es,h=>by
    obtain ⟨a,rfl⟩:=h e (by simp)
    obtain ⟨l,rfl⟩:=rows_cv (es:=es) fun x hx=>h x (by simp [hx])
    exact ⟨a::l,rfl⟩
theorem reach_len {n m:Nat} (h:n*m≤reachBytes) (hm:2≤m):n<100000000000000:=by
  have h1:n*2≤n*m:=Nat.mul_le_mul_left _ hm
  have h2:reachBytes<2 ^ 47:=by decide
  omega
theorem shp_ints {n:Nat} {c:List CV} (h:Shp Try.prog (n+2) 22 c):∃ l:List Int,l.length<100000000000000∧c=[.row 1 (Pen.ints l)]:=by
  have c3:Try.prog.cellsOf 3=1:=by kernel_rfl
  have b3:Try.prog.bytesOf 3=8:=by kernel_rfl
  rw [Shp] at h
  simp only [Try.underlying22,c3,b3] at h
  obtain ⟨es,rfl,hes,hb⟩:=h
  obtain ⟨l,rfl⟩:=rows_cv (cv:=fun x:Int=>[ci x]) fun x hx=>by
    obtain ⟨m,rfl,_⟩:=shp_int (hes x hx)
    exact ⟨m,rfl⟩
  rw [List.length_map] at hb
  exact ⟨l,reach_len hb (by omega),rfl⟩
theorem shp_kind {n:Nat} {c:List CV} (h:Shp Try.prog (n+2) 37 c):∃ k:Kd,c=k.cv:=by
  rw [Shp] at h
  simp only [Try.underlying37,List.map_cons,List.map_nil,ShpL] at h
  obtain ⟨_,_,rfl,h1,_,_,rfl,h2,_,_,rfl,h3,_,_,rfl,h4,rfl⟩:=h
  obtain ⟨m1,rfl,_⟩:=shp_int h1
  obtain ⟨m2,rfl,_⟩:=shp_int h2
  obtain ⟨m3,rfl,_⟩:=shp_int h3
  obtain ⟨m4,rfl,_⟩:=shp_int h4
  exact ⟨⟨m1,m2,m3,m4⟩,rfl⟩
theorem shp_kinds {n:Nat} {c:List CV} (h:Shp Try.prog (n+3) 23 c):∃ l:List Kd,l.length<100000000000000∧c=[.row 4 (l.map Kd.cv)]:=by
  have c3:Try.prog.cellsOf 37=4:=by kernel_rfl
  have b3:Try.prog.bytesOf 37=32:=by kernel_rfl
  rw [Shp] at h
  simp only [Try.underlying23,c3,b3] at h
  obtain ⟨es,rfl,hes,hb⟩:=h
  obtain ⟨l,rfl⟩:=rows_cv (cv:=Kd.cv) fun x hx=>shp_kind (hes x hx)
  rw [List.length_map] at hb
  exact ⟨l,reach_len hb (by omega),rfl⟩
theorem shp_yard {n:Nat} {c:List CV} (h:Shp Try.prog (n+4) 25 c):∃ y:Yard,Fit y∧c=[.row 1 y.ps,.row 4 y.ks]:=by
  rw [Shp] at h
  simp only [Try.underlying25,List.map_cons,List.map_nil,ShpL] at h
  obtain ⟨_,_,rfl,h1,_,_,rfl,h2,rfl⟩:=h
  obtain ⟨a,ha,rfl⟩:=shp_ints h1
  obtain ⟨b,hb,rfl⟩:=shp_kinds h2
  exact ⟨⟨a,b⟩,⟨by show a.length<_;omega,by show b.length<_;omega⟩,rfl⟩
theorem shp_three {n:Nat} {c:List CV} (h:Shp Try.prog (n+2) 27 c):∃ a b d:Int,c=[ci a,ci b,ci d]∧(∀ m∈[a,b,d],-9223372036854775808≤m∧m<9223372036854775808):=by
  rw [Shp] at h
  simp only [Try.underlying27] at h
  obtain ⟨l,hl,rfl,hb⟩:=shp_intl h
  match l,hl with
  | [a,b,d],_=>exact ⟨a,b,d,rfl,hb⟩
end Go.Proofs.Ythkfohoccnnphaa
namespace Go.Proofs.Ythkfohoccnnphaa
open Go Go.Sx Go.Pen Go.ChangeShapes Go.WideShapes Go.ChangeAt Go.RowKit
set_option maxRecDepth 100000
theorem Try.own:ownKnob Try.prog.godebug=none:=by kernel_rfl
theorem Try.kids:Kids Try.prog (·<Try.prog.types.size):=kids_rows (by kernel_rfl) (by kernel_rfl)
theorem Try.full:∀ t e,t<Try.prog.types.size→Try.prog.underlying t=some (.slice e)→0<Try.prog.cellsOf e:=slices_full_of Try.prog (by kernel_rfl)
end Go.Proofs.Ythkfohoccnnphaa
namespace Go.Proofs.Ythkfohoccnnphaa
open Go Go.Sx Go.Pen
set_option maxRecDepth 10000
attribute [local simp] Bool.and_assoc Bool.or_assoc
variable {its:ITS}
theorem tmod_even {a:Int} (h:0≤a):Int.tmod a 2=a % 2:=Int.tmod_eq_emod_of_nonneg h
theorem r_CheckYard (n:Nat) (y:Yard) (h1:y.pens.length<9223372036854775807) (h2:y.kinds.length<9223372036854775807):D its (n+2) n_r05_CheckYard [.row 1 y.ps,.row 4 y.ks]=some [ci (checkYard y)]:=by
  rw [q_r05_CheckYard]
  unfold R_r05_CheckYard
  rw [loop_idx (fun x=>!within x 0 1000) y.pens (fun _=>some (.ret [ci 50])) (some (.br 0 [])) (fun i=>[ci (i:Int)]) ?hv ?hR ?hX (fun i hi hp=>?p1) (fun i hi hp=>?p2) ?p3]
  case hv=>rfl
  case hR=>simp
  case hX=>simp
  case p3=>simp
  case p1 =>
    simp only [Bool.not_eq_false'] at hp
    simp [hi,hp,inb_ps,el_ps,wr_nat (show i<9223372036854775807 by omega)]
  case p2 =>
    simp only [Bool.not_eq_true'] at hp
    simp [hi,hp,inb_ps,el_ps]
  rw [loop_find y.kinds.length (fun i=>[ci (i:Int)]) (badK y.kinds) (fun _=>some (.ret [ci 50])) (some (.br 2 [])) ?hv ?hR ?hX (fun i hi hp=>?s1) (fun i hi hp=>?s2) ?s3]
  case hv=>rfl
  case hR=>simp
  case hX=>simp
  case s3=>simp
  case s1 =>
    simp only [badK,List.getElem?_eq_getElem hi,Bool.or_eq_false_iff,Bool.not_eq_false'] at hp
    obtain ⟨hp1,hp2⟩:=hp
    have hwn:=wr_nat (show i<9223372036854775807 by omega)
    simp only [Kd.ok,Bool.and_eq_true,decide_eq_true_eq] at hp1
    obtain ⟨⟨⟨⟨q1,q2⟩,q3⟩,q4⟩,q5⟩:=hp1
    have q4':=q4
    simp only [within,Bool.and_eq_true,decide_eq_true_eq] at q4'
    have q6:Int.tmod y.kinds[i].apart 2=0:=by rw [tmod_even q4'.1];exact q5
    by_cases h0:0<i
    · have hi':i - 1<y.kinds.length:=by omega
      have hw:=wr_pred h0 (show i<9223372036854775807 by omega)
      simp only [h0,decide_true,Bool.true_and,List.getElem?_eq_getElem hi'] at hp2
      have hp3:¬y.kinds[i].sort≤y.kinds[i - 1].sort:=by simpa using hp2
      simp [hi,inb_ks hi,el_ks hi,kcv_oks,q1,q2,q3,q4,q6,hwn,h0,hw,inb_ks hi',el_ks hi',kcv_oks1,hp3,-List.reduceReplicate]
    · simp [hi,inb_ks hi,el_ks hi,kcv_oks,q1,q2,q3,q4,q6,hwn,h0,-List.reduceReplicate]
  case s2 =>
    simp only [badK,List.getElem?_eq_getElem hi] at hp
    by_cases hok:y.kinds[i].ok=true
    · have hok':=hok
      simp only [Kd.ok,Bool.and_eq_true,decide_eq_true_eq] at hok'
      obtain ⟨⟨⟨⟨q1,q2⟩,q3⟩,q4⟩,q5⟩:=hok'
      have q4':=q4
      simp only [within,Bool.and_eq_true,decide_eq_true_eq] at q4'
      have q6:Int.tmod y.kinds[i].apart 2=0:=by rw [tmod_even q4'.1];exact q5
      rw [hok] at hp
      by_cases h0:0<i
      · have hi':i - 1<y.kinds.length:=by omega
        have hw:=wr_pred h0 (show i<9223372036854775807 by omega)
        simp only [h0,decide_true,Bool.true_and,Bool.not_true,Bool.false_or,List.getElem?_eq_getElem hi'] at hp
        have hp3:y.kinds[i].sort≤y.kinds[i - 1].sort:=by simpa using hp
        simp [hi,inb_ks hi,el_ks hi,kcv_oks,q1,q2,q3,q4,q6,h0,hw,inb_ks hi',el_ks hi',kcv_oks1,hp3,-List.reduceReplicate]
      · simp [h0] at hp
    · simp only [gi_z,il_ks,eq_true (show ((i:Int)<(y.kinds.length:Int)) by omega),decide_true,iteB,inb_ks hi,el_ks hi,kcv_oks,chk_true,kcv0,kcv1,kcv2,kcv3,w_within,callO_val,gb_z]
      cases q1:within y.kinds[i].sort 1 9 with
      | false=>rfl
      | true =>
        cases q2:within y.kinds[i].room 1 1000 with
        | false=>rfl
        | true =>
          cases q3:within y.kinds[i].eats 0 1000 with
          | false=>rfl
          | true =>
            cases q4:within y.kinds[i].apart 0 1023 with
            | false=>rfl
            | true =>
              have q4':=q4
              simp only [within,Bool.and_eq_true,decide_eq_true_eq] at q4'
              have q5:¬y.kinds[i].apart % 2=0:=fun h=>hok (by simp [Kd.ok,q1,q2,q3,q4,h])
              have q6:(Int.tmod y.kinds[i].apart 2 != 0)=true:=by rw [tmod_even q4'.1];simp [q5]
              simp only [Bool.not_true,q6]
              rfl
  · rw [checkYard_eq]
    have hany:y.pens.findIdx? (fun x=>!within x 0 1000)=none↔y.pens.any (fun x=>!within x 0 1000)=false:=idx_any
    by_cases h5:5<y.pens.length
    · have h5':5<(y.pens.length:Int):=by omega
      simp [h5,h5']
    · have h5':¬(5<(y.pens.length:Int)):=by omega
      cases hf:y.pens.findIdx? (fun x=>!within x 0 1000) with
      | some i =>
        have:y.pens.any (fun x=>!within x 0 1000)=true:=by
          cases hc:y.pens.any (fun x=>!within x 0 1000) with
          | true=>rfl
          | false=>rw [hany.2 hc] at hf;cases hf
        rw [if_pos (Or.inr this)]
        simp [h5']
      | none =>
        rw [if_neg (by rw [hany.1 hf];simp;omega)]
        cases (List.range y.kinds.length).find? (badK y.kinds) <;> simp [h5']
theorem r_kind (n:Nat) (y:Yard) (h2:y.kinds.length<9223372036854775807) (s:Int):D its (n+1) n_r05_kind [.row 1 y.ps,.row 4 y.ks,ci s]=some [ci (kd y s).sort,ci (kd y s).room,ci (kd y s).eats,ci (kd y s).apart,cb (has y s)]:=by
  rw [q_r05_kind]
  unfold R_r05_kind
  rw [loop_findL (fun k:Kd=>k.sort == s) (fun k=>some (.ret [ci k.sort,ci k.room,ci k.eats,ci k.apart,cb true])) (some (.br 0 [ci 0,ci 0,ci 0,ci 0])) y.kinds (fun i=>[ci (i:Int),ci 0,ci 0,ci 0,ci 0]) ?hv ?hR ?hX (fun i hi hp=>?s1) (fun i hi hp=>?s2) ?s3]
  case hv=>rfl
  case hR=>simp
  case hX=>simp
  case s3=>simp [cis,gi]
  case s1 =>
    simp only [gi_z,il_ks,eq_true (show ((i:Int)<(y.kinds.length:Int)) by omega),decide_true,iteB,inb_ks hi,el_ks hi,kcv_oks,chk_true,kcv0,hp,wr_nat (show i<9223372036854775807 by omega)]
    rfl
  case s2 =>
    simp only [gi_z,il_ks,eq_true (show ((i:Int)<(y.kinds.length:Int)) by omega),decide_true,iteB,inb_ks hi,el_ks hi,kcv_oks,chk_true,kcv0,hp]
    rfl
  · unfold kd has kindOf
    cases hf:y.kinds.find? (fun k=>k.sort == s) with
    | some k=>rfl
    | none=>rfl
theorem r_CheckSorts (n:Nat) {y:Yard} (hf:Fit y) (l:List Int) (hl:l.length<9223372036854775807):D its (n+3) n_r05_CheckSorts [.row 1 y.ps,.row 4 y.ks,.row 1 (ints l)]=some [ci (asked y l)]:=by
  rw [q_r05_CheckSorts]
  unfold R_r05_CheckSorts
  rw [r_CheckYard n y hf.p hf.k]
  rw [loop_idx (fun s=>!has y s) l (fun _=>some (.ret [ci 51])) (some (.br 0 [])) (fun i=>[ci (i:Int)]) ?hv ?hR ?hX (fun i hi hp=>?s1) (fun i hi hp=>?s2) ?s3]
  case hv=>rfl
  case hR=>simp
  case hX=>simp
  case s3=>simp
  case s1 =>
    simp only [Bool.not_eq_false'] at hp
    simp only [gi_z,il_ints',eq_true (show ((i:Int)<(l.length:Int)) by omega),decide_true,iteB,inb_ints hi,el_ints hi,li1,chk_true,r_kind _ y hf.k,callO_val,gb_s,gb_z,hp,Bool.not_true,wr_nat (show i<9223372036854775807 by omega)]
  case s2 =>
    simp only [Bool.not_eq_true'] at hp
    simp only [gi_z,il_ints',eq_true (show ((i:Int)<(l.length:Int)) by omega),decide_true,iteB,inb_ints hi,el_ints hi,li1,chk_true,r_kind _ y hf.k,callO_val,gb_s,gb_z,hp,Bool.not_false]
  · unfold checkYard asked sortsOk
    have hany:l.findIdx? (fun s=>!has y s)=none↔l.any (fun s=>!has y s)=false:=idx_any
    rw [any_not,Bool.not_eq_false'] at hany
    cases hy:y.ok with
    | false=>simp
    | true =>
      by_cases h8:l.length≤8
      · have h8':¬(8<(l.length:Int)):=by omega
        cases hfi:l.findIdx? (fun s=>!has y s) with
        | none=>simp [h8,h8',hany.1 hfi]
        | some i =>
          have:l.all (has y)=false:=by
            cases hc:l.all (has y) with
            | false=>rfl
            | true=>rw [hany.2 hc] at hfi;cases hfi
          simp [h8,h8',this]
      · have h8':8<(l.length:Int):=by omega
        simp [h8,h8']
end Go.Proofs.Ythkfohoccnnphaa
namespace Go.Proofs.Ythkfohoccnnphaa
open Go Go.Sx Go.Pen
set_option maxRecDepth 10000
attribute [local simp] Bool.and_assoc Bool.or_assoc
variable {its:ITS}
theorem w_right (n:Nat) {y:Yard} (hf:Fit y) (l:List Int) (hl:l.length<9223372036854775807):D its (n+4) n_law05_right [.row 1 y.ps,.row 4 y.ks,.row 1 (ints l)]=some [cb (decide (asked y l=0))]:=by
  rw [q_law05_right]
  unfold R_law05_right
  rw [r_CheckSorts n hf l hl]
  rfl
theorem mod_eq {n m:Int} (h0:0<m) (h1:m≤1000000):Int.tmod (wr (Int.tmod n m+m)) m=n % m:=by
  have h2:-m<Int.tmod n m∧Int.tmod n m<m:=by
    constructor
    · have:=Int.lt_tmod_of_pos n h0;omega
    · exact Int.tmod_lt_of_pos n h0
  rw [wr_of (by omega) (by omega),Int.tmod_eq_emod_of_nonneg (by omega),Int.add_emod_right]
  have h3:=Int.tmod_add_mul_tdiv n m
  have h4:Int.tmod n m=n+m*(-(Int.tdiv n m)):=by rw [Int.mul_neg];omega
  rw [h4,Int.add_mul_emod_self_left]
theorem w_mod (n:Nat) (a:Int) {m:Int} (h0:0<m) (h1:m≤1000000):D its (n+1) n_law05_mod [ci a,ci m]=some [ci (a % m)]:=by
  rw [q_law05_mod]
  unfold R_law05_mod
  have:(m != 0)=true:=by simp;omega
  rw [this,mod_eq h0 h1]
  rfl
end Go.Proofs.Ythkfohoccnnphaa
namespace Go.Proofs.Ythkfohoccnnphaa
open Go Go.Sx Go.Pen
set_option maxRecDepth 10000
theorem checkPlace_iff {y:Yard} {l p:List Int} (h:asked y l=0):checkPlace y l p=0↔p∈PL y l:=by
  unfold checkPlace
  rw [if_pos h,← isP_mem]
  cases isP y l p <;> simp
theorem get0_none {A:Type} {l:List A}:l[0]? = none↔l=[]:=by cases l <;> simp
end Go.Proofs.Ythkfohoccnnphaa
namespace Go.Proofs.Ythkfohoccnnphaa
open Go Go.Sx Go.Pen
set_option maxRecDepth 10000
theorem ib_t (x z:Option Ou):iteB true x z=x:=rfl
theorem ib_f (x z:Option Ou):iteB false x z=z:=rfl
end Go.Proofs.Ythkfohoccnnphaa
namespace Go.Proofs.Ythkfohoccnnphaa
open Go Go.Sx Go.Pen
set_option maxRecDepth 10000
theorem asked_perm {y:Yard} {l t:List Int} (h:t.Perm l) (ha:asked y l=0):asked y t=0:=by
  obtain ⟨hy,hs⟩:=asked_ok ha
  refine asked_zero hy ?_
  unfold sortsOk at hs ⊢
  rw [Bool.and_eq_true,decide_eq_true_eq,List.all_eq_true] at hs ⊢
  exact ⟨by rw [h.length_eq];exact hs.1,fun s hm=>hs.2 s (h.mem_iff.1 hm)⟩
end Go.Proofs.Ythkfohoccnnphaa
namespace Go.Proofs.Ythkfohoccnnphaa
open Go Go.Sx Go.Pen
set_option maxRecDepth 10000
theorem zip_erase:∀ (l p:List Int) (k:Nat),p.length=l.length→(l.eraseIdx k).zip (p.eraseIdx k)=(l.zip p).eraseIdx k
  | [],[],_,_=>by simp
  | a::l,b::p,0,_=>by simp
  | a::l,b::p,k+1,h=>by simp [zip_erase l p k (by simpa using h)]
  | [],_::_,_,h=>by simp at h
  | _::_,[],_,h=>by simp at h
theorem load_sub {y:Yard} (hy:y.ok=true) {z w:BP} (h:z.Sublist w) (q:Int):Pen.load y z q≤Pen.load y w q:=by
  induction h with
  | slnil=>exact Int.le_refl _
  | cons a _ ih =>
    obtain ⟨s,r⟩:=a
    simp only [Pen.load]
    have:=rm_nonneg hy s
    split <;> omega
  | cons_cons a _ ih =>
    obtain ⟨s,r⟩:=a
    simp only [Pen.load]
    omega
theorem Good_sub {y:Yard} (hy:y.ok=true) {z w:BP} (h:z.Sublist w) (hw:Pen.Good y w):Pen.Good y z:=by
  refine ⟨fun x hx=>?_,hw.2.sublist h⟩
  have h1:=hw.1 x (h.subset hx)
  exact ⟨h1.1,Int.le_trans (load_sub hy h x.2) h1.2⟩
theorem isP_erase {y:Yard} (hy:y.ok=true) {l p:List Int} (hp:isP y l p=true) {k:Nat} (hk:k<l.length):isP y (l.eraseIdx k) (p.eraseIdx k)=true:=by
  obtain ⟨hlen,hz⟩:=isP_len hp
  unfold isP
  rw [Bool.and_eq_true,beq_iff_eq]
  refine ⟨by rw [List.length_eraseIdx_of_lt (by omega),List.length_eraseIdx_of_lt hk,hlen],?_⟩
  rw [okZ_iff (rm_nonneg hy) _ _ rfl] at hz ⊢
  rw [zip_erase l p k hlen]
  exact Good_sub hy (List.eraseIdx_sublist _ _) hz
theorem sorts_erase {y:Yard} {l:List Int} (hs:sortsOk y l=true) (k:Nat):sortsOk y (l.eraseIdx k)=true:=by
  unfold sortsOk at hs ⊢
  rw [Bool.and_eq_true,decide_eq_true_eq,List.all_eq_true] at hs ⊢
  exact ⟨Nat.le_trans (List.length_eraseIdx_le l k) hs.1,fun s hm=>hs.2 s (List.mem_of_mem_eraseIdx hm)⟩
theorem eraseIdx_perm {A:Type}:∀ {l:List A} {k:Nat} (h:k<l.length),(l.eraseIdx k++[l[k]]).Perm l
  | a::l,0,_=>by simp
  | a::l,k+1,h=>by
    have:=eraseIdx_perm (l:=l) (k:=k) (by simpa using h)
    simpa using this.cons a
theorem canGo_back {y:Yard} (hy:y.ok=true) {l p:List Int} (hp:isP y l p=true) {k:Nat} (hk:k<l.length) (hkp:k<p.length):canGo y ((l.eraseIdx k).zip (p.eraseIdx k)) l[k] p[k]=true:=by
  obtain ⟨hlen,hz⟩:=isP_len hp
  rw [okZ_iff (rm_nonneg hy) _ _ rfl] at hz
  rw [zip_erase l p k hlen]
  have hkz:k<(l.zip p).length:=by simp;omega
  have h1:=(Good_perm (eraseIdx_perm hkz)).2 hz
  rw [← okZ_iff (rm_nonneg hy) _ _ rfl,okZ_snoc,Bool.and_eq_true] at h1
  simpa using h1.2
theorem addP_some {y:Yard} {z:BP} {s q:Int} (h:canGo y z s q=true):∃ m:Nat,addP y z s=some m∧canGo y z s (m:Int)=true:=by
  have hin:=h
  unfold canGo within at hin
  simp only [Bool.and_eq_true,decide_eq_true_eq] at hin
  obtain ⟨⟨⟨h0,h1⟩,_⟩,_⟩:=hin
  unfold addP
  cases hf:(List.range y.pens.length).find? (fun (q:Nat)=>canGo y z s (q:Int)) with
  | some m=>exact ⟨m,rfl,by simpa using List.find?_some hf⟩
  | none =>
    rw [List.find?_eq_none] at hf
    have:=hf q.toNat (by simp;omega)
    rw [show ((q.toNat:Nat):Int)=q by omega,h] at this
    exact absurd rfl this
theorem isP_add {y:Yard} {l p:List Int} (hp:isP y l p=true) {s q:Int} (h:canGo y (l.zip p) s q=true):isP y (l++[s]) (p++[q])=true:=by
  obtain ⟨hlen,hz⟩:=isP_len hp
  unfold isP
  rw [Bool.and_eq_true,beq_iff_eq]
  refine ⟨by simp [hlen],?_⟩
  rw [List.zip_append (by omega)]
  simp only [List.zip_cons_cons,List.zip_nil_left]
  rw [okZ_snoc,hz,h]
  rfl
def wide (y z:Yard):Prop:=y.pens.length≤z.pens.length∧(∀ i,i<y.pens.length→y.pens.getD i 0≤z.pens.getD i 0)∧(∀ s,rm z s=rm y s)∧∀ a b,apt z a b=true→apt y a b=true
theorem load_eq {y z:Yard} (h:∀ s,rm z s=rm y s) (w:BP) (q:Int):Pen.load z w q=Pen.load y w q:=by
  induction w with
  | nil=>rfl
  | cons a w ih=>obtain ⟨s,r⟩:=a;simp only [Pen.load,h,ih]
theorem isP_wide {y z:Yard} (hy:y.ok=true) (hz:z.ok=true) (h:wide y z) {l p:List Int} (hp:isP y l p=true):isP z l p=true:=by
  obtain ⟨hlen,hg⟩:=isP_len hp
  unfold isP
  rw [Bool.and_eq_true,beq_iff_eq]
  refine ⟨hlen,?_⟩
  rw [okZ_iff (rm_nonneg hy) _ _ rfl] at hg
  rw [okZ_iff (rm_nonneg hz) _ _ rfl]
  refine ⟨fun x hx=>?_,hg.2.imp fun {a b} hab hh=>hab ⟨hh.1,h.2.2.2 _ _ hh.2⟩⟩
  obtain ⟨h1,h2⟩:=hg.1 x hx
  simp only [within,Bool.and_eq_true,decide_eq_true_eq] at h1 ⊢
  refine ⟨⟨h1.1,by have:=h.1;omega⟩,?_⟩
  rw [load_eq h.2.2.1]
  exact Int.le_trans h2 (h.2.1 _ (by omega))
def moreY (y:Yard) (i:Nat) (v:Int) (j:Nat) (u:Int):Yard:=
  ⟨if y.pens.length<5 then y.pens.set i v++[u] else y.pens.set i v,match y.kinds[j]? with | some k=>y.kinds.set j { k with apart:=0 } | none=>y.kinds⟩
def noA (k:Kd):Kd:={ k with apart:=0 }
theorem find_set (s:Int):∀ (ks:List Kd) (j:Nat) (k:Kd),ks[j]? = some k→(((ks.set j (noA k)).find? fun x=>x.sort == s)=none∧(ks.find? fun x=>x.sort == s)=none)∨∃ a b,((ks.set j (noA k)).find? fun x=>x.sort == s)=some a∧(ks.find? fun x=>x.sort == s)=some b∧a.sort=b.sort∧a.room=b.room∧a.eats=b.eats∧(a.apart=b.apart∨a.apart=0)
  | [],_,_,h=>by simp at h
  | x::ks,0,k,h=>by
    simp only [List.getElem?_cons_zero,Option.some.injEq] at h
    subst h
    simp only [List.set_cons_zero]
    by_cases hs:(x.sort == s)=true
    · rw [List.find?_cons_of_pos (p:=fun x:Kd=>x.sort == s) (a:=noA x) hs,List.find?_cons_of_pos (p:=fun x:Kd=>x.sort == s) (a:=x) hs]
      exact Or.inr ⟨_,_,rfl,rfl,rfl,rfl,rfl,Or.inr rfl⟩
    · rw [List.find?_cons_of_neg (p:=fun x:Kd=>x.sort == s) (a:=noA x) hs,List.find?_cons_of_neg (p:=fun x:Kd=>x.sort == s) (a:=x) hs]
      cases hf:ks.find? (fun x=>x.sort == s) with
      | none=>exact Or.inl ⟨rfl,rfl⟩
      | some b=>exact Or.inr ⟨b,b,rfl,rfl,rfl,rfl,rfl,Or.inl rfl⟩
  | x::ks,j+1,k,h=>by
    simp only [List.getElem?_cons_succ] at h
    simp only [List.set_cons_succ]
    by_cases hs:(x.sort == s)=true
    · rw [List.find?_cons_of_pos (p:=fun x:Kd=>x.sort == s) (a:=x) hs,List.find?_cons_of_pos (p:=fun x:Kd=>x.sort == s) (a:=x) hs]
      exact Or.inr ⟨x,x,rfl,rfl,rfl,rfl,rfl,Or.inl rfl⟩
    · rw [List.find?_cons_of_neg (p:=fun x:Kd=>x.sort == s) (a:=x) hs,List.find?_cons_of_neg (p:=fun x:Kd=>x.sort == s) (a:=x) hs]
      exact find_set s ks j k h
section
variable {y:Yard} {i j:Nat} {v u:Int}
theorem moreY_kinds {k:Kd} (h:y.kinds[j]? = some k):(moreY y i v j u).kinds=y.kinds.set j (noA k):=by
  unfold moreY
  simp only [h]
  rfl
theorem moreY_kd {k:Kd} (h:y.kinds[j]? = some k) (s:Int):(kd (moreY y i v j u) s).room=(kd y s).room∧((kd (moreY y i v j u) s).apart=(kd y s).apart∨(kd (moreY y i v j u) s).apart=0)∧has (moreY y i v j u) s=has y s:=by
  unfold kd has kindOf
  rw [moreY_kinds h]
  rcases find_set s y.kinds j k h with ⟨h1,h2⟩ | ⟨a,b,h1,h2,h3,h4,h5,h6⟩
  · rw [h1,h2];exact ⟨rfl,Or.inl rfl,rfl⟩
  · rw [h1,h2];exact ⟨h4,h6,rfl⟩
theorem map_set_sort {ks:List Kd} {j:Nat} {k:Kd} (h:ks[j]? = some k):(ks.set j (noA k)).map Kd.sort=ks.map Kd.sort:=by
  rw [List.map_set]
  apply List.ext_getElem? 
  intro m
  rw [List.getElem?_set]
  split
  · rename_i e
    subst e
    obtain ⟨hj,rfl⟩:=List.getElem?_eq_some_iff.1 h
    simp [hj,noA]
  · rfl
theorem moreY_ok (hy:y.ok=true) {k:Kd} (h:y.kinds[j]? = some k) (hv:0≤v∧v≤1000) (hu:0≤u∧u≤1000):(moreY y i v j u).ok=true:=by
  have hy':=hy
  unfold Yard.ok at hy' ⊢
  rw [moreY_kinds h,map_set_sort h]
  simp only [Bool.and_eq_true,decide_eq_true_eq,List.all_eq_true] at hy' ⊢
  obtain ⟨⟨⟨h1,h2⟩,h3⟩,h4⟩:=hy'
  have hset:∀ x∈y.pens.set i v,within x 0 1000=true:=by
    intro x hx
    rcases List.mem_or_eq_of_mem_set hx with hx | rfl
    · exact h2 x hx
    · simp [within,hv]
  refine ⟨⟨⟨?_,?_⟩,?_⟩,h4⟩
  · unfold moreY
    simp only
    split
    · rw [List.length_append,List.length_set,List.length_singleton];omega
    · rw [List.length_set];exact h1
  · intro x hx
    unfold moreY at hx
    simp only at hx
    split at hx
    · rcases List.mem_append.1 hx with hx | hx
      · exact hset x hx
      · rw [List.mem_singleton] at hx
        subst hx
        simp [within,hu]
    · exact hset x hx
  · intro x hx
    rcases List.mem_or_eq_of_mem_set hx with hx | rfl
    · exact h3 x hx
    · have:=h3 k (List.mem_of_getElem? h)
      unfold Kd.ok at this ⊢
      simp only [Bool.and_eq_true] at this ⊢
      exact ⟨⟨this.1.1,rfl⟩,rfl⟩
theorem moreY_wide {k:Kd} (h:y.kinds[j]? = some k) (hi:i<y.pens.length) (hv:y.pens.getD i 0≤v):wide y (moreY y i v j u):=by
  have hlen:y.pens.length≤(moreY y i v j u).pens.length:=by
    unfold moreY;simp only;split <;> simp
  refine ⟨hlen,fun m hm=>?_,fun s=>(moreY_kd h s).1,fun a b=>?_⟩
  · have hg:(moreY y i v j u).pens.getD m 0=(y.pens.set i v).getD m 0:=by
      unfold moreY
      simp only
      split
      · rw [List.getD_eq_getElem?_getD,List.getElem?_append_left (by simpa using hm),← List.getD_eq_getElem?_getD]
      · rfl
    rw [hg]
    by_cases e:m=i
    · subst e
      have:(y.pens.set m v).getD m 0=v:=by simp [hm]
      rw [this];exact hv
    · have:(y.pens.set i v).getD m 0=y.pens.getD m 0:=by
        rw [List.getD_eq_getElem?_getD,List.getElem?_set_ne (fun h=>e h.symm),← List.getD_eq_getElem?_getD]
      rw [this];exact Int.le_refl _
  · unfold apt
    rw [Bool.or_eq_true,Bool.or_eq_true]
    have hb:∀ a b,bit (kd (moreY y i v j u) a).apart b=true→bit (kd y a).apart b=true:=by
      intro a b hh
      rcases (moreY_kd (i:=i) (v:=v) (u:=u) h a).2.1 with e | e
      · rwa [e] at hh
      · rw [e] at hh;simp [bit] at hh
    exact Or.imp (hb a b) (hb b a)
theorem moreY_sorts {k:Kd} (h:y.kinds[j]? = some k) {l:List Int} (hs:sortsOk y l=true):sortsOk (moreY y i v j u) l=true:=by
  unfold sortsOk at hs ⊢
  rw [Bool.and_eq_true,decide_eq_true_eq,List.all_eq_true] at hs ⊢
  exact ⟨hs.1,fun s hm=>by rw [(moreY_kd h s).2.2];exact hs.2 s hm⟩
end
theorem w_PenMore (n:Nat) (y:Yard) (l:List Int) (a b d:Int) (hf:Fit y) (hl:l.length<100000000000000) (hb:∀ m∈[a,b,d],-9223372036854775808≤m∧m<9223372036854775808) :
    D its (n+12) n_law05_PenMore [.row 1 y.ps,.row 4 y.ks,.row 1 (ints l),ci a,ci b,ci d]=some [cb true]:=by
  rw [q_law05_PenMore]
  unfold R_law05_PenMore
  simp only [w_right (its:=its) (n+7) hf l (by omega),callO_val,gb_z,sane_true (n+1)]
  by_cases h:asked y l=0
  case neg=>simp [h]
  obtain ⟨hy,hs⟩:=asked_ok h
  have h8:=sorts_len hs
  have h5:=(ok_length hy).1
  have h9k:=(ok_length hy).2
  simp only [eq_true h,decide_true,Bool.not_true,ib_f,w_Place itsM (n+3) hf l (by omega),if_true]
  have hb0:((0:Int) != 0)=false:=rfl
  cases hx:(PL y l)[0]? with
  | none=>rfl
  | some p =>
    have hpm:p∈PL y l:=List.mem_of_getElem? hx
    have hpP:=isP_mem.2 hpm
    have hpl:=PL_len hpm
    simp only [callO_val,gi_s,gi_z,gr_z,hb0,ib_f,il_ints',seqO_nx,gb_z]
    by_cases hl0:l.length=0
    · have e0:((l.length:Int) == 0)=true:=by rw [beq_iff_eq];omega
      rw [e0,ib_t]
      rfl
    · have e0:((l.length:Int) == 0)=false:=by rw [beq_eq_false_iff_ne];omega
      have hlp:(0:Int)<(l.length:Int):=by omega
      rw [e0,ib_f,w_mod (its:=its) (n+10) a hlp (by omega)]
      obtain ⟨k,hk⟩:∃ k:Nat,a % (l.length:Int)=k:=⟨(a % (l.length:Int)).toNat,by rw [Int.toNat_of_nonneg (Int.emod_nonneg a (by omega))]⟩
      have hkl:k<l.length:=by have:=Int.emod_lt_of_pos a hlp;omega
      have hkp:k<p.length:=by omega
      have hin:within (k:Int) 0 ((l.length:Int) - 1)=true:=by simp [within];omega
      have hcp:checkPlace y l p=0:=(checkPlace_iff h).2 hpm
      have hse:=sorts_erase hs k
      have hae:asked y (l.eraseIdx k)=0:=asked_zero hy hse
      have hel:(l.eraseIdx k).length=l.length - 1:=List.length_eraseIdx_of_lt hkl
      have hepl:(p.eraseIdx k).length=p.length - 1:=List.length_eraseIdx_of_lt hkp
      have hPe:=isP_erase hy hpP hkl
      have hce:checkPlace y (l.eraseIdx k) (p.eraseIdx k)=0:=(checkPlace_iff hae).2 (isP_mem.1 hPe)
      have hw1:wr ((l.length:Int) - 1)=((l.length - 1:Nat):Int):=by rw [wr_of] <;> omega
      simp only [callO_val,gi_z,hk,w_Take itsM (n+2) hf l p (k:Int) (by omega) (by omega),eq_true hcp,if_true,hin,Int.toNat_natCast,gi_s,hb0,ib_f,gr_z,gr_s,il_ints',hel,hw1,show (((l.length - 1:Nat):Int) != ((l.length - 1:Nat):Int))=false by simp,w_CheckPlace (its:=its) (n+3) hf (l.eraseIdx k) (p.eraseIdx k) (by omega) (by omega),hce,seqO_nx,gb_z,inb_ints hkl,el_ints hkl,li1,chk_true]
      obtain ⟨m,hm1,hm2⟩:=addP_some (canGo_back hy hpP hkl hkp)
      have hhas:=sorts_has hs _ (List.getElem_mem hkl)
      have h88:¬(l.eraseIdx k).length=8:=by omega
      have hPa:=isP_add hPe hm2
      have hperm:=eraseIdx_perm hkl
      have haa:asked y (l.eraseIdx k++[l[k]])=0:=asked_perm hperm h
      have hca:checkPlace y (l.eraseIdx k++[l[k]]) (p.eraseIdx k++[(m:Int)])=0:=(checkPlace_iff haa).2 (isP_mem.1 hPa)
      have hf1:fitA 0 (l.eraseIdx k).length 8=true:=fitA_of (by omega) (by omega)
      have hf2:fitA (l.eraseIdx k).length 1 8=true:=fitA_of (by omega) (by omega)
      have hf3:fitA 0 (p.eraseIdx k).length 8=true:=fitA_of (by omega) (by omega)
      have hf4:fitA (p.eraseIdx k).length 1 8=true:=fitA_of (by omega) (by omega)
      simp only [w_Add (its:=its) (n+2) hf (l.eraseIdx k) (p.eraseIdx k) l[k] (by omega) (by omega),eq_true hce,if_true,hhas,if_neg h88,hm1,callO_val,gi_s,gi_z,hb0,ib_f,ints_length,hf1,hf2,hf3,hf4,chk_true,chunk_s,chunk_z,List.take_succ_cons,List.take_zero,ints_snoc,w_CheckPlace (its:=its) (n+3) hf (l.eraseIdx k++[l[k]]) (p.eraseIdx k++[(m:Int)]) (by simp;omega) (by simp;omega),hca,seqO_nx,gb_z]
      have hpk:=PL_range hpm p[k] (List.getElem_mem hkp)
      have hnp:0<y.pens.length:=by omega
      have hnk:0<y.kinds.length:=by
        have:=(kd_some hhas).1
        exact List.length_pos_of_mem this
      obtain ⟨i,hi⟩:∃ i:Nat,b % (y.pens.length:Int)=i:=⟨(b % (y.pens.length:Int)).toNat,by rw [Int.toNat_of_nonneg (Int.emod_nonneg b (by omega))]⟩
      have hip:i<y.pens.length:=by have:=Int.emod_lt_of_pos b (show (0:Int)<(y.pens.length:Int) by omega);omega
      obtain ⟨j,hj⟩:∃ j:Nat,d % (y.kinds.length:Int)=j:=⟨(d % (y.kinds.length:Int)).toNat,by rw [Int.toNat_of_nonneg (Int.emod_nonneg d (by omega))]⟩
      have hjk:j<y.kinds.length:=by have:=Int.emod_lt_of_pos d (show (0:Int)<(y.kinds.length:Int) by omega);omega
      have hd20:=Int.emod_nonneg d (show (20:Int)≠0 by omega)
      have hd20':=Int.emod_lt_of_pos d (show (0:Int)<20 by omega)
      have hd9:=Int.emod_nonneg d (show (9:Int)≠0 by omega)
      have hd9':=Int.emod_lt_of_pos d (show (0:Int)<9 by omega)
      have hpr:=pens_range hy hip
      have hwv:wr (y.pens[i]+d % 20)=y.pens[i]+d % 20:=by rw [wr_of] <;> omega
      obtain ⟨v,hv⟩:∃ v,v=min 1000 (y.pens[i]+d % 20):=⟨_,rfl⟩
      have hvif:∀ {dd:Decidable (y.pens[i]+d % 20<1000)},@ite Int (y.pens[i]+d % 20<1000) dd (y.pens[i]+d % 20) 1000=v:=by intro dd;rw [hv];split <;> omega
      have hk?:y.kinds[j]? = some y.kinds[j]:=List.getElem?_eq_getElem hjk
      obtain ⟨z,hz⟩:∃ z,z=moreY y i v j (d % 9):=⟨_,rfl⟩
      have hzok:z.ok=true:=by rw [hz];exact moreY_ok hy hk? (by omega) (by omega)
      have hzw:wide y z:=by rw [hz];exact moreY_wide hk? hip (by rw [List.getD_eq_getElem?_getD,List.getElem?_eq_getElem hip,Option.getD_some];omega)
      have hzs:sortsOk z l=true:=by rw [hz];exact moreY_sorts hk? hs
      have haz:asked z l=0:=asked_zero hzok hzs
      have hfz:Fit z:=⟨by have:=(ok_length hzok).1;omega,by have:=(ok_length hzok).2;omega⟩
      have hPz:=isP_wide hy hzok hzw hpP
      have hczp:checkPlace z l p=0:=(checkPlace_iff haz).2 (isP_mem.1 hPz)
      have hf5:fitA 0 y.pens.length 8=true:=fitA_of (by omega) (by omega)
      have hf6:fitA 0 y.kinds.length 32=true:=fitA_of (by omega) (by omega)
      have hf7:fitA y.pens.length 1 8=true:=fitA_of (by omega) (by omega)
      have hpsl:y.ps.length=y.pens.length:=by simp [Yard.ps]
      have hksl:y.ks.length=y.kinds.length:=by simp [Yard.ks]
      have hset:y.ps.set i [ci v]=ints (y.pens.set i v):=ints_set y.pens i v
      have hsl:il (ints (y.pens.set i v))=(y.pens.length:Int):=by simp
      have hzks:y.ks.set j [ci y.kinds[j].sort,ci y.kinds[j].room,ci y.kinds[j].eats,ci 0]=z.ks:=by
        unfold Yard.ks
        rw [hz,moreY_kinds hk?,List.map_set]
        rfl
      have hspl:spl y.kinds[j].cv 3 [ci 0]=[ci y.kinds[j].sort,ci y.kinds[j].room,ci y.kinds[j].eats,ci 0]:=rfl
      have hzps:z.ps=if y.pens.length<5 then ints (y.pens.set i v++[d % 9]) else ints (y.pens.set i v):=by
        unfold Yard.ps
        rw [hz]
        unfold moreY
        simp only
        split <;> rfl
      have hmid:∀ (K:List CV→Option Ou),seqO (iteB (decide ((y.pens.length:Int)<5)) (some (.nx [.row 1 (ints (y.pens.set i v++[d % 9])),.row 4 y.ks])) (some (.nx [.row 1 (ints (y.pens.set i v)),.row 4 y.ks]))) K=K [.row 1 z.ps,.row 4 y.ks]:=by
        intro K
        rw [hzps]
        by_cases hlt:y.pens.length<5
        · rw [decide_eq_true (show (y.pens.length:Int)<5 by omega),if_pos hlt];rfl
        · rw [decide_eq_false (show ¬(y.pens.length:Int)<5 by omega),if_neg hlt];rfl
      simp only [hpsl,hksl,hf5,hf6,chk_true,il_ps,w_mod (its:=its) (n+10) b (show (0:Int)<(y.pens.length:Int) by omega) (by omega),callO_val,gi_z,hi,inb_ps hip,el_ps hip,Int.toNat_natCast,eq_true hip,decide_true,li1,w_mod (its:=its) (n+10) d (show (0:Int)<20 by omega) (by omega),Nat.le_refl,Bool.and_self,hwv,hvif,spl1,hset,hsl,w_mod (its:=its) (n+10) d (show (0:Int)<9 by omega) (by omega),List.length_set,ints_length,hf7,chunk_s,chunk_z,List.take_succ_cons,List.take_zero,ints_snoc]
      rw [hmid]
      simp only [gr_s,gr_z,il_ks,w_mod (its:=its) (n+10) d (show (0:Int)<(y.kinds.length:Int) by omega) (by omega),callO_val,gi_z,hj,inb_ks hjk,el_ks hjk,Int.toNat_natCast,hksl,eq_true hjk,decide_true,Nat.le_refl,Bool.and_self,chk_true,hspl,hzks,w_Place itsM (n+3) hfz l (by omega),eq_true haz,if_true]
      obtain ⟨x,hx2⟩:∃ x,(PL z l)[0]? = some x:=by
        have:p∈PL z l:=isP_mem.1 hPz
        cases hP0:(PL z l)[0]? with
        | some x=>exact ⟨x,rfl⟩
        | none=>rw [get0_none.1 hP0] at this;simp at this
      simp only [hx2,callO_val,gi_s,gi_z,beq_self_eq_true,ib_t,w_CheckPlace (its:=its) (n+3) hfz l p (by omega) (by omega),hczp,gb_z]
      rfl
end Go.Proofs.Ythkfohoccnnphaa
namespace Go.Proofs.Ythkfohoccnnphaa
open Go Go.Sx Go.Pen Go.ChangeShapes Go.WideShapes Go.ChangeAt Go.RowKit
set_option maxRecDepth 100000
theorem penMore_spec (css:List (List CV)) (h:ShpAll Try.prog 6 Try.f8.params.toList css):SpecR Try.prog 8 (avsOf Try.prog Try.f8.params.toList css) (.cv (cb true)):=by
  rw [Try.params8] at h ⊢
  match css,h with
  | [c1,c2,c3],h =>
    simp only [ShpAll,and_true] at h
    obtain ⟨h1,h2,h3⟩:=h
    obtain ⟨y0,hy0,rfl⟩:=shp_yard h1
    obtain ⟨l1,hl1,rfl⟩:=shp_ints h2
    obtain ⟨a2,b2,d2,rfl,hb2⟩:=shp_three h3
    exact spec_of (g:=fe8.g) rfl (w_PenMore 0 y0 l1 a2 b2 d2 hy0 hl1 hb2)
  | [],h=>simp [ShpAll] at h
  | [_],h=>simp [ShpAll] at h
  | [_,_],h=>simp [ShpAll] at h
  | _::_::_::_::_,h=>simp [ShpAll] at h
theorem penMore_lifted (os:Os) (started:os.Started) (H:Type) (enc:TypeId×Value→H) :
    ReturnsInHanded {} Try.checked os 8 .any (Rows.penMoreSpec.pre6 enc Try.prog Try.f8 Rows.penMoreRow.domain false) (Rows.penMoreSpec.post enc Try.prog Try.f8 false true false false):=
  law_lift (C:=Try.checked) (tb:=4) 6 Try.own started (by kernel_rfl) Try.func8 Try.kids Try.full
    (by rw [Try.params8];intro t ht;simp only [List.mem_cons,List.not_mem_nil,or_false] at ht;rcases ht with rfl | rfl | rfl <;> exact of_decide_eq_true (by kernel_rfl))
    (by kernel_rfl) (by rfl) Try.underlying4 rfl
    (fun ds h=>by
      rw [Try.params8] at h
      match ds,h with
      | [_,_,_],_=>rfl)
    (ChangeSpec.witness6 (enc:=enc) (C:=Try.checked) false ⟨#[],#[.agg #[.slice none 0 0,.slice none 0 0],.slice none 0 0,.agg #[.int .i64 0,.int .i64 0,.int .i64 0]],[]⟩ 8 (by kernel_rfl) (by kernel_rfl) (by kernel_rfl) (by kernel_rfl))
    penMore_spec
theorem penMore_holds:Rows.PenMoreSaid:=
  OpenClaim.holds_of_wide 8 Try.f8 rfl rfl rfl rfl rfl rfl rfl ⟨rfl,rfl,rfl,rfl,rfl⟩ rfl rfl rfl rfl rfl (by kernel_rfl) Try.func8 (by kernel_rfl)
    (of_decide_eq_true (by kernel_rfl)) (by unfold Func.isWrapper;first | (rw [if_pos (by decide +kernel)];kernel_rfl) | (rw [if_neg (by decide +kernel)];exact ⟨rfl,rfl⟩))
    (fun os started H enc _=>penMore_lifted os started H enc)
end Go.Proofs.Ythkfohoccnnphaa
