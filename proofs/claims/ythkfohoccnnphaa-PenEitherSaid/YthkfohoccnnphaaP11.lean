/-
 The law PenEither of the pens of a pound holds at every input, without any condition.
-/
import Derived.KernelRfl
import Derived.Shelf.Slices.Delete
import Derived.Shelf.Slices.In.SortNone
import Derived.Shelf.Sort.Plain
import Derived.Sort.OwnSortedInts
import Derived.Test.YthkfohoccnnphaaProg
import Derived.Test.YthkfohoccnnphaaRows
import Derived.Test.YthkfohoccnnphaaP10
namespace Go.Proofs.Ythkfohoccnnphaa
open Go Go.Sx Go.Pen
set_option maxRecDepth 100000
def oX (pens:List (List CV)):List Int:=pens.map fun e=>gi e 0
theorem jE (p:List Int):oX (ints p)=p:=by
 unfold oX ints
 rw [List.map_map]
 apply List.ext_getElem (by simp)
 intro i h1 h2
 simp
theorem PF (y:Yard) (l:List Int):∀ (k:Nat) (p:List Int),p.length≤l.length→l.length - p.length<k →
  plc (fun pens=>okP y l (oX pens)) y.pens.length l.length k (ints p)=(pls y l (l.length - p.length) p).map ints
 | 0,_,_,h=>by omega
 | k+1,p,hp,hk=>by
  simp only [plc,aJ]
  by_cases e:p.length=l.length
  ·rw [if_pos e,e,Nat.sub_self]
   simp [pls]
  ·rw [if_neg e]
   obtain ⟨m,hm⟩:∃ m,l.length - p.length=m+1:=⟨l.length - p.length - 1,by omega⟩
   rw [hm]
   simp only [pls,List.map_flatMap]
   congr 1
   funext i
   simp only [gX,jE]
   split
   ·have:=PF y l k (p++[(i:Int)]) (by simp;omega) (by simp;omega)
    rw [this]
    rw [show l.length - (p++[(i:Int)]).length=m by simp;omega]
   ·rfl
theorem ZX {its:ITS} (n:Nat) {y:Yard} (hy:y.ok=true) {l:List Int} (hs:aX y l=true) (pens:List (List CV)) (hp:Ip pens) (hl:pens.length≤l.length) :
  ∃ c,D its (n+2) 75 [.ref (pc y),.row 1 ((ints l).take pens.length),.row 1 pens]=some [c,cb (okP y l (oX pens))]:=by
 obtain ⟨p,rfl⟩:=hp
 change ∃ c,D its (n+2) 75 [.ref (pc y),.row 1 ((ints l).take (ints p).length),.row 1 (ints p)]=some [c,cb (okP y l (oX (ints p)))]
 change (ints p).length≤l.length at hl
 rw [aJ] at hl ⊢
 have h8:=dY hs
 rw [jE,tV]
 have:=MX (its:=its) n hy (l.take p.length) p (fun s h=>JF hy hs s (List.mem_of_mem_take h)) (by rw [List.length_take];omega) (by omega)
 have hh:(p.length == (l.take p.length).length&&okZ y ((l.take p.length).zip p))=okP y l p:=by
  rw [← VE y l p hl]
  unfold okP
  have e:(l.take p.length).length=p.length:=by rw [List.length_take];omega
  simp [e]
 rw [hh] at this
 exact ⟨_,this⟩
theorem WP {y:Yard} (hy:y.ok=true) {l:List Int} (hs:aX y l=true) :
  cP Try.prog 116=true∧pG Try.prog 116 [.ref [.row 1 (ints l)],.ref [.ref (pc y)]] (.lent 3 1) (kI ((PL y l).map yl)):=by
 refine ⟨by kernel_rfl,?_⟩
 have h8:=dY hs
 have h5:=(eR hy).1
 have h:=VS (M:=D JC 2) (fun {_}=>JD 2) (by kernel_rfl) (aAJ 2) (lrow:=ints l) (p:=pc y) (ok:=fun pens=>okP y l (oX pens)) (n:=y.pens.length) (len:=l.length)
  (fun pens hip hl=>ZX 0 hy hs pens hip hl) (by simp) (by omega) (by simp [Yard.ps]) (by omega) (by simp)
 have e:=PF y l 9 [] (Nat.zero_le _) (by simp;omega)
 rw [HW] at e
 rw [e] at h
 rw [List.map_map] at h
 exact h
theorem aBC {a b:Kd} (h:a.cv=b.cv):a=b:=by
 cases a;cases b
 simp only [Kd.cv,List.cons.injEq,ci,CV.val.injEq,Value.int.injEq,and_true,true_and] at h
 obtain ⟨rfl,rfl,rfl,rfl⟩:=h
 rfl
theorem aBD {y z:Yard} (h:pc y=pc z):y=z:=by
 unfold pc at h
 simp only [List.cons.injEq,CV.row.injEq,true_and] at h
 obtain ⟨h1,h2,_⟩:=h
 cases y;cases z
 simp only [Yard.ps,Yard.ks] at h1 h2
 have:=HX h1
 have h3:=List.map_inj_right (f:=Kd.cv) (fun _ _=>aBC) |>.1 h2
 rw [this,h3]
open Classical in
noncomputable def CN (caps:List CV):Option (List CV):=
 if h:∃ x:Yard×List Int,x.1.ok=true∧aX x.1 x.2=true∧caps=[.ref [.row 1 (ints x.2)],.ref [.ref (pc x.1)]] then some [.row 0 ((PL h.choose.1 h.choose.2).map yl),shC (.lent 3 1)] else none
theorem WQ {y:Yard} {l:List Int} (hy:y.ok=true) (hs:aX y l=true):CN [.ref [.row 1 (ints l)],.ref [.ref (pc y)]]=some [.row 0 ((PL y l).map yl),shC (.lent 3 1)]:=by
 have h:∃ x:Yard×List Int,x.1.ok=true∧aX x.1 x.2=true∧[CV.ref [.row 1 (ints l)],.ref [.ref (pc y)]]=[.ref [.row 1 (ints x.2)],.ref [.ref (pc x.1)]]:=⟨(y,l),hy,hs,rfl⟩
 unfold CN
 rw [dif_pos h]
 have hc:=h.choose_spec.2.2
 generalize h.choose=z at hc ⊢
 simp only [List.cons.injEq,CV.ref.injEq,CV.row.injEq,and_true,true_and] at hc
 rw [← HX hc.1,← aBD hc.2]
theorem CO {f:Nat} {it:List CV→Option (List CV)} {sh:YSh} (hsh:(∀ T,shC sh≠.fn T [])∧(∀ b,shC sh≠.val (.bool b))) (h:∀ caps out,it caps=some out→(∃ c cs,caps=.ref c::cs)∧∃ rows,out=[.row 0 rows,shC sh]∧cP Try.prog f=true∧pG Try.prog f caps sh (kI rows)):ES f it:=by
 intro caps out ho
 obtain ⟨⟨c,cs,rfl⟩,rows,rfl,he,hs⟩:=h caps out ho
 refine ⟨fun rows' sh' hr=>?_,fun xs hx=>by simp [intsOf] at hx,fun k es' T hr=>?_,fun T k cs e e' hdr h1 h2=>by simp at h1,fun k T b h1=>by simp at h1,fun T fs h1=>by simp at h1⟩
 ·simp only [List.cons.injEq,CV.row.injEq,true_and,and_true] at hr
  obtain ⟨rfl,hr⟩:=hr
  rw [← OD hr]
  exact ⟨he,hs⟩
 ·simp only [List.cons.injEq,and_true] at hr
  exact absurd hr.2 (hsh.1 T)
theorem ZY:ES 116 CN:=CO (sh:=.lent 3 1) ⟨fun T=>by simp [shC],fun b=>by simp [shC]⟩ fun caps out h=>by
 unfold CN at h
 split at h
 ·rename_i hx
  obtain ⟨h1,h2,h3⟩:=hx.choose_spec
  generalize hx.choose=z at h h1 h2 h3
  subst h3
  cases h
  exact ⟨⟨_,_,rfl⟩,_,rfl,WP h1 h2⟩
 ·cases h
theorem PG (n many:Nat):∀ (k:Nat) (lst:List Int) (frm:Nat),lst.length≤many→n - frm<k →
  AN n many k (ints lst) frm=(rls n (many - lst.length) frm).map fun x=>ints (lst++x)
 | 0,_,_,_,h=>by omega
 | k+1,lst,frm,hl,hk=>by
  rw [JA,aJ]
  by_cases e:lst.length=many
  ·rw [if_pos e,e,Nat.sub_self]
   simp [rls]
  ·rw [if_neg e]
   obtain ⟨m,hm⟩:∃ m,many - lst.length=m+1:=⟨many - lst.length - 1,by omega⟩
   rw [hm]
   simp only [rls,List.map_flatMap,List.map_map]
   have hcong:∀ (r:List Nat),(∀ i∈r,n - (i+1)<k)→(r.flatMap fun (i:Nat)=>AN n many k (ints lst++[[ci (i:Int)]]) (i+1))=r.flatMap fun (a:Nat)=>(rls n m (a+1)).map ((fun x=>ints (lst++x))∘fun l=>(a:Int)::l):=by
    intro r
    induction r with
    | nil=>intro _;rfl
    | cons i r ih =>
     intro hr
     rw [List.flatMap_cons,List.flatMap_cons,ih fun j hj=>hr j (by simp [hj])]
     congr 1
     rw [gX,PG n many k (lst++[(i:Int)]) (i+1) (by simp;omega) (hr i (by simp))]
     rw [show many - (lst++[(i:Int)]).length=m by simp;omega]
     apply List.map_congr_left
     intro x _
     simp
   exact hcong _ fun i hi=>by
    rw [List.mem_range'_1] at hi
    omega
theorem NB {n many:Nat} (hn:n<9) (h0:0<many) (hm:many<10):cP Try.prog 121=true∧pG Try.prog 121 [.ref [ci (many:Int)],.ref [ci (n:Int)]] (.clo [.one (.row 1)]) (kI ((rls n many 0).map yl)):=by
 refine ⟨by kernel_rfl,?_⟩
 have h:=MR (M:=D JC 1) (fun {_}=>JD 1) (by kernel_rfl) (aAJ 1) hn h0 (show many<1000 by omega) (fun lst hl=>VU 0 (by omega)) (RR 0)
 have e:=PG n many 10 [] 0 (Nat.zero_le _) (by omega)
 rw [HW] at e
 rw [e,List.map_map] at h
 exact h
def CP:List CV→Option (List CV)
 | [.ref [.val (.int .i64 m)],.ref [.val (.int .i64 n)]]=>if 0≤n∧n<9∧0<m∧m<10 then some [.row 0 ((rls n.toNat m.toNat 0).map yl),shC (.clo [.one (.row 1)])] else none
 | _=>none
theorem WR {n many:Nat} (hn:n<9) (h0:0<many) (hm:many<10):CP [.ref [ci (many:Int)],.ref [ci (n:Int)]]=some [.row 0 ((rls n many 0).map yl),shC (.clo [.one (.row 1)])]:=by
 simp only [CP,ci]
 rw [if_pos (by omega)]
 simp
theorem ZZ:ES 121 CP:=CO (sh:=.clo [.one (.row 1)]) ⟨fun T=>by simp [shC,scC],fun b=>by simp [shC,scC]⟩ fun caps out h=>by
 unfold CP at h
 split at h
 ·split at h
  ·rename_i m n hc
   cases h
   have:=NB (n:=n.toNat) (many:=m.toNat) (by omega) (by omega) (by omega)
   rw [show ((m.toNat:Nat):Int)=m by omega,show ((n.toNat:Nat):Int)=n by omega] at this
   exact ⟨⟨_,_,rfl⟩,_,rfl,this⟩
  ·cases h
 ·cases h
end Go.Proofs.Ythkfohoccnnphaa
namespace Go.Proofs.Ythkfohoccnnphaa
open Go Go.Shelf
set_option maxRecDepth 100000
def aC9:Ren:=⟨fun x=>match x with | 23=>82 | n=>n,fun x=>match x with | 22=>22 | 3=>3 | 4=>4 | 0=>0 | n=>n,fun n=>n⟩
theorem aBE:Lays2.n23 Try.prog aC9:=by
 constructor <;> first | kernel_rfl | (intro w;kernel_rfl)
def aBF:Ren:=⟨fun x=>match x with | 189=>70 | 125=>114 | 257=>113 | 128=>138 | 129=>139 | 294=>129 | 295=>130 | 296=>131 | 297=>132 | 298=>133 | 299=>134 | 216=>135 | 300=>136 | 301=>137 | 328=>141 | 329=>142 | 330=>143 | 331=>144 | 332=>145 | 215=>146 | 343=>147 | n=>n,
 fun x=>match x with | 28=>22 | 3=>3 | 46=>141 | 0=>0 | 51=>159 | 53=>161 | 4=>4 | 183=>152 | 182=>151 | 131=>156 | 5=>5 | 9=>9 | 218=>162 | 222=>166 | 228=>168 | 229=>169 | n=>n,fun n=>n⟩
theorem PH:Lays.n189 Try.prog aBF:=by
 constructor <;> first | kernel_rfl | (intro w;kernel_rfl)
end Go.Proofs.Ythkfohoccnnphaa
namespace Go.Proofs.Ythkfohoccnnphaa
open Go Go.Sx Go.Pen Go.Shelf Go.RowKit Go.Sort
set_option maxRecDepth 100000
theorem sP {F:Fence} (hF:Free F) (hr:F.round=none) {n:Nat} {P:Program} {f:FuncId} {args:Array Value} {w:World} {R:Ending→World→Prop} (h:Calls P f args w R):CallsIn F n P f args w R:=by
 rw [hF.wide hr]
 exact callsIn_wide.2 h
theorem uL {w:World} {S:Nat→Prop}:∀ {l:List Int} {xs:List Value},CV.vals w S (ints l).flatten xs→xs=l.map (Value.int .i64)
 | [],[],_=>rfl
 | [],_::_,h=>by simp [ints,CV.vals] at h
 | _::_,[],h=>by simp [ints,CV.vals] at h
 | a::l,x::xs,h=>by
  simp only [ints,List.map_cons,List.flatten_cons,List.singleton_append,CV.vals,ci,CV.holds] at h
  rw [List.map_cons,h.1.1,uL (l:=l) h.2]
theorem uM {w:World} {S:Nat→Prop}:∀ (l:List Int),CV.vals w S (ints l).flatten (l.map (Value.int .i64))
 | []=>by simp [ints,CV.vals]
 | a::l=>by
  simp only [ints,List.map_cons,List.flatten_cons,List.singleton_append,CV.vals,ci,CV.holds]
  exact ⟨⟨trivial,rfl⟩,uM l⟩
theorem JR (l:List Int):∀ x∈ints l,x.length=1:=by
 intro x hx
 obtain ⟨a,_,rfl⟩:=List.mem_map.1 hx
 rfl
theorem aDa (l:List Int) (i:Nat) (hi:i<l.length):GH Try.prog 82 3 1 [ci (i:Int),ci ((i+1:Nat):Int)] (ints l) (ints (l.eraseIdx i)) true:=by
 intro B V j v hv hsl hT hk hes F n hF hro n0 w0 e w vs hm ha hs
 refine sP hF hro ?_
 have hl:=Vec.sl_live hsl
 obtain ⟨xs,hown0,hvals,hrows⟩:=hm.vec j v hv hl
 have hown:=hown0.s (Vec.sl_T hsl)
 rw [hes] at hvals hown hown0
 have hxs:=uL hvals
 subst hxs
 rw [hT,hk] at hown
 rw [aJ] at hown
 have hvs:vs=#[e.hdr j v.ver,.int .i64 (i:Int),.int .i64 ((i+1:Nat):Int)]:=by
  apply Array.ext'
  generalize vs.toList=us at ha
  match us,ha with
  | [a,b,c],ha =>
   simp only [List.map_cons,List.map_nil,AV.all,AV.holds,CV.holds,ci,and_true] at ha
   obtain ⟨⟨h1,_⟩,⟨h2,_⟩,h3,_⟩:=ha
   rw [h1,h2,h3]
 subst hvs
 rcases hown with ⟨a,_,h0,_⟩ | ⟨hrow,g0,hg0,hob⟩
 ·omega
 rcases hrow.2 with ⟨_,h0⟩ | ⟨g,cap,cur,hh,hng,hb,h1,h2,h3,h4⟩
 ·omega
 rw [Nat.mul_one] at h4
 have hH:Holds (Value.int .i64) w g 0 l.toArray:=holds_of_blockI hb h4
 have hcap:cap≤9223372036854775807:=h2
 have hcall:=Any.slices_Delete_int aBE g 0 cap i (i+1) l w hH h1 hcap (Nat.le_succ i) hi
 rw [hh]
 refine Calls.mono hcall ?_
 rintro en w' ⟨rfl,q,rfl⟩
 rw [show l.length - (i+1 - i)=l.length - 1 by omega]
 let ts:List Int:=l.take i++l.drop (i+1)++List.replicate (i+1 - i) 0
 have htl:ts.length=l.length:=by simp [ts];omega
 have herl:(l.eraseIdx i).length=l.length - 1:=List.length_eraseIdx_of_lt hi
 have hhp:(putRow (Value.int .i64) (Sort.ahead w q) g 0 ts.toArray).heap[g]? = some (.cells (putCells (Value.int .i64) 0 ts.toArray cur) 3 (0,0)):=by
  have:=heap_sortedI (os:=#[]) (n:=q) ts.toArray hb
  rwa [grow_empty] at this
 have hgr:w.grownBy (putRow (Value.int .i64) (Sort.ahead w q) g 0 ts.toArray) (some g):=by
  have:=grownBy_sortedI (w:=w) (g:=g) (n:=q) (os:=#[]) ts.toArray
  rwa [grow_empty] at this
 have hsz:cur.size=cap:=by simpa using h3
 have htake:=take_putCellsI cur ts (by rw [htl,hsz];exact h1)
 have htk2:(putCells (Value.int .i64) 0 ts.toArray cur).toList.take (l.length - 1)=(l.eraseIdx i).map (Value.int .i64):=by
  have e1:(l.length - 1)=min (l.length - 1) ts.length:=by omega
  rw [e1,← List.take_take,htake,← List.map_take]
  congr 1
  have e2:ts=l.eraseIdx i++List.replicate (i+1 - i) 0:=by rw [List.eraseIdx_eq_take_drop_succ]
  rw [e2,List.take_append_of_le_length (by omega),← herl,List.take_length]
 have hown':OwnsV (putRow (Value.int .i64) (Sort.ahead w q) g 0 ts.toArray) n0 v.T v.k (.slice (some ⟨g,0,none⟩) (l.length - 1) cap) (ints (l.eraseIdx i)).length ((l.eraseIdx i).map (Value.int .i64)):=by
  rw [hT,hk,aJ,herl]
  refine OwnsV.of_row (by decide) ⟨by simp [herl],.inr ⟨g,cap,_,rfl,hng,hhp,by omega,h2,?_,by rw [Nat.mul_one];exact htk2⟩⟩
  simp [putCells,hsz]
 have hoblk:aR (e.hdr j v.ver)=some g:=by
  have hc:cap≠0:=by omega
  rw [hh]
  obtain ⟨c,rfl⟩:∃ c,cap=c+1:=⟨cap - 1,by omega⟩
  rfl
 have hoblk':aR (.slice (some ⟨g,0,none⟩) (l.length - 1) cap)=some g:=by
  obtain ⟨c,rfl⟩:∃ c,cap=c+1:=⟨cap - 1,by omega⟩
  rfl
 obtain ⟨env',m1,m2,m3,_⟩:=hm.vecStep (w':=putRow (Value.int .i64) (Sort.ahead w q) g 0 ts.toArray) hv hl (.slice (some ⟨g,0,none⟩) (l.length - 1) cap) (ints (l.eraseIdx i)) ((l.eraseIdx i).map (Value.int .i64))
  hown' (uM _) (by rw [hk];exact JR _) (by rw [hoblk];exact hgr) (.inl (by rw [hoblk,hoblk']))
 have hil:=(List.getElem?_eq_some_iff.1 hv).1
 refine ⟨env',B,_,.own j (v.ver+1),_,rfl,⟨by simp,rfl,rfl⟩,m1,m2,?_,?_⟩
 ·simp only [AV.holds]
  exact ⟨m3.symm,rfl⟩
 ·simp [AV.sco,vers,List.getD,hil]
theorem aBG (l:List Int) (hl:l.length<1000000):GH Try.prog 70 3 1 [] (ints l) (ints (sorted l)) false:=by
 intro B V j v hv hsl hT hk hes F n hF hro n0 w0 e w vs hm ha hs
 refine sP hF hro ?_
 have hlv:=Vec.sl_live hsl
 obtain ⟨xs,hown0,hvals,hrows⟩:=hm.vec j v hv hlv
 have hown:=hown0.s (Vec.sl_T hsl)
 rw [hes] at hvals hown hown0
 have hxs:=uL hvals
 subst hxs
 rw [hT,hk] at hown
 rw [aJ] at hown
 have hvs:vs=#[e.hdr j v.ver]:=by
  apply Array.ext'
  generalize vs.toList=us at ha
  match us,ha with
  | [a],ha =>
   simp only [List.map_nil,AV.all,AV.holds,and_true] at ha
   rw [ha.1]
 subst hvs
 have none_case:∀ (a:Option Addr) (c:Nat),e.hdr j v.ver=.slice a 0 c→l=[]→Calls Try.prog 70 #[e.hdr j v.ver] w fun en w'=>∃ e' B' V' r u,en=.returned u∧(r=(if false=true then AV.own j (v.ver+1) else .tup [])∧B'=B∧V'=V.set j ⟨v.live,v.T,v.k,if false=true then v.ver+1 else v.ver,ints (sorted l)⟩)∧Mem n0 w0 e' B' V' w'∧Ext e w B.length (vers V) (kss V) e' w' B'.length (vers V') (kss V')∧AV.holds e' w' (kss V') r u∧AV.sco B'.length (vers V') r:=by
  intro a c hh h0
  rw [hh]
  refine Calls.mono (Any.slices_Sort_int_none PH a c w) ?_
  rintro en w' ⟨rfl,rfl⟩
  subst h0
  obtain ⟨m1,m2⟩:=hm.vecSet (w':=w') hv hlv (ints (sorted [])) [] (by
   have:(ints (sorted []))=[]:=by simp [sorted,ints]
   rw [this]
   have h5:=hown0
   simp only [ints,List.map_nil,List.length_nil] at h5
   exact h5) (by simp [sorted,ints,CV.vals]) (by simp [sorted,ints]) (World.grownBy.refl w' _)
  exact ⟨e,B,_,.tup [],_,rfl,⟨by simp,rfl,rfl⟩,m1,m2,by simp [AV.holds,AV.all],by simp [AV.sco,AV.scos]⟩
 rcases hown with ⟨a,hh,h0,_⟩ | ⟨hrow,g0,hg0,hob⟩
 ·exact none_case a 0 hh (List.length_eq_zero_iff.1 h0)
 rcases hrow.2 with ⟨hh,h0⟩ | ⟨g,cap,cur,hh,hng,hb,h1,h2,h3,h4⟩
 ·exact none_case none 0 hh (List.length_eq_zero_iff.1 h0)
 rw [Nat.mul_one] at h4
 have hH:Holds (Value.int .i64) w g 0 l.toArray:=holds_of_blockI hb h4
 have hgl:g<w.heap.size:=(Array.getElem?_eq_some_iff.1 hb).1
 have hcall:=Any.slices_Sort_int PH g 0 cap l w hH hgl (by omega)
 rw [hh]
 refine Calls.mono hcall ?_
 rintro en w' ⟨rfl,q,os,rfl⟩
 have hsz:cur.size=cap*1:=h3
 have hsl':(sorted l).length=l.length:=qG l
 have hrow':=ownsRow_sortedI (n:=q) (os:=os) hsl' hng hb h1 h2 hsz
 have hgr:=grownBy_sortedI (w:=w) (g:=g) (n:=q) (os:=os) (sorted l).toArray
 have hown':OwnsV (grow (putRow (Value.int .i64) (Sort.ahead w q) g 0 (sorted l).toArray) os) n0 v.T v.k (e.hdr j v.ver) (ints (sorted l)).length ((sorted l).map (Value.int .i64)):=by
  rw [hT,hk,aJ,hsl',hh]
  exact OwnsV.of_row (by decide) hrow'
 have hoblk:w.grownBy (grow (putRow (Value.int .i64) (Sort.ahead w q) g 0 (sorted l).toArray) os) (aR (e.hdr j v.ver)):=by
  rw [hg0]
  rw [hh] at hob
  simp only [Value.ownBlock,Option.some.injEq] at hob
  rw [← hob]
  exact hgr
 obtain ⟨m1,m2⟩:=hm.vecSet hv hlv (ints (sorted l)) _ hown' (uM _) (by rw [hk];exact JR _) hoblk
 exact ⟨e,B,_,.tup [],_,rfl,⟨by simp,rfl,rfl⟩,m1,m2,by simp [AV.holds,AV.all],by simp [AV.sco,AV.scos]⟩
end Go.Proofs.Ythkfohoccnnphaa
namespace Go.Proofs.Ythkfohoccnnphaa
open Go Go.Sx Go.Pen
set_option maxRecDepth 100000
open Classical in
noncomputable def JS:List CV→Option (List CV)
 | [.row 1 es,.fn 3 [],.val (.int .i64 lo),.val (.int .i64 hi)]=>if es=ints (oX es)∧0≤lo∧lo<es.length∧hi=lo+1 then some [.row 1 (ints ((oX es).eraseIdx lo.toNat)),.val (.bool true)] else none
 | _=>none
open Classical in
noncomputable def zY:List CV→Option (List CV)
 | [.row 1 es,.fn 3 []]=>if es=ints (oX es)∧es.length<1000000 then some [.row 1 (ints (sorted (oX es))),.val (.bool false)] else none
 | _=>none
theorem JT {f:Nat} {it:List CV→Option (List CV)} (h:∀ caps out,it caps=some out→∃ es cs es' hdr,caps=.row 1 es::.fn 3 []::cs∧out=[.row 1 es',.val (.bool hdr)]∧cP Try.prog f=true∧GH Try.prog f 3 1 cs es es' hdr):ES f it:=by
 intro caps out ho
 obtain ⟨es,cs,es',hdr,rfl,rfl,he,hm⟩:=h caps out ho
 refine ⟨fun rows sh hr=>by simp at hr,fun xs hx=>by simp [intsOf] at hx,fun k e T hr=>by simp at hr,fun T k cs1 e e' hd h1 h2=>?_,fun k T b h1=>by simp at h1,fun T fs h1=>by simp at h1⟩
 simp only [List.cons.injEq,CV.row.injEq,CV.fn.injEq,CV.val.injEq,Value.bool.injEq,and_true] at h1 h2
 obtain ⟨⟨rfl,rfl⟩,rfl,rfl⟩:=h1
 obtain ⟨⟨_,rfl⟩,rfl⟩:=h2
 exact ⟨he,hm⟩
theorem aAa:ES 82 JS:=JT fun caps out h=>by
 unfold JS at h
 split at h
 ·rename_i es lo hi
  split at h
  ·rename_i hc
   obtain ⟨he,h0,h1,rfl⟩:=hc
   cases h
   have hl:(oX es).length=es.length:=by simp [oX]
   obtain ⟨m,rfl⟩:∃ m:Nat,lo=m:=⟨lo.toNat,by omega⟩
   have:=aDa (oX es) m (by omega)
   rw [← he] at this
   exact ⟨es,_,_,true,rfl,rfl,by kernel_rfl,this⟩
  ·cases h
 ·cases h
theorem WS:ES 70 zY:=JT fun caps out h=>by
 unfold zY at h
 split at h
 ·rename_i es
  split at h
  ·rename_i hc
   obtain ⟨he,h0⟩:=hc
   cases h
   have hl:(oX es).length=es.length:=by simp [oX]
   have:=aBG (oX es) (by omega)
   rw [← he] at this
   exact ⟨es,_,_,false,rfl,rfl,by kernel_rfl,this⟩
  ·cases h
 ·cases h
def PI:List CV→Option (List CV)
 | [.fn 124 [],.fn 94 [],.fn 95 [],.fn 97 [],.fn 98 []]=>some [.fn 0 []]
 | _=>none
theorem aAb:ES 104 PI:=by
 intro caps out h
 unfold PI at h
 split at h
 ·cases h
  refine ⟨fun rows sh hr=>by simp at hr,fun xs hx=>by simp [intsOf] at hx,fun k e T hr=>by simp at hr,fun T k cs1 e e' hd h1=>by simp at h1,fun k T b h1=>by simp at h1,fun T fs h1 _=>?_⟩
  simp only [List.cons.injEq,CV.fn.injEq,and_true] at h1
  obtain ⟨rfl,h1⟩:=h1
  have h2:fs=[94,95,97,98]:=by
   match fs,h1 with
   | [a,b,c,d],h1=>simpa [eq_comm] using h1
   | [],h1=>simp at h1
   | [_],h1=>simp at h1
   | [_,_],h1=>simp at h1
   | [_,_,_],h1=>simp at h1
   | _::_::_::_::_::_,h1=>simp at h1
  subst h2
  exact ⟨by kernel_rfl,aBm⟩
 ·cases h
noncomputable def its:ITS:=[(76,jA),(116,CN),(121,CP),(82,JS),(70,zY),(104,PI)]
theorem aBH:OE Try.prog its:=by
 intro e he
 simp only [its,List.mem_cons,List.not_mem_nil,or_false] at he
 rcases he with rfl | rfl | rfl | rfl | rfl | rfl
 ·exact CG
 ·exact ZY
 ·exact ZZ
 ·exact aAa
 ·exact WS
 ·exact aAb
theorem aAc (n:Nat):Fns Try.prog sg (D its n):=OF aBH (by constructor <;> kernel_rfl) aAG n
theorem aDb (n:Nat) (vs:List CV):D its (n+1) 121 vs=CP vs:=by kernel_rfl
theorem aDc (n:Nat) (vs:List CV):D its (n+1) 82 vs=JS vs:=by kernel_rfl
theorem aDd (n:Nat) (vs:List CV):D its (n+1) 70 vs=zY vs:=by kernel_rfl
theorem aDe (n:Nat) (vs:List CV):D its (n+1) 104 vs=PI vs:=by kernel_rfl
theorem aDf (n:Nat) (vs:List CV):D its (n+1) 76 vs=jA vs:=by kernel_rfl
theorem WT:ItsM its where
 all n y l hy hs:=by
  show CN _=_
  exact WQ hy hs
 lists n k many hk h0 hm:=by
  rw [aDb]
  exact WR hk h0 hm
 del n l i hi hl:=by
  rw [aDc]
  simp only [JS,ci]
  rw [if_pos (by rw [jE,aJ];refine ⟨rfl,?_,?_,?_⟩ <;> omega),jE]
  simp
 sort n l hl:=by
  rw [aDd]
  simp only [zY]
  rw [if_pos (by rw [jE,aJ];exact ⟨rfl,hl⟩),jE]
  rfl
theorem SD (n:Nat):D its (n+10) eV []=some [cb true]:=aBB WT n
theorem aAd {f:FuncId} {g:Sig} {vs out:List CV} {n:Nat} (hg:sg f=some g) (h:D its n f vs=some out):SpecR Try.prog f (Sc.avs g.ps vs 0) (Sc.res g.rs out):=(aAc n).spec f g vs out hg h
end Go.Proofs.Ythkfohoccnnphaa
namespace Go.Proofs.Ythkfohoccnnphaa
open Go Go.Sx Go.Pen
set_option maxRecDepth 100000
theorem oS {n:Nat} {c:List CV} (h:Shp Try.prog (n+1) 3 c):∃ m:Int,c=[ci m]∧-9223372036854775808≤m∧m<9223372036854775808:=by
 simp only [Shp,Try.underlying3] at h
 obtain ⟨m,rfl,hm⟩:=h
 refine ⟨m,rfl,?_⟩
 simp [Lit.wf,IntKind.min,IntKind.max,IntKind.signed,IntKind.bits] at hm
 omega
theorem FG {A:Type} {cv:A→List CV}:∀ {es:List (List CV)},(∀ x∈es,∃ a,x=cv a)→∃ l:List A,es=l.map cv
 | [],_=>⟨[],rfl⟩
 | e::es,h=>by
  obtain ⟨a,rfl⟩:=h e (by simp)
  obtain ⟨l,rfl⟩:=FG (es:=es) fun x hx=>h x (by simp [hx])
  exact ⟨a::l,rfl⟩
theorem CQ {n m:Nat} (h:n*m≤reachBytes) (hm:2≤m):n<100000000000000:=by
 have h1:n*2≤n*m:=Nat.mul_le_mul_left _ hm
 have h2:reachBytes<2 ^ 47:=by decide
 omega
theorem sQ {n:Nat} {c:List CV} (h:Shp Try.prog (n+2) 22 c):∃ l:List Int,l.length<100000000000000∧c=[.row 1 (Pen.ints l)]:=by
 have c3:Try.prog.cellsOf 3=1:=by kernel_rfl
 have b3:Try.prog.bytesOf 3=8:=by kernel_rfl
 rw [Shp] at h
 simp only [Try.underlying22,c3,b3] at h
 obtain ⟨es,rfl,hes,hb⟩:=h
 obtain ⟨l,rfl⟩:=FG (cv:=fun x:Int=>[ci x]) fun x hx=>by
  obtain ⟨m,rfl,_⟩:=oS (hes x hx)
  exact ⟨m,rfl⟩
 rw [List.length_map] at hb
 exact ⟨l,CQ hb (by omega),rfl⟩
theorem WU {n:Nat} {c:List CV} (h:Shp Try.prog (n+2) 37 c):∃ k:Kd,c=k.cv:=by
 rw [Shp] at h
 simp only [Try.underlying37,List.map_cons,List.map_nil,II] at h
 obtain ⟨_,_,rfl,h1,_,_,rfl,h2,_,_,rfl,h3,_,_,rfl,h4,rfl⟩:=h
 obtain ⟨m1,rfl,_⟩:=oS h1
 obtain ⟨m2,rfl,_⟩:=oS h2
 obtain ⟨m3,rfl,_⟩:=oS h3
 obtain ⟨m4,rfl,_⟩:=oS h4
 exact ⟨⟨m1,m2,m3,m4⟩,rfl⟩
theorem SE {n:Nat} {c:List CV} (h:Shp Try.prog (n+3) 23 c):∃ l:List Kd,l.length<100000000000000∧c=[.row 4 (l.map Kd.cv)]:=by
 have c3:Try.prog.cellsOf 37=4:=by kernel_rfl
 have b3:Try.prog.bytesOf 37=32:=by kernel_rfl
 rw [Shp] at h
 simp only [Try.underlying23,c3,b3] at h
 obtain ⟨es,rfl,hes,hb⟩:=h
 obtain ⟨l,rfl⟩:=FG (cv:=Kd.cv) fun x hx=>WU (hes x hx)
 rw [List.length_map] at hb
 exact ⟨l,CQ hb (by omega),rfl⟩
theorem WV {n:Nat} {c:List CV} (h:Shp Try.prog (n+4) 25 c):∃ y:Yard,Fit y∧c=[.row 1 y.ps,.row 4 y.ks]:=by
 rw [Shp] at h
 simp only [Try.underlying25,List.map_cons,List.map_nil,II] at h
 obtain ⟨_,_,rfl,h1,_,_,rfl,h2,rfl⟩:=h
 obtain ⟨a,ha,rfl⟩:=sQ h1
 obtain ⟨b,hb,rfl⟩:=SE h2
 exact ⟨⟨a,b⟩,⟨by show a.length<_;omega,by show b.length<_;omega⟩,rfl⟩
theorem aAe {n:Nat} {c:List CV} (h:Shp Try.prog (n+3) 67 c):∃ (k:Int) (p:List Int),p.length<100000000000000∧c=[ci k,.row 1 (Pen.ints p)]:=by
 rw [Shp] at h
 simp only [Try.underlying67,List.map_cons,List.map_nil,II] at h
 obtain ⟨_,_,rfl,h1,_,_,rfl,h2,rfl⟩:=h
 obtain ⟨m1,rfl,_⟩:=oS h1
 obtain ⟨p,hp,rfl⟩:=sQ h2
 exact ⟨m1,p,hp,rfl⟩
theorem WW {n:Nat} {c:List CV} (h:Shp Try.prog (n+4) 73 c):∃ (q:List Int) (k:Int) (p:List Int),q.length<100000000000000∧p.length<100000000000000∧c=[.row 1 (Pen.ints q),ci k,.row 1 (Pen.ints p)]:=by
 rw [Shp] at h
 simp only [Try.underlying73,List.map_cons,List.map_nil,II] at h
 obtain ⟨_,_,rfl,h1,_,_,rfl,h2,rfl⟩:=h
 obtain ⟨q,hq,rfl⟩:=sQ h1
 obtain ⟨k,p,hp,rfl⟩:=aAe h2
 exact ⟨q,k,p,hq,hp,rfl⟩
end Go.Proofs.Ythkfohoccnnphaa
namespace Go.Proofs.Ythkfohoccnnphaa
open Go Go.Sx Go.Pen Go.ChangeShapes Go.WideShapes Go.ChangeAt Go.RowKit
set_option maxRecDepth 100000
theorem Try.own:ownKnob Try.prog.godebug=none:=by kernel_rfl
theorem Try.kids:Kids Try.prog (·<Try.prog.types.size):=kids_rows (by kernel_rfl) (by kernel_rfl)
theorem Try.full:∀ t e,t<Try.prog.types.size→Try.prog.underlying t=some (.slice e)→0<Try.prog.cellsOf e:=slices_full_of Try.prog (by kernel_rfl)
end Go.Proofs.Ythkfohoccnnphaa
namespace Go.Proofs.Ythkfohoccnnphaa
open Go Go.Sx Go.Pen
set_option maxRecDepth 10000
attribute [local simp] Bool.and_assoc Bool.or_assoc
variable {its:ITS}
theorem uN {a:Int} (h:0≤a):Int.tmod a 2=a % 2:=Int.tmod_eq_emod_of_nonneg h
theorem JU (n:Nat) (y:Yard) (h1:y.pens.length<9223372036854775807) (h2:y.kinds.length<9223372036854775807):D its (n+2) iR [.row 1 y.ps,.row 4 y.ks]=some [ci (gW y)]:=by
 rw [wI]
 unfold mR
 rw [lC (fun x=>!within x 0 1000) y.pens (fun _=>some (.ret [ci 50])) (some (.br 0 [])) (fun i=>[ci (i:Int)]) ?hv ?hR ?hX (fun i hi hp=>?p1) (fun i hi hp=>?p2) ?p3]
 case hv=>rfl
 case hR=>simp
 case hX=>simp
 case p3=>simp
 case p1 =>
  simp only [Bool.not_eq_false'] at hp
  simp [hi,hp,yU,HV,bB (show i<9223372036854775807 by omega)]
 case p2 =>
  simp only [Bool.not_eq_true'] at hp
  simp [hi,hp,yU,HV]
 rw [gV y.kinds.length (fun i=>[ci (i:Int)]) (sF y.kinds) (fun _=>some (.ret [ci 50])) (some (.br 2 [])) ?hv ?hR ?hX (fun i hi hp=>?s1) (fun i hi hp=>?s2) ?s3]
 case hv=>rfl
 case hR=>simp
 case hX=>simp
 case s3=>simp
 case s1 =>
  simp only [sF,List.getElem?_eq_getElem hi,Bool.or_eq_false_iff,Bool.not_eq_false'] at hp
  obtain ⟨hp1,hp2⟩:=hp
  have hwn:=bB (show i<9223372036854775807 by omega)
  simp only [Kd.ok,Bool.and_eq_true,decide_eq_true_eq] at hp1
  obtain ⟨⟨⟨⟨q1,q2⟩,q3⟩,q4⟩,q5⟩:=hp1
  have q4':=q4
  simp only [within,Bool.and_eq_true,decide_eq_true_eq] at q4'
  have q6:Int.tmod y.kinds[i].apart 2=0:=by rw [uN q4'.1];exact q5
  by_cases h0:0<i
  ·have hi':i - 1<y.kinds.length:=by omega
   have hw:=oO h0 (show i<9223372036854775807 by omega)
   simp only [h0,decide_true,Bool.true_and,List.getElem?_eq_getElem hi'] at hp2
   have hp3:¬y.kinds[i].sort≤y.kinds[i - 1].sort:=by simpa using hp2
   simp [hi,fP hi,jS hi,iC,q1,q2,q3,q4,q6,hwn,h0,hw,fP hi',jS hi',sG,hp3,-List.reduceReplicate]
  ·simp [hi,fP hi,jS hi,iC,q1,q2,q3,q4,q6,hwn,h0,-List.reduceReplicate]
 case s2 =>
  simp only [sF,List.getElem?_eq_getElem hi] at hp
  by_cases hok:y.kinds[i].ok=true
  ·have hok':=hok
   simp only [Kd.ok,Bool.and_eq_true,decide_eq_true_eq] at hok'
   obtain ⟨⟨⟨⟨q1,q2⟩,q3⟩,q4⟩,q5⟩:=hok'
   have q4':=q4
   simp only [within,Bool.and_eq_true,decide_eq_true_eq] at q4'
   have q6:Int.tmod y.kinds[i].apart 2=0:=by rw [uN q4'.1];exact q5
   rw [hok] at hp
   by_cases h0:0<i
   ·have hi':i - 1<y.kinds.length:=by omega
    have hw:=oO h0 (show i<9223372036854775807 by omega)
    simp only [h0,decide_true,Bool.true_and,Bool.not_true,Bool.false_or,List.getElem?_eq_getElem hi'] at hp
    have hp3:y.kinds[i].sort≤y.kinds[i - 1].sort:=by simpa using hp
    simp [hi,fP hi,jS hi,iC,q1,q2,q3,q4,q6,h0,hw,fP hi',jS hi',sG,hp3,-List.reduceReplicate]
   ·simp [h0] at hp
  ·simp only [aW,HU,eq_true (show ((i:Int)<(y.kinds.length:Int)) by omega),decide_true,aB,fP hi,jS hi,iC,aC,aBq,aEa,aEb,aEc,VX,aF,bZ]
   cases q1:within y.kinds[i].sort 1 9 with
   | false=>rfl
   | true =>
    cases q2:within y.kinds[i].room 1 1000 with
    | false=>rfl
    | true =>
     cases q3:within y.kinds[i].eats 0 1000 with
     | false=>rfl
     | true =>
      cases q4:within y.kinds[i].apart 0 1023 with
      | false=>rfl
      | true =>
       have q4':=q4
       simp only [within,Bool.and_eq_true,decide_eq_true_eq] at q4'
       have q5:¬y.kinds[i].apart % 2=0:=fun h=>hok (by simp [Kd.ok,q1,q2,q3,q4,h])
       have q6:(Int.tmod y.kinds[i].apart 2 != 0)=true:=by rw [uN q4'.1];simp [q5]
       simp only [Bool.not_true,q6]
       rfl
 ·rw [sH]
  have hany:y.pens.findIdx? (fun x=>!within x 0 1000)=none↔y.pens.any (fun x=>!within x 0 1000)=false:=mE
  by_cases h5:5<y.pens.length
  ·have h5':5<(y.pens.length:Int):=by omega
   simp [h5,h5']
  ·have h5':¬(5<(y.pens.length:Int)):=by omega
   cases hf:y.pens.findIdx? (fun x=>!within x 0 1000) with
   | some i =>
    have:y.pens.any (fun x=>!within x 0 1000)=true:=by
     cases hc:y.pens.any (fun x=>!within x 0 1000) with
     | true=>rfl
     | false=>rw [hany.2 hc] at hf;cases hf
    rw [if_pos (Or.inr this)]
    simp [h5']
   | none =>
    rw [if_neg (by rw [hany.1 hf];simp;omega)]
    cases (List.range y.kinds.length).find? (sF y.kinds) <;> simp [h5']
theorem WX (n:Nat) (y:Yard) (h2:y.kinds.length<9223372036854775807) (s:Int):D its (n+1) qJ [.row 1 y.ps,.row 4 y.ks,ci s]=some [ci (kd y s).sort,ci (kd y s).room,ci (kd y s).eats,ci (kd y s).apart,cb (has y s)]:=by
 rw [MO]
 unfold zH
 rw [yQ (fun k:Kd=>k.sort == s) (fun k=>some (.ret [ci k.sort,ci k.room,ci k.eats,ci k.apart,cb true])) (some (.br 0 [ci 0,ci 0,ci 0,ci 0])) y.kinds (fun i=>[ci (i:Int),ci 0,ci 0,ci 0,ci 0]) ?hv ?hR ?hX (fun i hi hp=>?s1) (fun i hi hp=>?s2) ?s3]
 case hv=>rfl
 case hR=>simp
 case hX=>simp
 case s3=>simp [cis,gi]
 case s1 =>
  simp only [aW,HU,eq_true (show ((i:Int)<(y.kinds.length:Int)) by omega),decide_true,aB,fP hi,jS hi,iC,aC,aBq,hp,bB (show i<9223372036854775807 by omega)]
  rfl
 case s2 =>
  simp only [aW,HU,eq_true (show ((i:Int)<(y.kinds.length:Int)) by omega),decide_true,aB,fP hi,jS hi,iC,aC,aBq,hp]
  rfl
 ·unfold kd has kindOf
  cases hf:y.kinds.find? (fun k=>k.sort == s) with
  | some k=>rfl
  | none=>rfl
theorem FH (n:Nat) {y:Yard} (hf:Fit y) (l:List Int) (hl:l.length<9223372036854775807):D its (n+3) gY [.row 1 y.ps,.row 4 y.ks,.row 1 (ints l)]=some [ci (asked y l)]:=by
 rw [uG]
 unfold lM
 rw [JU n y hf.p hf.k]
 rw [lC (fun s=>!has y s) l (fun _=>some (.ret [ci 51])) (some (.br 0 [])) (fun i=>[ci (i:Int)]) ?hv ?hR ?hX (fun i hi hp=>?s1) (fun i hi hp=>?s2) ?s3]
 case hv=>rfl
 case hR=>simp
 case hX=>simp
 case s3=>simp
 case s1 =>
  simp only [Bool.not_eq_false'] at hp
  simp only [aW,aH,eq_true (show ((i:Int)<(l.length:Int)) by omega),decide_true,aB,aK hi,aN hi,li1,aC,WX _ y hf.k,aF,yN,bZ,hp,Bool.not_true,bB (show i<9223372036854775807 by omega)]
 case s2 =>
  simp only [Bool.not_eq_true'] at hp
  simp only [aW,aH,eq_true (show ((i:Int)<(l.length:Int)) by omega),decide_true,aB,aK hi,aN hi,li1,aC,WX _ y hf.k,aF,yN,bZ,hp,Bool.not_false]
 ·unfold gW asked aX
  have hany:l.findIdx? (fun s=>!has y s)=none↔l.any (fun s=>!has y s)=false:=mE
  rw [EW,Bool.not_eq_false'] at hany
  cases hy:y.ok with
  | false=>simp
  | true =>
   by_cases h8:l.length≤8
   ·have h8':¬(8<(l.length:Int)):=by omega
    cases hfi:l.findIdx? (fun s=>!has y s) with
    | none=>simp [h8,h8',hany.1 hfi]
    | some i =>
     have:l.all (has y)=false:=by
      cases hc:l.all (has y) with
      | false=>rfl
      | true=>rw [hany.2 hc] at hfi;cases hfi
     simp [h8,h8',this]
   ·have h8':8<(l.length:Int):=by omega
    simp [h8,h8']
end Go.Proofs.Ythkfohoccnnphaa
namespace Go.Proofs.Ythkfohoccnnphaa
open Go Go.Sx Go.Pen
set_option maxRecDepth 10000
attribute [local simp] Bool.and_assoc Bool.or_assoc
variable {its:ITS}
theorem aAf (n:Nat) {y:Yard} (hf:Fit y) (l:List Int) (hl:l.length<9223372036854775807):D its (n+4) kO [.row 1 y.ps,.row 4 y.ks,.row 1 (ints l)]=some [cb (decide (asked y l=0))]:=by
 rw [AM]
 unfold pJ
 rw [FH n hf l hl]
 rfl
end Go.Proofs.Ythkfohoccnnphaa
namespace Go.Pen
open Go.Sx
def gB {A:Type} (f:A→Int):List A→Int
 | []=>0
 | a::l=>f a+gB f l
theorem nX {A:Type} (f:A→Int):∀ (l:List A) (a:Int),l.foldl (fun n s=>n+f s) a=a+gB f l
 | [],a=>by simp [gB]
 | x::l,a=>by rw [List.foldl_cons,nX f l];simp only [gB];omega
end Go.Pen
namespace Go.Pen
open Go.Sx
theorem SF {y:Yard} (hr:∀ s,0≤rm y s) {z w:BP} (h:z.Sublist w) (q:Int):load y z q≤load y w q:=by
 induction h with
 | slnil=>exact Int.le_refl _
 | cons a _ ih =>
  obtain ⟨s,r⟩:=a
  simp only [load]
  have:=hr s
  split <;> omega
 | cons_cons a _ ih =>
  obtain ⟨s,r⟩:=a
  simp only [load]
  omega
theorem SG {y:Yard} (hr:∀ s,0≤rm y s) {z w:BP} (h:z.Sublist w) (hw:Good y w):Good y z:=by
 refine ⟨fun x hx=>?_,hw.2.sublist h⟩
 have h1:=hw.1 x (h.subset hx)
 exact ⟨h1.1,Int.le_trans (SF hr h x.2) h1.2⟩
theorem WY {A B:Type} {l w:List A} (h:l.Sublist w):∀ p:List B,p.length=w.length→∃ q:List B,q.length=l.length∧(l.zip q).Sublist (w.zip p):=by
 induction h with
 | slnil=>intro p _;exact ⟨[],rfl,by simp⟩
 | cons a _ ih =>
  intro p hp
  cases p with
  | nil=>simp at hp
  | cons b p =>
   obtain ⟨q,h1,h2⟩:=ih p (by simpa using hp)
   exact ⟨q,h1,by simpa using h2.cons (a,b)⟩
 | cons_cons a _ ih =>
  intro p hp
  cases p with
  | nil=>simp at hp
  | cons b p =>
   obtain ⟨q,h1,h2⟩:=ih p (by simpa using hp)
   exact ⟨b::q,by simp [h1],by simpa using h2⟩
theorem FI {y:Yard} (hr:∀ s,0≤rm y s) (l:List Int):can y l=true↔∃ p:List Int,p.length=l.length∧Good y (l.zip p):=by
 have h1:can y l=true↔PL y l≠[]:=by unfold can;cases PL y l <;> simp
 rw [h1]
 constructor
 ·intro h
  obtain ⟨p,hp⟩:=List.exists_mem_of_ne_nil _ h
  obtain ⟨h2,h3⟩:=lU.1 hp
  unfold okP at h3
  rw [Bool.and_eq_true] at h3
  exact ⟨p,h2,(wV hr _ _ rfl).1 h3.2⟩
 ·rintro ⟨p,h2,h3⟩
  refine List.ne_nil_of_mem (lU.2 ⟨h2,?_⟩)
  unfold okP
  rw [Bool.and_eq_true,decide_eq_true_eq]
  exact ⟨by omega,(wV hr _ _ rfl).2 h3⟩
theorem JV {y:Yard} (hr:∀ s,0≤rm y s) {l w:List Int} (h:l.Sublist w) (hw:can y w=true):can y l=true:=by
 rw [FI hr] at hw ⊢
 obtain ⟨p,h1,h2⟩:=hw
 obtain ⟨q,h3,h4⟩:=WY h p h1
 exact ⟨q,h3,SG hr h4 h2⟩
end Go.Pen
namespace Go.Pen
open Go.Sx
theorem JW {l:List Int}:∀ {b:List Int} {frm:Nat},b.Pairwise (·<·)→(∀ i∈b,(frm:Int)≤i∧i<l.length)→(ofL l b).Sublist (l.drop frm)
 | [],_,_,_=>List.nil_sublist _
 | a::b,frm,h1,h2=>by
  rw [List.pairwise_cons] at h1
  obtain ⟨ha1,ha2⟩:=h2 a (by simp)
  have ih:=JW (l:=l) (b:=b) (frm:=a.toNat+1) h1.2 fun i hi=>by have:=h1.1 i hi;have:=h2 i (by simp [hi]);omega
  have hlt:a.toNat<l.length:=by omega
  have e:l.drop a.toNat=l[a.toNat]::l.drop (a.toNat+1):=List.drop_eq_getElem_cons hlt
  have hs:(ofL l (a::b)).Sublist (l.drop a.toNat):=by
   rw [e]
   have:ofL l (a::b)=l[a.toNat]::ofL l b:=by simp [ofL,hlt]
   rw [this]
   exact ih.cons_cons _
  have hd:l.drop a.toNat=(l.drop frm).drop (a.toNat - frm):=by rw [List.drop_drop];congr 1;omega
  rw [hd] at hs
  exact hs.trans (List.drop_sublist _ _)
theorem FJ {l b:List Int} (h1:b.Pairwise (·<·)) (h2:inR l b):(ofL l b).Sublist l:=JW (frm:=0) h1 h2
theorem vX {y:Yard} (h:y.ok=true):∀ x∈y.pens,0≤x:=by
 unfold Yard.ok at h
 simp only [Bool.and_eq_true,List.all_eq_true,within,decide_eq_true_eq] at h
 exact fun x hx=>(h.1.1.2 x hx).1
theorem JX {y:Yard} (hr:∀ s,0≤rm y s) {s q:Int}:∀ {z:BP},(s,q)∈z→rm y s≤load y z q
 | (a,r)::z,h=>by
  have h0:0≤load y z q:=by
   clear h
   induction z with
   | nil=>simp [load]
   | cons x z ih=>obtain ⟨c,d⟩:=x;simp only [load];have:=hr c;split <;> omega
  simp only [load]
  rcases List.mem_cons.1 h with h | h
  ·cases h;simp;omega
  ·have:=JX hr h
   have:=hr a
   split <;> omega
theorem aBI {y:Yard} (hr:∀ s,0≤rm y s) {l:List Int} {s:Int} (hs:s∈l) (hb:zA y s=true):can y l=false:=by
 rw [Bool.eq_false_iff]
 intro hc
 obtain ⟨p,h1,h2⟩:=(FI hr l).1 hc
 obtain ⟨i,hi,rfl⟩:=List.getElem_of_mem hs
 have hm:(l[i],p[i]'(by omega))∈l.zip p:=List.mem_iff_getElem.2 ⟨i,by simp;omega,by simp⟩
 obtain ⟨h3,h4⟩:=h2.1 _ hm
 have h5:=JX hr hm
 simp only [within,Bool.and_eq_true,decide_eq_true_eq] at h3
 simp only [] at h4
 have hq:(p[i]'(by omega)).toNat<y.pens.length:=by omega
 unfold zA at hb
 rw [List.all_eq_true] at hb
 have:=hb y.pens[(p[i]'(by omega)).toNat] (List.getElem_mem hq)
 simp only [Bool.not_eq_true',decide_eq_false_iff_not] at this
 rw [List.getD_eq_getElem?_getD,List.getElem?_eq_getElem hq,Option.getD_some] at h4
 omega
theorem CR (y:Yard) (l:List Int):yR y l=gB (rm y) l:=by
 unfold yR;rw [nX];omega
theorem CS (y:Yard):total y=gB (fun x=>x) y.pens:=by
 unfold total;rw [nX];omega
def upto (f:Nat→Int):Nat→Int
 | 0=>0
 | n+1=>upto f n+f n
theorem PJ {f g:Nat→Int}:∀ n,(∀ i,i<n→f i≤g i)→upto f n≤upto g n
 | 0,_=>Int.le_refl _
 | n+1,h=>by
  have:=PJ n fun i hi=>h i (by omega)
  have:=h n (by omega)
  simp only [upto];omega
theorem JY (f g:Nat→Int):∀ n,upto (fun i=>f i+g i) n=upto f n+upto g n
 | 0=>rfl
 | n+1=>by simp only [upto,JY f g n];omega
theorem JZ (c:Int) (q:Int):∀ n:Nat,upto (fun i=>if q=(i:Int) then c else 0) n=if 0≤q∧q<n then c else 0
 | 0=>by simp only [upto];rw [if_neg (by omega)]
 | n+1=>by
  simp only [upto,JZ c q n]
  by_cases h:0≤q∧q<n
  ·rw [if_pos h,if_neg (by omega),if_pos (by omega)];omega
  ·rw [if_neg h]
   by_cases h2:q=n
   ·rw [if_pos h2,if_pos (by omega)];omega
   ·rw [if_neg h2,if_neg (by omega)];rfl
theorem KB (l:List Int):∀ n,n≤l.length→upto (fun i=>l.getD i 0) n=gB (fun x=>x) (l.take n)
 | 0,_=>rfl
 | n+1,h=>by
  have hn:n<l.length:=by omega
  rw [← List.take_append_getElem hn]
  have:∀ (a:List Int) (x:Int),gB (fun x=>x) (a++[x])=gB (fun x=>x) a+x:=by
   intro a x
   induction a with
   | nil=>simp [gB]
   | cons b a ih=>simp only [List.cons_append,gB,ih];omega
  rw [this]
  have hg:l.getD n 0=l[n]:=by simp [hn]
  simp only [upto,KB l n (by omega),hg]
theorem KC {y:Yard} (n:Nat):∀ {z:BP},(∀ x∈z,0≤x.2∧x.2<n)→upto (fun q=>load y z q) n=gB (rm y) (z.map Prod.fst)
 | [],_=>by
  have:∀ n,upto (fun _=>(0:Int)) n=0:=by intro n;induction n with | zero=>rfl | succ n ih=>simp only [upto,ih];rfl
  simp only [load,this,List.map_nil,gB]
 | (s,q)::z,h=>by
  have ih:=KC (y:=y) n (z:=z) fun x hx=>h x (by simp [hx])
  have hq:=h (s,q) (by simp)
  have e:(fun (i:Nat)=>load y ((s,q)::z) i)=fun (i:Nat)=>(if q=(i:Int) then rm y s else 0)+load y z i:=by
   funext i;simp only [load]
  rw [e,JY,ih,JZ,if_pos hq]
  simp only [List.map_cons,gB]
theorem CT {y:Yard} {q:Int}:∀ {z:BP},(∀ x∈z,x.2≠q)→load y z q=0
 | [],_=>rfl
 | (s,r)::z,h=>by
  have:=h (s,r) (by simp)
  simp only [load]
  rw [if_neg this,CT fun x hx=>h x (by simp [hx])]
  rfl
theorem aAg {y:Yard} (hy:y.ok=true) (hr:∀ s,0≤rm y s) {l:List Int} (h:yR y l > total y):can y l=false:=by
 rw [Bool.eq_false_iff]
 intro hc
 obtain ⟨p,h1,h2⟩:=(FI hr l).1 hc
 have hin:∀ x∈l.zip p,0≤x.2∧x.2<(y.pens.length:Int):=by
  intro x hx
  have:=(h2.1 x hx).1
  simp only [within,Bool.and_eq_true,decide_eq_true_eq] at this
  omega
 have e1:=KC (y:=y) y.pens.length hin
 rw [List.map_fst_zip (by omega)] at e1
 have e2:upto (fun (q:Nat)=>load y (l.zip p) q) y.pens.length≤upto (fun i=>y.pens.getD i 0) y.pens.length:=by
  refine PJ _ fun i hi=>?_
  by_cases hex:∃ x∈l.zip p,x.2=(i:Int)
  ·obtain ⟨x,hx,he⟩:=hex
   have:=(h2.1 x hx).2
   rw [he] at this
   simpa using this
  ·rw [CT fun x hx he=>hex ⟨x,hx,he⟩]
   have:y.pens.getD i 0=y.pens[i]:=by simp [hi]
   rw [this]
   exact vX hy _ (List.getElem_mem hi)
 rw [KB _ _ (Nat.le_refl _),List.take_length,← CS] at e2
 rw [CR] at h
 omega
theorem FK:∀ (n:Nat) (p:List Int),p.Nodup→(∀ x∈p,0≤x∧x<n)→p.length≤n
 | 0,p,_,h=>by
  cases p with
  | nil=>simp
  | cons a p=>have:=h a (by simp);omega
 | n+1,p,hp,h=>by
  by_cases hm:(n:Int)∈p
  ·have h1:=FK n (p.erase (n:Int)) (hp.erase _) fun x hx=>by
    obtain ⟨h2,h3⟩:=(hp.mem_erase_iff).1 hx
    have:=h x h3
    omega
   rw [List.length_erase_of_mem hm] at h1
   omega
  ·have h1:=FK n p hp fun x hx=>by
    have:=h x hx
    have:x≠n:=fun e=>hm (e▸hx)
    omega
   omega
theorem aAh {y:Yard} (hr:∀ s,0≤rm y s) {l:List Int} (ha:zB y l=true) (hl:l.length=y.pens.length+1):can y l=false:=by
 rw [Bool.eq_false_iff]
 intro hc
 obtain ⟨p,h1,h2⟩:=(FI hr l).1 hc
 have hnd:p.Nodup:=by
  rw [List.Nodup,List.pairwise_iff_getElem]
  intro i j hi hj hij he
  have hg:=List.pairwise_iff_getElem.1 h2.2 i j (by simp;omega) (by simp;omega) hij
  refine hg ⟨by simpa using he,?_⟩
  unfold zB at ha
  simp only [List.all_eq_true,List.mem_range] at ha
  have:=ha j (by omega) i hij
  rw [rS] at this
  simpa [show i<l.length by omega,show j<l.length by omega] using this
 have hin:∀ x∈p,0≤x∧x<(y.pens.length:Int):=by
  intro x hx
  obtain ⟨i,hi,rfl⟩:=List.getElem_of_mem hx
  have hm:(l[i]'(by omega),p[i])∈l.zip p:=List.mem_iff_getElem.2 ⟨i,by simp;omega,by simp⟩
  have:=(h2.1 _ hm).1
  simp only [within,Bool.and_eq_true,decide_eq_true_eq] at this
  omega
 have:=FK _ p hnd hin
 omega
def ill (y:Yard) (l:List Int) (k:Int) (b:List Int):Bool:=if k=1 then big y l b else if k=2 then oT y l b else if k=3 then many y l b else iQ y l b
def KD (l b:List Int) (i:Nat):Bool:=!within (b.getD i 0) 0 ((l.length:Int) - 1) || (decide (0<i)&&decide (b.getD (i - 1) 0≥b.getD i 0))
def kA (l b:List Int):Bool:=(List.range b.length).all fun i=>!KD l b i
def less (y:Yard) (l:List Int) (k:Int) (b:List Int):Bool:=(List.range b.length).any fun i=>ill y l k (b.eraseIdx i)
def fQ (y:Yard) (l:List Int) (k:Int) (b:List Int):Bool:=
 kA l b&&(within k 1 4&&decide (b.length≠0)&&ill y l k b)&&!(decide (k=2∨k=4)&&less y l k b)
def lO (y:Yard) (l:List Int) (k:Int) (b:List Int):Int:=if asked y l=0 then (if fQ y l k b=true then 0 else 54) else asked y l
theorem uO {l b:List Int} (h:kA l b=true):b.Pairwise (·<·)∧inR l b:=by
 unfold kA KD at h
 simp only [List.all_eq_true,List.mem_range,Bool.not_eq_true',Bool.or_eq_false_iff,Bool.and_eq_false_iff,Bool.not_eq_false',within,Bool.and_eq_true,decide_eq_true_eq,decide_eq_false_iff_not] at h
 have hg:∀ i (hi:i<b.length),b.getD i 0=b[i]:=fun i hi=>by simp [hi]
 constructor
 ·rw [List.pairwise_iff_getElem]
  intro i j hi hj hij
  obtain ⟨k,rfl⟩:∃ k,j=i+1+k:=⟨j - i - 1,by omega⟩
  induction k with
  | zero =>
   have:=(h (i+1) (by omega)).2
   rw [show i+1 - 1=i by omega,hg i hi,hg (i+1) hj] at this
   simp only [Nat.add_zero]
   omega
  | succ k ih =>
   have h1:=ih (by omega) (by omega)
   have:=(h (i+1+(k+1)) hj).2
   rw [show i+1+(k+1) - 1=i+1+k by omega,hg (i+1+k) (by omega),hg _ hj] at this
   omega
 ·intro x hx
  obtain ⟨i,hi,rfl⟩:=List.getElem_of_mem hx
  have:=(h i hi).1
  rw [hg i hi] at this
  omega
theorem CU {l b:List Int} (h1:b.Pairwise (·<·)) (h2:inR l b):kA l b=true:=by
 unfold kA KD
 have hg:∀ i (hi:i<b.length),b.getD i 0=b[i]:=fun i hi=>by simp [hi]
 simp only [List.all_eq_true,List.mem_range,Bool.not_eq_true',Bool.or_eq_false_iff,Bool.and_eq_false_iff,Bool.not_eq_false',within,Bool.and_eq_true,decide_eq_true_eq,decide_eq_false_iff_not]
 intro i hi
 have h3:=h2 _ (List.getElem_mem hi)
 refine ⟨by rw [hg i hi];omega,?_⟩
 by_cases h0:0<i
 ·right
  have:=List.pairwise_iff_getElem.1 h1 (i - 1) i (by omega) hi (by omega)
  rw [hg i hi,hg (i - 1) (by omega)]
  omega
 ·left;exact h0
theorem SH {y:Yard} (hy:y.ok=true) (hr:∀ s,0≤rm y s) {l:List Int} {k:Int} {b:List Int} (h:fQ y l k b=true):can y l=false:=by
 unfold fQ at h
 simp only [Bool.and_eq_true,within,decide_eq_true_eq] at h
 obtain ⟨⟨h1,⟨h2,h3⟩,h4⟩,_⟩:=h
 obtain ⟨g1,g2⟩:=uO h1
 have hs:=FJ g1 g2
 have hno:can y (ofL l b)=false→can y l=false:=by
  intro h
  cases hc:can y l with
  | false=>rfl
  | true=>rw [JV hr hs hc] at h;cases h
 unfold ill at h4
 split at h4
 ·unfold big at h4
  rw [Bool.and_eq_true,decide_eq_true_eq] at h4
  match b,h4.1 with
  | [i],_ =>
   have hi:=g2 i (by simp)
   have hlt:i.toNat<l.length:=by omega
   refine aBI hr (s:=l[i.toNat]) (List.getElem_mem hlt) ?_
   have:=h4.2
   simpa [hlt] using this
 ·split at h4
  ·unfold oT at h4
   exact hno (aAg hy hr (by simpa using h4))
  ·split at h4
   ·unfold many at h4
    rw [Bool.and_eq_true,decide_eq_true_eq] at h4
    exact hno (aAh hr h4.1 (by rw [iY];exact h4.2))
   ·unfold iQ at h4
    exact hno (by simpa using h4)
theorem WZ {A:Type}:∀ {b:List A} {i j:Nat},i≤j→((b.eraseIdx i).eraseIdx j).Sublist (b.eraseIdx (j+1))
 | [],_,_,_=>by simp
 | a::b,0,j,_=>by simp
 | a::b,i+1,0,h=>by omega
 | a::b,i+1,j+1,h=>by
  simp only [List.eraseIdx_cons_succ]
  exact (WZ (b:=b) (by omega)).cons_cons a
theorem qS {f:List Int→Bool} (hm:∀ a b:List Int,a.Sublist b→f a=true→f b=true):∀ (k:Nat) (b:List Int),f b=true→(∀ j,k≤j→j<b.length→f (b.eraseIdx j)=false) →
  (least f k b).Sublist b∧f (least f k b)=true∧∀ j,j<(least f k b).length→f ((least f k b).eraseIdx j)=false
 | 0,b,h1,h2=>⟨List.Sublist.refl _,h1,fun j hj=>h2 j (by omega) hj⟩
 | i+1,b,h1,h2=>by
  simp only [least]
  by_cases hc:f (b.eraseIdx i)=true
  ·rw [if_pos hc]
   have:=qS hm i (b.eraseIdx i) hc fun j hij hj=>by
    by_cases hib:i<b.length
    ·rw [List.length_eraseIdx_of_lt hib] at hj
     have h3:=h2 (j+1) (by omega) (by omega)
     rw [Bool.eq_false_iff] at h3 ⊢
     exact fun h=>h3 (hm _ _ (WZ hij) h)
    ·rw [List.eraseIdx_of_length_le (by omega)] at hj
     omega
   exact ⟨this.1.trans (List.eraseIdx_sublist _ _),this.2⟩
  ·rw [if_neg hc]
   refine qS hm i b h1 fun j hij hj=>?_
   by_cases hji:j=i
   ·subst hji;simpa using hc
   ·exact h2 j (by omega) hj
theorem NC {f:Int→Int} (hf:∀ x,0≤f x) {a b:List Int} (h:a.Sublist b):gB f a≤gB f b:=by
 induction h with
 | slnil=>exact Int.le_refl _
 | cons x _ ih=>simp only [gB];have:=hf x;omega
 | cons_cons x _ ih=>simp only [gB];omega
theorem sR {l a b:List Int} (h:a.Sublist b):(ofL l a).Sublist (ofL l b):=h.map _
theorem SI {y:Yard} (hr:∀ s,0≤rm y s) {l a b:List Int} (h:a.Sublist b) (hm:oT y l a=true):oT y l b=true:=by
 unfold oT at hm ⊢
 rw [decide_eq_true_eq,CR] at hm ⊢
 have:=NC hr (sR (l:=l) h)
 omega
theorem ND {y:Yard} (hr:∀ s,0≤rm y s) {l a b:List Int} (h:a.Sublist b) (hm:iQ y l a=true):iQ y l b=true:=by
 unfold iQ at hm ⊢
 rw [Bool.not_eq_true'] at hm ⊢
 cases hc:can y (ofL l b) with
 | false=>rfl
 | true=>rw [JV hr (sR (l:=l) h) hc] at hm;cases hm
theorem FL {y:Yard} (hy:y.ok=true):0≤total y:=by
 rw [CS]
 have:=vX hy
 generalize y.pens=p at this
 induction p with
 | nil=>simp [gB]
 | cons a p ih =>
  have h1:=this a (by simp)
  have h2:=ih fun x hx=>this x (by simp [hx])
  simp only [gB];omega
theorem NE (l:List Int):(idx l).Pairwise (·<·):=by
 unfold idx
 rw [List.pairwise_map]
 exact List.pairwise_lt_range.imp fun h=>by omega
theorem aBJ (l:List Int):(idx l).length=l.length:=by simp [idx]
theorem AR {y:Yard} (hy:y.ok=true) (hr:∀ s,0≤rm y s) {l:List Int} (h:can y l=false):(refuse y l).2.2=0∧fQ y l (refuse y l).1 (refuse y l).2.1=true:=by
 have hrls:∀ {k:Nat} {b:List Int},b∈rls l.length k 0→kA l b=true∧b.length=k:=by
  intro k b hb
  obtain ⟨h1,h2,h3⟩:=wY.1 hb
  exact ⟨CU h2 fun e he=>by have:=h3 e he;omega,h1⟩
 have hlst:∀ (f:List Int→Bool) (k:Int),(k=2∨k=4)→(∀ b,ill y l k b=f b)→(∀ a b:List Int,a.Sublist b→f a=true→f b=true)→f []=false→f (idx l)=true→fQ y l k (least f l.length (idx l))=true:=by
  intro f k hk hf hm h0 h1
  obtain ⟨g1,g2,g3⟩:=qS hm l.length (idx l) h1 fun j hj hj2=>by rw [aBJ] at hj2;omega
  generalize least f l.length (idx l)=b at g1 g2 g3
  have hne:b.length≠0:=by
   intro e
   rw [List.length_eq_zero_iff.1 e,h0] at g2;cases g2
  have hri:kA l b=true:=CU ((NE l).sublist g1) fun i hi=>wZ l i (g1.subset hi)
  have hls:less y l k b=false:=by
   unfold less
   rw [Bool.eq_false_iff]
   intro hc
   rw [List.any_eq_true] at hc
   obtain ⟨i,hi,hc⟩:=hc
   rw [List.mem_range] at hi
   rw [hf,g3 i hi] at hc;cases hc
  unfold fQ
  rw [hri,hf,g2,hls,decide_eq_true hne]
  rcases hk with rfl | rfl <;> rfl
 unfold refuse
 rw [if_neg (by rw [h];simp)]
 cases h1:(rls l.length 1 0).find? (big y l) with
 | some b =>
  have hb:=List.find?_some h1
  obtain ⟨g1,g2⟩:=hrls (List.mem_of_find?_eq_some h1)
  refine ⟨rfl,?_⟩
  unfold fQ ill
  rw [g1,if_pos rfl,hb,g2]
  rfl
 | none =>
  simp only []
  by_cases hmu:oT y l (idx l)=true
  ·rw [if_pos hmu]
   refine ⟨rfl,hlst (oT y l) 2 (Or.inl rfl) (fun b=>rfl) (fun a b=>SI hr) ?_ hmu⟩
   unfold oT
   rw [decide_eq_false_iff_not]
   have:=FL hy
   simp [ofL,yR];omega
  ·rw [if_neg hmu]
   cases h2:(rls l.length (y.pens.length+1) 0).find? (many y l) with
   | some b =>
    have hb:=List.find?_some h2
    obtain ⟨g1,g2⟩:=hrls (List.mem_of_find?_eq_some h2)
    refine ⟨rfl,?_⟩
    show fQ y l 3 b=true
    unfold fQ
    rw [g1,show ill y l 3 b=many y l b from rfl,hb,g2]
    simp [within]
   | none =>
    refine ⟨rfl,hlst (iQ y l) 4 (Or.inr rfl) (fun b=>rfl) (fun a b=>ND hr) rfl ?_⟩
    unfold iQ
    rw [YZ,h];rfl
end Go.Pen
namespace Go.Proofs.Ythkfohoccnnphaa
open Go Go.Sx Go.Pen
set_option maxRecDepth 10000
theorem nY {y:Yard} {l p:List Int} (h:asked y l=0):aS y l p=0↔p∈PL y l:=by
 unfold aS
 rw [if_pos h,← ZP]
 cases isP y l p <;> simp
end Go.Proofs.Ythkfohoccnnphaa
namespace Go.Proofs.Ythkfohoccnnphaa
open Go Go.Sx Go.Pen
set_option maxRecDepth 10000
theorem wL (x z:Option Ou):aB true x z=x:=rfl
theorem mI (x z:Option Ou):aB false x z=z:=rfl
end Go.Proofs.Ythkfohoccnnphaa
namespace Go.Proofs.Ythkfohoccnnphaa
open Go Go.Sx Go.Pen
set_option maxRecDepth 10000
theorem aBK (n:Nat):D its (n+1) 104 [CV.fn 124 [],CV.fn 94 [],CV.fn 95 [],CV.fn 97 [],CV.fn 98 []]=some [.fn 0 []]:=by rw [aDe];rfl
theorem aBL (n:Nat) {l:List Int} (h:l.length<1000000):D its (n+1) 76 [.row 1 (ints l)]=some [.row 1 (ints l),.fn 3 []]:=by
 rw [aDf]
 show jA [.row 1 (ints l)]=_
 simp [jA,h]
theorem PK (n:Nat) {y:Yard} (hy:y.ok=true) {l:List Int} (hs:aX y l=true) {tr:MA} (hk:Kept y tr) {k:Int} (h1:1≤k∧k≤4) {by_:List Int} (hb:inR l by_) (h8:by_.length≤8)
  {pre:(List (List CV)→Option Ou)→Option Ou} {K0:Option Ou→Option Ou} (hpre:∀ F,pre F=K0 (F (ints by_))) :
  ∃ tr',Kept y tr'∧VP (D its (n+2)) (pc y) (ints l) k (dX tr) pre=K0 (some (.ret [cb (ill y l k by_),.row 11 (dX tr')])):=by
 have h9:=JF hy hs
 have hw:wr (k - 1)=k - 1:=by rw [cL] <;> omega
 unfold VP
 rw [aBK,aF,show isW [CV.fn 0 []]=true from rfl,aC,hw]
 simp only [eq_true (show (0:Int)≤k - 1 by omega),eq_true (show k - 1<4 by omega),decide_true,Bool.and_self,aC,hpre]
 have hk4:k=1∨k=2∨k=3∨k=4:=by omega
 rcases hk4 with rfl | rfl | rfl | rfl
 ·refine ⟨tr,hk,?_⟩
  rw [show ((1:Int) - 1 == 0)=true from rfl,wL,PE _ hy h9 hb]
  rfl
 ·refine ⟨tr,hk,?_⟩
  rw [show ((2:Int) - 1 == 0)=false from rfl,show ((2:Int) - 1 == 1)=true from rfl,mI,wL,JM (its:=its) _ n hy h9 hb (by omega)]
  rfl
 ·refine ⟨tr,hk,?_⟩
  rw [show ((3:Int) - 1 == 0)=false from rfl,show ((3:Int) - 1 == 1)=false from rfl,show ((3:Int) - 1 == 2)=true from rfl,mI,mI,wL,JO (its:=its) _ (n+1) hy h9 hb (by omega)]
  rfl
 ·obtain ⟨tr',ht',e⟩:=CL (its:=its) WT n hy hs hb h8 hk
  refine ⟨tr',ht',?_⟩
  rw [show ((4:Int) - 1 == 0)=false from rfl,show ((4:Int) - 1 == 1)=false from rfl,show ((4:Int) - 1 == 2)=false from rfl,mI,mI,mI,e]
  rfl
theorem CW (n:Nat) {y:Yard} (hy:y.ok=true) {l:List Int} (hs:aX y l=true) {k:Int} (h1:1≤k∧k≤4) {b:List Int} (hb:inR l b) (h8:b.length≤8):∀ (m i:Nat) (tr:MA),i+m=b.length→Kept y tr →
  (if (List.range' i m).any (fun j=>ill y l k (b.eraseIdx j))=true then aI (vS (D its (n+2)) (pc y) (ints l) (ints b) k) [ci (i:Int),.row 11 (dX tr)]=some (.ret [ci 54])
   else ∃ vs,aI (vS (D its (n+2)) (pc y) (ints l) (ints b) k) [ci (i:Int),.row 11 (dX tr)]=some (.br 2 [.row 11 vs]))
 | 0,i,tr,hm,ht=>by
  rw [if_neg (by simp)]
  refine ⟨dX tr,bG ?_ (by simp)⟩
  unfold vS
  simp only [aW,aH,eq_false (show ¬((i:Int)<(b.length:Int)) by omega),decide_false,mI,fO,cA]
 | m+1,i,tr,hm,ht=>by
  have hi:i<b.length:=by omega
  have hel:=List.length_eraseIdx_of_lt hi
  have hd:=WT.del (n+1) b i hi (by omega)
  obtain ⟨tr',ht',e⟩:=PK (n:=n) hy hs ht h1 (lG hb i) (by omega)
   (pre:=fun F=>aD (D its (n+2) 76 [CV.row 1 (ints b)]) fun v6=>chk (DR 1 3 v6)<|aD (D its (n+2) 82 ([CV.row 1 (gr v6 0),CV.fn 3 [],ci (i:Int),ci (wr ((i:Int)+1))])) fun v7=>chk (pY 1 true v7)<|eF (F (gr v7 0)) fun v8=>aB (gb v8 0) (some (.ret [ci 54])) (some (.nx [ci (wr ((i:Int)+1)),CV.row 11 (gr v8 1)])))
   (K0:=fun X=>eF X fun v8=>aB (gb v8 0) (some (.ret [ci 54])) (some (.nx [ci (wr ((i:Int)+1)),CV.row 11 (gr v8 1)]))) (fun F=>by
    simp only [aBL (n+1) (show b.length<1000000 by omega),aF,cA,bB (show i<9223372036854775807 by omega),hd]
    rfl)
  have hstep:vS (D its (n+2)) (pc y) (ints l) (ints b) k [ci (i:Int),.row 11 (dX tr)]=if ill y l k (b.eraseIdx i)=true then some (.ret [ci 54]) else some (.nx [ci ((i+1:Nat):Int),.row 11 (dX tr')]):=by
   unfold vS
   simp only [aW,dN,aH,eq_true (show ((i:Int)<(b.length:Int)) by omega),decide_true,wL,fO,cA]
   rw [e]
   simp only [bI,bZ,fO,cA,bB (show i<9223372036854775807 by omega)]
   cases ill y l k (b.eraseIdx i) <;> rfl
  rw [List.range'_succ,List.any_cons]
  cases hc:ill y l k (b.eraseIdx i) with
  | true =>
   rw [hc,if_pos rfl] at hstep
   rw [Bool.true_or,if_pos rfl]
   exact bG hstep (by simp)
  | false =>
   rw [hc,if_neg (by simp)] at hstep
   rw [Bool.false_or,eE hstep]
   exact CW n hy hs h1 hb h8 m (i+1) tr' (by omega) ht'
theorem SJ (n:Nat) {l:List Int} (hl:l.length<1000000) {b:List Int} (hb:b.length<9223372036854775807):aI (IY (D its (n+1)) (ints l) (ints b)) [ci 0]=if kA l b=true then some (.br 0 []) else some (.ret [ci 54]):=by
 have hwl:wr ((l.length:Int) - 1)=(l.length:Int) - 1:=by rw [cL] <;> omega
 rw [gV b.length (fun i=>[ci (i:Int)]) (KD l b) (fun _=>some (.ret [ci 54])) (some (.br 0 [])) ?hv ?hR ?hX (fun i hi hp=>?s1) (fun i hi hp=>?s2) ?s3]
 case hv=>rfl
 case hR=>simp
 case hX=>simp
 case s3 =>
  unfold IY
  simp only [aW,aH,eq_false (show ¬((b.length:Int)<(b.length:Int)) by omega),decide_false,mI]
 case s1 =>
  have hg:b.getD i 0=b[i]:=by simp [hi]
  unfold KD at hp
  rw [hg,Bool.or_eq_false_iff,Bool.not_eq_false'] at hp
  unfold IY
  simp only [aW,aH,eq_true (show ((i:Int)<(b.length:Int)) by omega),decide_true,wL,mI,aK hi,aN hi,li1,aC,hwl,JE,aF,bZ,hp.1,Bool.not_true]
  by_cases h0:0<i
  ·have hg':b.getD (i - 1) 0=b[i - 1]:=by simp [show i - 1<b.length by omega]
   have hp2:=hp.2
   rw [decide_eq_true h0,Bool.true_and,hg',decide_eq_false_iff_not] at hp2
   have hw:=oO h0 (show i<9223372036854775807 by omega)
   simp only [eq_true (show (i:Int) > 0 by omega),decide_true,wL,hw,aK (show i - 1<b.length by omega),aN (show i - 1<b.length by omega),li1,aC,aW,eq_false hp2,decide_false,bD,bZ,mI,bB (show i<9223372036854775807 by omega)]
  ·simp only [eq_false (show ¬(i:Int) > 0 by omega),decide_false,mI,bD,bZ,bB (show i<9223372036854775807 by omega)]
 case s2 =>
  have hg:b.getD i 0=b[i]:=by simp [hi]
  unfold KD at hp
  rw [hg] at hp
  unfold IY
  simp only [aW,aH,eq_true (show ((i:Int)<(b.length:Int)) by omega),decide_true,wL,aK hi,aN hi,li1,aC,hwl,JE,aF,bZ]
  cases hw1:within b[i] 0 ((l.length:Int) - 1) with
  | false=>rfl
  | true =>
   rw [hw1,Bool.not_true,Bool.false_or,Bool.and_eq_true,decide_eq_true_eq,decide_eq_true_eq] at hp
   obtain ⟨h0,hp2⟩:=hp
   have hg':b.getD (i - 1) 0=b[i - 1]:=by simp [show i - 1<b.length by omega]
   rw [hg'] at hp2
   have hw:=oO h0 (show i<9223372036854775807 by omega)
   simp only [Bool.not_true,mI,eq_true (show (i:Int) > 0 by omega),decide_true,wL,hw,aK (show i - 1<b.length by omega),aN (show i - 1<b.length by omega),li1,aC,aW,eq_true hp2,bD,bZ]
 ·have key:(List.range b.length).find? (KD l b)=none↔kA l b=true:=by
   rw [List.find?_eq_none]
   unfold kA
   rw [List.all_eq_true]
   refine forall_congr' fun i=>forall_congr' fun _=>?_
   simp
  cases hf:(List.range b.length).find? (KD l b) with
  | none=>rw [if_pos (key.1 hf)]
  | some i =>
   rw [if_neg]
   intro h
   rw [key.2 h] at hf;cases hf
theorem nZ (n:Nat) {y:Yard} (hf:Fit y) (l:List Int) (k:Int) (b:List Int) (hl:l.length<9223372036854775807) (hb:b.length<9223372036854775807) :
  D its (n+8) dQ [.row 1 y.ps,.row 4 y.ks,.row 1 (ints l),ci k,.row 1 (ints b)]=some [ci (lO y l k b)]:=by
 rw [qP]
 unfold VQ lO
 have hask:=mG (its:=its) n y l hf.p hf.k hl
 change D its (n+7) 72 _=_ at hask
 rw [hask]
 by_cases h:asked y l=0
 ·obtain ⟨hy,hs⟩:=gN h
  have h8:=dY hs
  simp only [h,beq_self_eq_true,cX,if_true,aF,dN,aW,List.getD_cons_zero,eP,kP,aC]
  rw [show ((0:Int) != 0)=false from rfl,mI,SJ (n+6) (by omega) hb]
  unfold fQ
  cases hri:kA l b with
  | false=>rfl
  | true =>
   obtain ⟨g1,g2⟩:=uO hri
   have hbl:b.length≤8:=by
    have:=(FJ g1 g2).length_le
    rw [iY] at this
    omega
   have hin:D its (n+7) 67 [ci k,ci 1,ci 4]=some [cb (within k 1 4)]:=JE (n+6) k 1 4
   rw [if_pos rfl,eD,hin,aF,bZ]
   cases hwk:within k 1 4 with
   | false=>rfl
   | true =>
    have hk4:=hwk
    simp only [within,Bool.and_eq_true,decide_eq_true_eq] at hk4
    rw [Bool.not_true,mI,aH]
    by_cases h0:b.length=0
    ·rw [show (((b.length:Nat):Int) == 0)=true by simp [h0],wL,decide_eq_false (show ¬b.length≠0 by omega)]
     rfl
    ·rw [show (((b.length:Nat):Int) == 0)=false by rw [beq_eq_false_iff_ne];omega,mI,decide_eq_true h0]
     obtain ⟨tr,ht,e⟩:=PK (n:=n+5) hy hs (Kept.nil y) hk4 g2 hbl (pre:=fun F=>eF (F (ints b)) fun v4=>some (.nx [cb (!(gb v4 0)),CV.row 11 (gr v4 1)])) (K0:=fun X=>eF X fun v4=>some (.nx [cb (!(gb v4 0)),CV.row 11 (gr v4 1)])) (fun F=>rfl)
     change VP (D its (n+7)) (pc y) (ints l) k [] _=_ at e
     rw [e]
     simp only [bI,bD,bZ,fO,cA]
     cases hil:ill y l k b with
     | false=>rfl
     | true =>
      rw [Bool.not_true,mI]
      by_cases h24:k=2∨k=4
      ·have h3:bM (aB (k == 2) (some (.nx [cb true])) (some (.nx [cb (k == 4)])))=fun K=>K [cb true]:=by
        funext K
        rcases h24 with rfl | rfl <;> rfl
       rw [h3]
       simp only [bZ,wL]
       have hlp:=CW (n+5) hy hs hk4 g2 hbl b.length 0 tr (by omega) ht
       rw [decide_eq_true h24]
       have hls:less y l k b=(List.range' 0 b.length).any (fun j=>ill y l k (b.eraseIdx j)):=by unfold less;rw [List.range_eq_range']
       rw [hls]
       cases hany:(List.range' 0 b.length).any (fun j=>ill y l k (b.eraseIdx j)) with
       | true =>
        rw [hany,if_pos rfl] at hlp
        change aI (vS (D its (n+7)) (pc y) (ints l) (ints b) k) [ci 0,CV.row 11 (dX tr)]=_ at hlp
        rw [hlp]
        rfl
       | false =>
        rw [hany,if_neg (by simp)] at hlp
        obtain ⟨vs,hlp⟩:=hlp
        change aI (vS (D its (n+7)) (pc y) (ints l) (ints b) k) [ci 0,CV.row 11 (dX tr)]=_ at hlp
        rw [hlp]
        rfl
      ·have h3:bM (aB (k == 2) (some (.nx [cb true])) (some (.nx [cb (k == 4)])))=fun K=>K [cb false]:=by
        funext K
        rw [show (k == 2)=false by simp;omega,show (k == 4)=false by simp;omega]
        rfl
       rw [h3,decide_eq_false h24]
       rfl
 ·simp only [aF,dN,aW,if_neg h]
  rw [show (asked y l != 0)=true by simp [h]]
  rfl
end Go.Proofs.Ythkfohoccnnphaa
namespace Go.Proofs.Ythkfohoccnnphaa
open Go Go.Sx Go.Pen
set_option maxRecDepth 10000
theorem NF {y:Yard} {l:List Int} {k:Int} {b:List Int} (h:fQ y l k b=true):b.length≤l.length:=by
 unfold fQ at h
 simp only [Bool.and_eq_true] at h
 obtain ⟨g1,g2⟩:=uO h.1.1
 have:=(FJ g1 g2).length_le
 rwa [iY] at this
theorem KE (n:Nat) (y:Yard) (l p:List Int) (k:Int) (b:List Int) (hf:Fit y) (hl:l.length<100000000000000) (hp:p.length<100000000000000) (hb:b.length<100000000000000) :
  D its (n+12) kK [.row 1 y.ps,.row 4 y.ks,.row 1 (ints l),.row 1 (ints p),ci k,.row 1 (ints b)]=some [cb true]:=by
 rw [sD]
 unfold kM
 simp only [aAf (its:=its) (n+7) hf l (by omega),aF,bZ,SD (n+1)]
 by_cases h:asked y l=0
 case neg=>simp [h]
 obtain ⟨hy,hs⟩:=gN h
 have h8:=dY hs
 have hr:=lE hy
 simp only [eq_true h,decide_true,Bool.not_true,mI,PC WT (n+3) hf l (by omega),sO WT (n+3) hf l (by omega),sL (its:=its) (n+3) hf l p (by omega) (by omega),nZ (n+3) hf l k b (by omega) (by omega),if_true,aF,dN,aW]
 have hcr:lO y l k b=if fQ y l k b=true then 0 else 54:=by unfold lO;rw [if_pos h]
 have hci:aS y l p=0↔p∈PL y l:=nY h
 cases hc:can y l with
 | true =>
  have hre:fQ y l k b=false:=by
   cases hx:fQ y l k b with
   | false=>rfl
   | true=>rw [SH hy hr hx] at hc;cases hc
  obtain ⟨x,hx⟩:∃ x,(PL y l)[0]? = some x:=by
   rw [FC,Option.isSome_iff_exists] at hc
   exact hc
  have hxm:=List.mem_of_getElem? hx
  have hxl:=MY hxm
  have hrf:refuse y l=(0,[],3):=by unfold refuse;rw [if_pos hc]
  rw [hcr,hre,hx,hrf]
  have h54:((54:Int) == 0)=false:=rfl
  simp only [Bool.false_eq_true,if_false,h54,aW,dN,cA]
  have e:bM (aB (aS y l p == 0) (some (.nx [cb false])) (some (.nx [cb false])))=fun K=>K [cb false]:=by
   funext K
   cases aS y l p == 0 <;> rfl
  rw [e]
  simp only [bZ,mI,beq_self_eq_true,wL,Bool.not_false,sL (its:=its) (n+3) hf l x (by omega) (by omega),(nY h).2 hxm,aF,aW]
  rfl
 | false =>
  have hnil:PL y l=[]:=by
   rw [FC] at hc
   cases hP:PL y l with
   | nil=>rfl
   | cons x L=>rw [hP] at hc;cases hc
  have hcp:(aS y l p == 0)=false:=by
   rw [beq_eq_false_iff_ne]
   intro he
   rw [hci,hnil] at he
   cases he
  obtain ⟨r1,r2⟩:=AR hy hr hc
  have hrl:=NF r2
  rw [hcp,hnil]
  generalize refuse y l=R at r1 r2 hrl
  obtain ⟨k',b',e'⟩:=R
  simp only at r1 r2 hrl
  subst r1
  have hcr':lO y l k' b'=0:=by unfold lO;rw [if_pos h,if_pos r2]
  simp only [mI,bD,bZ,List.getElem?_nil,dN,aW,fO,cA,show ((53:Int) == 0)=false from rfl,beq_self_eq_true,wL,Bool.not_false,nZ (n+3) hf l k' b' (by omega) (show b'.length<9223372036854775807 by omega),hcr',aF]
  rfl
end Go.Proofs.Ythkfohoccnnphaa
namespace Go.Proofs.Ythkfohoccnnphaa
open Go Go.Sx Go.Pen Go.ChangeShapes Go.WideShapes Go.ChangeAt Go.RowKit
set_option maxRecDepth 100000
theorem zZ (css:List (List CV)) (h:lV Try.prog 6 Try.f12.params.toList css):SpecR Try.prog 12 (vG Try.prog Try.f12.params.toList css) (.cv (cb true)):=by
 rw [Try.params12] at h ⊢
 match css,h with
 | [c1,c2,c3],h =>
  simp only [lV,and_true] at h
  obtain ⟨h1,h2,h3⟩:=h
  obtain ⟨y0,hy0,rfl⟩:=WV h1
  obtain ⟨l1,hl1,rfl⟩:=sQ h2
  obtain ⟨q2,k2,p2,hq2,hp2,rfl⟩:=WW h3
  exact aAd (g:=aBk.g) rfl (KE 0 y0 l1 q2 k2 p2 hy0 hl1 hq2 hp2)
 | [],h=>simp [lV] at h
 | [_],h=>simp [lV] at h
 | [_,_],h=>simp [lV] at h
 | _::_::_::_::_,h=>simp [lV] at h
theorem uP (os:Os) (started:os.Started) (H:Type) (enc:TypeId×Value→H) :
  ReturnsInHanded {} Try.checked os 12 .any (Rows.penEitherSpec.pre6 enc Try.prog Try.f12 Rows.penEitherRow.domain false) (Rows.penEitherSpec.post enc Try.prog Try.f12 false true false false):=
 VM (C:=Try.checked) (tb:=4) 6 Try.own started (by kernel_rfl) Try.func12 Try.kids Try.full
  (by rw [Try.params12];intro t ht;simp only [List.mem_cons,List.not_mem_nil,or_false] at ht;rcases ht with rfl | rfl | rfl <;> exact of_decide_eq_true (by kernel_rfl))
  (by kernel_rfl) (by rfl) Try.underlying4 rfl
  (fun ds h=>by
   rw [Try.params12] at h
   match ds,h with
   | [_,_,_],_=>rfl)
  (ChangeSpec.witness6 (enc:=enc) (C:=Try.checked) false ⟨#[],#[.agg #[.slice none 0 0,.slice none 0 0],.slice none 0 0,.agg #[.slice none 0 0,.int .i64 0,.slice none 0 0]],[]⟩ 8 (by kernel_rfl) (by kernel_rfl) (by kernel_rfl) (by kernel_rfl))
  zZ
theorem penEither_holds:Rows.PenEitherSaid:=
 OpenClaim.holds_of_wide 12 Try.f12 rfl rfl rfl rfl rfl rfl rfl ⟨rfl,rfl,rfl,rfl,rfl⟩ rfl rfl rfl rfl rfl (by kernel_rfl) Try.func12 (by kernel_rfl)
  (of_decide_eq_true (by kernel_rfl)) (by unfold Func.isWrapper;first | (rw [if_pos (by decide +kernel)];kernel_rfl) | (rw [if_neg (by decide +kernel)];exact ⟨rfl,rfl⟩))
  (fun os started H enc _=>uP os started H enc)
end Go.Proofs.Ythkfohoccnnphaa
