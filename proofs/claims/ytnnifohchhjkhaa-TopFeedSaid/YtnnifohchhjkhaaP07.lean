/-
 What the beasts of a pound have lU by their pens is what they are charged for, and those who stand in the pens are those who are inside: at every input, without any condition.
-/
import Derived.RangeFuncLeaves
import Derived.RangeFuncNested
import Derived.Test.YtnnifohchhjkhaaP06
namespace Go.Sx
open Go Go.RowKit
variable [G:Ghost]
structure FE where
 n:Nat
 rs:List ResultVar
 ht:HT
 g:Sig
section
variable (P:Program) (sg:FuncId→Option Sig) (M:Den)
def Sc.lvs:List Sc→List Lf
 | []=>[]
 | .one l::cs=>l::Sc.lvs cs
 | .agg ls::cs=>ls++Sc.lvs cs
def AM:List Lf→List CV→List CV
 | .row k::ls,.val (.slice none 0 0)::cs=>.row k []::AM ls cs
 | _::ls,c::cs=>c::AM ls cs
 | _,cs=>cs
def rtF (rs:List ResultVar) (gr:List Sc) (s:SS):Option Ou:=
 match pD P s rs with
 | some xs=>match eC s.B s.V gr xs with
  | some (l,_)=>some (.ret (AM (Sc.lvs gr) l))
  | none=>none
 | none=>none
def aO:Option Ou→Option (List CV)
 | some (.ret l)=>some l
 | _=>none
noncomputable def inN:Nat→List (Option Nat×Hint×HT)→IN
 | 0=>fun _=>aEr
 | k+1=>aAU P sg M fun rt c ht lk s K=>evC P sg M (inN k) rt c ht lk [] s K
end
section
variable {P:Program} {sg:FuncId→Option Sig} {M:Den}
theorem JW:∀ (ls:List Lf) (cs:List CV) (k:Nat) (l:Lf),ls[k]? = some l→l.av ((AM ls cs).getD k dC)=l.av (cs.getD k dC)
 | [],cs,k,l,h=>by have _:=G;simp at h
 | a::ls,[],k,l,h=>by cases a <;> simp [AM]
 | a::ls,c::cs,0,l,h=>by
  simp only [List.getElem?_cons_zero,Option.some.injEq] at h
  subst h
  unfold AM
  split
  ·rename_i h1 h2
   cases h1;cases h2
   simp [Lf.av,cR]
  ·rename_i h1 h2
   cases h1;cases h2
   rfl
  ·rename_i h0 h1
   exact (h1 _ _ _ _ rfl rfl).elim
 | a::ls,c::cs,k+1,l,h=>by
  simp only [List.getElem?_cons_succ] at h
  have ih:=JW ls cs k l h
  unfold AM
  split
  ·rename_i h1 h2
   cases h1;cases h2
   simpa using ih
  ·rename_i h1 h2
   cases h1;cases h2
   simpa using ih
  ·rename_i h0 h1
   exact (h1 _ _ _ _ rfl rfl).elim
theorem NH {ls:List Lf} {cs:List CV}:∀ (sub:List Lf) (o:Nat),(∀ i l,sub[i]? = some l→ls[o+i]? = some l)→avs sub (AM ls cs) o=avs sub cs o
 | [],o,_=>rfl
 | l::sub,o,h=>by
  simp only [avs]
  rw [JW ls cs o l (by simpa using h 0 l rfl),NH sub (o+1) fun i x hx=>by rw [show o+1+i=o+(i+1) by omega];exact h (i+1) x (by simpa using hx)]
theorem CW {ls:List Lf} {cs:List CV}:∀ (gs:List Sc) (o:Nat),(∀ i l,(Sc.lvs gs)[i]? = some l→ls[o+i]? = some l)→Sc.avs gs (AM ls cs) o=Sc.avs gs cs o
 | [],o,_=>rfl
 | .one l::gs,o,h=>by
  simp only [Sc.avs,Sc.av,Sc.n]
  rw [JW ls cs o l (by simpa using h 0 l rfl),CW gs (o+1) fun i x hx=>by rw [show o+1+i=o+(i+1) by omega];exact h (i+1) x (by simpa [Sc.lvs] using hx)]
 | .agg sub::gs,o,h=>by
  simp only [Sc.avs,Sc.av,Sc.n]
  rw [NH sub o fun i l hl=>h i l (by simp only [Sc.lvs];rw [List.getElem?_append_left (List.getElem?_eq_some_iff.1 hl).1];exact hl),
   CW gs (o+sub.length) fun i x hx=>by
    rw [show o+sub.length+i=o+(sub.length+i) by omega]
    exact h _ x (by simp only [Sc.lvs];rw [List.getElem?_append_right (by omega),Nat.add_sub_cancel_left];exact hx)]
theorem aAV (gs:List Sc) (cs:List CV):Sc.res gs (AM (Sc.lvs gs) cs)=Sc.res gs cs:=by
 have key:=CW (ls:=Sc.lvs gs) (cs:=cs) gs 0 fun i l h=>by rw [Nat.zero_add];exact h
 unfold Sc.res
 split
 ·simp only [Sc.avs,List.cons.injEq,and_true] at key
  exact key
 ·rw [key]
theorem CallP.res {f:FuncId} {args:List AV} {B:List Box} {V:List Vec} {K K':AV→List Box→List Vec→Prop} (h:CallP P f args B V K) (hk:∀ r B V,K r B V→∃ r',LeS r r'∧K' r' B V):CallP P f args B V K':=
 fun F n h1 h2 n0 w0 e w vs h3 h4 h5=>CallsIn.mono (h F n h1 h2 n0 w0 e w vs h3 h4 h5) fun en w' ⟨e',B',V',r,v,a1,a2,a3,a4,a5,a6⟩=>by
  obtain ⟨r',q1,q2⟩:=hk _ _ _ a2
  exact ⟨e',B',V',r',v,a1,q2,a3,a4,q1.1 _ _ _ _ a5,q1.2 _ _ a6⟩
theorem XO {m:Emb} {s:SS} {st:St} (hE:Em m s st) {r:ResultVar} {x:AV} (h:aAS P s r=some x):tH P st r=some (x.cz m):=by
 unfold aAS at h
 split at h
 ·cases h
  simp only [tH,hE.get]
 ·rename_i t T
  split at h
  ·rename_i i off hx
   have hs:MF P s.B s.V T (.ptr i off) (fun _=>some (.ret []))=some (.ret []):=by
    unfold MF
    cases hti:bM P T with
    | none=>simp [bZ,hti] at h
    | some ti=>simp only [h]
   have hin:=hE.inn t
   rw [hx] at hin
   unfold bZ at h
   simp only [tH,hE.get,hx,AV.cz]
   cases hti:bM P T with
   | none=>simp [hti] at h
   | some ti =>
    simp only [hti] at h
    split at h
    ·rename_i b hb
     obtain ⟨hb1,hb2⟩:=hE.m.b i b hb
     split at h
     ·rename_i hl
      simp only [bZ,hti,hb1,Box.cz,hl,if_true,AV.czs_eq,List.length_map]
      split at h
      ·rename_i hagg
       split at h
       ·rename_i hsz
        injection h with h;subst h
        rw [if_pos hagg,if_pos hsz]
        simp [AV.cz,AV.czs_eq,List.map_take,List.map_drop]
       ·cases h
      ·rename_i hagg
       rw [if_neg hagg]
       simp [h]
     ·cases h
    ·cases h
  ·cases h
theorem oM {m:Emb} {s:SS} {st:St} (hE:Em m s st):∀ {rs:List ResultVar} {xs:List AV},pD P s rs=some xs→lJ P st rs=some (AV.czs m xs)
 | [],xs,h=>by simp only [pD,Option.some.injEq] at h;subst h;simp [lJ,AV.czs]
 | r::rs,xs,h=>by
  simp only [pD] at h
  split at h
  ·rename_i x xs' h1 h2
   cases h
   simp only [lJ,XO hE h1,oM hE h2,AV.czs]
  ·cases h
theorem qE (f:AV→AV):∀ (xs:List AV) (k:Nat),(gS k xs).map (fun p=>(p.1,f p.2))=gS k (xs.map f)
 | [],k=>by have _:=G;simp [gS]
 | x::xs,k=>by simp [gS,qE f xs (k+1)]
theorem qF {nb nv:Nat}:∀ (xs:List AV) (k:Nat),AV.inns nb nv xs=true→∀ p∈gS k xs,AV.inn nb nv p.2=true
 | [],k,_,p,h=>by have _:=G;simp [gS] at h
 | x::xs,k,hx,p,h=>by
  simp only [AV.inns,Bool.and_eq_true] at hx
  simp only [gS,List.mem_cons] at h
  rcases h with rfl | h
  ·exact hx.1
  ·exact qF xs (k+1) hx.2 p h
theorem aCP {rs:List ResultVar} {gr:List Sc} (s:SS) (o:Ou) (h:rtF P rs gr s=some o):∃ l,o=.ret l:=by
 have _:=G
 unfold rtF at h
 split at h
 ·split at h
  ·cases h;exact ⟨_,rfl⟩
  ·cases h
 ·cases h
theorem aAW {B:List Box} {V:List Vec}:∀ {ys:List AV} {cs:List Sc} {out:List CV},AV.les (AV.lends B V ys) (Sc.avs cs out 0)→AV.le (AV.lend B V (hU ys)) (Sc.res cs out)
 | [],cs,out,h=>by
  simp only [AV.lends] at h
  cases cs with
  | nil=>simp only [hU,Sc.res,Sc.avs,AV.lend,AV.lends];exact AV.le_refl _
  | cons c cs=>simp only [Sc.avs] at h;cases h
 | [y],cs,out,h=>by
  simp only [AV.lends] at h
  cases cs with
  | nil=>simp only [Sc.avs] at h;cases h
  | cons c cs =>
   cases cs with
   | nil =>
    simp only [Sc.avs] at h
    cases h with
    | cons h1 _=>exact h1
   | cons d cs =>
    simp only [Sc.avs] at h
    cases h with
    | cons _ h2=>cases h2
 | y::z::ys,cs,out,h=>by
  cases cs with
  | nil=>simp only [Sc.avs,AV.lends] at h;cases h
  | cons c cs =>
   cases cs with
   | nil =>
    simp only [Sc.avs,AV.lends] at h
    cases h with
    | cons _ h2=>cases h2
   | cons d cs =>
    simp only [hU,Sc.res,AV.lend]
    intro e w ks v hv
    simp only [AV.holds] at hv ⊢
    obtain ⟨vs',h1,h2⟩:=hv
    exact ⟨vs',h1,h.all h2⟩
theorem xP {st:St} {rs:List ResultVar} {xs:List AV} (h:lJ P st rs=some xs):sM P st rs=some (hU xs):=by
 have _:=G
 unfold sM
 rw [h]
 cases xs with
 | nil=>rfl
 | cons x xs=>cases xs <;> rfl
theorem aAX {m:Emb} {s:SS} {st:St} (hE:Em m s st) {r:ResultVar} {x:AV} (h:aAS P s r=some x):AV.inn s.B.length s.V.length x=true:=by
 unfold aAS at h
 split at h
 ·cases h;exact hE.inn _
 ·split at h
  ·rename_i t T _ i off hx
   unfold bZ at h
   cases hti:bM P T with
   | none=>simp [hti] at h
   | some ti =>
    simp only [hti] at h
    split at h
    ·rename_i b hb
     obtain ⟨_,hb2⟩:=hE.m.b i b hb
     rw [AV.inns_eq,List.all_eq_true] at hb2
     split at h
     ·split at h
      ·split at h
       ·injection h with h;subst h
        simp only [AV.inn,AV.inns_eq,List.all_eq_true]
        intro y hy
        exact hb2 y (List.mem_of_mem_drop (List.mem_of_mem_take hy))
       ·cases h
      ·exact hb2 x (List.mem_of_getElem? h)
     ·cases h
    ·cases h
  ·cases h
theorem GZ {m:Emb} {s:SS} {st:St} (hE:Em m s st):∀ {rs:List ResultVar} {xs:List AV},pD P s rs=some xs→AV.inns s.B.length s.V.length xs=true
 | [],xs,h=>by simp only [pD,Option.some.injEq] at h;subst h;rfl
 | r::rs,xs,h=>by
  simp only [pD] at h
  split at h
  ·rename_i x xs' h1 h2
   cases h
   simp only [AV.inns,aAX hE h1,GZ hE h2,Bool.and_self]
  ·cases h
theorem aAY (m:Emb) (ys:List AV):(hU ys).cz m=hU (AV.czs m ys):=by
 have _:=G
 cases ys with
 | nil=>simp [hU,AV.cz,AV.czs]
 | cons y ys=>cases ys <;> simp [hU,AV.cz,AV.czs]
theorem XP {nb nv:Nat} {ys:List AV} (h:AV.inns nb nv ys=true):AV.inn nb nv (hU ys)=true:=by
 have _:=G
 cases ys with
 | nil=>rfl
 | cons y ys =>
  cases ys with
  | nil=>simpa [hU,AV.inns] using h
  | cons z ys=>simpa [hU,AV.inn] using h
theorem RS {F:Fence} {n:Nat} {ops:Array Oper} (hF:Free F) {o:Oper} {rest:List Oper} {st:St} {Q:St→Prop} {x:Operand} {args:Array Operand} {ts:Array TypeId} {f:FuncId} {pre caps:List AV}
  (hop:o.op=.call { callee:=.value x,args,argTypes:=ts }) (hx:iM (st.ev x)=some (f,pre,caps))
  (hen:∀ (as:Array Value) (w:World),(callFunc f as).run P w=.ok (.enter f as) w)
  (h:CallP P f (pre++(args.toList.map st.ev++caps)) st.B st.V fun r B' V'=>cK F n P ops rest (st.put o.dst r B' V') Q):FD F n P ops o rest st Q:=by
 unfold iM at hx
 split at hx
 ·rename_i g cs hg
  cases hx
  exact nD hF hop (by rw [hg];rfl) hen (by simpa using h)
 ·rename_i g y hg
  cases hx
  intro n0 w0 e a w Qr hr hk
  have hxv:=hr.ev x
  rw [hg] at hxv
  simp only [AV.holds,AV.sco,AV.scos,true_and] at hxv
  obtain ⟨⟨vs,h1,h2⟩,h3⟩:=hxv
  obtain ⟨us,hus,rfl⟩:∃ us:Array Value,us.size=1∧vs=#[undef]++us:=by
   match hv:vs.toList with
   | []=>rw [hv] at h2;simp [AV.all] at h2
   | u::us =>
    rw [hv] at h2
    have hl:=h2.length
    simp only [AV.all,AV.holds] at h2
    have hu:u=undef:=h2.1.2 (by simp)
    exact ⟨us.toArray,by simpa using hl,by apply Array.ext';rw [hv,hu];simp⟩
  rw [show gQ [.gd [false] .any,y]=true from rfl,LO _ hus] at h1
  simp only [Array.toList_append,List.singleton_append,AV.all] at h2
  have hes:=hr.evs args.toList
  refine ⟨fun f _=>hF.fn f,?_⟩
  rw [Oper.semAt_plain F _ _ (by intro c hc;rw [hc] at hop;cases hop)]
  have hrun:(execOp a.eval o).run P w=.ok (.enter f (us++args.map a.eval)) w:=by
   simp [execOp,hop,resolve,h1,Deferred.ofValue,invoke,hen]
  rw [hrun]
  refine ⟨fun hd=>by rw [hF.depth] at hd;simp at hd,?_⟩
  refine CallsIn.anyRound (CallsIn.mono (h F.plain (n - 1) hF.plain rfl n0 w0 e w (us++args.map a.eval) hr.mem (by simpa using h2.2.append hes.1) (by
   rw [AV.scos_iff]
   have h4:=AV.scos_iff.1 hes.2
   intro z hy
   rcases List.mem_append.1 hy with hy | hy
   ·rw [List.mem_singleton.1 hy];exact h3.1
   ·simp only [List.append_nil] at hy
    exact h4 z hy)) ?_)
  rintro en w' ⟨e',B',V',r,v,rfl,hK,hm,hxt,hrv,hsc⟩
  have hr':=hr.put hm hxt hrv hsc o.dst
  exact hK n0 w0 e' _ w' Qr hr' fun e'' st' a' w'' hq hrel hdf hx=>hk e'' st' a' w'' hq hrel (by rw [hdf];cases o.dst <;> rfl) (hxt.trans hx)
 ·rename_i g cs hne hg
  split at hx
  ·cases hx
  ·rename_i hmk
   cases hx
   refine nD hF hop ?_ hen (by simpa using h)
   rw [hg]
   have:gQ caps=false:=by
    match caps with
    | []=>rfl
    | .gd _ _::_=>simp [hC] at hmk
    | .any::_=>rfl
    | .cv _::_=>rfl
    | .ptr _ _::_=>rfl
    | .own _ _::_=>rfl
    | .opt _ _ _ _::_=>rfl
    | .agg _::_=>rfl
    | .tup _::_=>rfl
    | .fn _ _::_=>rfl
   simp [aV,this]
 ·cases hx
theorem XQ (m:Emb) {xs:List AV} (h:hC xs=false):hC (AV.czs m xs)=false:=by
 have _:=G
 match xs with
 | []=>rfl
 | .gd _ _::_=>simp [hC] at h
 | .any::_=>simp [AV.czs,AV.cz,hC]
 | .cv _::_=>simp [AV.czs,AV.cz,hC]
 | .ptr _ _::_=>simp [AV.czs,AV.cz,hC]
 | .own _ _::_=>simp [AV.czs,AV.cz,hC]
 | .opt _ _ _ _::_=>simp [AV.czs,AV.cz,hC]
 | .agg _::_=>simp [AV.czs,AV.cz,hC]
 | .tup _::_=>simp [AV.czs,AV.cz,hC]
 | .fn _ _::_=>simp [AV.czs,AV.cz,hC]
theorem RT {f:FuncId} {caps:List AV} (h:hC caps=false):iM (.fn f caps)=some (f,[],caps):=by
 have _:=G
 match caps with
 | []=>rfl
 | .gd _ _::_=>simp [hC] at h
 | .any::_=>rfl
 | .cv _::_=>rfl
 | .ptr _ _::_=>rfl
 | .own _ _::_=>rfl
 | .opt _ _ _ _::_=>rfl
 | .agg _::_=>rfl
 | .tup _::_=>rfl
 | .fn _ _::_=>rfl
theorem RU (m:Emb) {x:AV} {f:FuncId} {pre caps:List AV} (h:iM x=some (f,pre,caps)):iM (x.cz m)=some (f,AV.czs m pre,AV.czs m caps):=by
 unfold iM at h
 split at h
 ·rename_i g cs
  cases h
  have:AV.czs m (cs.map .cv)=cs.map .cv:=by simp [AV.czs_eq,AV.cz]
  simp [AV.cz,iM,this,AV.czs]
 ·cases h;simp [AV.cz,AV.czs,iM]
 ·split at h
  ·cases h
  ·rename_i hmk
   cases h
   simp only [AV.cz]
   rw [RT (XQ m (eq_false_of_ne_true hmk))]
   rfl
 ·cases h
theorem NI {nb nv:Nat} {x:AV} {f:FuncId} {pre caps:List AV} (hx:AV.inn nb nv x=true) (h:iM x=some (f,pre,caps)):AV.inns nb nv pre=true∧AV.inns nb nv caps=true:=by
 unfold iM at h
 split at h
 ·cases h
  refine ⟨rfl,?_⟩
  rw [AV.inns_eq,List.all_eq_true]
  intro y hy
  obtain ⟨cc,_,rfl⟩:=List.mem_map.1 hy
  rfl
 ·cases h
  simp only [AV.inn,AV.inns,Bool.true_and] at hx
  exact ⟨hx,rfl⟩
 ·split at h
  ·cases h
  ·cases h
   simp only [AV.inn] at hx
   exact ⟨rfl,hx⟩
 ·cases h
theorem XR {k:Nat} {et:TypeId} {b:Nat} {out:List CV} (h:aEA k et b out=true):out=[.row k [],.fn et [],.fn b []]:=by
 have _:=G
 unfold aEA at h
 split at h
 ·simp only [Bool.and_eq_true,beq_iff_eq] at h
  obtain ⟨rfl,rfl,rfl⟩:=h
  rfl
 ·cases h
theorem aCQ (hM:Fns P sg M) {F:Fence} {n:Nat} (hF:Free F) {lk:Lk} {m:Emb} {s:SS} {st:St} {ops:List Oper} {o:Oper} {rest:List Oper} {r:Ou} {Q:St→Prop} {next:SS→Option Ou} {f:FuncId} {args:Array Operand} {ts:Array TypeId} (hE:Em m s st) (hw:Wants ops o st true) (hd:cL lk o.dst=true)
  (hop:o.op=.call { callee:=.value (.func f),args:=args,argTypes:=ts }) (h:(aEB P sg M lk s f (args.toList.map s.ev) o.type fun i v=>next (s.put o.dst (.own i v.ver) s.B (s.V.set i v)))=some r)
  (hk:∀ m' s' st',next s'=some r→Em m' s' st'→Adv lk m s st m' s' st'→cK F n P ops.toArray rest st' Q):cK F n P ops.toArray (o::rest) st Q:=by
 unfold aEB at h
 split at h
 case h_2=>cases h
 rename_i et k by_ hsg _
 split at h
 case h_2=>cases h
 rename_i i u c k' x hxs
 split at h
 case h_2=>cases h
 rename_i v hv
 split at h
 case isFalse=>cases h
 rename_i hc
 simp only [Bool.and_eq_true,beq_iff_eq,Bool.not_eq_true'] at hc
 obtain ⟨hsl,rfl,rfl,rfl,rfl,hxl,hlk⟩:=hc
 obtain ⟨out,h1,h2⟩:=cS h
 obtain ⟨h3,h4⟩:=aH h2
 obtain ⟨h5,h6⟩:=aH h4
 rw [XR h3] at h1
 simp only [Bool.and_eq_true,decide_eq_true_eq] at h5
 obtain ⟨hen,hI⟩:=hM.ins f v.k v.T by_ hsg h1
 have hil:=(List.getElem?_eq_some_iff.1 hv).1
 have hv1:=hE.m.v i v hv (.inl (Vec.sl_live hsl))
 have hargs:args.toList.map st.ev=[.own (m.fv i) ((v.cz m i).ver),.cv (.val (.int .i64 c)),.cv (.row v.k [x])]:=by
  have:=bP hE args.toList
  rw [this,hxs]
  simp [AV.czs,AV.cz,Vec.cz]
 have hcall:=hI st.B st.V (m.fv i) (v.cz m i) c x hv1 hsl rfl rfl h5.1 h5.2.1 h5.2.2 hxl
 refine cQ hw (nD hF hop (f:=f) (caps:=[]) (by simp [St.ev,aV]) (enters hen) ?_)
 rw [List.append_nil,hargs]
 refine CallP.mono hcall ?_
 rintro r' B' V' ⟨rfl,rfl,rfl⟩
 have hA:(AV.own i (v.ver+1)).cz m=.own (m.fv i) ((v.cz m i).ver+1):=by simp [AV.cz,Vec.cz,Nat.add_assoc]
 have hV:(⟨(v.cz m i).live,(v.cz m i).T,(v.cz m i).k,(v.cz m i).ver+1,(v.cz m i).es.take c.toNat++x::(v.cz m i).es.drop c.toNat⟩:Vec)=(⟨v.live,v.T,v.k,v.ver+1,v.es.take c.toNat++x::v.es.drop c.toNat⟩:Vec).cz m i:=by simp [Vec.cz,Nat.add_assoc]
 rw [hV,← hA]
 have hlk':¬lk.v.contains i=true:=by rw [hlk];simp
 refine hk m _ _ h6 (hE.put (hE.m.setV hil) (Emb.Up.refl _) (fun _ _=>rfl) (Nat.le_refl _) (by simp) (by simpa [AV.inn] using hil) o.dst)
  (Adv.put hd (Stp.setV hE.m hil _) (Nat.le_refl _) (by simp) (fun _ _ _=>rfl) (gI hlk') (fun _ _=>rfl))
theorem XS {k:Nat} {hdr:Bool} {out:List CV} (h:xN k hdr out=true):∃ es',out=[.row k es',.val (.bool hdr)]:=by
 have _:=G
 unfold xN at h
 split at h
 ·simp only [Bool.and_eq_true,beq_iff_eq] at h
  obtain ⟨rfl,rfl⟩:=h
  exact ⟨_,rfl⟩
 ·cases h
theorem aCR (hM:Fns P sg M) {F:Fence} {n:Nat} (hF:Free F) {lk:Lk} {m:Emb} {s:SS} {st:St} {ops:List Oper} {o:Oper} {rest:List Oper} {r:Ou} {Q:St→Prop} {next:SS→Option Ou} {hdr:Bool} {f:FuncId} {args:Array Operand} {ts:Array TypeId} (hE:Em m s st) (hw:Wants ops o st true) (hd:cL lk o.dst=true)
  (hop:o.op=.call { callee:=.value (.func f),args:=args,argTypes:=ts }) (h:(aEC sg M lk s hdr f (args.toList.map s.ev) fun x i v=>next (s.put o.dst x s.B (s.V.set i v)))=some r)
  (hk:∀ m' s' st',next s'=some r→Em m' s' st'→Adv lk m s st m' s' st'→cK F n P ops.toArray rest st' Q):cK F n P ops.toArray (o::rest) st Q:=by
 unfold aEC at h
 split at h
 case h_2=>cases h
 rename_i hsg
 split at h
 case h_2=>cases h
 rename_i i u ys hxs
 split at h
 case h_2=>cases h
 rename_i v cs hv hcs
 split at h
 case isFalse=>cases h
 rename_i hc
 simp only [Bool.and_eq_true,beq_iff_eq,Bool.not_eq_true'] at hc
 obtain ⟨hsl,rfl,hlk⟩:=hc
 obtain ⟨out,h1,h2⟩:=cS h
 obtain ⟨h3,h6⟩:=aH h2
 obtain ⟨es',rfl⟩:=XS h3
 obtain ⟨hen,hI⟩:=hM.mtt f v.T v.k cs v.es es' hdr hsg h1
 have hil:=(List.getElem?_eq_some_iff.1 hv).1
 have hv1:=hE.m.v i v hv (.inl (Vec.sl_live hsl))
 have hargs:args.toList.map st.ev=.own (m.fv i) ((v.cz m i).ver)::cs.map .cv:=by
  have:=bP hE args.toList
  rw [this,hxs,AV.czs_eq,List.map_cons,cM hcs]
  simp [AV.cz,Vec.cz]
 have hcall:=hI st.B st.V (m.fv i) (v.cz m i) hv1 hsl rfl rfl rfl
 refine cQ hw (nD hF hop (f:=f) (caps:=[]) (by simp [St.ev,aV]) (enters hen) ?_)
 rw [List.append_nil,hargs]
 refine CallP.mono hcall ?_
 rintro r' B' V' ⟨rfl,rfl,rfl⟩
 have hlk':¬lk.v.contains i=true:=by rw [hlk];simp
 have hA:(if hdr=true then AV.own i (v.ver+1) else AV.tup []).cz m=(if hdr=true then AV.own (m.fv i) ((v.cz m i).ver+1) else AV.tup []):=by
  cases hdr <;> simp [AV.cz,AV.czs,Vec.cz,Nat.add_assoc]
 have hV:(⟨(v.cz m i).live,(v.cz m i).T,(v.cz m i).k,if hdr=true then (v.cz m i).ver+1 else (v.cz m i).ver,es'⟩:Vec)=(⟨v.live,v.T,v.k,if hdr=true then v.ver+1 else v.ver,es'⟩:Vec).cz m i:=by
  cases hdr <;> simp [Vec.cz,Nat.add_assoc]
 rw [hV,← hA]
 have hin:AV.inn s.B.length (s.V.set i (⟨v.live,v.T,v.k,if hdr=true then v.ver+1 else v.ver,es'⟩:Vec)).length (if hdr=true then AV.own i (v.ver+1) else AV.tup [])=true:=by
  cases hdr
  ·rfl
  ·simpa [AV.inn] using hil
 refine hk m _ _ h6 (hE.put (hE.m.setV hil) (Emb.Up.refl _) (fun _ _=>rfl) (Nat.le_refl _) (by simp) hin o.dst)
  (Adv.put hd (Stp.setV hE.m hil _) (Nat.le_refl _) (by simp) (fun _ _ _=>rfl) (gI hlk') (fun _ _=>rfl))
def Yls (P:Program) (M:Den):Prop:=∀ (l:Nat) (sh:YSh) (es:List (List CV)) (x out:List CV),M ghT (.val (.func (.yield l) #[] #[])::shC sh::.row 0 es::x)=some out→rP P l sh es x (cB (out.getD 0 dC)) (cR (out.getD 1 dC))
theorem aCS (hY:Yls P M) {F:Fence} {n:Nat} (hF:Free F) {lk:Lk} {m:Emb} {s:SS} {st:St} {ops:List Oper} {o:Oper} {rest:List Oper} {r:Ou} {Q:St→Prop} {next:SS→Option Ou} {x:Operand} {args:Array Operand} {ts:Array TypeId} {sh:YSh} (hE:Em m s st) (hw:Wants ops o st true) (hd:cL lk o.dst=true)
  (hop:o.op=.call { callee:=.value x,args:=args,argTypes:=ts }) (h:(aED M lk s sh (s.ev x) (args.toList.map s.ev) fun b gv=>next (s.put o.dst (.cv (.val (.bool b))) s.B (s.V.set 0 gv)))=some r)
  (hk:∀ m' s' st',next s'=some r→Em m' s' st'→Adv lk m s st m' s' st'→cK F n P ops.toArray rest st' Q):cK F n P ops.toArray (o::rest) st Q:=by
 unfold aED at h
 split at h
 case h_2=>cases h
 rename_i l hx
 split at h
 case h_2=>cases h
 rename_i gv b cs hg hcs
 split at h
 case isFalse=>cases h
 rename_i hc
 simp only [Bool.and_eq_true,beq_iff_eq,Bool.not_eq_true'] at hc
 obtain ⟨hgT,hlk⟩:=hc
 obtain ⟨hb,h1⟩:=aH h
 obtain ⟨out,h2,h3⟩:=cS h1
 subst hb
 have hil:=(List.getElem?_eq_some_iff.1 hg).1
 have hv1:=hE.m.v 0 gv hg (.inr hgT)
 have hxv:st.ev x=.cv (.val (.func (.yield l) #[] #[])):=by rw [hE.ev,hx];simp [AV.cz]
 have hargs0:args.toList.map st.ev=AV.czs m (args.toList.map s.ev):=bP hE args.toList
 have hargs:aDR st sh (args.toList.map st.ev) cs:=by
  rw [hargs0]
  unfold aAT at hcs
  split at hcs
  ·rename_i sc
   split at hcs
   ·rename_i l' hl
    cases hcs
    exact ((dV hE.m hl).2 rfl).1
   ·cases hcs
  ·rename_i T k
   split at hcs
   ·rename_i i g hxs
    split at hcs
    ·rename_i v hv
     split at hcs
     ·rename_i hcc
      simp only [Bool.and_eq_true,beq_iff_eq] at hcc
      obtain ⟨c1,c2,c3,c4⟩:=hcc
      simp only [Option.some.injEq,Prod.mk.injEq] at hcs
      obtain ⟨c5,rfl⟩:=hcs
      have hv2:=hE.m.v i v hv (.inl (Vec.sl_live c1))
      refine ⟨m.fv i,v.cz m i,?_,hv2,c1,c3,c4,rfl,c5⟩
      rw [hxs];simp [AV.czs,AV.cz,Vec.cz,c2]
     ·cases hcs
    ·cases hcs
   ·cases hcs
 have hys:=hY l sh gv.es cs out h2
 intro n0 w0 e a w Qr hr hkk
 have h0:m.fv 0=0:=(hr.mem.hid.gh _ _ hv1 hgT).1
 have hA:(AV.cv (.val (.bool (cB (out.getD 0 dC))))).cz m=.cv (.val (.bool (cB (out.getD 0 dC)))):=by simp [AV.cz]
 have hlk':¬lk.v.contains 0=true:=by rw [hlk];simp
 have hgo:cK F n P ops.toArray (o::rest) st Q:=by
  have hv0:st.V[0]? = some (gv.cz m 0):=by rw [← hv1,h0]
  refine cQ hw (QZ hF hop hxv hv0 (show (gv.cz m 0).T=ghT from hgT) hargs hys ?_)
  have hV:st.V.set 0 ⟨(gv.cz m 0).live,(gv.cz m 0).T,(gv.cz m 0).k,(gv.cz m 0).ver,cR (out.getD 1 dC)⟩=st.V.set (m.fv 0) ((⟨gv.live,gv.T,gv.k,gv.ver,cR (out.getD 1 dC)⟩:Vec).cz m 0):=by rw [h0];rfl
  rw [hV,← hA]
  exact hk m _ _ h3 (hE.put (hE.m.setV hil) (Emb.Up.refl _) (fun _ _=>rfl) (Nat.le_refl _) (by simp) (by simp [AV.inn]) o.dst)
   (Adv.put hd (Stp.setV hE.m hil _) (Nat.le_refl _) (by simp) (fun _ _ _=>rfl) (gI hlk') (fun _ _=>rfl))
 exact hgo n0 w0 e a w Qr hr hkk
def aFp (P:Program) (ev:EV):Prop:=
 ∀ (F:Fence) (n:Nat),Free F→∀ (rt:SS→Option Ou),(∀ s o,rt s=some o→∃ l,o=.ret l)→∀ (c:Code) (ht:HT) (lk:Lk) (s:SS) (K:SS→Option Ou) (r:Ou) (m:Emb) (st:St) (Q:Exit→St→Prop),
  Em m s st→ev rt c ht lk s K=some r→(∀ m' s' st',K s'=some r→Em m' s' st'→Adv lk m s st m' s' st'→Q .normal st')→(∀ m' s' st',rt s'=some r→Em m' s' st'→Adv lk m s st m' s' st'→Q .ret st')→W F n P c st Q
theorem aAZ {h:Hint} {ks:List Nat} {s0:SS} {d:Option Nat} {rs:List ResultVar} (s:SS) (o:Ou) (hh:XN P h ks s0 d rs s=some o):∃ l,o=.ret l:=by
 have _:=G
 unfold XN at hh
 split at hh
 ·simp only [Option.map_eq_some_iff] at hh
  obtain ⟨l,_,rfl⟩:=hh
  exact ⟨l,rfl⟩
 ·cases hh
theorem HA (hM:Fns P sg M) (hY:Yls P M) {F:Fence} {n:Nat} (hF:Free F) {ev:EV} (hev:aFp P ev) (il:List (Option Nat×Hint×HT)):AI F n P (JV P sg M ev il):=by
 intro lk m s st ops o rest r Q next hE hw hd hh hk
 unfold JV at hh
 split at hh
 ·cases hh
 ·rename_i as hlook
  injection hh with hh
  split at hh
  ·rename_i s1 hg hs1
   exact JO hE hs1 fun m1 st1 hE1 ha1=>rQ hM hF hE1 (Wants.none hg) hd hh fun x B V m' B' V' hx he ha=>hk _ _ _ hx he (ha1.trans ha)
  ·cases hh
 ·rename_i hlook
  injection hh with hh
  split at hh
  ·rename_i f args ts hg hop
   exact aCQ hM hF hE hw hd hop hh hk
  ·cases hh
 ·rename_i hdr hlook
  injection hh with hh
  split at hh
  ·rename_i f args ts hg hop
   exact aCR hM hF hE hw hd hop hh hk
  ·cases hh
 ·rename_i hlook
  injection hh with hh
  split at hh
  ·rename_i hg
   refine rQ hM hF hE (Wants.none hg) hd hh fun x B V m' B' V' hx he ha=>?_
   split at hx
   ·rename_i c
    obtain ⟨h1,h2⟩:=aH hx
    have hc:=zA h1
    rw [← hc] at h2
    exact hk _ _ _ h2 he ha
   ·cases hx
  ·cases hh
 ·rename_i d hlook
  injection hh with hh
  split at hh
  ·rename_i c hg hget
   obtain ⟨h1,h2⟩:=aH hh
   have hc:=zA h1
   split at h2
   ·rename_i hdn
    have hget':s.get d=.cv (.ref (cF c)):=by rw [← hc];exact hget
    exact rQ hM hF (hE.set hget' hdn) (Wants.none hg) hd h2 fun x B V m' B' V' hx he ha=>hk _ _ _ hx he ((Adv.set hget').trans ha)
   ·cases h2
  ·cases hh
 ·rename_i sh hlook
  injection hh with hh
  split at hh
  ·rename_i x args ts hop
   exact aCS hY hF hE hw hd hop hh hk
  ·cases hh
 rename_i h ht _ _ _ _ _ _ hlook
 injection hh with hh
 split at hh
 case h_2=>cases hh
 rename_i x args ats hop
 split at hh
 case h_2=>cases hh
 rename_i f pre caps hcal
 split at hh
 case h_2=>cases hh
 rename_i fn hfn
 split at hh
 case h_2=>cases hh
 rename_i c hbody
 split at hh
 case isFalse=>cases hh
 rename_i hc
 simp only [Bool.and_eq_true,decide_eq_true_eq] at hc
 obtain ⟨hen,hok,hdk,hlen⟩:=hc
 obtain ⟨vs,h1,h2⟩:=XM hh
 generalize hxs:pre++(args.toList.map s.ev++caps)=xs at *
 have hargs:AV.czs m pre++(args.toList.map st.ev++AV.czs m caps)=AV.czs m xs:=by rw [← hxs,vB,vB,← bP hE]
 refine cQ hw (RS hF hop (by rw [hE.ev];exact RU m hcal) (enters hen) ?_)
 rw [hargs]
 refine yV hfn hbody fun F' n' hF'=>?_
 have hlen':(AV.czs m xs).length≤fn.ntmps:=by rw [AV.czs_eq,List.length_map];exact hlen
 rw [start_eq _ _ hlen']
 have hinx:AV.inns s.B.length s.V.length xs=true:=by
  rw [AV.inns_eq,List.all_eq_true,← hxs]
  intro y hy
  have hcv:=NI (hE.innEv x) hcal
  rcases List.mem_append.1 hy with hy | hy
  ·exact List.all_eq_true.1 (by rw [← AV.inns_eq];exact hcv.1) y hy
  rcases List.mem_append.1 hy with hy | hy
  ·obtain ⟨a,_,rfl⟩:=List.mem_map.1 hy
   exact hE.innEv a
  ·exact List.all_eq_true.1 (by rw [← AV.inns_eq];exact hcv.2) y hy
 have hE1:Em m ⟨fn.ntmps,gS 0 xs,s.B,s.V⟩ ⟨mkT fn.ntmps (gS 0 (AV.czs m xs)),st.B,st.V⟩:=by
  refine ⟨?_,qF _ _ hinx,hE.m⟩
  rw [qE,← AV.czs_eq]
 obtain ⟨o1,o2,o3,o4,o5,o6,o7,o8,o9,o10⟩:=kB hok
 have fin:∀ (m':Emb) (s':SS) (st':St),XN P h (h.keep++lk.t) s o.dst fn.results.toList s'=some (.ret vs)→Em m' s' st'→Adv (cT h lk s) m ⟨fn.ntmps,gS 0 xs,s.B,s.V⟩ ⟨mkT fn.ntmps (gS 0 (AV.czs m xs)),st.B,st.V⟩ m' s' st' →
   ∃ r',sM P st' fn.results.toList=some r'∧cK F n P ops.toArray rest (st.put o.dst r' st'.B st'.V) Q:=by
  intro m' s' st' g1 hE' ha
  unfold XN at g1
  split at g1
  case h_2=>cases g1
  rename_i ys hys
  simp only [Option.map_eq_some_iff,Ou.ret.injEq,exists_eq_right] at g1
  refine ⟨_,xP (oM hE' hys),?_⟩
  rw [← aAY]
  have hsl:∀ d,d<s.n→LeS (Go.Sx.lk (s.t.map fun p=>(p.1,p.2.cz m)) d) (Go.Sx.lk ((s.kept (h.keep++lk.t)).t.map fun p=>(p.1,p.2.cz m')) d):=by
   intro d hdn
   rw [lK (AV.cz m) (by simp [AV.cz]),lK (AV.cz m') (by simp [AV.cz])]
   simp only [SS.kept]
   rw [rM s.get]
   split
   ·rename_i hm
    have hmem:d∈h.keep++lk.t:=by simpa using hm
    have:(s.get d).cz m'=(s.get d).cz m:=AV.cz_noV (nb:=s.B.length) (nv:=s.V.length) (fun j hj=>ha.stp.up.b j (by rw [hE.m.bl];exact hj)) (fun j hj=>ha.stp.up.v j (by rw [hE.m.vl];exact hj))
     (fun j hj hcj=>ha.o j (by simp only [cT,List.mem_filter,List.mem_range,hcj];exact ⟨hj,rfl⟩) hj) _ (hE.inn d) (o1 d hmem)
    rw [this]
    simp only [SS.get,hdn,if_true]
    exact LeS.refl _
   ·simp only [AV.cz];exact LeS.any _
  let s2:SS:=⟨s.n,(s.kept (h.keep++lk.t)).t,s'.B,s'.V⟩
  let st2:St:=⟨mkT s.n ((s.kept (h.keep++lk.t)).t.map fun p=>(p.1,p.2.cz m')),st'.B,st'.V⟩
  have hE2:Em m' s2 st2:=by
   refine ⟨rfl,fun p hp=>?_,hE'.m⟩
   simp only [s2,SS.kept,List.mem_map] at hp
   obtain ⟨d,_,rfl⟩:=hp
   exact AV.inn_mono ha.bl ha.vl _ (hE.inn d)
  have hE3:=hE2.put hE'.m (Emb.Up.refl _) (fun _ _=>rfl) (Nat.le_refl _) (Nat.le_refl _) (XP (GZ hE' hys)) o.dst
  have hwk:Wk (st.put o.dst ((hU ys).cz m') st'.B st'.V) (st2.put o.dst ((hU ys).cz m') st'.B st'.V):=by
   cases hdd:o.dst with
   | none =>
    simp only [St.put,st2,hE.t]
    exact NG hsl
   | some d =>
    simp only [St.put,st2,hE.t,TU]
    refine NG fun k hk=>?_
    simp only [jP]
    split
    ·exact LeS.refl _
    ·exact hsl k hk
  refine UJ hwk ?_
  have ha3:Adv (eR h lk s) m s st m' (s2.put o.dst (hU ys) s'.B s'.V) (st2.put o.dst ((hU ys).cz m') st'.B st'.V):=by
   refine ⟨ha.stp,rfl,ha.bl,ha.vl,fun d hd'=>?_,ha.b,ha.v,fun i hi hil=>ha.o i ?_ hil⟩
   ·rw [SS.put_get hdk d hd']
    exact SS.kept_get hd'
   ·simp only [cT,List.mem_filter,List.mem_range,Bool.not_eq_true']
    exact ⟨hil,o10 i hi⟩
  obtain ⟨m1,st1,q1,q2,q3⟩:=jR hE hE3 ha3 g1 hok
  exact UJ q1 (hk m1 _ st1 h2 q2 (q3.sub hok))
 refine hev F' n' hF' _ (aAZ) c _ _ _ _ _ _ _ _ hE1 h1 (fun m' s' st' g1 g2 g3=>⟨.inl rfl,fin m' s' st' g1 g2 g3⟩) (fun m' s' st' g1 g2 g3=>⟨.inr rfl,fin m' s' st' g1 g2 g3⟩)
theorem aA0 (hM:Fns P sg M) (hY:Yls P M) {F:Fence} {n:Nat} (hF:Free F) {ev:EV} (hev:aFp P ev) (il:List (Option Nat×Hint×HT)):AI F n P (aAU P sg M ev il):=by
 intro lk m s st ops o rest r Q next hE hw hd hh hk
 unfold aAU at hh
 split at hh
 ·rename_i h as ht hlook
  injection hh with hh
  split at hh
  ·rename_i s1 hg hs1
   split at hh
   ·rename_i r' hr'
    subst hh
    exact JO hE hs1 fun m1 st1 hE1 ha1=>HA hM hY hF hev [(o.dst,h,ht)] hE1 (Wants.none hg) hd hr' fun m' s' st' h1 h2 h3=>hk m' s' st' h1 h2 (ha1.trans h3)
   ·cases hh
  ·cases hh
 ·exact HA hM hY hF hev il hE hw hd hh hk
theorem JX (hM:Fns P sg M) (hY:Yls P M):∀ (k:Nat) {F:Fence} {n:Nat},Free F→∀ il,AI F n P (inN P sg M k il)
 | 0,F,n,hF,il=>aCA
 | k+1,F,n,hF,il=>by
  refine aA0 hM hY hF ?_ il
  intro F n hF rt hrt c ht lk s K r m st Q hE h hK hR
  exact lD hM hF (JX hM hY k hF) hrt c ht lk [] s K r m st Q hE h hK (fun id h vs m' s' st' h0=>by simp [pC] at h0) hR
end
end Go.Sx
namespace Go.Sx
open Go Go.RowKit
variable [G:Ghost]
structure ROw (w:World) (S:Nat→Prop) (w':World) (S':Nat→Prop):Prop where
 sub:∀ b,S b→S' b
 cell:∀ b o x,S b→w.cell? ⟨b,o,none⟩=some x→w'.cell? ⟨b,o,none⟩=some x
mutual
theorem CV.holds.monoW {w w':World} {S S':Nat→Prop} (h:ROw w S w' S'):∀ (c:CV) (v:Value),CV.holds w S c v→CV.holds w' S' c v
 | .val _,_,hv=>by have _:=G;simpa [CV.holds] using hv
 | .row k es,v,hv=>by
  simp only [CV.holds] at hv ⊢
  obtain ⟨a,cap,h1,h2,h3,h4⟩:=hv
  refine ⟨a,cap,h1,h2,h3,?_⟩
  rcases h4 with h4 | ⟨b,o,h4,h5,h6⟩
  ·exact .inl h4
  ·exact .inr ⟨b,o,h4,h.sub b h5,CV.rows.monoW h k es b o h5 h6⟩
 | .ref cs,v,hv=>by
  simp only [CV.holds] at hv ⊢
  obtain ⟨b,o,h1,h2,h3⟩:=hv
  exact ⟨b,o,h1,h.sub b h2,CV.cells.monoW h cs b o h2 h3⟩
 | .fn f caps,v,hv=>by
  simp only [CV.holds] at hv ⊢
  obtain ⟨vs,h1,h2⟩:=hv
  exact ⟨vs,h1,CV.vals.monoW h caps _ h2⟩
theorem CV.cells.monoW {w w':World} {S S':Nat→Prop} (h:ROw w S w' S'):∀ (cs:List CV) (b o:Nat),S b→CV.cells w S cs b o→CV.cells w' S' cs b o
 | [],_,_,_,_=>by have _:=G;simp [CV.cells]
 | c::cs,b,o,hb,hv=>by
  simp only [CV.cells] at hv ⊢
  obtain ⟨⟨x,h1,h2⟩,h3⟩:=hv
  exact ⟨⟨x,h.cell b o x hb h1,CV.holds.monoW h c x h2⟩,CV.cells.monoW h cs b (o+1) hb h3⟩
theorem CV.rows.monoW {w w':World} {S S':Nat→Prop} (h:ROw w S w' S') (k:Nat):∀ (es:List (List CV)) (b o:Nat),S b→CV.rows w S k es b o→CV.rows w' S' k es b o
 | [],_,_,_,_=>by have _:=G;simp [CV.rows]
 | e::es,b,o,hb,hv=>by
  simp only [CV.rows] at hv ⊢
  obtain ⟨h1,h2,h3⟩:=hv
  exact ⟨h1,CV.cells.monoW h e b o hb h2,CV.rows.monoW h k es b (o+k) hb h3⟩
theorem CV.vals.monoW {w w':World} {S S':Nat→Prop} (h:ROw w S w' S'):∀ (cs:List CV) (vs:List Value),CV.vals w S cs vs→CV.vals w' S' cs vs
 | [],[],_=>by have _:=G;simp [CV.vals]
 | c::cs,v::vs,hv=>by
  simp only [CV.vals] at hv ⊢
  exact ⟨CV.holds.monoW h c v hv.1,CV.vals.monoW h cs vs hv.2⟩
 | [],_::_,hv=>by simp [CV.vals] at hv
 | _::_,[],hv=>by simp [CV.vals] at hv
end
def Env.withS (e:Env) (S':Nat→Prop):Env:={ e with S:=S' }
@[simp] theorem Env.withS_ρ (e:Env) (S':Nat→Prop):(e.withS S').ρ=e.ρ:=have _:=G;rfl
@[simp] theorem Env.withS_hdr (e:Env) (S':Nat→Prop):(e.withS S').hdr=e.hdr:=have _:=G;rfl
@[simp] theorem Env.withS_S (e:Env) (S':Nat→Prop):(e.withS S').S=S':=have _:=G;rfl
@[simp] theorem Env.withS_base (e:Env) (S':Nat→Prop):(e.withS S').base=e.base:=have _:=G;rfl
mutual
theorem AV.holds.monoW {e:Env} {w w':World} {S':Nat→Prop} {ks:List Nat} (h:ROw w e.S w' S'):∀ (x:AV) (v:Value),AV.holds e w ks x v→AV.holds (e.withS S') w' ks x v
 | .any,_,hv=>by simp [AV.holds]
 | .cv c,v,hv=>by simp only [AV.holds] at hv ⊢;exact CV.holds.monoW h c v hv
 | .ptr i off,v,hv=>by simpa only [AV.holds,Env.withS_ρ,Env.withS_hdr] using hv
 | .own i u,v,hv=>by simpa only [AV.holds,Env.withS_ρ,Env.withS_hdr] using hv
 | .opt i u el o,v,hv=>by simpa only [AV.holds,Env.withS_ρ,Env.withS_hdr] using hv
 | .agg cs,v,hv=>by
  simp only [AV.holds] at hv ⊢
  obtain ⟨vs,h1,h2⟩:=hv
  exact ⟨vs,h1,AV.all.monoW h cs _ h2⟩
 | .tup cs,v,hv=>by
  simp only [AV.holds] at hv ⊢
  obtain ⟨vs,h1,h2⟩:=hv
  exact ⟨vs,h1,AV.all.monoW h cs _ h2⟩
 | .fn f cs,v,hv=>by
  simp only [AV.holds] at hv ⊢
  obtain ⟨vs,h1,h2⟩:=hv
  exact ⟨vs,h1,AV.all.monoW h cs _ h2⟩
 | .gd L x,v,hv=>by
  simp only [AV.holds] at hv ⊢
  exact ⟨fun hb=>AV.holds.monoW h x v (hv.1 hb),hv.2⟩
theorem AV.all.monoW {e:Env} {w w':World} {S':Nat→Prop} {ks:List Nat} (h:ROw w e.S w' S'):∀ (xs:List AV) (vs:List Value),AV.all e w ks xs vs→AV.all (e.withS S') w' ks xs vs
 | [],[],_=>by have _:=G;simp [AV.all]
 | x::xs,v::vs,hv=>by
  simp only [AV.all] at hv ⊢
  exact ⟨AV.holds.monoW h x v hv.1,AV.all.monoW h xs vs hv.2⟩
 | [],_::_,hv=>by simp [AV.all] at hv
 | _::_,[],hv=>by simp [AV.all] at hv
end
theorem OwnsS.isCells {w:World} {n0:Nat} {T:TypeId} {k:Nat} {v:Value} {n:Nat} {xs:List Value} (h:OwnsS w n0 T k v n xs) {g:Nat} (hg:aX v=some g):∃ o,w.heap[g]? = some o∧o.isCells=true:=by
 have _:=G
 rcases h with ⟨a,rfl,_⟩ | ⟨⟨_,h1⟩,g',h3,h4⟩
 ·cases a <;> simp [aX] at hg
 ·rw [hg] at h3;cases h3
  rcases h1 with ⟨rfl,_⟩ | ⟨g2,cap,cur,a1,a2,a3,a4⟩
  ·simp [aX] at hg
  ·rw [a1] at h4
   simp only [Value.ownBlock,Option.some.injEq] at h4
   subst h4
   exact ⟨_,a3,rfl⟩
def NJ (V:List Vec):Prop:=∀ (i:Nat) (x:Vec),V[i]? = some x→x.live=true→x.T<aI
theorem Rel.turn {n0:Nat} {w0:World} {e:Env} {st:St} {a a':Act} {w w':World} {row:Option Nat} {S':Nat→Prop} (h:Rel n0 w0 e st a w) (hg:w.grownBy w' row) (hr:∀ r,row=some r→n0≤r∧∃ o:Obj,w.heap[r]? = some o∧o.isCells=false) (hH:∀ r,row=some r→e.H r=none) (hHS:∀ b,S' b→e.S b∨e.H b=none)
  (hsub:∀ b,e.S b→S' b) (hnew:∀ b,S' b→e.S b∨(b<w.heap.size∧∃ o:Obj,w.heap[b]? = some o∧o.isCells=false)) (ha:a'.tmps=a.tmps)
  (hnm:∀ (i:Nat) (x:Vec),st.V[i]? = some x→x.live=true→x.T<aI∨∀ g,aX (e.hdr i x.ver)=some g→row≠some g∧(S' g→e.S g)):Rel n0 w0 (e.withS S') st a' w':=by
 have hm:=h.mem
 have same:∀ (b:Nat) (o:Obj),w.heap[b]? = some o→o.isCells=true→w'.heap[b]? = some o:=by
  intro b o hb hc
  refine (hg.block b (Array.getElem?_eq_some_iff.1 hb).1 fun he=>?_).trans hb
  obtain ⟨_,o',h1,h2⟩:=hr b he.symm
  rw [hb] at h1;cases h1;rw [hc] at h2;cases h2
 have hro:ROw w e.S w' S':=by
  refine ⟨hsub,fun b o x _ hc=>?_⟩
  unfold World.cell? at hc
  cases hb:w.heap[b]? with
  | none=>simp [hb] at hc
  | some ob =>
   have hcell:ob.isCells=true:=by cases ob <;> simp_all [Obj.isCells]
   have:=same b ob hb hcell
   unfold World.cell?
   simp only [hb] at hc
   simp only [this]
   exact hc
 have nS:∀ (b:Nat) (o:Obj),w.heap[b]? = some o→o.isCells=true→¬e.S b→¬S' b:=by
  intro b o hb hc hn hs
  rcases hnew b hs with h' | ⟨_,o',h1,h2⟩
  ·exact hn h'
  ·rw [hb] at h1;cases h1;rw [hc] at h2;cases h2
 have hcap:∀ b,w.heap[b]? = none→w.heap.size≤b:=fun b hb=>by simpa using hb
 refine ⟨?_,h.sc,?_⟩
 ·rw [ha];exact AV.all.monoW hro _ _ h.tm
 ·refine ⟨fun i b hi hl=>?_,hm.boxsc,fun i b hi hl=>?_,hm.boxinj,fun i x hi hl=>?_,fun i x g hi hl hgx=>?_,hm.vecbox,hm.vecinj,fun b hb=>?_,?_,?_,hm.bl,hm.hid.of rfl ⟨rfl,rfl⟩ hHS (SameG.refl _) (fun b hb hn=>hg.block b hb fun he=>hn (hH b he.symm)) (fun i b hb hl=>.inl ⟨i,b,hb,hl,rfl⟩) (fun i x g hx hl hg=>.inl ⟨i,x,hx,hl,hg⟩)⟩
  ·obtain ⟨vs,h1,h2⟩:=hm.box i b hi hl
   exact ⟨vs,same _ _ h1 rfl,AV.all.monoW hro _ _ h2⟩
  ·obtain ⟨vs,h1,_⟩:=hm.box i b hi hl
   obtain ⟨h2,h3⟩:=hm.boxlo i b hi hl
   exact ⟨h2,nS _ _ h1 rfl h3⟩
  ·obtain ⟨xs,h1,h2,h3⟩:=hm.vec i x hi hl
   refine ⟨xs,h1.keep fun g hgx=>?_,CV.vals.monoW hro _ _ h2,h3⟩
   show w'.heap[g]? = w.heap[g]?
   rcases hnm i x hi hl with hT | hT
   ·obtain ⟨o,q1,q2⟩:=(h1.s hT).isCells hgx
    rw [same g o q1 q2,q1]
   ·exact hg.block g (h1.lt g hgx).2 fun he=>(hT g hgx).1 he.symm
  ·obtain ⟨xs,h1,h2,h3⟩:=hm.vec i x hi hl
   rcases hnm i x hi hl with hT | hT
   ·obtain ⟨o,q1,q2⟩:=(h1.s hT).isCells hgx
    exact nS _ _ q1 q2 (hm.vecS i x g hi hl hgx)
   ·exact fun hs=>hm.vecS i x g hi hl hgx ((hT g hgx).2 hs)
  ·rcases hnew b hb with h' | ⟨h1,_⟩
   ·exact Nat.lt_of_lt_of_le (hm.ro b h') hg.size
   ·exact Nat.lt_of_lt_of_le h1 hg.size
  ·exact hm.below.grown hg hm.nbase fun k hk=>Nat.le_trans (e.nb_le n0) (hr k hk).1
  ·exact Nat.le_trans hm.base hg.size
theorem Rel.act {n0:Nat} {w0:World} {e:Env} {st:St} {a a':Act} {w:World} (h:Rel n0 w0 e st a w) (ha:a'.tmps=a.tmps):Rel n0 w0 e st a' w:=⟨by rw [ha];exact h.tm,h.sc,h.mem⟩
theorem Ext.turn {e:Env} {w:World} {nB:Nat} {vs ks:List Nat} {e':Env} {w':World} {nB':Nat} {vs' ks':List Nat} {w'':World} {row:Option Nat} {S':Nat→Prop} (h:Ext e w nB vs ks e' w' nB' vs' ks') (hg:w'.grownBy w'' row) (hr:∀ r,row=some r→¬e.S r) (hlt:∀ b,e.S b→b<w'.heap.size)
  (hsub:∀ b,e.S b→S' b) (hnew:∀ b,S' b→e'.S b∨e.base≤b):Ext e w nB vs ks (e'.withS S') w'' nB' vs' ks':=have _:=G;
 ⟨⟨hsub,fun b hb=>(hg.block b (hlt b hb) fun he=>hr b he.symm hb).trans (h.ro.same b hb)⟩,h.ρ,h.hdr,h.nB,h.nV,h.verle,h.kseq,Nat.le_trans h.sz hg.size,
  fun b hb=>(hnew b hb).elim (fun h'=>h.snew b h') .inr,h.be,h.he,h.ye⟩
def dmV (V:List Vec):List Vec:=V.map fun v=>⟨v.live&&decide (v.T<aI),v.T,v.k,v.ver,v.es⟩
def dmS (st:St):St:=⟨st.t,st.B,dmV st.V⟩
theorem CX (V:List Vec):vers (dmV V)=vers V:=by have _:=G;simp [dmV,vers,Function.comp]
theorem JY (V:List Vec):kss (dmV V)=kss V:=by have _:=G;simp [dmV,kss,Function.comp]
theorem xQ (V:List Vec):NJ (dmV V):=by
 have _:=G
 intro i x hi hl
 simp only [dmV,List.getElem?_map,Option.map_eq_some_iff] at hi
 obtain ⟨v,_,rfl⟩:=hi
 simp only [Bool.and_eq_true,decide_eq_true_eq] at hl
 exact hl.2
theorem Rel.dm {n0:Nat} {w0:World} {e:Env} {st:St} {a:Act} {w:World} (h:Rel n0 w0 e st a w):Rel n0 w0 e (dmS st) a w:=by
 have hm:=h.mem
 have hget:∀ (i:Nat) (x:Vec),(dmV st.V)[i]? = some x→x.live=true→st.V[i]? = some x:=by
  intro i x hi hl
  simp only [dmV,List.getElem?_map,Option.map_eq_some_iff] at hi
  obtain ⟨v,h1,rfl⟩:=hi
  simp only [Bool.and_eq_true,decide_eq_true_eq] at hl
  rw [h1]
  cases v
  simp_all
 refine ⟨?_,?_,?_⟩
 ·show AV.all e w (kss (dmV st.V)) st.t _
  rw [JY];exact h.tm
 ·show AV.scos st.B.length (vers (dmV st.V)) st.t
  rw [CX];exact h.sc
 ·refine ⟨fun i b hi hl=>?_,fun i b hi=>?_,hm.boxlo,hm.boxinj,fun i x hi hl=>hm.vec i x (hget i x hi hl) hl,fun i x g hi hl=>hm.vecS i x g (hget i x hi hl) hl,fun i x j b g hi hl=>hm.vecbox i x j b g (hget i x hi hl) hl,fun i x j y g hi hl hj hjl=>hm.vecinj i x j y g (hget i x hi hl) hl (hget j y hj hjl) hjl,hm.ro,hm.below,hm.base,hm.bl,hm.hid.of rfl ⟨rfl,rfl⟩ (fun _ h=>.inl h) (fun i x hx hT=>by
   have hx:(dmV st.V)[i]? = some x:=hx
   simp only [dmV,List.getElem?_map,Option.map_eq_some_iff] at hx;obtain ⟨v,h1,rfl⟩:=hx;exact ⟨v,h1,hT,rfl⟩) (fun _ _ _=>rfl) (fun i b hb hl=>.inl ⟨i,b,hb,hl,rfl⟩) (fun i x g hx hl hg=>.inl ⟨i,x,hget i x hx hl,hl,hg⟩)⟩
  ·show ∃ vs:Array Value,w.heap[e.ρ i]? = some (.cells vs b.T (0,0))∧AV.all e w (kss (dmV st.V)) b.cs vs.toList
   rw [JY];exact hm.box i b hi hl
  ·show AV.scos st.B.length (vers (dmV st.V)) b.cs
   rw [CX];exact hm.boxsc i b hi
theorem ExtS.dm {e:Env} {st:St} {w:World} {e':Env} {st':St} {w':World} (h:ExtS e st w e' st'.B st'.V w'):ExtS e st w e' (dmS st').B (dmS st').V w':=by
 show Ext e w _ _ _ e' w' st'.B.length (vers (dmV st'.V)) (kss (dmV st'.V))
 rw [CX,JY];exact h
def tT (D:Nat):Deferred:={ target:=.collected D,args:=#[] }
def Mk (m0:Nat) (e:Env) (w:World) (ds:List Deferred):Prop:=∃ Ds:List Nat,ds=Ds.map tT∧Ds.Nodup∧∀ D∈Ds,m0≤D∧e.S D∧w.heap[D]? = some (.deferred (some []))
theorem Mk.mono {m0:Nat} {e e':Env} {w w':World} {ds:List Deferred} (h:Mk m0 e w ds) (hx:RO w e.S w' e'.S):Mk m0 e' w' ds:=by
 have _:=G
 obtain ⟨Ds,h1,h2,h3⟩:=h
 exact ⟨Ds,h1,h2,fun D hD=>by obtain ⟨q1,q2,q3⟩:=h3 D hD;exact ⟨q1,hx.sub D q2,(hx.same D q2).trans q3⟩⟩
theorem NK {F:Fence} {n n':Nat} {P:Program} {c:Code} {Q:Exit→Act→World→Prop} {a:Act} {w:World} (hF:F.depth=none) (h:c.wpIn F n' P Q a w):c.wpIn F n P Q a w:=have _:=G;
 fun b k cs h1 h2 _=>h b k cs h1 h2 fun d hd=>by rw [hF] at hd;cases hd
def W2 (F:Fence) (n:Nat) (P:Program) (c:Code) (st:St) (Q:Exit→St→Prop):Prop:=
 ∀ n0 w0 m0 e a w (Qr:Exit→Act→World→Prop),Rel n0 w0 e st a w→Mk m0 e w a.defers→m0≤w.heap.size∧e.y=false∧e.H=(fun _=>none) →
  (∀ x e' st' a' w',Q x st'→Rel n0 w0 e' st' a' w'→Mk m0 e' w' a'.defers→ExtS e st w e' st'.B st'.V w'→Qr x a' w')→c.wpIn F n P Qr a w
section
variable {F:Fence} {n:Nat} {P:Program}
theorem W.w2 {c:Code} {st:St} {Q:Exit→St→Prop} (h:W F n P c st Q):W2 F n P c st Q:=
 fun n0 w0 m0 e a w Qr hr hm hm0 hk=>h n0 w0 e a w Qr hr fun x e' st' a' w' hq hrel hdf hx=>hk x e' st' a' w' hq hrel (by rw [hdf];exact hm.mono hx.ro) hx
theorem aEE {x y:Code} {st:St} {Q:Exit→St→Prop} (h:W2 F n P x st fun ex st'=>match ex with | .normal=>W2 F n P y st' Q | ex=>Q ex st'):W2 F n P (.seq x y) st Q:=by
 intro n0 w0 m0 e a w Qr hr hm hm0 hk
 refine wpIn_seq (h n0 w0 m0 e a w _ hr hm hm0 ?_)
 intro ex e' st' a' w' hq hrel hm' hx
 cases ex with
 | normal=>exact hq n0 w0 m0 e' a' w' Qr hrel hm' ⟨Nat.le_trans hm0.1 hx.sz,hx.ye.trans hm0.2.1,(hx.he hm0.2.1).trans hm0.2.2⟩ fun x e'' st'' a'' w'' hq' hrel' hm'' hx'=>hk x e'' st'' a'' w'' hq' hrel' hm'' (hx.trans hx')
 | _=>exact hk _ e' st' a' w' hq hrel hm' hx
theorem aCT {c:Operand} {x y:Code} {st:St} {Q:Exit→St→Prop} {b:Bool} (hc:st.ev c=.cv (.val (.bool b))) (ht:b=true→W2 F n P x st Q) (hf:b=false→W2 F n P y st Q):W2 F n P (.cond c x y) st Q:=by
 intro n0 w0 m0 e a w Qr hr hm hm0 hk
 have h1:=(hr.ev c).1
 rw [hc] at h1
 simp only [AV.holds,CV.holds] at h1
 exact wpIn_cond_split h1.1 (fun hb=>ht hb n0 w0 m0 e a w Qr hr hm hm0 hk) (fun hb=>hf hb n0 w0 m0 e a w Qr hr hm hm0 hk)
theorem NL {id:Nat} {c:Code} {st:St} {Q:Exit→St→Prop} (h:W2 F n P c st fun ex st'=>match ex with | .exit i=>if i=id then Q .normal st' else Q (.exit i) st' | ex=>Q ex st'):W2 F n P (.block id c) st Q:=by
 intro n0 w0 m0 e a w Qr hr hm hm0 hk
 refine wpIn_block (h n0 w0 m0 e a w _ hr hm hm0 ?_)
 intro ex e' st' a' w' hq hrel hdf hx
 cases ex with
 | exit i =>
  simp only [Exit.inBlock]
  split
  ·rename_i hi
   simp only [hi,if_true] at hq
   exact hk _ e' st' a' w' hq hrel hdf hx
  ·rename_i hi
   simp only [hi,if_false] at hq
   exact hk _ e' st' a' w' hq hrel hdf hx
 | _=>exact hk _ e' st' a' w' hq hrel hdf hx
theorem aA1 {c:Code} {st s1:St} {Q:Exit→St→Prop} (hw:Wk st s1) (h:W2 F n P c s1 Q):W2 F n P c st Q:=by
 intro n0 w0 m0 e a w Qr hr hm hm0 hk
 have hww:=hw.weak hr
 have hx:ExtS e st w e s1.B s1.V w:=(Ext.refl e w st.B.length (vers st.V) (kss st.V)).weak hww (by rw [hw.Bl];exact Nat.le_refl _) (by rw [hw.V];simp)
 exact h n0 w0 m0 e a w Qr (hr.weak hww) hm hm0 fun ex e' st' a' w' hq hrel hdf hx'=>hk ex e' st' a' w' hq hrel hdf (hx.trans hx')
theorem aDW {c:Code} {st:St} {Q:Exit→St→Prop} (h:W2 F n P c (dmS st) Q):W2 F n P c st Q:=by
 intro n0 w0 m0 e a w Qr hr hm hm0 hk
 exact h n0 w0 m0 e a w Qr hr.dm hm hm0 fun ex e' st' a' w' hq hrel hdf hx'=>hk ex e' st' a' w' hq hrel hdf ((ExtS.dm (Ext.refl e w st.B.length (vers st.V) (kss st.V):ExtS e st w e st.B st.V w)).trans hx')
end
end Go.Sx
namespace Go.Sx
open Go Go.RowKit
variable [G:Ghost]
section
variable {F:Fence} {n:Nat} {P:Program}
theorem NM (W:World) (l:Nat) (o:Obj):W.grownBy (W.putObj l o) (some l):=have _:=G;grownBy_putObj' W l o
theorem vF {fn:Func} {tmps:Array Value} {R:Ending→World→Prop} {m0 n0:Nat} {w0:World} {e0 e:Env} {st0 st:St} {a:Act} {wA:World} (hn0:n0≤m0) (hS:∀ b,e0.S b→b<m0) (hH:∀ b,m0≤b→e0.H b=none) (hy:e0.y=false) :
  ∀ (Ds:List Nat) (w:World),Ds.Nodup→(∀ D∈Ds,m0≤D∧e.S D∧w.heap[D]? = some (.deferred (some [])))→Rel n0 w0 e st a w→ExtS e0 st0 wA e st.B st.V w→m0≤w.heap.size →
   (∀ w',Rel n0 w0 e st a w'→ExtS e0 st0 wA e st.B st.V w'→LeavesIn F n P fn tmps R [] .returning w')→LeavesInM F n P fn tmps R (Ds.map tT) .returning w
 | [],w,_,_,hr,hx,_,hk=>by simpa [LeavesInM] using hk w hr hx
 | D::Ds,w,hnd,hD,hr,hx,hsz,hk=>by
  obtain ⟨h1,hDS,h2⟩:=hD D (by simp)
  simp only [List.map_cons,LeavesInM]
  refine ⟨by simp,.inl ⟨D,_,rfl,run_takeDeferred h2,?_⟩⟩
  have hg:=NM w D (.deferred none)
  have hrow:∀ r,(some D:Option Nat)=some r→n0≤r∧∃ o:Obj,w.heap[r]? = some o∧o.isCells=false:=by
   intro r he;cases he;exact ⟨Nat.le_trans hn0 h1,_,h2,rfl⟩
  have hr':Rel n0 w0 (e.withS e.S) st a (w.putObj D (.deferred none)):=hr.turn hg hrow (by intro r he;cases he;rw [hx.he hy];exact hH _ h1) (fun _ h=>.inl h) (fun _ h=>h) (fun _ h=>.inl h) rfl (fun i x hi hl=>.inr fun g hgx=>⟨fun he=>by cases he;exact hr.mem.vecS i x D hi hl hgx hDS,fun h=>h⟩)
  have hx':Ext e0 wA st0.B.length (vers st0.V) (kss st0.V) (e.withS e.S) (w.putObj D (.deferred none)) st.B.length (vers st.V) (kss st.V):=
   hx.turn hg (by intro r he hb;cases he;have:=hS _ hb;omega) (fun b hb=>by have:=hS b hb;omega) (fun b hb=>hx.ro.sub b hb) (fun b hb=>.inl hb)
  rw [List.nodup_cons] at hnd
  refine vF hn0 hS hH hy Ds _ hnd.2 (fun D' hD'=>?_) hr' hx' (Nat.le_trans hsz hg.size) hk
  obtain ⟨q1,q0,q2⟩:=hD D' (by simp [hD'])
  refine ⟨q1,q0,?_⟩
  have hne:D'≠D:=by rintro rfl;exact hnd.1 hD'
  exact (World.putObj_heap_other hne).trans q2
theorem zB {f:FuncId} {fn:Func} {c:Code} {args:List AV} {K:AV→List Box→List Vec→Prop} (hf:P.funcs[f]? = some fn) (hb:fn.body=some c)
  (h:∀ (F:Fence) (n:Nat),Free F→F.round=none→W2 F n P c ⟨args++List.replicate (fn.ntmps - args.length) .any,[],[]⟩ fun ex st'=>(ex=.normal∨ex=.ret)∧∃ r,sM P st' fn.results.toList=some r∧K r st'.B st'.V) :
  IY P f args K:=by
 intro F n hF hro n0 w0 e w vs hy hm hv hs
 refine callsIn_of_wp_marks hf hb (hF.fn f) ?_ hro
 have hrel:Rel n0 w0 e ⟨args++List.replicate (fn.ntmps - args.length) .any,[],[]⟩ { tmps:=vs++Array.replicate (fn.ntmps - vs.size) undef,defers:=[] } w:=by
  have hl:vs.size=args.length:=by have:=hv.length;simpa using this
  refine ⟨?_,?_,hm⟩
  ·simp only [Array.toList_append,Array.toList_replicate,hl]
   refine hv.append ?_
   generalize fn.ntmps - args.length=k
   induction k with
   | zero=>simp [AV.all]
   | succ k ih=>simpa [List.replicate_succ,AV.all,AV.holds] using ih
  ·rw [AV.scos_iff] at hs ⊢
   intro y hy
   rcases List.mem_append.1 hy with hy | hy
   ·exact hs y hy
   ·obtain rfl:=List.eq_of_mem_replicate hy
    simp [AV.sco]
 refine h F n hF hro n0 w0 w.heap.size e _ w _ hrel ⟨[],rfl,List.nodup_nil,by simp⟩ ⟨Nat.le_refl _,hy⟩ ?_
 rintro ex e' st' a' w' ⟨hex,r,hr,hK⟩ hrel' ⟨Ds,hds,hnd,hD⟩ hx
 rcases hex with rfl | rfl
 all_goals
  show LeavesInM F n P fn a'.tmps _ a'.defers .returning w'
  rw [hds]
  refine vF (n0:=n0) (w0:=w0) (e0:=e) (e:=e') (st0:=⟨args++List.replicate (fn.ntmps - args.length) .any,[],[]⟩) (st:=st') (a:=a') (wA:=w) hm.base (fun b hb=>hm.ro b hb) (fun b hb=>hm.hid.new hb) hy.1 Ds w' hnd (fun D hd=>hD D hd) hrel' hx hx.sz ?_
  intro w'' hr2 hx2
  obtain ⟨v,a1,a2,a3⟩:=yS (fn:=fn) hr2 hr
  exact ⟨v,a1,e',st'.B,st'.V,r,v,rfl,hK,hr2.mem,hx2,a2,a3⟩
def NN (P:Program) (f:FuncId) (caps:List CV) (xs:List Int):Prop:=
 ∀ (F:Fence) (n:Nat) (S:Nat→Prop) (w:World) (lb:Array Value),Free F→F.round=none→1≤n→(∀ b,S b→b<w.heap.size)→CV.vals w S caps lb.toList →
  SeqStopsK F n P f lb (fun x:Int=>#[Value.int .i64 x]) (fun A B=>∀ b,S b→B.heap[b]? = A.heap[b]?) (fun ys=>ys=xs) (fun pre=>pre <+: xs) xs.length w
def vG (p:Nat):Code→Option (Option Nat)
 | .skip=>some none
 | .region _ ops false=>match ops.toList with
  | [o]=>match o.op,o.guard,o.dst with
   | .assign (.tmp q),none,some d=>if q=p then some (some d) else none
   | _,_,_=>none
  | _=>none
 | _=>none
def xR (p:Nat) (dd:Option Nat) (x:Int) (st:St):St:=(st.put (some p) (.cv (.val (.int .i64 x))) st.B st.V).put dd (.cv (.val (.int .i64 x))) st.B st.V
def UK (p:Nat) (dd:Option Nat) (x:Int) (a:Act):Act:=(Act.mk (a.tmps.setIfInBounds p (.int .i64 x)) []).put dd (.int .i64 x)
theorem XT {p:Nat} {dd:Option Nat} {c:Code} (hF:Free F) (h:vG p c=some dd) (x:Int) (a:Act) (hp:p<a.tmps.size) (w:World) (K:Act→World→Prop) (hK:K (UK p dd x a) w) :
  c.wpIn F n P (Exit.then K (fun _ _ _=>False)) { tmps:=a.tmps.setIfInBounds p (.int .i64 x),defers:=[] } w:=by
 have _:=G
 unfold vG at h
 split at h
 ·cases h
  exact wpIn_skip hK
 ·rename_i id ops
  split at h
  ·rename_i o hops
   split at h
   ·rename_i q d hop hg hd
    split at h
    ·rename_i hq
     cases h
     subst hq
     refine wpIn_region_list ?_
     rw [hops]
     simp only [wpListIn,Region.wanted,hg,if_true]
     refine ⟨fun f _=>hF.fn f,?_⟩
     rw [Oper.semAt_plain F _ _ (by intro c hc;rw [hc] at hop;cases hop)]
     have hx:({ tmps:=a.tmps.setIfInBounds q (.int .i64 x),defers:=[] }:Act).eval (.tmp q)=.int .i64 x:=by
      simp [Act.eval,hp]
     have:(execOp ({ tmps:=a.tmps.setIfInBounds q (.int .i64 x),defers:=[] }:Act).eval o).run P w=.ok (.value (.int .i64 x)) w:=by
      simp [execOp,hop,hx]
     rw [this]
     have hgo:K (({ tmps:=a.tmps.setIfInBounds q (.int .i64 x),defers:=[] }:Act).put o.dst (.int .i64 x)) w:=by rw [hd];exact hK
     exact hgo
    ·cases h
   ·cases h
  ·cases h
 ·cases h
theorem Rel.more {n0:Nat} {w0:World} {e:Env} {st:St} {a:Act} {w:World} (h:Rel n0 w0 e st a w) {S':Nat→Prop} (hHS:e.H=fun _=>none) (hsub:∀ b,e.S b→S' b) (hnew:∀ b,S' b→e.S b∨(b<w.heap.size∧∃ o:Obj,w.heap[b]? = some o∧o.isCells=false)) {a':Act} (ha:a'.tmps=a.tmps)
  (hnm:∀ (i:Nat) (x:Vec),st.V[i]? = some x→x.live=true→x.T<aI∨∀ g,aX (e.hdr i x.ver)=some g→S' g→e.S g) :
  Rel n0 w0 (e.withS S') st a' w:=h.turn (row:=none) (World.grownBy.refl w none) (fun _ h=>by cases h) (fun _ h=>by cases h) (fun b _=>.inr (by rw [hHS])) hsub hnew ha fun i x hi hl=>(hnm i x hi hl).imp id fun h g hg=>⟨by simp,h g hg⟩
theorem Ext.more {e:Env} {w:World} {nB:Nat} {vs ks:List Nat} {e':Env} {w':World} {nB':Nat} {vs' ks':List Nat} {S':Nat→Prop} (h:Ext e w nB vs ks e' w' nB' vs' ks') (hsub:∀ b,e.S b→S' b) (hnew:∀ b,S' b→e'.S b∨e.base≤b):Ext e w nB vs ks (e'.withS S') w' nB' vs' ks':=have _:=G;
 ⟨⟨hsub,fun b hb=>h.ro.same b hb⟩,h.ρ,h.hdr,h.nB,h.nV,h.verle,h.kseq,h.sz,fun b hb=>(hnew b hb).elim (fun h'=>h.snew b h') .inr,h.be,h.he,h.ye⟩
theorem Rel.putV {n0:Nat} {w0:World} {e:Env} {st:St} {a:Act} {w:World} (h:Rel n0 w0 e st a w) (x:Int) (d:Option Nat):Rel n0 w0 e (st.put d (.cv (.val (.int .i64 x))) st.B st.V) (a.put d (.int .i64 x)) w:=
 h.put h.mem (Ext.refl _ _ _ _ _) (by simp [AV.holds,CV.holds,Value.oneCell']) (by simp [AV.sco]) d
theorem aA2 (hF:Free F) (hro:F.round=none) {g:Operand} {ps:Array Tmp} {p:Nat} {dd:Option Nat} {assign body:Code} {st:St} {f:FuncId} {caps:List CV} {xs:List Int} (I:List Int→St→Prop) {Q:Exit→St→Prop}
  (hps:ps=#[p]) (hnm:∀ pre st',I pre st'→NJ st'.V) (hp:p<st.t.length) (hg:st.ev g=.cv (.fn f caps)) (hen:dM P f=true) (hit:NN P f caps xs) (has:vG p assign=some dd) (h0:I [] st)
  (hbody:∀ (F:Fence) (n:Nat),Free F→∀ pre x st',I pre st'→W F n P body (xR p dd x st') fun ex s2=>match ex with
   | .normal=>∃ s3,Wk ⟨st'.t,s2.B,s2.V⟩ s3∧I (pre++[x]) (dmS s3)
   | .ret=>pre++[x] <+: xs→Q .ret (dmS ⟨st'.t,s2.B,s2.V⟩)
   | _=>False)
  (hdone:∀ st',I xs st'→Q .normal st'):W2 F n P (.rangeFunc g ps assign body) st Q:=by
 intro n0 w0 m0 e a w Qr hr hm hm0 hk
 refine NK hF.depth (n':=n+3) ?_
 have hgv:=(hr.ev g).1
 rw [hg] at hgv
 simp only [AV.holds,CV.holds] at hgv
 obtain ⟨lb,hga,hlb⟩:=hgv
 have hpa:p<a.tmps.size:=by have:=hr.tm.length;simp at this;omega
 let IW:List Int→World→Prop:=fun pre W=>∃ e' st',I pre st'∧Rel n0 w0 e' st' a W∧ExtS e st w e' st'.B st'.V W
 let IX:Code→List Int→World→Prop:=fun c pre W=>c=.ret∧∃ e' st',NJ st'.V∧(pre <+: xs→Q .ret st')∧Rel n0 w0 e' st' a W∧ExtS e st w e' st'.B st'.V W
 have turn:∀ {e':Env} {st':St} {W W':World} {row:Option Nat},NJ st'.V→Rel n0 w0 e' st' a W→ExtS e st w e' st'.B st'.V W→W.grownBy W' row→(∀ r,row=some r→w.heap.size≤r∧∃ o:Obj,W.heap[r]? = some o∧o.isCells=false) →
   Rel n0 w0 (e'.withS e'.S) st' a W'∧ExtS e st w (e'.withS e'.S) st'.B st'.V W':=by
  intro e' st' W W' row hno h1 h2 hgr hrow
  refine ⟨h1.turn hgr (fun r hr'=>⟨Nat.le_trans hr.mem.base (hrow r hr').1,(hrow r hr').2⟩) (fun r hr'=>by rw [h2.he hm0.2.1];exact hr.mem.hid.new (hrow r hr').1) (fun _ h=>.inl h) (fun _ h=>h) (fun _ h=>.inl h) rfl (fun i x hi hl=>.inl (hno i x hi hl)),h2.turn hgr (fun r hr' hb=>?_) (fun b hb=>Nat.lt_of_lt_of_le (hr.mem.ro b hb) h2.sz) (fun b hb=>h2.ro.sub b hb) (fun b hb=>.inl hb)⟩
  have:=hr.mem.ro r hb;have:=(hrow r hr').1;omega
 refine wpIn_rangeFunc_ownG (F:=F) (n:=n+3) hro (by omega) hga (hF.fn f) (enters hen) (w0:=w) (hit F (n+2) e.S w lb hF hro (by omega) hr.mem.ro hlb)
  (fun h1 h2 b hb=>(h2 b hb).trans (h1 b hb)) (fun W l o o' hl ho _ _ b hb=>World.putObj_heap_other (by have:=hr.mem.ro b hb;omega)) (Below.refl _ _) (fun _=>by simp [hps])
  IW IX ?_ ?_ ⟨e,st,h0,hr,Ext.refl _ _ _ _ _⟩ (fun x=>UK p dd x a) ?_ ?_ ?_ ?_
 ·rintro pre W W' row ⟨e',st',h1,h2,h3⟩ hgr hrow
  obtain ⟨q1,q2⟩:=turn (hnm _ _ h1) h2 h3 hgr hrow
  exact ⟨_,st',h1,q1,q2⟩
 ·rintro c pre W W' row ⟨hc,e',st',hno,h1,h2,h3⟩ hgr hrow
  obtain ⟨q1,q2⟩:=turn hno h2 h3 hgr hrow
  exact ⟨hc,_,st',hno,h1,q1,q2⟩
 ·intro l x W K hK
  have:=XT (F:=F.inRound l) (n:=n+3 - 1 - 1) (P:=P) (hF.inRound l) has x a hpa W K hK
  simpa [hps] using this
 ·rintro l pre x W ⟨e',st',h1,h2,h3⟩ hlen
  let S2:Nat→Prop:=fun b=>e'.S b∨(w.heap.size≤b∧b<W.heap.size∧∃ o:Obj,W.heap[b]? = some o∧o.isCells=false)
  have hS2:∀ b,S2 b→e'.S b∨(b<W.heap.size∧∃ o:Obj,W.heap[b]? = some o∧o.isCells=false):=fun b hb=>hb.imp id fun h=>h.2
  have hbase:e'.base≤w.heap.size:=Nat.le_trans h2.mem.bl.1 hr.mem.base
  have hr1:Rel n0 w0 e' (st'.put (some p) (.cv (.val (.int .i64 x))) st'.B st'.V) ⟨a.tmps.setIfInBounds p (.int .i64 x),[]⟩ W:=(h2.putV x (some p)).act rfl
  have hr2:Rel n0 w0 e' (xR p dd x st') (UK p dd x a) W:=hr1.putV x dd
  have hsB:(xR p dd x st').B=st'.B:=by unfold xR;cases dd <;> rfl
  have hsV:(xR p dd x st').V=st'.V:=by unfold xR;cases dd <;> rfl
  have hr3:Rel n0 w0 (e'.withS S2) (xR p dd x st') (UK p dd x a) W:=hr2.more ((h3.he hm0.2.1).trans hm0.2.2) (fun _ h=>.inl h) hS2 rfl (fun i x hi hl=>.inl (hnm _ _ h1 i x (by rwa [hsV] at hi) hl))
  have hxB:ExtS e' st' W (e'.withS S2) st'.B st'.V W:=(Ext.refl _ _ _ _ _).more (fun _ h=>.inl h) (fun b hb=>hb.imp id fun h=>Nat.le_trans hbase h.1)
  refine hbody (F.inRound l) (n+3 - 1 - 1) (hF.inRound l) pre x st' h1 n0 w0 _ _ W _ hr3 ?_
  intro ex e3 s2 a2 W' hq hrel _ hx
  rw [ExtS,hsB,hsV] at hx
  have hx':ExtS e' st' W e3 s2.B s2.V W':=hxB.trans hx
  have hkeep:KeepsFrom w.heap.size W W':=⟨hx.sz,fun k o hk ho hc=>(hx.ro.same k (.inr ⟨hk,(Array.getElem?_eq_some_iff.1 ho).1,o,ho,hc⟩)).trans ho⟩
  have hback:Rel n0 w0 e3 ⟨st'.t,s2.B,s2.V⟩ a W':=⟨AV.all.mono hx' _ _ h2.sc h2.tm,hx'.scos h2.sc,hrel.mem⟩
  have hxx:ExtS e st w e3 s2.B s2.V W':=h3.trans hx'
  cases ex with
  | normal =>
   obtain ⟨s3,hw,hI⟩:=hq
   have hww:=hw.weak hback
   exact ⟨hkeep,fun b hb=>hx'.ro.same b (h3.ro.sub b hb),e3,dmS s3,hI,(hback.weak hww).dm,ExtS.dm (Ext.weak (show ExtS e st w e3 (St.mk st'.t s2.B s2.V).B (St.mk st'.t s2.B s2.V).V W' from hxx) hww (by rw [hw.Bl];exact hxx.nB) (by rw [hw.V];simpa using hxx.nV))⟩
  | ret=>exact ⟨hkeep,rfl,e3,dmS ⟨st'.t,s2.B,s2.V⟩,xQ _,hq,hback.dm,ExtS.dm (st':=⟨st'.t,s2.B,s2.V⟩) hxx⟩
  | exit i=>exact hq.elim
  | goto t=>exact hq.elim
  | panic c=>exact hq.elim
  | outgrown=>exact hq.elim
 ·rintro D ys W hD rfl ⟨e',st',h1,h2,h3⟩ hDW
  have hS':∀ b,(e'.S b∨b=D)→e'.S b∨(b<W.heap.size∧∃ o:Obj,W.heap[b]? = some o∧o.isCells=false):=fun b hb=>hb.imp id fun h=>by subst h;exact ⟨(Array.getElem?_eq_some_iff.1 hDW).1,_,hDW,rfl⟩
  have hx4:ExtS e st w (e'.withS fun b=>e'.S b∨b=D) st'.B st'.V W:=h3.more (fun b hb=>.inl (h3.ro.sub b hb)) (fun b hb=>hb.imp id fun h=>by subst h;have:=hr.mem.bl.1;have:=hr.mem.base;omega)
  refine hk .normal (e'.withS fun b=>e'.S b∨b=D) st' _ W (hdone st' h1) (h2.more ((h3.he hm0.2.1).trans hm0.2.2) (fun _ h=>.inl h) hS' rfl fun i x hi hl=>.inl (hnm _ _ h1 i x hi hl)) ?_ hx4
  obtain ⟨Ds,hds,hnd,hDs⟩:=hm
  refine ⟨D::Ds,by simp [hds,tT],?_,?_⟩
  ·rw [List.nodup_cons]
   refine ⟨fun hmem=>?_,hnd⟩
   have:=(Array.getElem?_eq_some_iff.1 (hDs D hmem).2.2).1
   omega
  ·intro D' hD'
   rcases List.mem_cons.1 hD' with rfl | hD'
   ·exact ⟨Nat.le_trans hm0.1 hD,.inr rfl,hDW⟩
   ·obtain ⟨q1,q2,q3⟩:=hDs D' hD'
    exact ⟨q1,hx4.ro.sub D' q2,(hx4.ro.same D' q2).trans q3⟩
 ·rintro D c pre W hD hpre ⟨rfl,e',st',hno,h1,h2,h3⟩ hDW
  have hS':∀ b,(e'.S b∨b=D)→e'.S b∨(b<W.heap.size∧∃ o:Obj,W.heap[b]? = some o∧o.isCells=false):=fun b hb=>hb.imp id fun h=>by subst h;exact ⟨(Array.getElem?_eq_some_iff.1 hDW).1,_,hDW,rfl⟩
  have hx4:ExtS e st w (e'.withS fun b=>e'.S b∨b=D) st'.B st'.V W:=h3.more (fun b hb=>.inl (h3.ro.sub b hb)) (fun b hb=>hb.imp id fun h=>by subst h;have:=hr.mem.bl.1;have:=hr.mem.base;omega)
  refine wpIn_ret (hk .ret (e'.withS fun b=>e'.S b∨b=D) st' _ W (h1 hpre) (h2.more ((h3.he hm0.2.1).trans hm0.2.2) (fun _ h=>.inl h) hS' rfl fun i x hi hl=>.inl (hno i x hi hl)) ?_ hx4)
  obtain ⟨Ds,hds,hnd,hDs⟩:=hm
  refine ⟨D::Ds,by simp [hds,tT],?_,?_⟩
  ·rw [List.nodup_cons]
   refine ⟨fun hmem=>?_,hnd⟩
   have:=(Array.getElem?_eq_some_iff.1 (hDs D hmem).2.2).1
   omega
  ·intro D' hD'
   rcases List.mem_cons.1 hD' with rfl | hD'
   ·exact ⟨Nat.le_trans hm0.1 hD,.inr rfl,hDW⟩
   ·obtain ⟨q1,q2,q3⟩:=hDs D' hD'
    exact ⟨q1,hx4.ro.sub D' q2,(hx4.ro.same D' q2).trans q3⟩
end
end Go.Sx
namespace Go.Sx
open Go Go.RowKit
variable [G:Ghost]
mutual
theorem AV.holds.gen {e e':Env} {w:World} {ks:List Nat} (hρ:e'.ρ=e.ρ) (hh:e'.hdr=e.hdr) (hS:e'.S=e.S):∀ (x:AV) (v:Value),AV.holds e w ks x v→AV.holds e' w ks x v
 | .any,_,_=>by have _:=G;simp [AV.holds]
 | .cv c,v,h=>by simp only [AV.holds] at h ⊢;rw [hS];exact h
 | .ptr i off,v,h=>by simp only [AV.holds] at h ⊢;rw [hρ];exact h
 | .own i u,v,h=>by simp only [AV.holds] at h ⊢;rw [hh];exact h
 | .opt i u el o,v,h=>by simp only [AV.holds] at h ⊢;rw [hh];exact h
 | .agg cs,v,h=>by simp only [AV.holds] at h ⊢;obtain ⟨vs,h1,h2⟩:=h;exact ⟨vs,h1,AV.all.gen hρ hh hS cs _ h2⟩
 | .tup cs,v,h=>by simp only [AV.holds] at h ⊢;obtain ⟨vs,h1,h2⟩:=h;exact ⟨vs,h1,AV.all.gen hρ hh hS cs _ h2⟩
 | .fn f cs,v,h=>by simp only [AV.holds] at h ⊢;obtain ⟨vs,h1,h2⟩:=h;exact ⟨vs,h1,AV.all.gen hρ hh hS cs _ h2⟩
 | .gd L x,v,h=>by simp only [AV.holds] at h ⊢;exact ⟨fun hb=>AV.holds.gen hρ hh hS x v (h.1 hb),h.2⟩
theorem AV.all.gen {e e':Env} {w:World} {ks:List Nat} (hρ:e'.ρ=e.ρ) (hh:e'.hdr=e.hdr) (hS:e'.S=e.S):∀ (xs:List AV) (vs:List Value),AV.all e w ks xs vs→AV.all e' w ks xs vs
 | [],[],_=>by have _:=G;simp [AV.all]
 | x::xs,v::vs,h=>by simp only [AV.all] at h ⊢;exact ⟨AV.holds.gen hρ hh hS x v h.1,AV.all.gen hρ hh hS xs vs h.2⟩
 | [],_::_,h=>by simp [AV.all] at h
 | _::_,[],h=>by simp [AV.all] at h
end
def Own (e:Env) (st:St) (b:Nat):Prop:=(∃ (i:Nat) (x:Box),st.B[i]? = some x∧x.live=true∧e.ρ i=b)∨(∃ (i:Nat) (x:Vec),st.V[i]? = some x∧x.live=true∧aX (e.hdr i x.ver)=some b)
theorem Own.lt {n0:Nat} {w0:World} {e:Env} {st:St} {w:World} (h:Mem n0 w0 e st.B st.V w) {b:Nat} (hb:Own e st b):b<w.heap.size∧¬e.S b∧e.H b=none∧n0≤b:=by
 rcases hb with ⟨i,x,h1,h2,rfl⟩ | ⟨i,x,h1,h2,h3⟩
 ·exact ⟨h.lt_box h1 h2,(h.boxlo i x h1 h2).2,h.hid.box i x h1 h2,(h.boxlo i x h1 h2).1⟩
 ·obtain ⟨xs,q1,_⟩:=h.vec i x h1 h2
  exact ⟨(q1.lt b h3).2,h.vecS i x b h1 h2 h3,h.hid.vec i x b h1 h2 h3,(q1.lt b h3).1⟩
theorem Rel.move {n0:Nat} {w0:World} {e:Env} {st:St} {a:Act} {w w':World} (h:Rel n0 w0 e st a w) (hy:e.y=false) {S':Nat→Prop} {H':Nat→Option (Obj×Bool)} (hsub:∀ b,e.S b→S' b) (hlt:∀ b,S' b→b<w'.heap.size)
  (hO:∀ b,Own e st b→¬S' b∧H' b=none) (hk:∀ b,(b<n0∨e.S b∨Own e st b)→w'.heap[b]? = w.heap[b]?) (hb:n0≤w'.heap.size) (hsz:w0.heap.size≤w'.heap.size)
  (hos:w'.os=w.os∧w'.tape=w.tape∧w'.output=w.output) (hobj:qB H' w') (hown:∀ b o,S' b→H' b≠some (o,true)):Rel n0 w0 { e with S:=S',H:=H' } st a w':=by
 have hm:=h.mem
 have hro:ROw w e.S w' S':=⟨hsub,fun b o x hs hc=>by simp only [World.cell?] at hc ⊢;rw [hk b (.inr (.inl hs))];exact hc⟩
 have hall:∀ xs vs,AV.all e w (kss st.V) xs vs→AV.all { e with S:=S',H:=H' } w' (kss st.V) xs vs:=fun xs vs hv=>AV.all.gen (e:=e.withS S') (e':={ e with S:=S',H:=H' }) rfl rfl rfl _ _ (AV.all.monoW hro _ _ hv)
 refine ⟨hall _ _ h.tm,h.sc,⟨fun i b hi hl=>?_,hm.boxsc,fun i b hi hl=>⟨(hm.boxlo i b hi hl).1,(hO _ (.inl ⟨i,b,hi,hl,rfl⟩)).1⟩,hm.boxinj,fun i x hi hl=>?_,fun i x g hi hl hg=>(hO g (.inr ⟨i,x,hi,hl,hg⟩)).1,hm.vecbox,hm.vecinj,hlt,?_,hb,hm.bl,
  ⟨hobj,fun i b hi hl=>(hO _ (.inl ⟨i,b,hi,hl,rfl⟩)).2,fun i x g hi hl hg=>(hO g (.inr ⟨i,x,hi,hl,hg⟩)).2,fun i x hi hT=>?_,hown⟩⟩⟩
 ·obtain ⟨vs,q1,q2⟩:=hm.box i b hi hl
  exact ⟨vs,(hk _ (.inr (.inr (.inl ⟨i,b,hi,hl,rfl⟩)))).trans q1,hall _ _ q2⟩
 ·obtain ⟨xs,q1,q2,q3⟩:=hm.vec i x hi hl
  exact ⟨xs,q1.keep fun g hg=>hk g (.inr (.inr (.inr ⟨i,x,hi,hl,hg⟩))),CV.vals.monoW hro _ _ q2,q3⟩
 ·have hb':=hm.below
  rw [Env.nb_false hy] at hb'
  rw [Env.nb_false (show ({ e with S:=S',H:=H' }:Env).y=false from hy)]
  exact ⟨hos.1.trans hb'.os,hos.2.1.trans hb'.tape,hos.2.2.trans hb'.output,hsz,fun k hkn=>(hk k (.inl hkn)).trans (hb'.block k hkn)⟩
 ·have:=(hm.hid.gh i x hi hT).2.1
  rw [hy] at this;cases this
def Env.noH (e:Env):Env:={ e with H:=fun _=>none }
theorem AV.all.no {e:Env} {w:World} {ks:List Nat} {xs:List AV} {vs:List Value} (h:AV.all e w ks xs vs):AV.all e.noH w ks xs vs:=AV.all.gen (e:=e) (e':=e.noH) rfl rfl rfl _ _ h
theorem AV.all.ofNo {e:Env} {w:World} {ks:List Nat} {xs:List AV} {vs:List Value} (h:AV.all e.noH w ks xs vs):AV.all e w ks xs vs:=AV.all.gen (e:=e.noH) (e':=e) rfl rfl rfl _ _ h
abbrev Ext0 (e:Env) (st:St) (w:World) (e':Env) (st':St) (w':World):Prop:=ExtS e.noH st w e'.noH st'.B st'.V w'
theorem Ext0.of {e:Env} {st:St} {w:World} {e':Env} {st':St} {w':World} (h:ExtS e st w e' st'.B st'.V w'):Ext0 e st w e' st' w':=have _:=G;
 ⟨h.ro,h.ρ,h.hdr,h.nB,h.nV,h.verle,h.kseq,h.sz,h.snew,h.be,fun _=>rfl,h.ye⟩
theorem Ext0.same {e:Env} {st:St} {w:World} {S':Nat→Prop} {H':Nat→Option (Obj×Bool)} {w':World} (hsub:∀ b,e.S b→S' b) (hk:∀ b,e.S b→w'.heap[b]? = w.heap[b]?) (hs:w.heap.size≤w'.heap.size) (hn:∀ b,S' b→e.S b∨e.base≤b) :
  Ext0 e st w { e with S:=S',H:=H' } st w':=have _:=G;
 ⟨⟨hsub,hk⟩,fun _ _=>rfl,fun _ _ _ _=>rfl,Nat.le_refl _,Nat.le_refl _,fun _ _=>Nat.le_refl _,fun _ _=>rfl,hs,hn,rfl,fun _=>rfl,rfl⟩
theorem Rel.dead {n0:Nat} {w0:World} {e:Env} {st:St} {a:Act} {w:World} (hr:Rel n0 w0 e st a w) {ds:List Vec} (hd:∀ v∈ds,v.live=false) (hdT:∀ v∈ds,v.T≠ghT) :
  Rel n0 w0 e ⟨st.t,st.B,st.V++ds⟩ a w∧ExtS e st w e st.B (st.V++ds) w:=by
 have hx:Ext e w st.B.length (vers st.V) (kss st.V) e w st.B.length (vers (st.V++ds)) (kss (st.V++ds)):=by
  refine ⟨RO.refl _ _,fun _ _=>rfl,fun _ _ _ _=>rfl,Nat.le_refl _,by simp [vers],fun i hi=>?_,fun i hi=>?_,Nat.le_refl _,fun _ h=>.inl h,rfl,fun _=>rfl,rfl⟩
  ·have hi':i<st.V.length:=by simpa [vers] using hi
   simp [vers,List.getD,List.getElem?_append_left,hi']
  ·have hi':i<st.V.length:=by simpa [vers] using hi
   simp [kss,List.getD,List.getElem?_append_left,hi']
 have hget:∀ (i:Nat) (x:Vec),(st.V++ds)[i]? = some x→x.live=true→st.V[i]? = some x:=by
  intro i x hi hl
  by_cases hil:i<st.V.length
  ·rwa [List.getElem?_append_left hil] at hi
  ·rw [List.getElem?_append_right (by omega)] at hi
   have:=hd x (List.mem_of_getElem? hi)
   rw [hl] at this;cases this
 have hm:=hr.mem
 refine ⟨⟨AV.all.mono hx _ _ hr.sc hr.tm,hx.scos hr.sc,?_⟩,hx⟩
 refine ⟨fun i b hb hl=>?_,fun i b hb=>hx.scos (hm.boxsc i b hb),hm.boxlo,hm.boxinj,fun i x hx hl=>hm.vec i x (hget i x hx hl) hl,fun i x g hx hl=>hm.vecS i x g (hget i x hx hl) hl,fun i x j b g hx hl=>hm.vecbox i x j b g (hget i x hx hl) hl,fun i x j y g hx hl hy hyl=>hm.vecinj i x j y g (hget i x hx hl) hl (hget j y hy hyl) hyl,hm.ro,hm.below,hm.base,hm.bl,hm.hid.of rfl ⟨rfl,rfl⟩ (fun _ h=>.inl h) (SameG.app hdT) (fun _ _ _=>rfl) (fun i b hb hl=>.inl ⟨i,b,hb,hl,rfl⟩) (fun i x g hx hl hg=>.inl ⟨i,x,hget i x hx hl,hl,hg⟩)⟩
 obtain ⟨vs,h1,h2⟩:=hm.box i b hb hl
 exact ⟨vs,h1,AV.all.mono hx _ _ (hm.boxsc i b hb) h2⟩
theorem Rel.adopt {n0:Nat} {w0:World} {e:Env} {st:St} {a:Act} {w:World} (hr:Rel n0 w0 e st a w) (hy:e.y=false) {T:TypeId} {k:Nat} {v:Value} {el:List (List CV)} {xs:List Value} (hT:T<aI) (hown:OwnsV w n0 T k v el.length xs) (hv:CV.vals w e.S el.flatten xs) (hk:∀ l∈el,l.length=k)
  (hg:∀ g,aX v=some g→¬e.S g∧e.H g=none∧¬Own e st g) :
  ∃ e',Rel n0 w0 e' ⟨st.t,st.B,st.V++[⟨true,T,k,1,el⟩]⟩ a w∧ExtS e st w e' st.B (st.V++[⟨true,T,k,1,el⟩]) w∧e'.hdr st.V.length 1=v∧e'.ρ=e.ρ∧e'.S=e.S∧e'.H=e.H∧e'.base=e.base∧e'.y=e.y∧(∀ i u,i<st.V.length→u≤(vers st.V).getD i 0→e'.hdr i u=e.hdr i u):=by
 obtain ⟨hr1,hx1⟩:=hr.dead (ds:=[⟨false,T,k,0,[]⟩]) (by simp) (by simp only [List.mem_singleton];rintro y rfl;exact Nat.ne_of_lt hT)
 have hlt:st.V.length<(st.V++[(⟨false,T,k,0,[]⟩:Vec)]).length:=by simp
 have hi:(st.V++[(⟨false,T,k,0,[]⟩:Vec)])[st.V.length]? = some ⟨false,T,k,0,[]⟩:=by simp
 have hOw:∀ g,aX v=some g→(∀ (j:Nat) (b:Box),st.B[j]? = some b→b.live=true→e.ρ j≠g)∧∀ (j:Nat) (y:Vec),(st.V++[(⟨false,T,k,0,[]⟩:Vec)])[j]? = some y→y.live=true→aX (e.hdr j y.ver)≠some g:=by
  intro g hgg
  have hno:=(hg g hgg).2.2
  refine ⟨fun j b hb hbl hc=>hno (.inl ⟨j,b,hb,hbl,hc⟩),fun j y hy hyl hc=>?_⟩
  by_cases hjl:j<st.V.length
  ·rw [List.getElem?_append_left hjl] at hy
   exact hno (.inr ⟨j,y,hy,hyl,hc⟩)
  ·rw [List.getElem?_append_right (by omega)] at hy
   have:=List.mem_of_getElem? hy
   simp only [List.mem_singleton] at this
   subst this;cases hyl
 obtain ⟨e',m1,m2,m3,m4,m5⟩:=hr1.mem.fill2 hi rfl T v el xs hown hv hk (fun g hgg=>(hg g hgg).1) (fun g hgg=>(hOw g hgg).1) (fun g hgg=>(hOw g hgg).2) (fun g hgg=>(hg g hgg).2.1)
 have hset:(st.V++[(⟨false,T,k,0,[]⟩:Vec)]).set st.V.length (Vec.mk true T k (0+1) el)=st.V++[⟨true,T,k,1,el⟩]:=by simp
 simp only [hset] at m1 m2
 have hxx:ExtS e st w e' st.B (st.V++[⟨true,T,k,1,el⟩]) w:=hx1.trans m2
 refine ⟨e',⟨AV.all.mono hxx _ _ hr.sc hr.tm,hxx.scos hr.sc,m1⟩,hxx,m3,m4,m5,m2.he hy,m2.be,m2.ye,fun i u hiu hu=>hxx.hdr i u (by simpa [vers] using hiu) hu⟩
end Go.Sx
namespace Go.Sx
open Go Go.RowKit
variable [G:Ghost]
abbrev YF:=List (List CV)→List CV→Option (Bool×List (List CV))
def sQ (P:Program) (f:FuncId) (caps:List CV) (sh:YSh) (R:YF→List (List CV)→Option (List (List CV))):Prop:=
 ∀ (G:Ghost) (l:Nat) (yf:YF) (es es':List (List CV)),(∀ es x b es',yf es x=some (b,es')→@rP G P l sh es x b es')→R yf es=some es' →
  ∀ (F:Fence) (n:Nat),Free F→F.round=none→∀ (H:Nat→Option (Obj×Bool)) (S:Nat→Prop) (w:World) (lb:Array Value),
   CV.vals w S caps lb.toList→(∀ b,S b→b<w.heap.size)→qB H w→(∀ b o,S b→H b≠some (o,true))→G.J es H→G.lo≤w.heap.size→@GW G w →
   CallsIn F n P f (#[.func (.yield l) #[] #[]]++lb) w fun en w'=>(∃ v,en=.returned v)∧w.heap.size≤w'.heap.size∧@GW G w'∧∃ H',G.J es' H'∧qB H' w'
def fE:List AV→List Nat→List AV→List AV
 | t,p::ps,x::xs=>fE (t.set p x) ps xs
 | t,_,_=>t
theorem tU {e:Env} {w:World} {ks:List Nat}:∀ {ps:List Nat} {xs t:List AV} {us:List Value} {tm:Array Value},AV.all e w ks t tm.toList→AV.all e w ks xs us →
  AV.all e w ks (fE t ps xs) ((ps.zip us).foldl (fun t (p,v)=>t.setIfInBounds p v) tm).toList
 | [],_,_,us,_,h,_=>by have _:=G;simpa [fE] using h
 | p::ps,[],_,[],_,h,_=>by simpa [fE] using h
 | p::ps,[],_,_::_,_,_,h=>by simp [AV.all] at h
 | p::ps,x::xs,_,[],_,_,h=>by simp [AV.all] at h
 | p::ps,x::xs,t,u::us,tm,h,h'=>by
  simp only [AV.all] at h'
  simp only [fE,List.zip_cons_cons,List.foldl_cons]
  exact tU (by simpa using h.set p h'.1) h'.2
theorem mW {nB:Nat} {vs:List Nat}:∀ {ps:List Nat} {xs t:List AV},AV.scos nB vs t→AV.scos nB vs xs→AV.scos nB vs (fE t ps xs)
 | [],_,_,h,_=>by have _:=G;simpa [fE] using h
 | p::ps,[],_,h,_=>by simpa [fE] using h
 | p::ps,x::xs,t,h,h'=>by
  simp only [AV.scos] at h'
  simp only [fE]
  refine mW ?_ h'.2
  rw [AV.scos_iff] at h ⊢
  intro y hy
  rcases List.mem_or_eq_of_mem_set hy with hy | rfl
  ·exact h y hy
  ·exact h'.1
def stY (sh:YSh) (x:List CV) (ps:List Nat) (st:St):St:=match sh with
 | .clo cs=>⟨fE st.t ps (Sc.avs cs x 0),st.B,st.V⟩
 | .lent T k=>⟨fE st.t ps [.own st.V.length 1],st.B,st.V++[⟨true,T,k,1,cR (x.getD 0 dC)⟩]⟩
def YSh.np:YSh→Nat
 | .clo cs=>cs.length
 | .lent _ _=>1
structure Wkd (st st1:St):Prop where
 t:AV.les st.t st1.t
 Bl:st1.B.length=st.B.length
 B:∀ (i:Nat) (b1:Box),st1.B[i]? = some b1→∃ b,st.B[i]? = some b∧(b1.live=true→b.live=true∧b1.T=b.T∧AV.les b.cs b1.cs)
 Vl:st1.V.length=st.V.length
 V:∀ (i:Nat) (v1:Vec),st1.V[i]? = some v1→∃ v,st.V[i]? = some v∧v1.ver=v.ver∧v1.k=v.k∧(v1.live=true∨v1.T=ghT→v1=v)
 sct:∀ nb vs,AV.scos nb vs st.t→AV.scos nb vs st1.t
 scB:∀ nb vs (i:Nat) (b b1:Box),st.B[i]? = some b→st1.B[i]? = some b1→AV.scos nb vs b.cs→AV.scos nb vs b1.cs
theorem Wkd.vers {st st1:St} (h:Wkd st st1):vers st1.V=vers st.V:=by
 have _:=G
 refine List.ext_getElem? fun i=>?_
 simp only [Go.Sx.vers,List.getElem?_map]
 cases hi:st1.V[i]? with
 | none =>
  have:st.V[i]? = none:=by rw [List.getElem?_eq_none_iff] at hi ⊢;rw [← h.Vl];exact hi
  rw [this]
 | some v1 =>
  obtain ⟨v,h1,h2,_⟩:=h.V i v1 hi
  rw [h1];simp [h2]
theorem Wkd.weak {n0:Nat} {w0:World} {e:Env} {st st1:St} {a:Act} {w:World} (h:Wkd st st1) (hr:Rel n0 w0 e st a w):Weak st st1:=by
 refine ⟨h.t,h.B,h.V,?_,?_⟩
 ·rw [h.Bl,h.vers];exact h.sct _ _ hr.sc
 ·intro i b1 hb1
  obtain ⟨b,hb,_⟩:=h.B i b1 hb1
  rw [h.Bl,h.vers]
  exact h.scB _ _ i b b1 hb hb1 (hr.mem.boxsc i b hb)
theorem Wk.d {st st1:St} (h:Wk st st1):Wkd st st1:=have _:=G;
 ⟨h.t,h.Bl,h.B,by rw [h.V],fun i v1 hv=>⟨v1,by rw [← h.V];exact hv,rfl,rfl,fun _=>rfl⟩,h.sct,h.scB⟩
theorem xS:∀ {a b c:List AV},AV.les a b→AV.les b c→AV.les a c
 | _,_,_,.nil,.nil=>have _:=G;.nil
 | _,_,_,.cons h hs,.cons h' hs'=>.cons (fun e w ks v hv=>h' e w ks v (h e w ks v hv)) (xS hs hs')
theorem Wkd.trans {a b c:St} (h:Wkd a b) (h':Wkd b c):Wkd a c:=by
 refine ⟨xS h.t h'.t,h'.Bl.trans h.Bl,fun i b1 hb=>?_,h'.Vl.trans h.Vl,fun i v1 hv=>?_,fun nb vs hs=>h'.sct nb vs (h.sct nb vs hs),fun nb vs i x y hx hy hs=>?_⟩
 ·obtain ⟨b2,h1,h2⟩:=h'.B i b1 hb
  obtain ⟨b3,h3,h4⟩:=h.B i b2 h1
  exact ⟨b3,h3,fun hl=>⟨(h4 (h2 hl).1).1,(h2 hl).2.1.trans (h4 (h2 hl).1).2.1,xS (h4 (h2 hl).1).2.2 (h2 hl).2.2⟩⟩
 ·obtain ⟨v2,h1,h2,h3,h4⟩:=h'.V i v1 hv
  obtain ⟨v3,h5,h6,h7,h8⟩:=h.V i v2 h1
  refine ⟨v3,h5,h2.trans h6,h3.trans h7,fun hl=>?_⟩
  have:=h4 hl;subst this
  exact h8 hl
 ·obtain ⟨z,h1,_⟩:=h'.B i y hy
  exact h'.scB nb vs i z y h1 hy (h.scB nb vs i x z hx h1 hs)
def eN (j:Nat) (V:List Vec):List Vec:=V.mapIdx fun i v=>if i=j then ⟨false,v.T,v.k,v.ver,v.es⟩ else v
theorem iO (j:Nat) (V:List Vec):(eN j V).length=V.length:=by have _:=G;simp [eN]
theorem jF (j:Nat) (V:List Vec) (i:Nat):(eN j V)[i]? = (V[i]?).map fun v=>if i=j then ⟨false,v.T,v.k,v.ver,v.es⟩ else v:=by have _:=G;simp [eN]
theorem Wkd.kill (st:St) (j:Nat) (hT:∀ v,st.V[j]? = some v→v.T≠ghT):Wkd st ⟨st.t,st.B,eN j st.V⟩:=by
 refine ⟨AV.les_refl _,rfl,fun i b1 hb=>⟨b1,hb,fun hl=>⟨hl,rfl,AV.les_refl _⟩⟩,iO _ _,fun i v1 hv=>?_,fun _ _ h=>h,fun _ _ i b b1 h1 h2 h3=>by rw [show (⟨st.t,st.B,eN j st.V⟩:St).B[i]? = st.B[i]? from rfl,h1] at h2;cases h2;exact h3⟩
 have hv:(eN j st.V)[i]? = some v1:=hv
 rw [jF,Option.map_eq_some_iff] at hv
 obtain ⟨v,h1,rfl⟩:=hv
 refine ⟨v,h1,?_⟩
 by_cases hij:i=j
 ·subst hij
  simp only [if_true,true_and]
  rintro (h | h)
  ·cases h
  ·exact absurd h (hT v h1)
 ·simp [hij]
def aEF (sh:YSh) (x:List CV) (st':St) (I:St→Prop) (b:Bool) (pe:Option Code) (ex:Exit) (s2:St):Prop:=
 ∃ s3,Wkd ⟨st'.t,s2.B,s2.V⟩ s3∧st'.B.length≤s3.B.length∧st'.V.length≤s3.V.length∧I s3 ∧
  ((ex=.normal∧pe=none∧b=true)∨(ex=.ret∧pe=some .ret∧b=false)∨(∃ id,ex=.exit id∧pe=some (.exit id)∧b=false)) ∧
  (match sh with
   | .clo _=>True
   | .lent T k=>s2.V[st'.V.length]? = some ⟨true,T,k,1,cR (x.getD 0 dC)⟩∧∀ v,s3.V[st'.V.length]? = some v→v.live=false)
theorem Env.eqH {e:Env} (h:e.H=fun _=>none):({ e with S:=e.S,H:=fun _=>none }:Env)=e:=by
 have _:=G
 obtain ⟨a,b,c,d,H,y⟩:=e
 simp only at h
 subst h
 rfl
theorem HB {A:Type} (f:A→Nat×Value→A) (ps:Array Tmp) (args:Array Value) (t:A):(ps.zip args).foldl f t=(ps.toList.zip args.toList).foldl f t:=by
 have _:=G
 rw [← Array.foldl_toList];simp
def YIn (n0:Nat) (e:Env) (st:St) (w:World) (S:Nat→Prop) (X:Nat→Option (Obj×Bool)) (sh:YSh) (x:List CV) (args:Array Value):Prop:=match sh with
 | .clo cs=>∀ (e1:Env) (ks:List Nat),e1.S=S→AV.all e1 w ks (Sc.avs cs x 0) args.toList
 | .lent T k=>∃ (v:Value) (el:List (List CV)) (xs:List Value),x=[.row k el]∧args=#[v]∧T<aI∧OwnsV w n0 T k v el.length xs∧pB el=true∧CV.vals w S el.flatten xs∧(∀ l∈el,l.length=k)∧(∀ g,aX v=some g→¬e.S g∧¬S g∧X g=none∧¬Own e st g)
def aHg (sh:YSh) (args:Array Value) (e:Env) (j:Nat):Prop:=match sh with
 | .clo _=>True
 | .lent _ _=>∃ v,args=#[v]∧e.hdr j 1=v
theorem Rel.inY {n0:Nat} {w0:World} {e:Env} {st:St} {a:Act} {w:World} (hr:Rel n0 w0 e st a w) (hy:e.y=false) (hw0:w0.heap.size≤w.heap.size) {S:Nat→Prop} {X:Nat→Option (Obj×Bool)} (hS:∀ b,S b→b<w.heap.size) (hX:qB X w) (hSX:∀ b o,e.S b∨S b→X b≠some (o,true)) (hO:∀ b,Own e st b→¬S b∧X b=none)
  (hn:∀ b,S b→e.S b∨e.base≤b) {sh:YSh} {x:List CV} {ps:Array Tmp} {args:Array Value}
  (hargs:YIn n0 e st w S X sh x args) :
  ∃ e1,Rel n0 w0 e1 (stY sh x ps.toList st) { tmps:=(ps.zip args).foldl (fun t (p,v)=>t.setIfInBounds p v) a.tmps,defers:=[] } w∧Ext0 e st w e1 (stY sh x ps.toList st) w∧e1.H=X∧e1.S=(fun b=>e.S b∨S b)∧e1.y=false∧e1.base=e.base∧aHg sh args e1 st.V.length:=by
 have hm:=hr.mem
 have h1:Rel n0 w0 { e with S:=fun b=>e.S b∨S b,H:=X } st a w:=
  hr.move hy (fun _ h=>.inl h) (fun b hb=>hb.elim (hm.ro b) (hS b)) (fun b hb=>⟨fun h=>h.elim (Own.lt hm hb).2.1 (hO b hb).1,(hO b hb).2⟩) (fun _ _=>rfl) hm.base hw0 ⟨rfl,rfl,rfl⟩ hX hSX
 have hx1:Ext0 e st w { e with S:=fun b=>e.S b∨S b,H:=X } st w:=Ext0.same (fun _ h=>.inl h) (fun _ _=>rfl) (Nat.le_refl _) (fun b hb=>hb.elim .inl (hn b))
 cases sh with
 | clo cs =>
  refine ⟨_,⟨?_,?_,h1.mem⟩,hx1,rfl,rfl,hy,rfl,trivial⟩
  ·show AV.all _ w (kss st.V) (fE st.t ps.toList (Sc.avs cs x 0)) _
   rw [HB]
   refine tU h1.tm ?_
   have h2:=hargs ⟨e.ρ,e.hdr,S,e.base,X,e.y⟩ (kss st.V) rfl
   exact AV.closeds_holds (e:=⟨e.ρ,e.hdr,S,e.base,X,e.y⟩) (fun b hb=>(Or.inr hb:e.S b∨S b)) _ _ (Sc.avs_closed cs x 0) h2
  ·exact mW h1.sc (AV.scos_closed _ _ _ (Sc.avs_closed cs x 0))
 | lent T k =>
  obtain ⟨v,el,xs,rfl,rfl,hT,hown,hfl,hv,hk,hg⟩:=hargs
  obtain ⟨e',g1,g2,g3,g4,g5,g6,g7,g8,g9⟩:=h1.adopt hy hT hown (CV.flat_vals (xF hfl) hv) hk (fun g hgg=>⟨fun h=>h.elim (hg g hgg).1 (hg g hgg).2.1,(hg g hgg).2.2.1,(hg g hgg).2.2.2⟩)
  have hcr:cR ([CV.row k el].getD 0 dC)=el:=rfl
  have hst:(stY (.lent T k) [.row k el] ps.toList st).V=st.V++[⟨true,T,k,1,el⟩]:=rfl
  refine ⟨e',⟨?_,?_,g1.mem⟩,hx1.trans (Ext0.of (st':=⟨st.t,st.B,st.V++[⟨true,T,k,1,el⟩]⟩) g2),g6,g5,g8.trans hy,g7,v,rfl,g3⟩
  ·show AV.all e' w (kss (st.V++[⟨true,T,k,1,el⟩])) (fE st.t ps.toList [.own st.V.length 1]) _
   rw [HB]
   refine tU g1.tm ?_
   simp only [AV.all,AV.holds,and_true]
   exact ⟨g3.symm,hown.one⟩
  ·show AV.scos st.B.length (vers (st.V++[⟨true,T,k,1,el⟩])) (fE st.t ps.toList [.own st.V.length 1])
   refine mW g1.sc ?_
   simp [AV.scos,AV.sco,vers,List.getD]
end Go.Sx
namespace Go.Sx
open Go Go.RowKit
variable [G:Ghost]
section
variable {F:Fence} {n:Nat} {P:Program}
theorem vH {w w':World} {S S':Nat→Prop}:∀ {cs:List CV} {vs us:List Value},cs.all CV.flat=true→CV.vals w S cs vs→CV.vals w' S' cs us→vs=us
 | [],[],[],_,_,_=>have _:=G;rfl
 | [],[],_::_,_,_,h=>by simp [CV.vals] at h
 | [],_::_,_,_,h,_=>by simp [CV.vals] at h
 | _::_,[],_,_,h,_=>by simp [CV.vals] at h
 | _::_,_::_,[],_,_,h=>by simp [CV.vals] at h
 | c::cs,v::vs,u::us,hf,h,h'=>by
  simp only [List.all_cons,Bool.and_eq_true] at hf
  simp only [CV.vals] at h h'
  obtain ⟨h1,h2⟩:=h
  obtain ⟨h3,h4⟩:=h'
  have:=vH hf.2 h2 h4
  subst this
  cases c with
  | val x=>simp only [CV.holds] at h1 h3;rw [h1.1,h3.1]
  | _=>simp [CV.flat] at hf
def aDX (n0:Nat) (u:World) (S L:Nat→Prop) (H:Nat→Option (Obj×Bool)) (sh:YSh) (x:List CV) (args:Array Value):Prop:=match sh with
 | .clo cs=>(∀ b,¬L b)∧∀ (e1:Env) (ks:List Nat),e1.S=S→AV.all e1 u ks (Sc.avs cs x 0) args.toList
 | .lent T k=>∃ (v:Value) (el:List (List CV)) (xs:List Value),x=[.row k el]∧args=#[v]∧T<aI∧OwnsV u n0 T k v el.length xs∧pB el=true∧CV.vals u S el.flatten xs∧(∀ l∈el,l.length=k)∧(∀ g,aX v=some g→H g=none∧¬S g)∧(∀ g,L g↔aX v=some g)
def aDY (n0:Nat) (u u5:World) (S:Nat→Prop) (sh:YSh) (x:List CV) (args:Array Value):Prop:=match sh with
 | .clo _=>True
 | .lent T k=>∀ v el xs,x=[.row k el]→args=#[v]→pB el=true→CV.vals u S el.flatten xs→OwnsV u5 n0 T k v el.length xs
structure Rest (n0:Nat) (w0:World) (e:Env) (st:St) (a:Act) (w:World) (l D lim:Nat) (R:Obj) (e':Env) (st':St) (H:Nat→Option (Obj×Bool)):Prop where
 y:e'.y=false
 h:e'.H=fun _=>none
 b:e'.base≤lim
 j1:∀ b,b<lim→H b≠none
 j2:∀ b,e'.S b↔∃ o,H b=some (o,false)
 j3:∀ b,Own e' st' b→H b≠none
 j5:¬e'.S l∧¬e'.S D
 j6:∀ b,Own e' st' b→b≠l∧b≠D
 j7:∀ W4,qB H W4→(W4.os=w.os∧W4.tape=w.tape∧W4.output=w.output)→Rel n0 w0 e' st' a W4∧ExtS e st w e' st'.B st'.V W4∧W4.heap[l]? = some R∧W4.heap[D]? = some (.deferred (some []))
def UL (n0:Nat) (w0:World) (e:Env) (st:St) (a:Act) (w u:World) (l D lim:Nat) (R:Obj) (I:St→Prop) (H:Nat→Option (Obj×Bool)) (S L:Nat→Prop) (sh:YSh) (x:List CV) (args:Array Value) (b:Bool) (en:Ending) (u5:World):Prop:=
 en=.returned (.bool b)∧∃ (e3:Env) (s3:St) (H3:Nat→Option (Obj×Bool)),I s3∧Rest n0 w0 e st a w l D lim R e3 s3 H3 ∧
  qB H3 u5∧(∀ b,H3 b≠none→H b≠none∨S b∨u.heap.size≤b)∧(∀ b o,S b→H3 b≠some (o,true))∧u.heap.size≤u5.heap.size∧(u5.os=u.os∧u5.tape=u.tape∧u5.output=u.output) ∧
  (∀ b,b<u.heap.size→H b=none→¬L b→u5.heap[b]? = u.heap[b]?)∧(∀ b,S b→u5.heap[b]? = u.heap[b]?)∧aDY n0 u u5 S sh x args
open Classical in
theorem aCU {n0:Nat} {w0:World} {e e':Env} {st st':St} {a:Act} {w u:World} (hF:Free F)
  {l D lim:Nat} {rec:LoopState→Option Code→Loop} {fn:FuncId} {ps:Array Tmp} {assign body:Code}
  (hrec:rec=fun s pe=>{ state:=s,pending:=pe,fn,tmps:=a.tmps,params:=ps,assign,body,defers:=D }) 
  (hlim:n0≤lim∧lim≤u.heap.size∧l<lim∧D<lim∧n0≤l∧l≠D∧w0.heap.size≤l∧w.heap.size≤l) (hou:u.os=w.os∧u.tape=w.tape∧u.output=w.output) {H:Nat→Option (Obj×Bool)} {S:Nat→Prop} (hHu:qB H u) (hS:∀ b,S b→b<u.heap.size) (hSo:∀ b o,S b→H b≠some (o,true))
  (hJ:Rest n0 w0 e st a w l D lim (.loop (rec .ready none)) e' st' H)
  {sh:YSh} {x:List CV} {args:Array Value} {b:Bool} {pe:Option Code} {I:St→Prop} (hfn:F.fn fn)
  (hbody:W (F.inRound l) n P assign (stY sh x ps.toList st') fun ex s1=>ex=.normal∧W (F.inRound l) n P body s1 (aEF sh x st' I b pe))
  (L:Nat→Prop) (hargs:aDX n0 u S L H sh x args) :
  RoundIn F n P l fn ((ps.zip args).foldl (fun t (p,v)=>t.setIfInBounds p v) a.tmps) assign body u
   (UL n0 w0 e st a w u l D lim (.loop (rec (if pe.isNone then .ready else .done) pe)) I H S L sh x args b):=by
 obtain ⟨hy,heH,hbase,j1,j2,j3,j5,j6,j7⟩:=hJ
 obtain ⟨hrel,hext,hl,hD⟩:=j7 u hHu hou
 obtain ⟨k1,k2,k3,k4,k5,k6,k7,k8⟩:=hlim
 have hm:=hrel.mem
 have noS:∀ c,c<lim→¬e'.S c→¬S c:=by
  intro c hc hn hs
  cases hh:H c with
  | none=>exact j1 c hc hh
  | some o =>
   obtain ⟨o,f⟩:=o
   cases f with
   | true=>exact hSo c o hs hh
   | false=>exact hn ((j2 c).2 ⟨o,hh⟩)
 let priv:Nat→Prop:=fun b=>b<u.heap.size∧H b=none∧¬S b∧¬L b
 let X:Nat→Option (Obj×Bool):=fun b=>if priv b∨b=l∨b=D then (u.heap[b]?).map (·,true) else none
 have hXs:∀ c,X c≠none→priv c∨c=l∨c=D:=by
  intro c hc
  by_cases h:priv c∨c=l∨c=D
  ·exact h
  ·exact absurd (if_neg h) hc
 have hXf:∀ c o f,X c=some (o,f)→u.heap[c]? = some o∧f=true:=by
  intro c o f hc
  have h:=hXs c (by rw [hc];simp)
  have:X c=(u.heap[c]?).map (·,true):=if_pos h
  rw [this,Option.map_eq_some_iff] at hc
  obtain ⟨o',h1,h2⟩:=hc
  cases h2
  exact ⟨h1,rfl⟩
 have hXp:∀ c,priv c∨c=l∨c=D→∃ o,X c=some (o,true)∧u.heap[c]? = some o:=by
  intro c hc
  have:X c=(u.heap[c]?).map (·,true):=if_pos hc
  have hcl:c<u.heap.size:=by
   rcases hc with hc | rfl | rfl
   ·exact hc.1
   ·omega
   ·omega
  refine ⟨u.heap[c],?_,by simp [hcl]⟩
  rw [this];simp [hcl]
 have hX:qB X u:=fun c o f hc=>(hXf c o f hc).1
 have hSX:∀ b o,e'.S b∨S b→X b≠some (o,true):=by
  intro c o hc hx
  have h:=hXs c (by rw [hx];simp)
  rcases h with h | rfl | rfl
  ·rcases hc with hc | hc
   ·obtain ⟨o',h'⟩:=(j2 c).1 hc;rw [h.2.1] at h';cases h'
   ·exact h.2.2.1 hc
  ·exact hc.elim j5.1 (noS _ k3 j5.1)
  ·exact hc.elim j5.2 (noS _ k4 j5.2)
 have hO:∀ b,Own e' st' b→¬S b∧X b=none:=by
  intro c hc
  have h1:=(Own.lt hm hc).2.1
  refine ⟨fun hs=>?_,?_⟩
  ·cases hh:H c with
   | none=>exact j3 c hc hh
   | some o =>
    obtain ⟨o,f⟩:=o
    cases f with
    | true=>exact hSo c o hs hh
    | false=>exact h1 ((j2 c).2 ⟨o,hh⟩)
  ·cases hx:X c with
   | none=>rfl
   | some o =>
    exfalso
    rcases hXs c (by rw [hx];simp) with h | h | h
    ·exact j3 c hc h.2.1
    ·exact (j6 c hc).1 h
    ·exact (j6 c hc).2 h
 have hn:∀ b,S b→e'.S b∨e'.base≤b:=by
  intro c hs
  cases hh:H c with
  | none =>
   refine .inr (Nat.le_trans hbase (Nat.le_of_not_lt fun hlt=>j1 c hlt hh))
  | some o =>
   obtain ⟨o,f⟩:=o
   cases f with
   | true=>exact absurd hh (hSo c o hs)
   | false=>exact .inl ((j2 c).2 ⟨o,hh⟩)
 have hH':∀ g,H g=none→¬e'.S g∧¬Own e' st' g∧g≠l∧g≠D:=fun g hg =>
  ⟨fun hs=>by (obtain ⟨o,h⟩:=(j2 g).1 hs;rw [hg] at h;cases h),fun ho=>j3 g ho hg,fun he=>j1 g (by omega) hg,fun he=>j1 g (by omega) hg⟩
 obtain ⟨e1,r1,x1,eH,eS,ey,eb,elent⟩:=hrel.inY hy (by omega) (S:=S) (X:=X) hS hX hSX hO hn (sh:=sh) (x:=x) (ps:=ps) (args:=args) (by
  cases sh with
  | clo cs=>exact hargs.2
  | lent T k =>
   obtain ⟨v,el,xs,q1,q2,q3,q4,q5,q6,q7,q8,q9⟩:=hargs
   refine ⟨v,el,xs,q1,q2,q3,q4,q5,q6,q7,fun g hg=>?_⟩
   obtain ⟨z1,z2,z3,z4⟩:=hH' g (q8 g hg).1
   refine ⟨z1,(q8 g hg).2,?_,z2⟩
   cases hx:X g with
   | none=>rfl
   | some o =>
    exfalso
    rcases hXs g (by rw [hx];simp) with h | h | h
    ·exact h.2.2.2 ((q9 g).2 hg)
    ·exact z3 h
    ·exact z4 h)
 refine roundIn_of_wpIn hfn (hbody n0 w0 e1 _ u _ r1 ?_)
 rintro x2 e2 s1 a1 u1 ⟨rfl,hB⟩ r2 hdf hx2
 have hH2:e2.H=X:=(hx2.he ey).trans eH
 have hy2:e2.y=false:=hx2.ye.trans ey
 obtain ⟨ol,hol,hol2⟩:=hXp l (.inr (.inl rfl))
 rw [hl] at hol2;cases hol2
 obtain ⟨oD,hoD,hoD2⟩:=hXp D (.inr (.inr rfl))
 rw [hD] at hoD2;cases hoD2
 have hl1:u1.heap[l]? = some (.loop (rec .ready none)):=r2.mem.hid.obj l _ true (by rw [hH2];exact hol)
 have hll1:=(Array.getElem?_eq_some_iff.1 hl1).1
 show ∃ w₂,(Instr.beginRound l).run P u1=.ok () w₂∧body.wpIn (F.inRound l) n P (roundPost P l _) a1 w₂
 refine ⟨_,run_beginRound (P:=P) hl1 (by rw [hrec]),?_⟩
 obtain ⟨busy,hbusy⟩:∃ busy:Loop,busy={ rec .ready none with state:=.busy }:=⟨_,rfl⟩
 rw [← hbusy]
 let X2:Nat→Option (Obj×Bool):=fun c=>if c=l then some (.loop busy,true) else X c
 have hX2l:X2 l=some (.loop busy,true):=if_pos rfl
 have hX2o:∀ c,c≠l→X2 c=X c:=fun c hc=>if_neg hc
 have nS2:∀ c,X c≠none→¬e2.S c:=by
  intro c hc hs
  cases hx:X c with
  | none=>exact hc hx
  | some o =>
   obtain ⟨o,f⟩:=o
   have:=(hXf c o f hx).2
   subst this
   exact r2.mem.hid.own c o hs (by rw [hH2];exact hx)
 have nO2:∀ c,Own e2 s1 c→X c=none:=fun c hc=>by have:=(Own.lt r2.mem hc).2.2.1;rwa [hH2] at this
 have hXl:X l≠none:=by rw [hol];simp
 have r3:Rel n0 w0 { e2 with S:=e2.S,H:=X2 } s1 a1 (u1.putObj l (.loop busy)):=by
  refine r2.move hy2 (fun _ h=>h) (fun c hc=>by have:=r2.mem.ro c hc;simpa [World.putObj] using this) (fun c hc=>⟨(Own.lt r2.mem hc).2.1,?_⟩) (fun c hc=>World.putObj_heap_other ?_) (by have:=r2.mem.base;simpa [World.putObj] using this) (by simp [World.putObj];omega) ⟨rfl,rfl,rfl⟩ (fun c o f hc=>?_) (fun c o hs hc=>?_)
  ·have h1:=nO2 c hc
   rw [hX2o c (fun he=>hXl (by rw [← he];exact h1))];exact h1
  ·rcases hc with hc | hc | hc
   ·omega
   ·exact fun he=>nS2 l hXl (by rw [← he];exact hc)
   ·exact fun he=>hXl (by rw [← he];exact nO2 c hc)
  ·by_cases hcl:c=l
   ·subst hcl;rw [hX2l] at hc;cases hc
    exact World.putObj_heap_same hll1
   ·rw [hX2o c hcl] at hc
    rw [World.putObj_heap_other hcl]
    exact r2.mem.hid.obj c o f (by rw [hH2];exact hc)
  ·by_cases hcl:c=l
   ·subst hcl;exact nS2 _ hXl hs
   ·rw [hX2o c hcl] at hc
    exact nS2 c (by rw [hc];simp) hs
 have x3:Ext0 e2 s1 u1 { e2 with S:=e2.S,H:=X2 } s1 (u1.putObj l (.loop busy)):=
  Ext0.same (fun _ h=>h) (fun c hc=>World.putObj_heap_other fun he=>nS2 l hXl (by rw [← he];exact hc)) (by simp [World.putObj]) (fun _ h=>.inl h)
 refine hB n0 w0 _ a1 _ _ r3 ?_
 rintro ex e3 s2 a2 u3 ⟨s3,hwk0,hB3,hV3,hI,hex,hlent⟩ r4 hdf4 hx4
 have hH3:e3.H=X2:=hx4.he hy2
 have hy3:e3.y=false:=hx4.ye.trans hy2
 have hl3:u3.heap[l]? = some (.loop busy):=r4.mem.hid.obj l _ true (by rw [hH3];exact hX2l)
 have hll3:=(Array.getElem?_eq_some_iff.1 hl3).1
 have hend:=run_endRound (P:=P) pe hl3
 have hrec':({ busy with state:=if pe.isNone=true then LoopState.ready else LoopState.done,pending:=pe }:Loop)=rec (if pe.isNone then .ready else .done) pe:=by rw [hbusy,hrec]
 rw [hrec'] at hend
 generalize hu5:u3.putObj l (.loop (rec (if pe.isNone then .ready else .done) pe))=u5 at hend
 have xB:Ext0 e1 (stY sh x ps.toList st') u e3 s2 u3:=((Ext0.of hx2).trans x3).trans (Ext0.of hx4)
 have xA:Ext0 e' st' u e3 s2 u3:=x1.trans xB
 have h5o:∀ c,c≠l→u5.heap[c]? = u3.heap[c]?:=fun c hc=>by rw [← hu5];exact World.putObj_heap_other hc
 have h5l:u5.heap[l]? = some (.loop (rec (if pe.isNone then .ready else .done) pe)):=by rw [← hu5];exact World.putObj_heap_same hll3
 have h5s:u5.heap.size=u3.heap.size:=by rw [← hu5];simp [World.putObj]
 have nX3:∀ c,X c≠none→¬e3.S c:=by
  intro c hc hs
  by_cases hcl:c=l
  ·subst hcl;exact r4.mem.hid.own _ _ hs (by rw [hH3];exact hX2l)
  ·cases hx:X c with
   | none=>exact hc hx
   | some o =>
    obtain ⟨o,f⟩:=o
    have:=(hXf c o f hx).2
    subst this
    exact r4.mem.hid.own c o hs (by rw [hH3,hX2o c hcl];exact hx)
 have nO3:∀ c,Own e3 s2 c→X c=none∧c≠l:=by
  intro c hc
  have h1:=(Own.lt r4.mem hc).2.2.1
  rw [hH3] at h1
  have hcl:c≠l:=fun he=>by rw [he,hX2l] at h1;cases h1
  rw [hX2o c hcl] at h1
  exact ⟨h1,hcl⟩
 have keepX:∀ c,c≠l→X c≠none→u3.heap[c]? = u.heap[c]?:=by
  intro c hcl hc
  cases hx:X c with
  | none=>exact absurd hx hc
  | some o =>
   obtain ⟨o,f⟩:=o
   rw [(hXf c o f hx).1]
   exact r4.mem.hid.obj c o f (by rw [hH3,hX2o c hcl];exact hx)
 have hS1:∀ c,S c→e3.S c:=fun c hs=>xB.ro.sub c (show e1.S c by rw [eS];exact .inr hs)
 have hSl:∀ c,S c→c≠l:=fun c hs he=>noS l k3 j5.1 (by rw [← he];exact hs)
 have hSk:∀ c,S c→u5.heap[c]? = u.heap[c]?:=fun c hs=>(h5o c (hSl c hs)).trans (xB.ro.same c (show e1.S c by rw [eS];exact .inr hs))
 have hOw:∀ c,Own e3 s3 c→Own e3 s2 c∧¬L c:=by
  intro c hc
  rcases hc with ⟨i,y,q1,q2,q3⟩ | ⟨i,y,q1,q2,q3⟩
  ·obtain ⟨y0,z1,z2⟩:=hwk0.B i y q1
   have ho:Own e3 s2 c:=.inl ⟨i,y0,z1,(z2 q2).1,q3⟩
   refine ⟨ho,fun hL=>?_⟩
   cases sh with
   | clo cs=>exact hargs.1 c hL
   | lent T k =>
    obtain ⟨v,el,xs,p1,p2,p3,p4,p5,p6,p7,p8,p9⟩:=hargs
    obtain ⟨v',t1,t2⟩:=elent
    rw [p2] at t1;cases t1
    have hh:e3.hdr st'.V.length 1=v:=(xB.hdr st'.V.length 1 (by simp [stY,vers]) (by simp [stY,vers,List.getD])).trans t2
    exact r4.mem.vecbox _ _ i y0 c hlent.1 rfl z1 (z2 q2).1 (by rw [hh];exact (p9 c).1 hL) q3
  ·obtain ⟨y0,z1,z2,z3,z4⟩:=hwk0.V i y q1
   obtain rfl:=z4 (.inl q2)
   have ho:Own e3 s2 c:=.inr ⟨i,y,z1,q2,q3⟩
   refine ⟨ho,fun hL=>?_⟩
   cases sh with
   | clo cs=>exact hargs.1 c hL
   | lent T k =>
    obtain ⟨v,el,xs,p1,p2,p3,p4,p5,p6,p7,p8,p9⟩:=hargs
    obtain ⟨v',t1,t2⟩:=elent
    rw [p2] at t1;cases t1
    have hh:e3.hdr st'.V.length 1=v:=(xB.hdr st'.V.length 1 (by simp [stY,vers]) (by simp [stY,vers,List.getD])).trans t2
    have:=r4.mem.vecinj _ _ i y c hlent.1 rfl z1 q2 (by rw [hh];exact (p9 c).1 hL) q3
    subst this
    rw [hlent.2 _ q1] at q2;cases q2
 let H3:Nat→Option (Obj×Bool):=fun c=>if c<u.heap.size∧H c=none∧¬S c then none else (u5.heap[c]?).map fun o=>(o,decide (¬e3.S c))
 have hH3n:∀ c,¬(c<u.heap.size∧H c=none∧¬S c)→H3 c=(u5.heap[c]?).map fun o=>(o,decide (¬e3.S c)):=fun c hc=>if_neg hc
 have hH3p:∀ c,H3 c≠none→¬(c<u.heap.size∧H c=none∧¬S c):=fun c hc h=>hc (if_pos h)
 have hH3f:∀ c o f,H3 c=some (o,f)→u5.heap[c]? = some o∧f=decide (¬e3.S c):=by
  intro c o f hc
  rw [hH3n c (hH3p c (by rw [hc];simp)),Option.map_eq_some_iff] at hc
  obtain ⟨o',h1,h2⟩:=hc
  cases h2
  exact ⟨h1,rfl⟩
 have some5:∀ c,c<u3.heap.size→¬(c<u.heap.size∧H c=none∧¬S c)→∃ o,H3 c=some (o,decide (¬e3.S c)):=by
  intro c hc hn'
  have:c<u5.heap.size:=by rw [h5s];exact hc
  exact ⟨u5.heap[c],by rw [hH3n c hn'];simp [this]⟩
 have hsz:u.heap.size≤u3.heap.size:=xA.sz
 have g1:∀ c,c<lim→H3 c≠none:=by
  intro c hc
  obtain ⟨o,ho⟩:=some5 c (by omega) fun h=>j1 c hc h.2.1
  rw [ho];simp
 have g2:∀ c,e3.S c↔∃ o,H3 c=some (o,false):=by
  intro c
  constructor
  ·intro hs
   have hlt:=r4.mem.ro c hs
   have hnp:¬(c<u.heap.size∧H c=none∧¬S c):=by
    rintro ⟨z1,z2,z3⟩
    by_cases hL:L c
    ·cases sh with
     | clo cs=>exact hargs.1 c hL
     | lent T k =>
      obtain ⟨v,el,xs,p1,p2,p3,p4,p5,p6,p7,p8,p9⟩:=hargs
      obtain ⟨v',t1,t2⟩:=elent
      rw [p2] at t1;cases t1
      have hh:e3.hdr st'.V.length 1=v:=(xB.hdr st'.V.length 1 (by simp [stY,vers]) (by simp [stY,vers,List.getD])).trans t2
      exact r4.mem.vecS _ _ c hlent.1 rfl (by rw [hh];exact (p9 c).1 hL) hs
    ·obtain ⟨o,ho,_⟩:=hXp c (.inl ⟨z1,z2,z3,hL⟩)
     exact nX3 c (by rw [ho];simp) hs
   obtain ⟨o,ho⟩:=some5 c hlt hnp
   exact ⟨o,by rw [ho];simp [hs]⟩
  ·rintro ⟨o,ho⟩
   have:=(hH3f c o false ho).2
   simpa using this.symm
 have g3:∀ c,Own e3 s3 c→H3 c≠none:=by
  intro c hc
  obtain ⟨ho,hL⟩:=hOw c hc
  have hlt:=(Own.lt r4.mem ho).1
  obtain ⟨o,hh⟩:=some5 c hlt (by
   rintro ⟨z1,z2,z3⟩
   obtain ⟨o,hx,_⟩:=hXp c (.inl ⟨z1,z2,z3,hL⟩)
   rw [(nO3 c ho).1] at hx;cases hx)
  rw [hh];simp
 have hback:Rel n0 w0 e3 ⟨st'.t,s2.B,s2.V⟩ a u3:=⟨AV.all.ofNo (AV.all.mono xA _ _ hrel.sc (AV.all.no hrel.tm)),xA.scos hrel.sc,r4.mem⟩
 have hwk:=hwk0.weak hback
 have hw3:Rel n0 w0 e3 s3 a u3:=hback.weak hwk
 have hos3:u3.os=u.os∧u3.tape=u.tape∧u3.output=u.output:=⟨r4.mem.below.os.trans hm.below.os.symm,r4.mem.below.tape.trans hm.below.tape.symm,r4.mem.below.output.trans hm.below.output.symm⟩
 have hos5:u5.os=u3.os∧u5.tape=u3.tape∧u5.output=u3.output:=by rw [← hu5];exact ⟨rfl,rfl,rfl⟩
 have fin:UL n0 w0 e st a w u l D lim (.loop (rec (if pe.isNone then .ready else .done) pe)) I H S L sh x args b (.returned (.bool pe.isNone)) u5:=by
  refine ⟨?_,{ e3 with S:=e3.S,H:=fun _=>none },s3,H3,hI,⟨hy3,rfl,by have:=xA.be;show e3.base≤lim;have h2:e3.base=e'.base:=this;omega,g1,g2,g3,⟨nX3 l hXl,nX3 D (by rw [hoD];simp)⟩,fun c hc=>?_,fun W4 hW4 hos4=>?_⟩,fun c o f hc=>(hH3f c o f hc).1,fun c hc=>?_,fun c o hs hc=>?_,by rw [h5s];exact hsz,
   ⟨hos5.1.trans hos3.1,hos5.2.1.trans hos3.2.1,hos5.2.2.trans hos3.2.2⟩,fun c hc hn' hL=>?_,hSk,?_⟩
  ·rcases hex with ⟨_,q2,q3⟩ | ⟨_,q2,q3⟩ | ⟨id,_,q2,q3⟩ <;> rw [q2,q3] <;> rfl
  ·have ho:=(hOw c hc).1
   refine ⟨(nO3 c ho).2,fun he=>?_⟩
   have:=(nO3 c ho).1
   rw [he,hoD] at this;cases this
  ·have agree:∀ c,H3 c≠none→W4.heap[c]? = u5.heap[c]?:=by
    intro c hc
    cases hh:H3 c with
    | none=>exact absurd hh hc
    | some o =>
     obtain ⟨o,f⟩:=o
     rw [hW4 c o f hh,(hH3f c o f hh).1]
   have hlW:l<W4.heap.size:=by
    have:=agree l (g1 l k3)
    rw [h5l] at this
    exact (Array.getElem?_eq_some_iff.1 this).1
   have agS:∀ c,e3.S c→W4.heap[c]? = u3.heap[c]?:=by
    intro c hs
    obtain ⟨o,ho⟩:=(g2 c).1 hs
    exact (agree c (by rw [ho];simp)).trans (h5o c fun he=>nX3 l hXl (by rw [← he];exact hs))
   have hmv:=hw3.move hy3 (S':=e3.S) (H':=fun _=>none) (fun _ h=>h) (fun c hs=>by
     have h1:=agS c hs
     have h2:=r4.mem.ro c hs
     have h3:u3.heap[c]? = some u3.heap[c]:=by simp [h2]
     rw [h3] at h1
     exact (Array.getElem?_eq_some_iff.1 h1).1) (fun c hc=>⟨(Own.lt hw3.mem hc).2.1,rfl⟩) (fun c hc=>by
     rcases hc with hc | hc | hc
     ·exact (agree c (g1 c (by omega))).trans (h5o c (by omega))
     ·exact agS c hc
     ·exact (agree c (g3 c hc)).trans (h5o c (nO3 c (hOw c hc).1).2)) (by omega) (by omega) ⟨(hos4.1.trans hou.1.symm).trans hos3.1.symm,(hos4.2.1.trans hou.2.1.symm).trans hos3.2.1.symm,(hos4.2.2.trans hou.2.2.symm).trans hos3.2.2.symm⟩ (fun c o f hc=>by cases hc) (fun c o _ hc=>by cases hc)
   refine ⟨hmv,?_,(agree l (g1 l k3)).trans h5l,?_⟩
   ·have y1:Ext e.noH w st.B.length (vers st.V) (kss st.V) e3.noH u3 s2.B.length (vers s2.V) (kss s2.V):=(Ext0.of hext).trans xA
    have y2:=y1.weak (s:=⟨st'.t,s2.B,s2.V⟩) hwk (Nat.le_trans hext.nB hB3) (by have:=hext.nV;simp only [vers,List.length_map] at this ⊢;omega)
    have hnoe:e3.noH={ e3 with S:=e3.S,H:=fun _=>none }:=rfl
    rw [← hnoe]
    exact ⟨⟨y2.ro.sub,fun c hs=>(agS c (y2.ro.sub c hs)).trans (y2.ro.same c hs)⟩,y2.ρ,y2.hdr,y2.nB,y2.nV,y2.verle,y2.kseq,by omega,y2.snew,y2.be,fun hye=>by
     have:=hext.he hye
     rw [heH] at this
     show (fun _=>none)=e.H
     exact this,y2.ye⟩
   ·exact (agree D (g1 D k4)).trans ((h5o D (Ne.symm k6)).trans ((keepX D (Ne.symm k6) (by rw [hoD];simp)).trans hD))
  ·have:=hH3p c hc
   by_cases z1:H c=none
   ·by_cases z2:S c
    ·exact .inr (.inl z2)
    ·exact .inr (.inr (Nat.le_of_not_lt fun hlt=>this ⟨hlt,z1,z2⟩))
   ·exact .inl z1
  ·have:=(hH3f c o true hc).2
   simp [hS1 c hs] at this
  ·by_cases hs:S c
   ·exact hSk c hs
   ·obtain ⟨o,ho,_⟩:=hXp c (.inl ⟨hc,hn',hs,hL⟩)
    have hcl:c≠l:=(hH' c hn').2.2.1
    exact (h5o c hcl).trans (keepX c hcl (by rw [ho];simp))
  ·cases sh with
   | clo cs=>trivial
   | lent T k =>
    intro v el xs p1 p2 p5 p6
    obtain ⟨v',el',xs',q1,q2,q3,q4,q5,q6,q7,q8,q9⟩:=hargs
    rw [p1] at q1
    simp only [List.cons.injEq,CV.row.injEq,true_and,and_true] at q1
    subst q1
    rw [p2] at q2
    simp only [Array.mk.injEq,List.cons.injEq,and_true] at q2
    subst q2
    obtain ⟨v',t1,t2⟩:=elent
    rw [p2] at t1;cases t1
    have hh:e3.hdr st'.V.length 1=v:=(xB.hdr st'.V.length 1 (by simp [stY,vers]) (by simp [stY,vers,List.getD])).trans t2
    obtain ⟨ys,y1,y2,y3⟩:=r4.mem.vec _ _ hlent.1 rfl
    have hcr:cR (x.getD 0 dC)=el:=by rw [p1];rfl
    simp only [hcr,hh] at y1 y2
    have:=vH (xF p5) y2 p6
    subst this
    refine y1.keep fun g hg=>h5o g ?_
    exact (hH' g (q8 g hg).1).2.2.1
 rcases hex with ⟨rfl,q2,q3⟩ | ⟨rfl,q2,q3⟩ | ⟨id,rfl,q2,q3⟩
 all_goals
  subst q2
  exact ⟨_,_,hend,fin⟩
end
end Go.Sx
namespace Go.Sx
open Go Go.RowKit
variable [G:Ghost]
abbrev JZ (J:List (List CV)→(Nat→Option (Obj×Bool))→Prop) (lo:Nat) (w:World):Ghost:=⟨J,lo,w⟩
section
variable {F:Fence} {n:Nat} {P:Program}
theorem Sc.avs_length:∀ (cs:List Sc) (vs:List CV) (k:Nat),(Sc.avs cs vs k).length=cs.length
 | [],_,_=>have _:=G;rfl
 | c::cs,vs,k=>by simp [Sc.avs,Sc.avs_length cs vs]
open Classical in
theorem XU (hF:Free F) (hro:F.round=none) {g:Operand} {ps:Array Tmp} {assign body:Code} {st:St} {f:FuncId} {caps:List CV} {sh:YSh} {R:YF→List (List CV)→Option (List (List CV))} {yf:YF} {es0 es1:List (List CV)}
  (I:List (List CV)→St→Prop) (pend:List (List CV)→Option Code) {Q:Exit→St→Prop} (hnp:sh.np=ps.size) (hg:st.ev g=.cv (.fn f caps)) (hen:dM P f=true) (hit:sQ P f caps sh R) (hR:R yf es0=some es1) (h0:I es0 st) (hp0:pend es0=none)
  (hbody:∀ (F:Fence) (n:Nat),Free F→∀ es x b es' st',yf es x=some (b,es')→I es st'→pend es=none∧W F n P assign (stY sh x ps.toList st') fun ex s1=>ex=.normal∧W F n P body s1 (aEF sh x st' (I es') b (pend es')))
  (hend:∀ st',I es1 st'→(pend es1=none→Q .normal st')∧(pend es1=some .ret→Q .ret st')∧(∀ id,pend es1=some (.exit id)→Q (.exit id) st')∧(pend es1=none∨pend es1=some .ret∨∃ id,pend es1=some (.exit id))) :
  W2 F n P (.rangeFunc g ps assign body) st Q:=by
 intro n0 w0 m0 e a w Qr hr hm hm0 hk
 obtain ⟨hm0,hy,hH0⟩:=hm0
 have hmm:=hr.mem
 refine NK hF.depth (n':=n+3) ?_
 have hgv:=(hr.ev g).1
 rw [hg] at hgv
 simp only [AV.holds,CV.holds] at hgv
 obtain ⟨lb,hga,hlb⟩:=hgv
 refine wpIn_rangeFunc ?_
 intro fn hfn
 rw [hro]
 obtain ⟨rec,hrec⟩:∃ rec:LoopState→Option Code→Loop,rec=fun s pe=>{ state:=s,pending:=pe,fn,tmps:=a.tmps,params:=ps,assign,body,defers:=w.heap.size }:=⟨_,rfl⟩
 obtain ⟨W1,hW1⟩:∃ W1,(w.alloc (.deferred (some []))).alloc (.loop (rec .ready none))=W1:=⟨_,rfl⟩
 have hL1:W1.heap[w.heap.size+1]? = some (.loop (rec .ready none)):=by
  rw [← hW1];have:=World.alloc_heap_new (w.alloc (.deferred (some []))) (.loop (rec .ready none));rwa [World.size_alloc] at this
 have hK1:W1.heap[w.heap.size]? = some (.deferred (some [])):=by
  rw [← hW1];exact (Below.heap_alloc _ _ _ (by simp)).trans (World.alloc_heap_new w _)
 have hsz1:W1.heap.size=w.heap.size+2:=by rw [← hW1];simp
 have hold:∀ c,c<w.heap.size→W1.heap[c]? = w.heap[c]?:=fun c hc=>by
  rw [← hW1];exact (Below.heap_alloc _ _ _ (by simp;omega)).trans (Below.heap_alloc _ _ _ hc)
 have hos1:W1.os=w.os∧W1.tape=w.tape∧W1.output=w.output:=by rw [← hW1];exact ⟨rfl,rfl,rfl⟩
 have hw0:w0.heap.size≤w.heap.size:=hmm.below.size
 let Rec:List (List CV)→Obj:=fun es=>.loop (rec (if (pend es).isNone then .ready else .done) (pend es))
 let J:List (List CV)→(Nat→Option (Obj×Bool))→Prop:=fun es H=>∃ e' st',I es st'∧Rest n0 w0 e st a w (w.heap.size+1) w.heap.size (w.heap.size+2) (Rec es) e' st' H
 have hyield:∀ es x b es',yf es x=some (b,es')→@rP (JZ J n0 w) P (w.heap.size+1) sh es x b es':=by
  intro es x b es' hyf F' n' hF' H S u args hJ hHu hgw hS hSo hlo
  obtain ⟨e',st',hI,hrest⟩:=hJ
  obtain ⟨hpn,hbd⟩:=hbody (F'.inRound (w.heap.size+1)) n' (hF'.inRound _) es x b es' st' hyf hI
  have hou:u.os=w.os∧u.tape=w.tape∧u.output=w.output:=hgw
  have hRec:Rec es=.loop (rec .ready none):=by simp only [Rec,hpn];rfl
  rw [hRec] at hrest
  have hlu:u.heap[w.heap.size+1]? = some (.loop (rec .ready none)):=(hrest.j7 u hHu hou).2.2.1
  have hlul:=(Array.getElem?_eq_some_iff.1 hlu).1
  have hlim:n0≤w.heap.size+2∧w.heap.size+2≤u.heap.size∧w.heap.size+1<w.heap.size+2∧w.heap.size<w.heap.size+2∧n0≤w.heap.size+1∧w.heap.size+1≠w.heap.size∧w0.heap.size≤w.heap.size+1∧w.heap.size≤w.heap.size+1:=by
   have:=hmm.base;omega
  have hround:∀ (L:Nat→Prop),aDX n0 u S L H sh x args→RoundIn F' n' P (w.heap.size+1) fn ((ps.zip args).foldl (fun t (p,v)=>t.setIfInBounds p v) a.tmps) assign body u (UL n0 w0 e st a w u (w.heap.size+1) w.heap.size (w.heap.size+2) (Rec es') (I es') H S L sh x args b):=
   fun L hL=>aCU hF' hrec hlim hou hHu hS hSo hrest (hF'.fn fn) hbd L hL
  have post:∀ (L:Nat→Prop) (en:Ending) (u5:World),UL n0 w0 e st a w u (w.heap.size+1) w.heap.size (w.heap.size+2) (Rec es') (I es') H S L sh x args b en u5→en=.returned (.bool b)∧@UD (JZ J n0 w) H S L es' u u5∧aDY n0 u u5 S sh x args:=by
   rintro L en u5 ⟨rfl,e3,s3,H3,q1,q2,q3,q4,q5,q6,q7,q8,q9,q10⟩
   exact ⟨rfl,⟨H3,⟨e3,s3,q1,q2⟩,q3,q4,q5,q6,q7.1,q7.2.1,q7.2.2,q8,q9⟩,q10⟩
  cases sh with
  | clo cs =>
   intro hargs
   have hsz:args.size=ps.size:=by
    have h1:=(hargs ⟨e.ρ,e.hdr,S,e.base,e.H,e.y⟩ [] rfl).length
    rw [Sc.avs_length] at h1
    have:(YSh.clo cs).np=cs.length:=rfl
    rw [← hnp,this,← h1];simp
   have hy':=run_yield (P:=P) (args:=args) hlu (by rw [hrec];exact hsz)
   rw [hrec] at hy'
   refine ⟨fn,_,assign,body,hy',(hround (fun _=>False) ⟨fun _ h=>h,hargs⟩).mono fun en u5 hp=>?_⟩
   obtain ⟨p1,p2,_⟩:=post _ en u5 hp
   exact ⟨p1,p2⟩
  | lent T k =>
   intro v el xs hx hfl hargs hT hown hv hk' hg'
   have hsz:args.size=ps.size:=by rw [← hnp,hargs];rfl
   have hy':=run_yield (P:=P) (args:=args) hlu (by rw [hrec];exact hsz)
   rw [hrec] at hy'
   refine ⟨fn,_,assign,body,hy',(hround (fun g=>aX v=some g) ⟨v,el,xs,hx,hargs,hT,hown,hfl,hv,hk',hg',fun _=>Iff.rfl⟩).mono fun en u5 hp=>?_⟩
   obtain ⟨p1,p2,p3⟩:=post _ en u5 hp
   exact ⟨p1,p2,p3 v el xs hx hargs hfl hv⟩
 let H0:Nat→Option (Obj×Bool):=fun c=>(W1.heap[c]?).map fun o=>(o,decide (¬e.S c))
 have hH0f:∀ c o f,H0 c=some (o,f)→W1.heap[c]? = some o∧f=decide (¬e.S c):=by
  intro c o f hc
  simp only [H0,Option.map_eq_some_iff] at hc
  obtain ⟨o',h1,h2⟩:=hc
  cases h2
  exact ⟨h1,rfl⟩
 have hH0s:∀ c,c<w.heap.size+2→∃ o,H0 c=some (o,decide (¬e.S c)):=by
  intro c hc
  have:c<W1.heap.size:=by omega
  exact ⟨W1.heap[c],by simp [H0,this]⟩
 have hrest0:Rest n0 w0 e st a w (w.heap.size+1) w.heap.size (w.heap.size+2) (Rec es0) e st H0:=by
  refine ⟨hy,hH0,by have:=hmm.bl.1;have:=hmm.base;omega,fun c hc=>?_,fun c=>⟨fun hs=>?_,fun ⟨o,ho⟩=>?_⟩,fun c hc=>?_,⟨fun hs=>?_,fun hs=>?_⟩,fun c hc=>?_,fun W4 hW4 hos4=>?_⟩
  ·obtain ⟨o,ho⟩:=hH0s c hc;rw [ho];simp
  ·obtain ⟨o,ho⟩:=hH0s c (by have:=hmm.ro c hs;omega)
   exact ⟨o,by rw [ho];simp [hs]⟩
  ·simpa using (hH0f c o false ho).2.symm
  ·obtain ⟨o,ho⟩:=hH0s c (by have:=(Own.lt hmm hc).1;omega)
   rw [ho];simp
  ·have:=hmm.ro _ hs;omega
  ·have:=hmm.ro _ hs;omega
  ·have:=(Own.lt hmm hc).1;omega
  ·have agree:∀ c,c<w.heap.size+2→W4.heap[c]? = W1.heap[c]?:=by
    intro c hc
    obtain ⟨o,ho⟩:=hH0s c hc
    rw [hW4 c o _ ho,(hH0f c o _ ho).1]
   have hl4:W4.heap[w.heap.size+1]? = some (.loop (rec .ready none)):=(agree _ (by omega)).trans hL1
   have hl4l:=(Array.getElem?_eq_some_iff.1 hl4).1
   have agw:∀ c,c<w.heap.size→W4.heap[c]? = w.heap[c]?:=fun c hc=>(agree c (by omega)).trans (hold c hc)
   have hmv:=hr.move hy (S':=e.S) (H':=fun _=>none) (w':=W4) (fun _ h=>h) (fun c hs=>by have:=hmm.ro c hs;omega) (fun c hc=>⟨(Own.lt hmm hc).2.1,rfl⟩) (fun c hc=>agw c (by
     rcases hc with hc | hc | hc
     ·have:=hmm.base;omega
     ·exact hmm.ro c hc
     ·exact (Own.lt hmm hc).1)) (by have:=hmm.base;omega) (by omega) hos4 (fun c o f hc=>by cases hc) (fun c o _ hc=>by cases hc)
   rw [Env.eqH hH0] at hmv
   refine ⟨hmv,?_,?_,(agree _ (by omega)).trans hK1⟩
   ·exact ⟨⟨fun _ h=>h,fun c hs=>agw c (hmm.ro c hs)⟩,fun _ _=>rfl,fun _ _ _ _=>rfl,Nat.le_refl _,Nat.le_refl _,fun _ _=>Nat.le_refl _,fun _ _=>rfl,by omega,fun _ h=>.inl h,rfl,fun _=>rfl,rfl⟩
   ·rw [hl4];simp only [Rec,hp0];rfl
 have hcall:=hit (JZ J n0 w) (w.heap.size+1) yf es0 es1 hyield hR F (n+2) hF hro H0 e.S W1 lb (by
   have hro':RO w e.S W1 e.S:=⟨fun _ h=>h,fun c hs=>hold c (hmm.ro c hs)⟩
   exact CV.vals.mono hro' _ _ hlb) (fun c hs=>by have:=hmm.ro c hs;omega) (fun c o f hc=>(hH0f c o f hc).1) (fun c o hs hc=>by have:=(hH0f c o true hc).2;simp [hs] at this) ⟨e,st,h0,hrest0⟩
  (by show n0≤_;have:=hmm.base;omega) hos1
 refine ⟨w.heap.size+1,[{ target:=.collected w.heap.size,args:=#[] }],W1,{ target:=.fn (.func f) lb,args:=#[.func (.yield (w.heap.size+1)) #[] #[]] },W1,f,
  #[.func (.yield (w.heap.size+1)) #[] #[]]++lb,W1,?_,?_,?_,?_,fun _=>by omega,?_⟩
 ·rw [← hW1,hrec];exact run_enterLoop_outer _ _ _ _ _
 ·simp only [resolve,hga]
  simp [go_sem]
 ·intro f' hf';simp [Target.leads] at hf';subst hf';exact hF.fn _
 ·simp [invoke,go_sem,enters hen]
 ·refine hcall.mono ?_
  rintro en W2 ⟨⟨v,rfl⟩,hsz2,hgw2,H2,⟨e',st',hI,hrest⟩,hH2⟩
  have hos2:W2.os=w.os∧W2.tape=w.tape∧W2.output=w.output:=hgw2
  obtain ⟨r1,x1,hl2,hD2⟩:=hrest.j7 W2 hH2 hos2
  have hl2l:=(Array.getElem?_eq_some_iff.1 hl2).1
  have hpd:(rec (if (pend es1).isNone then .ready else .done) (pend es1)).pending=pend es1:=by rw [hrec]
  have hst:(rec (if (pend es1).isNone then .ready else .done) (pend es1)).state≠.busy:=by
   rw [hrec];simp only;split <;> simp
  have hle:=run_endLoop (P:=P) hl2 hst
  generalize hW5:W2.putObj (w.heap.size+1) _=W5 at hle
  rw [hpd] at hle
  have h5o:∀ c,c≠w.heap.size+1→W5.heap[c]? = W2.heap[c]?:=fun c hc=>by rw [← hW5];exact World.putObj_heap_other hc
  have h5s:W5.heap.size=W2.heap.size:=by rw [← hW5];simp [World.putObj]
  have hD5:W5.heap[w.heap.size]? = some (.deferred (some [])):=(h5o _ (by omega)).trans hD2
  have hmw:=r1.move hrest.y (S':=fun b=>e'.S b∨b=w.heap.size) (H':=fun _=>none) (w':=W5) (fun _ h=>.inl h) (fun c hs=>by
    rw [h5s]
    rcases hs with hs | rfl
    ·exact r1.mem.ro c hs
    ·omega) (fun c hc=>⟨fun hs=>hs.elim (Own.lt r1.mem hc).2.1 (hrest.j6 c hc).2,rfl⟩) (fun c hc=>h5o c (by
     rcases hc with hc | hc | hc
     ·have:=hmm.base;omega
     ·exact fun he=>hrest.j5.1 (by rw [← he];exact hc)
     ·exact (hrest.j6 c hc).1)) (by rw [h5s];have:=hmm.base;omega) (by rw [h5s];omega) (by rw [← hW5];exact ⟨rfl,rfl,rfl⟩) (fun c o f hc=>by cases hc) (fun c o _ hc=>by cases hc)
  have hx5:ExtS e st w { e' with S:=fun b=>e'.S b∨b=w.heap.size,H:=fun _=>none } st'.B st'.V W5:=by
   refine ⟨⟨fun c hs=>.inl (x1.ro.sub c hs),fun c hs=>(h5o c (by have:=hmm.ro c hs;omega)).trans (x1.ro.same c hs)⟩,x1.ρ,x1.hdr,x1.nB,x1.nV,x1.verle,x1.kseq,by rw [h5s];omega,fun c hs=>?_,x1.be,fun _=>hH0.symm,x1.ye⟩
   rcases hs with hs | hs
   ·exact x1.snew c hs
   ·right;have:=hmm.bl.1;have:=hmm.base;omega
  obtain ⟨z1,z2,z3,z4⟩:=hend st' hI
  have hmk:Mk m0 { e' with S:=fun b=>e'.S b∨b=w.heap.size,H:=fun _=>none } W5 (tT w.heap.size::a.defers):=by
   obtain ⟨Ds,hds,hnd,hDs⟩:=hm
   refine ⟨w.heap.size::Ds,by simp [hds],?_,?_⟩
   ·rw [List.nodup_cons]
    refine ⟨fun hmem=>?_,hnd⟩
    have:=(Array.getElem?_eq_some_iff.1 (hDs _ hmem).2.2).1
    omega
   ·intro D' hD'
    rcases List.mem_cons.1 hD' with rfl | hD'
    ·exact ⟨hm0,.inr rfl,hD5⟩
    ·obtain ⟨q1,q2,q3⟩:=hDs D' hD'
     exact ⟨q1,hx5.ro.sub D' q2,(hx5.ro.same D' q2).trans q3⟩
  have go:∀ ex,Q ex st'→Qr ex { a with defers:=tT w.heap.size::a.defers } W5:=fun ex hq =>
   hk ex _ st' { a with defers:=tT w.heap.size::a.defers } W5 hq (hmw.act rfl) hmk hx5
  refine ⟨pend es1,W5,hle,?_⟩
  rcases z4 with z4 | z4 | ⟨id,z4⟩
  ·rw [z4];exact go .normal (z1 z4)
  ·rw [z4];exact wpIn_ret (go .ret (z2 z4))
  ·rw [z4];exact wpIn_exit (go (.exit id) (z3 id z4))
end
end Go.Sx
