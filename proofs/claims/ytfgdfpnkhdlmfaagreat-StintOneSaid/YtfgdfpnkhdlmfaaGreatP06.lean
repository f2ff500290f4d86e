/-
 The laws of the stints of a common hold at every input, without any condition.
-/
import Derived.Maps.RangeRun
import Derived.Test.YtfgdfpnkhdlmfaaGreatP05
namespace Go.Sx
open Go Go.RowKit
variable [G:Ghost]
section
variable {F:Fence} {n:Nat} {P:Program} {lo:List Oper} {sg:FuncId->Option Sig} {M:Den} {v0:Nat}
theorem AV.closed_clo {x:AV} (h:x.clo=true):AV.closed x=true:=by
 have _:=G;unfold AV.clo at h;split at h
 ·rfl
 ·rename_i xs
  induction xs with
  | nil=>rfl
  | cons y ys ih =>
   simp only [List.all_cons,Bool.and_eq_true] at h;simp;refine ⟨?_,ih h.2⟩;have h1:=h.1;split at h1
   ·rfl
   grind
 grind
theorem AV.closeds_clo:∀ (xs:List AV),(∀ x∈xs,x.clo=true)->AV.closeds xs=true
 | [],_=>rfl
 | x::xs,h=>by
  simp only [AV.closeds,AV.closed_clo (h x (by simp)),AV.closeds_clo xs fun y hy=>h y (by simp [hy]),Bool.and_self]
variable {m:Emb} {s:SS} {st:St} {o:Oper}
theorem ZW (hE:Em m s st) {T:TypeId} {len:Nat} {parts:Array (Nat×Operand)} {A:AV} (ae:o.op=.buildSlice T len parts) (hA:aA6 P s T len parts=some A) :
  AY P st o.op=some A/\A.cz m=A/\AV.inn s.B.length s.V.length A=true:=by
 unfold aA6 at hA;split at hA
 ·rename_i bz
  split at hA
  ·rename_i A0 B0 V0 he
   cases hA;rw [List.all_eq_true] at bz;have aw:∀ p∈parts.toList,st.ev p.2=s.ev p.2:=fun p hp=>by rw [hE.ev,(AV.clo_spec (bz p hp)).1]
   have nf:(parts.toList.map fun p=>st.ev p.2)=parts.toList.map fun p=>s.ev p.2:=List.map_congr_left aw
   have Fp:(parts.toList.map fun p=>(p.1,st.ev p.2))=parts.toList.map fun p=>(p.1,s.ev p.2):=List.map_congr_left fun p hp=>by grind
   have n7:AV.closeds (parts.toList.map fun p=>s.ev p.2)=true:=AV.closeds_clo _ (by grind)
   have Lm:∃ i u,A0=.own i u:=by
    unfold bU at he;grind [Option.map_eq_some_iff]
   obtain ⟨i,u,rfl⟩:=Lm;refine ⟨?_,?_⟩
   ·rw [ae]
    simp only [AY,nf,Fp,he,n7,if_true]
   ·simp
    split <;> exact ⟨by simp [AV.cz],rfl⟩
  grind
 grind
variable {lk:Lk} {K:FP->AV->List Box->List Vec->Option Ou} {r:Ou}
theorem ZX (hM:Fns P sg M) (hF:Free F) (hE:Em m s st) (hw:Wants lo o st true) (hd:bX lk o.dst=true) (bj:Ph v0 m s st) (_:v0<=s.V.length)
  (h:aEb P sg M lo v0 lk s o K=some r):jM F n P lo v0 lk m s st o K r:=by
 unfold aEb at h;split at h
 ·rename_i v hc
  split at h
  ·rename_i j hp
   split at h
   ·rename_i x hx
    split at h
    ·cases h
    ·rename_i cw
     exact FF hF hE hw hd bj hc hp hx cw h
   grind
  grind
 ·split at h
  ·rename_i f args et k hc
   split at h
   ·rename_i cs j aT hp
    split at h
    ·rename_i x hx
     split at h
     ·cases h
     ·rename_i cw
      exact ZU hM hF hE hw hd bj hc aT hp hx cw h
    grind
   grind
  split at h
  ·rename_i x args ats ae
   split at h
   ·rename_i g f l hl
    split at h
    ·split at h
     ·rename_i v hv
      split at h
      ·rename_i xs dO
       split at h
       ·cases h
       ·rename_i hc
        simp only [Bool.or_eq_true,Bool.not_eq_true',not_or,Bool.not_eq_false] at hc;split at h
        ·rename_i l' ij
         exact ZS hM hF hE hw hd bj ae hl hv dO hc.1 hc.2 ij h
        grind
      grind
     grind
    ·exact ZR hM hF hE hw hd bj ae hl h
   split at h
   ·split at h
    ·rename_i g v hg hv
     split at h
     ·rename_i hc
      simp at hc;exact ZT hM hF hE hw hd bj ae hg hv hc.1 hc.2 h
     grind
    grind
   obtain ⟨x,args,ts,f,caps,A,h1,h2,h3,h4,⟨c1,c2,c3⟩,h5,h6⟩:=GS hM hE ae h;obtain ⟨as',p1,p2,p3,p4⟩:=h6 rfl;refine uT hE hd bj c2 ?_ h4;rw [c1];exact aGS hF h1 hw h2 h3 p1 p3 p4 c3
  ·rename_i args ats ae
   split at h
   ·rename_i x y T T' af jt
    split at h
    ·rename_i j u hx
     split at h
     ·rename_i hc
      subst hc;exact aEg hF hE hw hd bj ae af jt hx h
     grind
    grind
   grind
  ·rename_i T len parts ae
   split at h
   ·rename_i A hA
    obtain ⟨q1,q2,q3⟩:=ZW hE ae hA;refine uT hE hd bj q3 ?_ h;rw [q2];exact aGW hF hw q1
   grind
  ·rename_i T a x ae
   split at h
   ·rename_i i off ha
    have hi:i<s.B.length:=by have:=hE.innEv a;grind [AV.inn]
    exact KV (off:=off) hF hE hw hd bj ae (by rw [hE.ev,ha];rfl) hi (by grind)
   ·rename_i i off ha
    have hi:i<s.B.length:=by have:=hE.innEv a;grind [AV.inn]
    exact KV (off:=off) hF hE hw hd bj ae (by rw [hE.ev,ha];rfl) hi (by grind)
   ·rename_i i g el off ha
    split at h
    ·rename_i r' hx
     subst h;exact WA hF hE hw hd bj ae ha hx
    grind
   grind
  ·rename_i T x k ok ae
   split at h
   ·rename_i i g hx
    split at h
    ·rename_i r' hh
     subst h;exact SW hF hE hw hd bj ae hx hh
    grind
   ·rename_i kn es hx
    split at h
    ·rename_i r' hh
     subst h;exact SX hF hE hw hd bj ae hx hh
    grind
   grind
  ·rename_i T ae
   exact ZQ hF hE hw hd bj ae (by grind)
  ·rename_i T a ae
   have opn:∀ x∈o.op.operands,x=a:=by grind [Op.operands]
   split at h
   ·rename_i i off ha
    have hi:i<s.B.length:=by have:=hE.innEv a;grind [AV.inn]
    refine qO hF [i] [] hE hw hd bj (by simp_all) (by simp_all) (by grind) (by simp) ?_ ?_ (by grind)
    ·intro T' x' i' off' h1 h2
     rw [ae] at h1;cases h1;rw [hE.ev,ha] at h2;grind [AV.cz]
    ·intro _ x hx i' gw
     rw [opn x hx,hE.ev,ha] at gw;grind [AV.cz,iW]
   ·rename_i i off ha
    have hi:i<s.B.length:=by have:=hE.innEv a;grind [AV.inn]
    refine qO hF [i] [] hE hw hd bj (by simp_all) (by simp_all) (by grind) (by simp) ?_ ?_ (by grind)
    ·intro T' x' i' off' h1 h2
     rw [ae] at h1;cases h1;rw [hE.ev,ha] at h2;grind [AV.cz,AV.ptr.injEq]
    ·intro _ x hx i' gw
     rw [opn x hx,hE.ev,ha] at gw;grind [AV.cz,iW]
   ·rename_i c ha
    refine qO hF [] [] hE hw hd bj (by simp_all) (by simp_all) (by simp) (by simp) ?_ ?_ (by rw [ae];exact h)
    ·intro T' x' i' off' h1 h2
     rw [ae] at h1;cases h1;rw [hE.ev,ha] at h2;grind [AV.cz]
    ·intro _ x hx i' gw
     rw [opn x hx,hE.ev,ha] at gw;grind [AV.cz,iW]
   ·rename_i i g el off ha
    have hi:i<s.V.length:=by have:=hE.innEv a;grind [AV.inn]
    refine qO hF [] [i] hE hw hd bj (by simp_all) (by simp_all) (by simp) (by grind) ?_ ?_ (by grind)
    ·intro T' x' i' off' h1 h2
     rw [ae] at h1;cases h1;rw [hE.ev,ha] at h2;grind [AV.cz]
    ·intro _ x hx i' gw
     rw [opn x hx,hE.ev,ha] at gw;grind [AV.cz,iW,Option.some.injEq]
   grind
  ·rename_i n1 n2 n3 n4 n4a n5 n6
   split at h
   ·rename_i hk
    refine qO hF [] (if rdV o.op=true then o.op.operands.toList.flatMap fun x=>vns (s.ev x) else []) hE hw hd bj hk ?_ (by simp) ?_ ?_ ?_ h
    ·simp
    ·intro i hi
     split at hi
     ·obtain ⟨x,hx,hi⟩:=List.mem_flatMap.1 hi
      exact JB _ (hE.innEv x) i hi
     grind
    ·grind
    ·intro iu x hx i' gw
     rw [hE.ev] at gw;rw [if_pos iu];obtain ⟨k,mq,nc⟩:=List.mem_map.1 (KX _ gw);grind
   grind
theorem aCq {f:FuncId} {x:Operand} {T:TypeId} {fs:List FuncId} (h:aIH P sg o=some (f,x,T,fs)):∃ args ts,o.op=.call { callee:=.value (.func f),args:=args,argTypes:=ts }/\args.toList=[x]/\sg f=none:=by
 have _:=G;unfold aIH at h;split at h
 case h_2=>cases h
 grind
theorem aCr {f:FuncId} {i u:Nat} {ys:List AV} (h:aII P sg v0 s o=some (f,i,u,ys)):∃ args ts,o.op=.call { callee:=.value (.func f),args:=args,argTypes:=ts }/\args.toList.map s.ev=.own i u::ys/\sg f=none:=by
 have _:=G;unfold aII at h;grind
theorem KY (hM:Fns P sg M) (hF:Free F) (hE:Em m s st) (hw:Wants lo o st true) (hd:bX lk o.dst=true) (bj:Ph v0 m s st) (ig:v0<=s.V.length)
  (h:aBd P sg M lo v0 lk s o K=some r):jM F n P lo v0 lk m s st o K r:=by
 unfold aBd at h;split at h
 ·rename_i f x T fs Fq
  obtain ⟨args,ts,ae,af,qy⟩:=aCq Fq;split at h
  case h_2=>cases h
  rename_i a b c hx;split at h
  case isFalse=>cases h
  rename_i ho;obtain ⟨out,h1,h2⟩:=eA h;obtain ⟨h3,h4⟩:=aO h2
  have:out=[.fn 0 []]:=by
   unfold isW at h3;grind
  subst this;obtain ⟨h5,h6⟩:=hM.way f T fs qy h1;exact aEh hF hE hw hd bj ae af hx h5 ho h6 h4
 ·split at h
  ·rename_i f i u ys Ln
   obtain ⟨args,ts,ae,af,qy⟩:=aCr Ln;split at h
   case h_2=>cases h
   rename_i v cs hv aT;split at h
   case isFalse=>cases h
   rename_i hc;simp only [Bool.and_eq_true,beq_iff_eq,Bool.not_eq_true'] at hc;obtain ⟨cu,rfl,cw⟩:=hc;exact aCp hM hF hE hw hd bj ae qy af hv aT cu cw h
  ·exact ZX hM hF hE hw hd bj ig h
theorem aCs (hM:Fns P sg M) (hF:Free F) (hE:Em m s st) (hw:Wants lo o st true) (hd:bX lk o.dst=true) (bj:Ph v0 m s st) (ig:v0<=s.V.length)
  (h:aCk P sg M lo v0 lk s o K=some r):jM F n P lo v0 lk m s st o K r:=by
 unfold aCk at h;split at h
 ·rename_i T x y ae
  split at h
  case h_2=>cases h
  rename_i sz zz et k by_ k1 l k2 c ar hx hy;split at h
  case h_2=>cases h
  rename_i te j fh hp;split at h
  case h_2=>cases h
  rename_i z hz;split at h
  case isFalse=>cases h
  rename_i hc;simp only [Bool.and_eq_true,beq_iff_eq,bne_iff_ne] at hc;obtain ⟨⟨⟨c1,c2⟩,c3⟩,c4⟩:=hc;obtain ⟨h1,h2⟩:=aO h;simp only [Bool.and_eq_true,decide_eq_true_eq,cJ] at h1;obtain ⟨⟨g1,g2⟩,g3,g4⟩:=h1;exact aCl hF hE hw hd bj ae hx hy ar fh hp hz c1 c2 c3 (by grind) g1 g2 g3 g4 h2
 ·rename_i T ae
  split at h
  ·split at h
   case h_2=>cases h
   rename_i ti ar;split at h
   case h_2=>cases h
   rename_i j hp;split at h
   case h_2=>cases h
   rename_i z hz;split at h
   case isFalse=>cases h
   rename_i hc;simp only [Bool.and_eq_true,decide_eq_true_eq,Bool.not_eq_true',List.isEmpty_eq_false_iff] at hc;obtain ⟨c1,c2,c3,c4⟩:=hc;exact VZ hF hE hw hd bj ae ar c2 c3 c4 hp hz (by grind) h
  ·exact KY hM hF hE hw hd bj ig h
 ·exact KY hM hF hE hw hd bj ig h
end
section
variable {F:Fence} {n:Nat} {P:Program} {sg:FuncId->Option Sig} {M:Den} {v0:Nat}
variable {m:Emb}
theorem aG2 {m':Emb}:pH m' v0=pH m v0:=have _:=G;rfl
variable {lk:Lk} {ops:List Oper} {r:Ou} {s:SS} {st:St}
theorem SY (hM:Fns P sg M) (hF:Free F) {o:Oper} {nxt:FP->SS->Option Ou} {G:Prop} (hE:Em m s st) (bj:Ph v0 m s st) (ig:v0<=s.V.length) (h:JA P sg M lk v0 ops o s nxt=some r)
  (next:∀ fp A f m1 s1,nxt fp s1=some r->RF F n P ops (pH m v0) (fp.mp m1) o st A f->Em m1 s1 (stF o st A f)->Adv lk m s st m1 s1 (stF o st A f)->fp.ok s1.B.length s1.V.length->s1.V.length=s.V.length->Ph v0 m1 s1 (stF o st A f)->G):G:=by
 unfold JA at h;split at h
 ·rename_i hd
  have fin:∀ (s1:SS),s1.V=s.V->Adv lk m s st m s1 st->jM F n P ops v0 lk m s1 st o (fun fp x B V=>nxt fp (s1.put o.dst x B V)) r->G:=by
   intro s1 iz dy ⟨fp,A,f,x,B,V,m',q1,q2,q3,q4,q5,q6,q7,q8⟩;refine next fp A f m' _ q2 q1 q4 (dy.trans q5) ?_ ?_ q8
   ·have hb:(s1.put o.dst x B V).B=B:=by rfl
    grind [SS.put_V]
   grind [SS.put_V]
  have run:∀ (s1:SS),s1.V=s.V->Em m s1 st->Adv lk m s st m s1 st->Wants ops o st true->aCk P sg M ops v0 lk s1 o (fun fp x B V=>nxt fp (s1.put o.dst x B V))=some r->G:=by
   intro s1 iz bY dy hw h1;exact fin s1 iz dy (aCs hM hF bY hw hd (by intro j v a b c;rw [iz] at b;exact bj j v a b c) (by grind) h1)
  have skip:∀ (s1:SS),s1.V=s.V->Em m s1 st->Adv lk m s st m s1 st->Wants ops o st false->nxt fp0 (s1.put o.dst unA s1.B s1.V)=some r->G:=by
   intro s1 iz bY dy hw h1;exact fin s1 iz dy (aCo hF bY hw hd (by intro j v a b c;rw [iz] at b;exact bj j v a b c) h1)
  split at h
  ·rename_i hg
   exact run s rfl hE (Adv.refl _ _ _ _) (Wants.none hg) h
  ·rename_i j want hg
   split at h
   ·cases h
   ·rename_i d d8
    split at h
    ·rename_i dh
     have dg:=hE.slot dh;split at h
     ·rename_i c hc
      split at h
      ·cases h
      ·rw [hc] at dg
       have hw:=Wants.known hg d8 dg;have bY:=hE.set hc dh;have dy:=Adv.set (lk:=lk) (m:=m) (st:=st) hc;cases c <;> cases want
       ·exact run (s.set d _) rfl bY dy hw h
       ·exact skip (s.set d _) rfl bY dy hw h
       ·exact skip (s.set d _) rfl bY dy hw h
       ·exact run (s.set d _) rfl bY dy hw h
     ·rename_i x hc
      rw [hc] at dg;exact skip s rfl hE (Adv.refl _ _ _ _) (Wants.undef hg d8 dg) h
     grind
    grind
 grind
variable {K:SS->Option Ou}
theorem aEi {b:Bool} {d:Option Nat} (hE:Em m s st) (h:rfS b d s K=some r):∃ s1,K s1=some r/\Em m s1 st/\(∀ lk,Adv lk m s st m s1 st)/\s1.B=s.B/\s1.V=s.V:=by
 unfold rfS at h;split at h
 ·split at h
  ·rename_i d
   split at h
   ·rename_i c ag
    obtain ⟨h1,h2⟩:=aO h;have hc:=xI h1;split at h2
    ·rename_i dh
     have dm:s.get d=.cv (.ref (cF c)):=by grind
     exact ⟨_,h2,hE.set dm dh,fun lk=>Adv.set dm,rfl,rfl⟩
    grind
   grind
  grind
 ·exact ⟨s,h,hE,fun lk=>Adv.refl _ _ _ _,rfl,rfl⟩
variable {rf:Option Nat->Bool}
theorem aCt (hM:Fns P sg M) (hF:Free F) {inl:IN} (hI:CP F n P inl) {vb:Nat->Prop}:∀ (l:List Oper) (acc:List FP) {m:Emb} {s:SS} {st:St} {K:SS->Option Ou} {Q:St->Prop},Em m s st->Ph v0 m s st->v0<=s.V.length->vb=pH m v0 ->
  (∀ f∈acc,f.ok s.B.length s.V.length)->aG1 P sg M inl rf lk v0 ops l acc s K=some r ->
  (∀ m' s' st',K s'=some r->Em m' s' st'->Adv lk m s st m' s' st'->Q st')->PW F n P ops vb l (acc.map (FP.mp m)) st Q:=by
 have base:∀ (acc:List FP) {m:Emb} {s:SS} {st:St} {K:SS->Option Ou} {Q:St->Prop},Em m s st->(∀ f∈acc,f.ok s.B.length s.V.length)->(if aGP ops acc=true then K s else none)=some r ->
   (∀ m' s' st',K s'=some r->Em m' s' st'->Adv lk m s st m' s' st'->Q st')->HZ ops (acc.map (FP.mp m))=true/\Q st:=by
  intro acc m s st K Q hE lh h hk;split at h
  ·rename_i hm
   exact ⟨aBg hE.m.bi hE.m.vi lh (PT hm),hk m s st h hE (Adv.refl _ _ _ _)⟩
  grind
 have step:∀ (o:Oper) (rest:List Oper) (acc:List FP) {m:Emb} {s:SS} {st:St} {K:SS->Option Ou} {Q:St->Prop} {nxt:FP->SS->Option Ou},Em m s st->Ph v0 m s st->v0<=s.V.length->vb=pH m v0->(∀ f∈acc,f.ok s.B.length s.V.length) ->
   JA P sg M lk v0 ops o s nxt=some r->(∀ m' s' st',K s'=some r->Em m' s' st'->Adv lk m s st m' s' st'->Q st') ->
   (∀ fp {m1:Emb} {s1:SS} {st1:St},nxt fp s1=some r->Em m1 s1 st1->Ph v0 m1 s1 st1->v0<=s1.V.length->vb=pH m1 v0->(∀ f∈acc++[fp],f.ok s1.B.length s1.V.length)->(∀ m' s' st',K s'=some r->Em m' s' st'->Adv lk m1 s1 st1 m' s' st'->Q st')->PW F n P ops vb rest ((acc++[fp]).map (FP.mp m1)) st1 Q) ->
   PW F n P ops vb (o::rest) (acc.map (FP.mp m)) st Q:=by
  intro o rest acc m s st K Q nxt hE bj ig xi lh h hk hn;subst xi;refine SY (F:=F) (n:=n) hM hF hE bj ig h fun fp A f m1 s1 h1 hR bY dy aa ik qz=>?_
  have hu:=dy.stp.up;refine .inl ⟨fp.mp m1,A,f,hR,?_⟩
  have vo:∀ g∈acc++[fp],g.ok s1.B.length s1.V.length:=by
   intro g hg;rw [List.mem_append] at hg;rcases hg with hg | hg
   ·exact (lh g hg).mono dy.bl dy.vl
   grind
  have:=hn fp h1 bY qz (by omega) aG2.symm vo fun m' s' st' g1 g2 g3=>hk m' s' st' g1 g2 (dy.trans g3)
  have he:acc.map (FP.mp m1)=acc.map (FP.mp m):=List.map_congr_left fun g hg=>FP.mp_up hu (by rw [hE.m.bl,hE.m.vl];grind)
  grind
 intro l
 induction l with
 | nil =>
  intro acc m s st K Q hE bj ig xi lh h hk;exact base acc hE lh h hk
 | cons o rest ih =>
  intro acc m s st K Q hE bj ig xi lh h hk;simp [aG1] at h;split at h
  ·split at h
   ·rename_i hm
    exact .inr ⟨aBg hE.m.bi hE.m.vi lh (PT hm),nT hM hF hI (o::rest) hE h hk⟩
   grind
  ·refine step o rest acc hE bj ig xi lh h hk fun fp {m1 s1 st1} h1 bY qz bt Fr vo mq=>?_
   obtain ⟨s2,q1,q2,q3,q4,q5⟩:=aEi bY h1;exact ih (acc++[fp]) q2 (by intro j v a b c;rw [q5] at b;exact qz j v a b c) (by grind) Fr (by grind) q1 fun m' s' st' g1 g2 g3=>mq m' s' st' g1 g2 ((q3 lk).trans g3)
variable {Q:Exit->St->Prop}
theorem aIM {code:Code} {ds:List Vec} (hd:∀ v∈ds,v.live=false) (Fs:∀ v∈ds,v.T≠ghT) (h:W F n P code ⟨st.t,st.B,st.V++ds⟩ Q):W F n P code st Q:=by
 intro n0 w0 e a w Qr hr hk
 have hx:Ext e w st.B.length (vers st.V) (kss st.V) e w st.B.length (vers (st.V++ds)) (kss (st.V++ds)):=by
  refine ⟨RO.refl _ _,fun _ _=>rfl,fun _ _ _ _=>rfl,Nat.le_refl _,by simp,fun i hi=>?_,fun i hi=>?_,Nat.le_refl _,fun _ h=>.inl h,rfl,fun _=>rfl,rfl⟩
  ·grind
  grind
 have ag:∀ (i:Nat) (x:Vec),(st.V++ds)[i]? = some x->x.live=true->st.V[i]? = some x:=by
  grind
 have hm:=hr.mem
 have bo:Rel n0 w0 e ⟨st.t,st.B,st.V++ds⟩ a w:=by
  refine ⟨AV.all.mono hx _ _ hr.sc hr.tm,hx.scos hr.sc,?_⟩;refine ⟨fun i b hb hl=>?_,fun i b hb=>hx.scos (hm.boxsc i b hb),hm.boxlo,hm.boxinj,fun i x hx hl=>hm.vec i x (ag i x hx hl) hl,fun i x g hx hl=>hm.vecS i x g (ag i x hx hl) hl,fun i x j b g hx hl=>hm.vecbox i x j b g (ag i x hx hl) hl,fun i x j y g hx hl hy ay=>hm.vecinj i x j y g (ag i x hx hl) hl (ag j y hy ay) ay,hm.ro,hm.below,hm.base,hm.bl,hm.hid.of rfl ⟨rfl,rfl⟩ (fun _ h=>.inl h) (SameG.app Fs) (fun _ _ _=>rfl) (fun i b hb hl=>.inl ⟨i,b,hb,hl,rfl⟩) (fun i x g hx hl hg=>.inl ⟨i,x,ag i x hx hl,hl,hg⟩)⟩
  obtain ⟨vs,h1,h2⟩:=hm.box i b hb hl;exact ⟨vs,h1,AV.all.mono hx _ _ (hm.boxsc i b hb) h2⟩
 refine h n0 w0 e a w Qr bo ?_;intro ex e' s' a' w' hq ah ac bw;exact hk ex e' s' a' w' hq ah ac (hx.trans bw)
theorem Em.pushDead {lk:Lk}:∀ (ds:List Vec) {m:Emb} {s:SS} {st:St},Em m s st->(∀ v∈ds,v.live=false)->Ph v0 m s st->v0<=s.V.length ->
  ∃ m',Em m' ⟨s.n,s.t,s.B,s.V++ds⟩ ⟨st.t,st.B,st.V++ds⟩/\Adv lk m s st m' ⟨s.n,s.t,s.B,s.V++ds⟩ ⟨st.t,st.B,st.V++ds⟩/\Ph v0 m' ⟨s.n,s.t,s.B,s.V++ds⟩ ⟨st.t,st.B,st.V++ds⟩
 | [],m,s,st,hE,hd,bj,ig=>by
  refine ⟨m,?_,?_,?_⟩
  ·simp_all
  ·simpa using Adv.refl lk m s st
  simp_all
 | v::ds,m,s,st,hE,hd,bj,ig=>by
  have hl:m.vb.length=m.vm.length:=by rw [hE.m.ol,hE.m.vl]
  have ho:=Emb.pushV_fo (m:=m) st.V.length hl;have hu:=Emb.pushV_up m st.V.length
  have bY:Em (m.pushV st.V.length) ⟨s.n,s.t,s.B,s.V++[v]⟩ ⟨st.t,st.B,st.V++[v]⟩:=by
   have:=hE.put (hE.m.pushV (v:=v)) hu ho (Nat.le_refl _) (by simp) (x:=.any) rfl none
   simpa [SS.put] using this
  have dy:Adv lk m s st (m.pushV st.V.length) ⟨s.n,s.t,s.B,s.V++[v]⟩ ⟨st.t,st.B,st.V++[v]⟩:=
   ⟨Stp.pushV v,rfl,Nat.le_refl _,by simp,fun _ _=>rfl,fun _ _ _=>rfl,fun i _ hi=>List.getElem?_append_left hi,fun i _ hi=>ho i (by rw [hE.m.vl];exact hi)⟩
  have qz:Ph v0 (m.pushV st.V.length) ⟨s.n,s.t,s.B,s.V++[v]⟩ ⟨st.t,st.B,st.V++[v]⟩:=by
   intro j x hj hx Bk
   by_cases bu:j<s.V.length
   ·rw [List.getElem?_append_left bu] at hx
    have x5:j<m.vm.length:=by rw [hE.m.vl];omega
    rw [hu.v j x5,List.getElem?_append_left (hE.m.vlt j bu),bj j x hj hx Bk];grind [Vec.cz]
   ·have O5:j - s.V.length=0:=by
     grind
    obtain rfl:j=s.V.length:=by omega
    simp at hx;subst hx;rw [<- hE.m.vl,Emb.pushV_new];simp [Vec.cz,Emb.pushV_new0 _ hl]
  obtain ⟨m',g1,g2,g3⟩:=Em.pushDead ds bY (fun x hx=>hd x (by grind)) qz (by grind)
  simp at g1 g2 g3;exact ⟨m',g1,dy.trans g2,g3⟩
theorem WB (ops:List Oper):∀ v∈phs P sg ops,v.live=false:=by
 have _:=G;grind [phs]
theorem aEj {T:TypeId} {et k:Nat} (h:bU P ⟨[],[],[]⟩ T 0 []=some (.own 0 0,[],[⟨true,et,k,0,[]⟩])):et≠ghT:=by
 obtain ⟨s,z,et',k',by_,h1,h2,_⟩:=KT h;cases h2;exact Nat.ne_of_lt (gI h1)
theorem aJT (ops:List Oper):∀ v∈phs P sg ops,v.T≠ghT:=by
 intro v hv;simp [phs] at hv;obtain ⟨o,_,hw⟩:=hv;split at hw
 ·rename_i v0 hc
  cases hw;unfold zE at hc;split at hc
  ·split at hc
   ·split at hc
    ·rename_i hb
     cases hc;exact aEj hb
    grind
   grind
  grind
 ·split at hw
  ·rename_i f args et k ho
   cases hw;unfold aCi at ho;split at ho
   ·split at ho
    ·cases ho
    ·split at ho
     ·rename_i ar
      cases ho;exact Nat.ne_of_lt (gI ar)
     grind
   grind
  ·split at hw
   ·split at hw
    ·rename_i ar
     cases hw;exact Nat.ne_of_lt (gI ar)
    grind
   ·grind
   grind
theorem aEk (hM:Fns P sg M) (hF:Free F) {inl:IN} (hI:CP F n P inl) {id:Nat} {ops:Array Oper} (hE:Em m s st) (h:ZO P sg M inl rf lk ops s K=some r)
  (hk:∀ m' s' st',K s'=some r->Em m' s' st'->Adv lk m s st m' s' st'->Q .normal st'):W F n P (.region id ops true) st Q:=by
 unfold ZO at h;split at h
 ·rename_i aa
  simp [aBe] at aa
  have Ft:Ph s.V.length m s st:=by
   intro j v hj hv _;grind
  obtain ⟨m',h1,h2,h3⟩:=Em.pushDead (lk:=lk) (phs P sg ops.toList) hE (WB _) Ft (Nat.le_refl _);refine aIM (WB (P:=P) (sg:=sg) ops.toList) (aJT (P:=P) (sg:=sg) ops.toList) ?_
  have:=aGQ (F:=F) (n:=n) (P:=P) (vb:=pH m' s.V.length) (id:=id) (l:=ops.toList) (Q:=Q) aa.1 (by simp_all)
   (aCt hM hF hI ops.toList [] h1 h3 (by simp) rfl (by simp) h fun m'' s'' st'' g1 g2 g3=>hk m'' s'' st'' g1 g2 (h2.trans g3))
  omega
 grind
end
section
variable {P:Program} {T:TypeId} {mi:MI}
def wJ (kn:Nat) (cs:List CV) (z:Value) (es:List (List CV)):List (List CV):=bV kn cs (aH kn cs z es) es
theorem KZ {kn:Nat} {key x:List CV} {B:List (List CV)}:∀ {A:List (List CV)},¬bN kn key (A++B)<(A++B).length->bN kn key (A++x::B)=if eqB (key.map cvV) ((x.take kn).map cvV)=true then A.length else (A++B).length+1
 | [],hp=>by
  have _:=G;simp [bN] at hp ⊢;split
  ·rfl
  ·have:∀ (l:List (List CV)),bN kn key l<=l.length:=by
    intro l
    induction l with
    | nil=>simp [bN]
    | cons e l ih=>grind [bN]
   grind
 | e::A,hp=>by
  simp only [List.cons_append,bN] at hp ⊢;split at hp
  ·grind
  ·rename_i h
   rw [if_neg h,KZ (A:=A) (by grind)]
   grind
theorem PY {kn:Nat} {key x:List CV} {z:Value} {B:List (List CV)} (hx:¬eqB (key.map cvV) ((x.take kn).map cvV)=true):∀ {A:List (List CV)},aH kn key z (A++x::B)=aH kn key z (A++B)
 | []=>by
  have _:=G;simp_all [aH,bN]
 | e::A=>by
  have ih:=PY (z:=z) (B:=B) hx (A:=A);grind [aH,bN]
theorem LA {key cs:List CV} {d:CV} (hk:dU mi key=true) (aT:dU mi cs=true):∀ {es:List (List CV)} {i:Nat},es.all (okE mi)=true->(∀ e,es[i]? = some e->(e.take mi.kl.length).map cvV=cs.map cvV)->bN mi.kl.length key (es.set i (cs++[d]))=bN mi.kl.length key es
 | [],i,_,_=>by simp
 | e::es,0,aa,h=>by
  have hl:cs.length=mi.kl.length:=uR aT;grind [bN]
 | e::es,i+1,aa,h=>by
  simp_all [bN,LA]
variable {key:List CV}
theorem aCu {cs:List CV} {d:CV} {es:List (List CV)} (aa:es.all (okE mi)=true) (hk:dU mi key=true) (aT:dU mi cs=true) (_:kC d=some mi.vl) (z:Value) :
  aH mi.kl.length key z (bV mi.kl.length cs d es)=if eqB (key.map cvV) (cs.map cvV)=true then d else aH mi.kl.length key z es:=by
 have hl:cs.length=mi.kl.length:=uR aT;have cq:=(nQ (beq_iff_eq.1 hk)).1;have fq:=(nQ (beq_iff_eq.1 aT)).1;unfold bV;split
 ·rename_i hp
  have Iz:=uP aT aa hp;have nf:=LA (d:=d) hk aT (i:=bN mi.kl.length cs es) aa (fun e he=>by grind)
  unfold aH;split
  ·rename_i ft
   have ft:=tG cq fq ft
   have fk:bN mi.kl.length key es=bN mi.kl.length cs es:=by
    have:∀ (l:List (List CV)),bN mi.kl.length key l=bN mi.kl.length cs l:=by
     intro l
     induction l with
     | nil=>rfl
     | cons e l ih=>grind [bN]
    grind
   grind
  ·rename_i ax
   have ID:bN mi.kl.length cs es≠bN mi.kl.length key es:=by
    intro he;have x6:bN mi.kl.length key es<es.length:=by omega
    have h2:=uP hk aa x6;rw [<- he,Iz] at h2;exact ax (by rw [<- h2];exact xD fq)
   grind
 ·split
  ·rename_i ft
   have he:=tG cq fq ft
   have O6:¬bN mi.kl.length key es<es.length:=by
    have:bN mi.kl.length cs es=bN mi.kl.length key es:=by
     have:∀ (l:List (List CV)),bN mi.kl.length cs l=bN mi.kl.length key l:=by
      intro l
      induction l with
      | nil=>rfl
      | cons e l ih=>grind [bN]
     grind
    omega
   unfold aH;simp_all [KZ]
  grind [PY,List.take_append_drop]
theorem ZY {kn:Nat} {cs:List CV} (h:key.map cvV=cs.map cvV) (z:Value) (es:List (List CV)):aH kn key z es=aH kn cs z es:=by
 have _:=G
 have:bN kn key es=bN kn cs es:=by
  induction es with
  | nil=>rfl
  | cons e l ih=>grind [bN]
 unfold aH;grind
theorem aCv (hm:eO P T=some mi) {cs:List CV} {es:List (List CV)} (aa:es.all (okE mi)=true) (hk:dU mi key=true) (aT:dU mi cs=true) :
  aH mi.kl.length key mi.z (wJ mi.kl.length cs mi.z es)=aH mi.kl.length key mi.z es:=by
 unfold wJ;rw [aCu aa hk aT (gX hm aa)];split
 ·rename_i h;exact (ZY (tG (nQ (beq_iff_eq.1 hk)).1 (nQ (beq_iff_eq.1 aT)).1 h) _ _).symm
 ·rfl
theorem JC (hm:eO P T=some mi) {cs:List CV} {es:List (List CV)} (aa:es.all (okE mi)=true) (aT:dU mi cs=true):(wJ mi.kl.length cs mi.z es).all (okE mi)=true:=CL aa aT (gX hm aa)
theorem aEl (_:eO P T=some mi) {cs:List CV} {d:CV} {es:List (List CV)} (aa:es.all (okE mi)=true) (aT:dU mi cs=true):bV mi.kl.length cs d (wJ mi.kl.length cs mi.z es)=bV mi.kl.length cs d es:=by
 have hl:cs.length=mi.kl.length:=uR aT;have fq:=(nQ (beq_iff_eq.1 aT)).1
 by_cases hp:bN mi.kl.length cs es<es.length
 ·have h1:wJ mi.kl.length cs mi.z es=es.set (bN mi.kl.length cs es) (cs++[aH mi.kl.length cs mi.z es]):=by unfold wJ bV;grind
  have hg:es[bN mi.kl.length cs es]? = some (es.getD (bN mi.kl.length cs es) []):=by grind
  have nf:bN mi.kl.length cs (wJ mi.kl.length cs mi.z es)=bN mi.kl.length cs es:=by
   rw [h1];exact LA aT aT aa (fun e he=>by rw [hg] at he;cases he;exact uP aT aa hp)
  simp_all [bV]
 ·have h1:wJ mi.kl.length cs mi.z es=es.take (HU mi.kl.length cs es)++(cs++[aH mi.kl.length cs mi.z es])::es.drop (HU mi.kl.length cs es):=by unfold wJ bV;grind
  have nf:bN mi.kl.length cs (wJ mi.kl.length cs mi.z es)=(es.take (HU mi.kl.length cs es)).length:=by
   rw [h1,KZ (by simp_all)]
   rw [<- hl,List.take_left,if_pos (xD fq)]
  simp_all [bV,if_neg]
variable {w:World} {b c:Nat} {arr:Array MapEntry} {es:List (List CV)} {cs:List CV} {d:CV}
theorem OI (hm:eO P T=some mi) (hh:w.heap[b]? = some (.map arr c)) (hM:MOk mi.kl.length es arr c) (aa:es.all (okE mi)=true) (hk:dU mi cs=true) :
  ∃ (w1:World) (s:Nat) (arr':Array MapEntry) (c' j:Nat) (m:MapEntry),(Instr.mapEntry T (.map (some b)) (mkV (cs.map cvV))).run P w=.ok (.tuple #[cvV (aH mi.kl.length cs mi.z es),goInt s]) w1 /\
   w.grownBy w1 (some b)/\w1.heap[b]? = some (.map arr' c')/\MOk mi.kl.length (wJ mi.kl.length cs mi.z es) arr' c'/\arr'[j]? = some m/\m.born=s/\m.key=mkV (cs.map cvV):=by
 obtain ⟨hu,_⟩:=cX hm;have io:b<w.heap.size:=(Array.getElem?_eq_some_iff.1 hh).1;have cq:=(nQ (beq_iff_eq.1 hk)).1;have sq:=AZ (xC _ _ _ (cX hm).2.1) (yY hm cq) (by grind [pZ])
 obtain ⟨r,hf,h⟩:=hM.find hm aa hk;obtain ⟨u1,u2⟩:=hM.upd (d:=aH mi.kl.length cs mi.z es) hm aa hk;rcases h with ⟨rfl,hx,hp⟩ | ⟨j,m,rfl,hj,h0,h1,hp⟩
 ·have pu:=u1 hp hx
  rw [qL hp] at pu;refine ⟨w.putObj b (.map (arr.push { key:=mkV (cs.map cvV),val:=mi.z,born:=c }) (c+1)),c,_,_,arr.size,{ key:=mkV (cs.map cvV),val:=mi.z,born:=c },?_,grownBy_putObj' w b _,World.putObj_heap_same io,?_,by simp,rfl,rfl⟩
  ·simp [Instr.mapEntry,run_underlying hu,eN hh,dL hm hk,hf,EO hm,fR hh,qL hp,cvV]
  ·unfold wJ;rw [qL hp];exact pu
 ·have pu:=u2 j m hj h0 h1 hp
  have fk:arr.modify j (fun e=>{ e with key:=mkV (cs.map cvV) })=arr:=by
   apply Array.ext_getElem?;intro i;rw [Array.getElem?_modify];split
   ·rename_i hi;subst hi;rw [hj,Option.map_some,<- h0]
   ·rfl
  have x8:arr.modify j (fun e=>{ e with key:=mkV (cs.map cvV),val:=cvV (aH mi.kl.length cs mi.z es) })=arr:=by
   apply Array.ext_getElem?;intro i;rw [Array.getElem?_modify];split
   ·grind
   ·rfl
  rw [x8] at pu;refine ⟨w.putObj b (.map arr c),m.born,arr,c,j,m,?_,grownBy_putObj' w b _,World.putObj_heap_same io,pu,hj,rfl,h0⟩;simp [Instr.mapEntry,run_underlying hu,eN hh,dL hm hk,hf,hj,h0,Instr.keyThatStays,sq,fk,fR hh,h1]
theorem SZ (hm:eO P T=some mi) (hh:w.heap[b]? = some (.map arr c)) (hM:MOk mi.kl.length (wJ mi.kl.length cs mi.z es) arr c) (aa:es.all (okE mi)=true) (hk:dU mi cs=true) {j:Nat} {m:MapEntry} (hj:arr[j]? = some m) (h0:m.key=mkV (cs.map cvV)) :
  ∃ (w':World) (arr':Array MapEntry) (c':Nat),(Instr.entryStore T (.map (some b)) (goInt m.born) (cvV d)).run P w=.ok () w'/\w.grownBy w' (some b)/\w'.heap[b]? = some (.map arr' c')/\MOk mi.kl.length (bV mi.kl.length cs d es) arr' c':=by
 have io:b<w.heap.size:=(Array.getElem?_eq_some_iff.1 hh).1;have Bm:=JC hm aa hk;obtain ⟨u1,u2⟩:=hM.upd (d:=d) hm Bm hk;obtain ⟨r,hf,h⟩:=hM.find hm Bm hk;rcases h with ⟨rfl,hx,hp⟩ | ⟨j',m',rfl,js,sw,ph,hp⟩
 ·grind
 ·have Dg:j'=j:=by
   have df:=hM.1.2.2;have a1:(arr.toList.map (·.key))[j]? = some (mkV (cs.map cvV)):=by grind
   have a2:(arr.toList.map (·.key))[j']? = some (mkV (cs.map cvV)):=by grind
   rcases Nat.lt_trichotomy j' j with Bn | Bn | Bn
   ·exact absurd a1 (xE df Bn a2)
   ·omega
   ·exact absurd a2 (xE df Bn a1)
  subst Dg;rw [hj] at js;cases js;have pu:=u2 j' m hj h0 ph hp;rw [aEl hm aa hk] at pu
  have my:arr.modify j' (fun e=>{ e with val:=cvV d })=arr.modify j' (fun e=>{ e with key:=mkV (cs.map cvV),val:=cvV d }):=by
   grind
  have ak:=Go.Sx.find_born hM.1.2.1 hj;refine ⟨w.putObj b (.map (arr.modify j' (fun e=>{ e with key:=mkV (cs.map cvV),val:=cvV d })) c),_,_,?_,grownBy_putObj' w b _,World.putObj_heap_same io,pu⟩
  simp [Instr.entryStore,eN hh,goInt,asInt,asIntOf,ak,fR hh,my]
end
structure Tr where
 im:Nat
 ix:Nat
 is:Nat
 T:TypeId
 mi:MI
 d1:Nat
 d2:Nat
 x:Operand
 k:Operand
 y:Operand
 vi:Nat
 v:Vec
 cs:List CV
 d:CV
def Tr.es (q:Tr) (L:Nat->Prop) [DecidablePred L]:List (List CV):=if L q.is then bV q.mi.kl.length q.cs q.d q.v.es else if L q.im then wJ q.mi.kl.length q.cs q.mi.z q.v.es else q.v.es
def LR (P:Program) (lo:List Oper) (o:Oper) (A:AV) (t:List AV) (B:List Box) (V0:List Vec) (ms:List Nat) (rd:Option Nat):Prop:=
 ∀ t' V',(∀ d∈o.looksAt lo.toArray,t'[d]? = t[d]?)->V'.length=V0.length->(∀ j,j ∉ ms->V'[j]? = V0[j]?)->(∀ j,rd=some j->MEq P (V0[j]?) (V'[j]?))->∀ n0 w0 e a w,Rel n0 w0 e ⟨t',B,V'⟩ a w ->
  ∃ v,(execOp a.eval o).run P w=.ok (.value v) w/\AV.holds e w (kss V') A v/\AV.sco B.length (vers V') A
section
variable {F:Fence} {n:Nat} {P:Program} {lo:List Oper}
structure TrOk (P:Program) (lo:List Oper) (t0:List AV) (B:List Box) (V0:List Vec) (tT:Nat->List AV) (q:Tr):Prop where
 hm:eO P q.T=some q.mi
 hv:V0[q.vi]? = some q.v
 hI:IsM q.mi q.T q.v
 ok:dU q.mi q.cs=true
 kd:kC q.d=some q.mi.vl
 om:∃ o,lo[q.im]? = some o/\o.op=.mapEntry q.T q.x q.k/\o.dst=some q.d1
 ox:∃ o,lo[q.ix]? = some o/\o.op=.extract (.tmp q.d1) 1/\o.dst=some q.d2
 os:∃ o,lo[q.is]? = some o/\o.op=.entryStore q.T q.x (.tmp q.d2) q.y/\o.dst=none
 l1:q.d1<t0.length
 l2:q.d2<t0.length
 w1:(wl lo q.im).getD q.ix false=true
 w2:(wl lo q.ix).getD q.is false=true
 w3:(wl lo q.im).getD q.is false=true
 xm:St.ev ⟨tT q.im,B,V0⟩ q.x=.own q.vi q.v.ver
 km:fJ q.mi (St.ev ⟨tT q.im,B,V0⟩ q.k)=some q.cs
 xs:St.ev ⟨tT q.is,B,V0⟩ q.x=.own q.vi q.v.ver
 ys:St.ev ⟨tT q.is,B,V0⟩ q.y=.cv q.d
def sR (t:List AV) (d:Option Nat) (A:AV):List AV:=match d with
 | some d=>t.set d A
 | none=>t
structure PDok (P:Program) (lo:List Oper) (t0:List AV) (B:List Box) (V0:List Vec) (trs:List Tr) (As:Nat->AV) (tT:Nat->List AV):Prop where
 hg:∀ o∈lo,o.guard=none
 he:∀ (i:Nat) (o:Oper),lo[i]? = some o->∀ e∈o.after,Region.binds .any e=true->e.on<i
 hap:∀ (i j:Nat) (oi oj:Oper),i<j->lo[i]? = some oi->lo[j]? = some oj->(wl lo i).getD j false=true\/oi.apart lo.toArray oj=true
 hdd:∀ (i j:Nat) (oi oj:Oper) (d:Nat),i≠j->lo[i]? = some oi->lo[j]? = some oj->oi.dst=some d->oj.dst≠some d
 hT0:tT 0=t0
 hTs:∀ (i:Nat) (o:Oper),lo[i]? = some o->tT (i+1)=sR (tT i) o.dst (As i)
 hl:∀ (i:Nat) (o:Oper),lo[i]? = some o->(∀ q∈trs,i≠q.im/\i≠q.ix/\i≠q.is)->(∀ c,o.op≠.defer c)/\∃ rd,LR P lo o (As i) (tT i) B V0 (trs.map (·.vi)) rd/\∀ q∈trs,rd=some q.vi->(wl lo i).getD q.is false=true
 htr:∀ q∈trs,TrOk P lo t0 B V0 tT q
 hA:∀ q∈trs,As q.im=.any/\As q.ix=.any
 hvi:∀ q∈trs,∀ q'∈trs,q.vi=q'.vi->q=q'
 hix:∀ q∈trs,∀ q'∈trs,(q.im=q'.im->q=q')/\(q.ix=q'.ix->q=q')/\(q.is=q'.is->q=q')
variable {t0:List AV} {B:List Box} {V0:List Vec} {trs:List Tr} {As:Nat->AV} {tT:Nat->List AV}
theorem PDok.len (H:PDok P lo t0 B V0 trs As tT):∀ i,i<=lo.length->(tT i).length=t0.length:=by
 intro i
 induction i with
 | zero=>intro _;rw [H.hT0]
 | succ i ih =>
  intro hi;have ho:lo[i]? = some lo[i]:=List.getElem?_eq_getElem (by omega)
  rw [H.hTs i _ ho];unfold sR;grind
theorem PDok.at (H:PDok P lo t0 B V0 trs As tT):∀ i,i<=lo.length->(∀ (j:Nat) (o:Oper) (d:Nat),j<i->lo[j]? = some o->o.dst=some d->d<t0.length->(tT i)[d]? = some (As j)) /\
  (∀ (d:Nat),(∀ (j:Nat) (o:Oper),j<i->lo[j]? = some o->o.dst≠some d)->(tT i)[d]? = t0[d]?):=by
 intro i
 induction i with
 | zero=>intro _;exact ⟨fun j o d h=>by omega,fun d _=>by rw [H.hT0]⟩
 | succ i ih =>
  intro hi;have ho:lo[i]? = some lo[i]:=List.getElem?_eq_getElem (by omega)
  have aj:=H.len i (by omega)
  rw [H.hTs i _ ho];constructor
  ·intro j o d hj Lo hd ja
   by_cases mg:j=i
   ·grind [sR]
   ·have ax:=H.hdd j i o _ d mg Lo ho hd
    unfold sR;grind
  ·unfold sR
   grind
structure PInv (P:Program) (lo:List Oper) (t0:List AV) (B:List Box) (V0:List Vec) (trs:List Tr) (As:Nat->AV) (L:Nat->Prop) [DecidablePred L] (n0:Nat) (w0:World) (e:Env) (t:List AV) (V:List Vec) (a:Act) (w:World):Prop where
 rel:Rel n0 w0 e ⟨t,B,V⟩ a w
 tl:t.length=t0.length
 t1:∀ (j:Nat) (o:Oper) (d:Nat),lo[j]? = some o->L j->o.dst=some d->d<t0.length->t[d]? = some (As j)
 t2:∀ (d:Nat),(∀ (j:Nat) (o:Oper),lo[j]? = some o->L j->o.dst≠some d)->t[d]? = t0[d]?
 vl:V.length=V0.length
 v1:∀ j,j ∉ trs.map (·.vi)->V[j]? = V0[j]?
 v2:∀ q∈trs,V[q.vi]? = some { q.v with es:=q.es L }
 pe:∀ q∈trs,L q.im->¬L q.is->∃ (b:Nat) (arr:Array MapEntry) (c j:Nat) (m:MapEntry),e.hdr q.vi q.v.ver=.map (some b)/\w.heap[b]? = some (.map arr c)/\arr[j]? = some m/\m.key=mkV (q.cs.map cvV) /\
  (¬L q.ix->∃ v0,a.eval (.tmp q.d1)=.tuple #[v0,goInt m.born])/\(L q.ix->a.eval (.tmp q.d2)=goInt m.born)
section step
variable {L:Nat->Prop} [DecidablePred L] {n0:Nat} {w0:World} {e:Env} {t:List AV} {V:List Vec} {a:Act} {w:World}
variable {i:Nat} {o:Oper}
theorem PInv.agr (H:PDok P lo t0 B V0 trs As tT) (I:PInv P lo t0 B V0 trs As L n0 w0 e t V a w) (ho:lo[i]? = some o) (hi:¬L i) (hb:∀ j,(wl lo j).getD i false=true->j<lo.length->L j) (ha:∀ j,L j->j<lo.length->¬(wl lo i).getD j false=true) :
  ∀ d∈o.looksAt lo.toArray,t[d]? = (tT i)[d]?:=by
 intro d hd;have aq:i<lo.length:=(List.getElem?_eq_some_iff.1 ho).1;obtain ⟨p1,p2⟩:=H.at i (by omega)
 by_cases iN:∃ j oj,j<i/\lo[j]? = some oj/\oj.dst=some d
 ·obtain ⟨j,oj,hj,kg,ta⟩:=iN
  have hL:L j:=by
   rcases H.hap j i oj o hj kg ho with h | h
   ·grind
   ·exact absurd hd ((Oper.apart_spec h).1 d ta)
  by_cases ja:d<t0.length
  ·rw [I.t1 j oj d kg hL ta ja,p1 j oj d hj kg ta ja]
  ·have e1:t[d]? = none:=List.getElem?_eq_none (by rw [I.tl];grind)
   have e2:(tT i)[d]? = none:=List.getElem?_eq_none (by rw [H.len i (by omega)];grind)
   grind
 ·rw [p2 d (fun j oj hj kg ta=>iN ⟨j,oj,hj,kg,ta⟩)]
  refine I.t2 d fun j oj kg hL ta=>?_
  have mg:j≠i:=by grind
  rcases Nat.lt_or_ge j i with h | h
  ·grind
  ·rcases H.hap i j o oj (by omega) ho kg with h' | h'
   ·grind
   ·exact absurd hd ((Oper.apart_spec h').2.2 d ta)
theorem PInv.ev (H:PDok P lo t0 B V0 trs As tT) (I:PInv P lo t0 B V0 trs As L n0 w0 e t V a w) {i:Nat} {o:Oper} (ho:lo[i]? = some o) (hi:¬L i) (hb:∀ j,(wl lo j).getD i false=true->j<lo.length->L j) (ha:∀ j,L j->j<lo.length->¬(wl lo i).getD j false=true) :
  ∀ x∈o.op.operands,St.ev ⟨t,B,V⟩ x=St.ev ⟨tT i,B,V0⟩ x:=
 jI (lo:=lo) (s:=⟨tT i,B,V0⟩) (s':=⟨t,B,V⟩) (I.agr H ho hi hb ha)
variable {L':Nat->Prop}
theorem PInv.slots (H:PDok P lo t0 B V0 trs As tT) (I:PInv P lo t0 B V0 trs As L n0 w0 e t V a w) (ho:lo[i]? = some o) (hL:∀ j,L' j↔(j=i\/L j)) :
  (sR t o.dst (As i)).length=t0.length/\(∀ (j:Nat) (o':Oper) (d:Nat),lo[j]? = some o'->L' j->o'.dst=some d->d<t0.length->(sR t o.dst (As i))[d]? = some (As j)) /\
   ∀ (d:Nat),(∀ (j:Nat) (o':Oper),lo[j]? = some o'->L' j->o'.dst≠some d)->(sR t o.dst (As i))[d]? = t0[d]?:=by
 refine ⟨?_,fun j o' d ge hj hd ja=>?_,fun d hd=>?_⟩
 ·unfold sR;split <;> simp [I.tl]
 ·rcases (hL j).1 hj with rfl | hj
  ·rw [ho] at ge;cases ge
   simp [sR,hd];rw [List.getElem?_set_self (by rw [I.tl];omega)]
  ·by_cases mg:j=i
   ·subst mg
    rw [ho] at ge;cases ge;simp [sR,hd];rw [List.getElem?_set_self (by rw [I.tl];omega)]
   ·have ax:=H.hdd j i o' o d mg ge ho hd
    unfold sR;split
    ·rw [List.getElem?_set_ne (by grind)]
     exact I.t1 j o' d ge hj hd ja
    ·exact I.t1 j o' d ge hj hd ja
 ·unfold sR
  split
  ·rw [List.getElem?_set_ne (by grind)]
   exact I.t2 d fun j o' ge hj=>hd j o' ge ((hL j).2 (.inr hj))
  ·exact I.t2 d fun j o' ge hj=>hd j o' ge ((hL j).2 (.inr hj))
variable {q:Tr}
theorem Tr.es_same {L:Nat->Prop} [DecidablePred L] [DecidablePred L'] (hL:∀ j,L' j↔(j=i\/L j)) (h1:i≠q.im) (h2:i≠q.is):q.es L'=q.es L:=by
 have _:=G;unfold Tr.es;grind
theorem aIN (t:List AV) (B:List Box) (V V':List Vec) (d:Option Nat) (A:AV):(⟨t,B,V⟩:St).put d A B V'=⟨sR t d A,B,V'⟩:=by have _:=G;rfl
theorem PInv.light (H:PDok P lo t0 B V0 trs As tT) (I:PInv P lo t0 B V0 trs As L n0 w0 e t V a w) (ho:lo[i]? = some o) (hi:¬L i) (hb:∀ j,(wl lo j).getD i false=true->j<lo.length->L j) (ha:∀ j,L j->j<lo.length->¬(wl lo i).getD j false=true) [DecidablePred L'] (hL:∀ j,L' j↔(j=i\/L j)) (hq:∀ q∈trs,i≠q.im/\i≠q.ix/\i≠q.is) :
  ∃ v,(execOp a.eval o).run P w=.ok (.value v) w/\PInv P lo t0 B V0 trs As L' n0 w0 e (sR t o.dst (As i)) V (a.put o.dst v) w:=by
 obtain ⟨df,rd,Lp,iu⟩:=H.hl i o ho hq
 have Fu:∀ j,rd=some j->MEq P (V0[j]?) (V[j]?):=by
  intro j hj
  by_cases x5:j∈trs.map (·.vi)
  ·obtain ⟨q,bp,rfl⟩:=List.mem_map.1 x5
   have K:=H.htr q bp;rw [K.hv,I.v2 q bp]
   have pw:¬L q.is:=fun hs=>by
    have aq:q.is<lo.length:=by obtain ⟨o',ge,_⟩:=K.os;grind
    grind
   refine .inr ⟨_,_,rfl,rfl,rfl,rfl,rfl,rfl,fun T mi hm hT=>?_⟩
   have aa:=K.hI.ok
   have Ev:T=q.T:=by
    have h1:=K.hI.T;rw [hT] at h1;have hl:=aGX hm K.hm h1;unfold MI.tag at h1;grind
   subst Ev;rw [K.hm] at hm;cases hm;unfold Tr.es;rw [if_neg pw];split
   ·exact ⟨by rw [JC K.hm aa K.ok,aa],fun _ cs aT=>aCv K.hm aa aT K.ok⟩
   simp
  ·exact .inl (I.v1 j x5).symm
 obtain ⟨v,h1,h2,h3⟩:=Lp t V (I.agr H ho hi hb ha) I.vl I.v1 Fu n0 w0 e a w I.rel;obtain ⟨s1,s2,s3⟩:=I.slots H ho hL;have hr:=I.rel.put I.rel.mem (Ext.refl _ _ _ _ _) h2 h3 o.dst;refine ⟨v,h1,hr,s1,s2,s3,I.vl,I.v1,fun q bp=>?_,fun q bp hm pw=>?_⟩
 ·obtain ⟨g1,_,g3⟩:=hq q bp
  rw [I.v2 q bp,Tr.es_same hL g1 g3]
 ·obtain ⟨g1,g2,g3⟩:=hq q bp
  have ct:L q.im:=((hL _).1 hm).resolve_left (Ne.symm g1);obtain ⟨b,arr,c,j,m,f1,f2,f3,f4,f5,f6⟩:=I.pe q bp ct fun h=>pw ((hL _).2 (.inr h))
  have K:=H.htr q bp;obtain ⟨om,vp,_,A4⟩:=K.om;obtain ⟨ox,vq,_,Bk⟩:=K.ox
  have e1:(a.put o.dst v).eval (.tmp q.d1)=a.eval (.tmp q.d1):=Act.eval_put fun d hd he=>by
   cases he;exact H.hdd i q.im o om _ g1 ho vp hd A4
  have e2:(a.put o.dst v).eval (.tmp q.d2)=a.eval (.tmp q.d2):=Act.eval_put fun d hd he=>by
   cases he;exact H.hdd i q.ix o ox _ g2 ho vq hd Bk
  grind
variable {q':Tr}
theorem PInv.other (H:PDok P lo t0 B V0 trs As tT) (I:PInv P lo t0 B V0 trs As L n0 w0 e t V a w) (hq:q∈trs) (bp:q'∈trs) (ax:q'≠q) {b b':Nat} {arr':Array MapEntry} {c':Nat} (hb:e.hdr q.vi q.v.ver=.map (some b)) (cd:e.hdr q'.vi q'.v.ver=.map (some b'))
  (hh:w.heap[b']? = some (.map arr' c')) {w1:World} (hg:w.grownBy w1 (some b)):w1.heap[b']? = some (.map arr' c'):=by
 have hlt:b'<w.heap.size:=(Array.getElem?_eq_some_iff.1 hh).1;refine (hg.block b' hlt fun he=>?_).trans hh
 have he:b=b':=(Option.some.inj he).symm;subst he;have K:=H.htr q hq;have K':=H.htr q' bp;have:=I.rel.mem.vecinj q'.vi _ q.vi _ b (I.v2 q' bp) K'.hI.live (I.v2 q hq) K.hI.live (by rw [cd];rfl) (by rw [hb];rfl)
 exact ax (H.hvi q' bp q hq this)
theorem PInv.other_pe (H:PDok P lo t0 B V0 trs As tT) (I:PInv P lo t0 B V0 trs As L n0 w0 e t V a w) (ho:lo[i]? = some o) [DecidablePred L'] (hL:∀ j,L' j↔(j=i\/L j)) (hq:q∈trs) (bp:q'∈trs) (ax:q'≠q) {b:Nat} (hb:e.hdr q.vi q.v.ver=.map (some b))
  (g1:i≠q'.im) (g2:i≠q'.ix) {w1:World} (hg:w.grownBy w1 (some b)\/w1=w) (v:Value) (hm:L' q'.im) (pw:¬L' q'.is) :
  ∃ (b:Nat) (arr:Array MapEntry) (c j:Nat) (m:MapEntry),e.hdr q'.vi q'.v.ver=.map (some b)/\w1.heap[b]? = some (.map arr c)/\arr[j]? = some m/\m.key=mkV (q'.cs.map cvV) /\
   (¬L' q'.ix->∃ v0,(a.put o.dst v).eval (.tmp q'.d1)=.tuple #[v0,goInt m.born])/\(L' q'.ix->(a.put o.dst v).eval (.tmp q'.d2)=goInt m.born):=by
 have ct:L q'.im:=((hL _).1 hm).resolve_left (Ne.symm g1);obtain ⟨b',arr,c,j,m,f1,f2,f3,f4,f5,f6⟩:=I.pe q' bp ct fun h=>pw ((hL _).2 (.inr h))
 have K:=H.htr q' bp;obtain ⟨om,vp,_,A4⟩:=K.om;obtain ⟨ox,vq,_,Bk⟩:=K.ox
 have e1:(a.put o.dst v).eval (.tmp q'.d1)=a.eval (.tmp q'.d1):=Act.eval_put fun d hd he=>by
  cases he;exact H.hdd i q'.im o om _ g1 ho vp hd A4
 have e2:(a.put o.dst v).eval (.tmp q'.d2)=a.eval (.tmp q'.d2):=Act.eval_put fun d hd he=>by
  cases he;exact H.hdd i q'.ix o ox _ g2 ho vq hd Bk
 refine ⟨b',arr,c,j,m,f1,?_,f3,f4,fun hx=>?_,fun hx=>?_⟩
 ·rcases hg with hg | rfl
  ·exact I.other H hq bp ax hb f1 f2 hg
  omega
 ·grind
 grind
theorem PDok.kinds (H:PDok P lo t0 B V0 trs As tT) (hq:q∈trs) (bp:q'∈trs):q.im≠q'.ix/\q.im≠q'.is/\q.ix≠q'.is:=by
 obtain ⟨om,vp,om1,_⟩:=(H.htr q hq).om;obtain ⟨ox,vq,ox1,_⟩:=(H.htr q hq).ox;obtain ⟨ox',Lq,ox1',_⟩:=(H.htr q' bp).ox;obtain ⟨os',Lr,os1',_⟩:=(H.htr q' bp).os;grind
theorem PInv.vset (H:PDok P lo t0 B V0 trs As tT) (I:PInv P lo t0 B V0 trs As L n0 w0 e t V a w) [DecidablePred L'] (hq:q∈trs) (cn:∀ q'∈trs,q'≠q->q'.es L'=q'.es L) :
  (V.set q.vi { q.v with es:=q.es L' }).length=V0.length/\(∀ j,j ∉ trs.map (·.vi)->(V.set q.vi { q.v with es:=q.es L' })[j]? = V0[j]?)/\∀ q'∈trs,(V.set q.vi { q.v with es:=q.es L' })[q'.vi]? = some { q'.v with es:=q'.es L' }:=by
 have hl:q.vi<V.length:=(List.getElem?_eq_some_iff.1 (I.v2 q hq)).1;refine ⟨by rw [List.length_set,I.vl],fun j hj=>?_,fun q' bp=>?_⟩
 ·rw [List.getElem?_set_ne (by grind)]
  exact I.v1 j hj
 ·by_cases h:q'.vi=q.vi
  ·obtain rfl:=H.hvi q' bp q hq h
   grind
  ·rw [List.getElem?_set_ne (Ne.symm h),I.v2 q' bp,cn q' bp (by grind)]
theorem PInv.entry (H:PDok P lo t0 B V0 trs As tT) (I:PInv P lo t0 B V0 trs As L n0 w0 e t V a w) (hq:q∈trs) (ho:lo[q.im]? = some o) (hi:¬L q.im) (hb:∀ j,(wl lo j).getD q.im false=true->j<lo.length->L j) (ha:∀ j,L j->j<lo.length->¬(wl lo q.im).getD j false=true) [DecidablePred L'] (hL:∀ j,L' j↔(j=q.im\/L j)) :
  ∃ v w1 V',(execOp a.eval o).run P w=.ok (.value v) w1/\PInv P lo t0 B V0 trs As L' n0 w0 e (sR t o.dst (As q.im)) V' (a.put o.dst v) w1/\dW e ⟨t,B,V⟩ w e B V' w1:=by
 have K:=H.htr q hq;obtain ⟨o',ge,ae,dk⟩:=K.om;rw [ho] at ge;cases ge;obtain ⟨os,x9,_⟩:=K.os;have pw:¬L q.is:=fun h=>ha q.is h (List.getElem?_eq_some_iff.1 x9).1 K.w3
 have cn:q.es L=q.v.es:=by unfold Tr.es;grind
 have hv:V[q.vi]? = some q.v:=by rw [I.v2 q hq,cn]
 obtain ⟨b,arr,c,h1,h2,h3,h4⟩:=K.hI.get K.hm I.rel.mem hv;have aw:=I.ev H ho hi hb ha;have hx:=(I.rel.ev q.x).1;rw [aw q.x (by grind [Op.operands]),K.xm] at hx
 have hk:=(I.rel.ev q.k).1;rw [aw q.k (by grind [Op.operands])] at hk
 have j9:=pU K.km K.ok hk;obtain ⟨w1,s,arr',c',j,m,r1,r2,r3,r4,r5,r6,r7⟩:=OI K.hm h3 h4 K.hI.ok K.ok;obtain ⟨m1,m2⟩:=K.hI.set K.hm I.rel.mem hv h1 h2 (JC K.hm K.hI.ok K.ok) r2 r3 r4
 have t8:q.es L'=wJ q.mi.kl.length q.cs q.mi.z q.v.es:=by
  unfold Tr.es;grind
 have cj:∀ q'∈trs,q'≠q->q.im≠q'.im/\q.im≠q'.ix/\q.im≠q'.is:=fun q' bp ax=>⟨fun h=>ax ((H.hix q hq q' bp).1 h).symm,(H.kinds hq bp).1,(H.kinds hq bp).2.1⟩
 have cr:=I.vset H (L':=L') hq fun q' bp ax=>Tr.es_same hL (cj q' bp ax).1 (cj q' bp ax).2.2
 rw [t8] at cr;obtain ⟨s1,s2,s3⟩:=I.slots H ho hL;have xb:a.tmps.size=t.length:=by have:=I.rel.tm.length;omega
 refine ⟨.tuple #[cvV (aH q.mi.kl.length q.cs q.mi.z q.v.es),goInt s],w1,V.set q.vi { q.v with es:=wJ q.mi.kl.length q.cs q.mi.z q.v.es },?_,⟨?_,s1,s2,s3,cr.1,cr.2.1,cr.2.2,?_⟩,m2⟩
 ·simp [execOp,ae,hx.1,h1,j9,r1]
 ·have:=I.rel.put (x:=.any) (v:=.tuple #[cvV (aH q.mi.kl.length q.cs q.mi.z q.v.es),goInt s]) m1 m2 (by simp [AV.holds]) (by simp) o.dst
  rw [(H.hA q hq).1];exact this
 ·intro q' bp ct ra
  by_cases ax:q'=q
  ·subst ax
   refine ⟨b,arr',c',j,m,h1,r3,r5,r7,fun _=>⟨cvV (aH q'.mi.kl.length q'.cs q'.mi.z q'.v.es),?_⟩,fun bw=>?_⟩
   ·rw [r6]
    simp [Act.eval,Act.put,dk,xb,I.tl,K.l1]
   ·exfalso
    have Bo:L q'.ix:=((hL _).1 bw).resolve_left (Ne.symm (H.kinds hq hq).1);obtain ⟨ox,vq,_⟩:=K.ox;exact ha q'.ix Bo (List.getElem?_eq_some_iff.1 vq).1 K.w1
  ·exact I.other_pe H ho hL hq bp ax h1 (cj q' bp ax).1 (cj q' bp ax).2.1 (.inl r2) _ ct ra
theorem PInv.extr (H:PDok P lo t0 B V0 trs As tT) (I:PInv P lo t0 B V0 trs As L n0 w0 e t V a w) (hq:q∈trs) (ho:lo[q.ix]? = some o) (hi:¬L q.ix) (hb:∀ j,(wl lo j).getD q.ix false=true->j<lo.length->L j) (ha:∀ j,L j->j<lo.length->¬(wl lo q.ix).getD j false=true) [DecidablePred L'] (hL:∀ j,L' j↔(j=q.ix\/L j)) :
  ∃ v,(execOp a.eval o).run P w=.ok (.value v) w/\PInv P lo t0 B V0 trs As L' n0 w0 e (sR t o.dst (As q.ix)) V (a.put o.dst v) w:=by
 have K:=H.htr q hq;obtain ⟨o',ge,ae,dk⟩:=K.ox;rw [ho] at ge;cases ge;obtain ⟨os,x9,_⟩:=K.os;obtain ⟨om,vp,_,A4⟩:=K.om;have pw:¬L q.is:=fun h=>ha q.is h (List.getElem?_eq_some_iff.1 x9).1 K.w2
 have hm:L q.im:=hb q.im K.w1 (List.getElem?_eq_some_iff.1 vp).1;obtain ⟨b,arr,c,j,m,f1,f2,f3,f4,f5,f6⟩:=I.pe q hq hm pw;obtain ⟨v0,f5⟩:=f5 hi;have cj:∀ q'∈trs,q'≠q->q.ix≠q'.im/\q.ix≠q'.ix/\q.ix≠q'.is:=fun q' bp ax=>⟨fun h=>(H.kinds bp hq).1 h.symm,fun h=>ax ((H.hix q hq q' bp).2.1 h).symm,(H.kinds hq bp).2.2⟩
 obtain ⟨s1,s2,s3⟩:=I.slots H ho hL;have xb:a.tmps.size=t.length:=by have:=I.rel.tm.length;omega
 refine ⟨goInt m.born,?_,⟨?_,s1,s2,s3,I.vl,I.v1,fun q' bp=>?_,?_⟩⟩
 ·simp_all [execOp,Instr.extract]
 ·have:=I.rel.put (x:=.any) (v:=goInt m.born) I.rel.mem (Ext.refl _ _ _ _ _) (by simp [AV.holds]) (by simp) o.dst
  rw [(H.hA q hq).2];exact this
 ·rw [I.v2 q' bp,Tr.es_same hL (fun h=>(H.kinds bp hq).1 h.symm) (H.kinds hq bp).2.2]
 ·intro q' bp ct ra
  by_cases ax:q'=q
  ·subst ax
   refine ⟨b,arr,c,j,m,f1,f2,f3,f4,fun hx=>absurd ((hL _).2 (.inl rfl)) hx,fun _=>?_⟩
   simp [Act.eval,Act.put,dk,xb,I.tl,K.l2]
  ·exact I.other_pe H ho hL hq bp ax f1 (cj q' bp ax).1 (cj q' bp ax).2.1 (.inr rfl) _ ct ra
theorem PInv.fill (H:PDok P lo t0 B V0 trs As tT) (I:PInv P lo t0 B V0 trs As L n0 w0 e t V a w) (hq:q∈trs) (ho:lo[q.is]? = some o) (hi:¬L q.is) (hb:∀ j,(wl lo j).getD q.is false=true->j<lo.length->L j) (ha:∀ j,L j->j<lo.length->¬(wl lo q.is).getD j false=true) [DecidablePred L'] (hL:∀ j,L' j↔(j=q.is\/L j)) :
  ∃ w1 V',(execOp a.eval o).run P w=.ok .skip w1/\PInv P lo t0 B V0 trs As L' n0 w0 e (sR t o.dst (As q.is)) V' (a.put o.dst undef) w1/\dW e ⟨t,B,V⟩ w e B V' w1:=by
 have K:=H.htr q hq;obtain ⟨o',ge,ae,dk⟩:=K.os;rw [ho] at ge;cases ge;obtain ⟨om,vp,_⟩:=K.om;obtain ⟨ox,vq,_⟩:=K.ox;have hm:L q.im:=hb q.im K.w3 (List.getElem?_eq_some_iff.1 vp).1;have Bo:L q.ix:=hb q.ix K.w2 (List.getElem?_eq_some_iff.1 vq).1;obtain ⟨b0,arr0,c0,j,m,f1,f2,f3,f4,f5,f6⟩:=I.pe q hq hm hi;have f6:=f6 Bo;have cn:q.es L=wJ q.mi.kl.length q.cs q.mi.z q.v.es:=by unfold Tr.es;grind
 have hv:=I.v2 q hq;rw [cn] at hv;have IO:IsM q.mi q.T { q.v with es:=wJ q.mi.kl.length q.cs q.mi.z q.v.es }:=⟨K.hI.live,K.hI.T,K.hI.k,JC K.hm K.hI.ok K.ok⟩
 obtain ⟨b,arr,c,h1,h2,h3,h4⟩:=IO.get K.hm I.rel.mem hv;rw [f1] at h1;cases h1;rw [h3] at f2;cases f2;have aw:=I.ev H ho hi hb ha;have hx:=(I.rel.ev q.x).1;rw [aw q.x (by grind [Op.operands]),K.xs] at hx
 have jd:=(I.rel.ev q.y).1;rw [aw q.y (by grind [Op.operands]),K.ys] at jd
 simp only [AV.holds] at jd;obtain ⟨e1,e2⟩:=pF K.kd;have t9:a.eval q.y=cvV q.d:=by grind [CV.holds]
 obtain ⟨w1,arr',c',r1,r2,r3,r4⟩:=SZ (d:=q.d) K.hm h3 h4 K.hI.ok K.ok f3 f4;obtain ⟨m1,m2⟩:=IO.set K.hm I.rel.mem hv f1 h2 (CL K.hI.ok K.ok K.kd) r2 r3 r4
 have t8:q.es L'=bV q.mi.kl.length q.cs q.d q.v.es:=by
  unfold Tr.es;grind
 have cj:∀ q'∈trs,q'≠q->q.is≠q'.im/\q.is≠q'.ix/\q.is≠q'.is:=fun q' bp ax=>⟨fun h=>(H.kinds bp hq).2.1 h.symm,fun h=>(H.kinds bp hq).2.2 h.symm,fun h=>ax ((H.hix q hq q' bp).2.2 h).symm⟩
 have cr:=I.vset H (L':=L') hq fun q' bp ax=>Tr.es_same hL (cj q' bp ax).1 (cj q' bp ax).2.2
 rw [t8] at cr;obtain ⟨s1,s2,s3⟩:=I.slots H ho hL;refine ⟨w1,V.set q.vi { q.v with es:=bV q.mi.kl.length q.cs q.d q.v.es },?_,⟨?_,s1,s2,s3,cr.1,cr.2.1,cr.2.2,?_⟩,m2⟩
 ·simp [execOp,ae,hx.1,f1,f6,t9,r1]
 ·rw [dk]
  have h0:=I.rel.put (x:=.any) (v:=undef) m1 m2 (by simp [AV.holds]) (by simp) none
  exact h0
 ·intro q' bp ct ra
  by_cases ax:q'=q
  ·grind
  ·exact I.other_pe H ho hL hq bp ax f1 (cj q' bp ax).1 (cj q' bp ax).2.1 (.inl r2) _ ct ra
end step
theorem aIO (hF:Free F) (H:PDok P lo t0 B V0 trs As tT) {n0:Nat} {w0:World} {e0:Env} {a0:Act} {wst:World} {Qr:Exit->Act->World->Prop}
  (hk:∀ e t V a w,PInv P lo t0 B V0 trs As (fun _=>True) n0 w0 e t V a w->a.defers=a0.defers->dW e0 ⟨t0,B,V0⟩ wst e B V w->Qr .normal a w) :
  ∀ (fuel:Nat) (listed:Array Bool) (l:List Nat) (e:Env) (t:List AV) (V:List Vec) (a:Act) (w:World),listed.size=lo.length->Down lo listed->l.Nodup->l.length=fuel->(∀ j,j∈l↔listed.getD j true=false) ->
   PInv P lo t0 B V0 trs As (fun j=>listed.getD j true=true) n0 w0 e t V a w->a.defers=a0.defers->dW e0 ⟨t0,B,V0⟩ wst e B V w->wpAnyIn F n P .any lo.toArray Qr fuel listed a w:=by
 intro fuel
 have fin:∀ (listed:Array Bool) (e:Env) (t:List AV) (V:List Vec) (a:Act) (w:World),(∀ j,listed.getD j true=true)->PInv P lo t0 B V0 trs As (fun j=>listed.getD j true=true) n0 w0 e t V a w->a.defers=a0.defers->dW e0 ⟨t0,B,V0⟩ wst e B V w->Qr .normal a w:=by
  intro listed e t V a w bh I hd hx;refine hk e t V a w ⟨I.rel,I.tl,fun j o d h1 _=>I.t1 j o d h1 (bh j),fun d h=>I.t2 d fun j o h1 _=>h j o h1 trivial,I.vl,I.v1,fun q hq=>?_,fun q hq _ pw=>absurd trivial pw⟩ hd hx
  rw [I.v2 q hq];simp_all
 induction fuel with
 | zero =>
  intro listed l e t V a w di dh df hl an I hd hx
  have bh:∀ j,listed.getD j true=true:=fun j=>by
   grind
  refine ⟨?_,fin listed e t V a w bh I hd hx⟩;rw [List.eq_nil_iff_forall_not_mem];intro j hj;have:=(mem_ready.1 hj).1;grind
 | succ fuel ih =>
  intro listed l e t V a w di dh df hl an I hd hx;refine ⟨fun h0=>fin listed e t V a w (fun i=>?_) I hd hx,fun i hi=>?_⟩
  ·induction i using Nat.strongRecOn with
   | _ i ihi =>
    cases hj:listed.getD i true with
    | true=>rfl
    | false =>
     have aq:i<listed.size:=by
      grind
     have ho:lo[i]? = some lo[i]:=List.getElem?_eq_getElem (by omega)
     have:i∈Region.ready .any lo.toArray listed:=mem_ready.2 ⟨hj,lo[i],by simp,fun q hq hb=>by
      have h1:=ihi q.on (H.he i _ ho q hq hb);have h2:q.on<listed.size:=by have:=H.he i _ ho q hq hb;omega
      grind⟩
     grind
  ·obtain ⟨ki,o,ho,bh⟩:=mem_ready.1 hi
   have ho:lo[i]? = some o:=by grind
   have ld:∀ q∈o.after,Region.binds .any q=true->listed.getD q.on true=true:=fun q hq hb=>yW (bh q hq hb)
   have qw:=dh.set ho ld;have Dt:¬(fun j=>listed.getD j true=true) i:=by grind
   have hb:∀ j,(wl lo j).getD i false=true->j<lo.length->listed.getD j true=true:=fun j hw _=>by
    cases hj:listed.getD j true with
    | true=>rfl
    | false =>
     have:=dh.ready hj ho ld;grind
   have ha:∀ j,listed.getD j true=true->j<lo.length->¬(wl lo i).getD j false=true:=fun j hj _ hw=>by
    have:=dh.wl ki j hj;grind
   have hL:∀ j,(fun j=>(listed.setIfInBounds i true).getD j true=true) j↔(j=i\/(fun j=>listed.getD j true=true) j):=fun j=>by
    by_cases mg:j=i
    ·simp_all
    simp_all [Ne.symm]
   have rh:i∈l:=(an i).2 ki
   have go:∀ (t':List AV) (V':List Vec) (a':Act) (w':World),PInv P lo t0 B V0 trs As (fun j=>(listed.setIfInBounds i true).getD j true=true) n0 w0 e t' V' a' w'->a'.defers=a0.defers->dW e0 ⟨t0,B,V0⟩ wst e B V' w'->wpAnyIn F n P .any lo.toArray Qr fuel (listed.setIfInBounds i true) a' w':=by
    intro t' V' a' w' I' d8 bw;refine ih _ (l.erase i) e t' V' a' w' (by grind) qw (df.erase i) (by grind) (fun j=>?_) I' d8 bw
    grind
   unfold wpOpIn;have ge:lo.toArray[i]? = some o:=by omega
   simp [ge,Region.wanted,H.hg o (List.mem_of_getElem? ho)];refine ⟨fun f _=>hF.fn f,?_⟩
   have pd:∀ (d:Option Nat) (v:Value),(a.put d v).defers=a.defers:=fun d v=>by cases d <;> rfl
   by_cases hq:∃ q∈trs,i=q.im\/i=q.ix\/i=q.is
   ·obtain ⟨q,hq,h | h | h⟩:=hq
    ·subst h
     obtain ⟨v,w1,V',r1,I',x1⟩:=I.entry H hq ho Dt hb ha hL;obtain ⟨o',g1,g2,_⟩:=(H.htr q hq).om;rw [ho] at g1;cases g1;rw [Oper.semAt_plain F _ _ (by grind),r1]
     exact go _ _ _ _ I' ((pd _ _).trans hd) (hx.trans x1)
    ·subst h
     obtain ⟨v,r1,I'⟩:=I.extr H hq ho Dt hb ha hL;obtain ⟨o',g1,g2,_⟩:=(H.htr q hq).ox;rw [ho] at g1;cases g1;rw [Oper.semAt_plain F _ _ (by grind),r1]
     exact go _ _ _ _ I' ((pd _ _).trans hd) hx
    ·subst h
     obtain ⟨w1,V',r1,I',x1⟩:=I.fill H hq ho Dt hb ha hL;obtain ⟨o',g1,g2,_⟩:=(H.htr q hq).os;rw [ho] at g1;cases g1;rw [Oper.semAt_plain F _ _ (by grind),r1]
     exact go _ _ _ _ I' ((pd _ _).trans hd) (hx.trans x1)
   ·have bp:∀ q∈trs,i≠q.im/\i≠q.ix/\i≠q.is:=fun q ug=>⟨fun h=>hq ⟨q,ug,.inl h⟩,fun h=>hq ⟨q,ug,.inr (.inl h)⟩,fun h=>hq ⟨q,ug,.inr (.inr h)⟩⟩
    obtain ⟨v,r1,I'⟩:=I.light H ho Dt hb ha hL bp;rw [Oper.semAt_plain F _ _ (H.hl i o ho bp).1,r1];exact go _ _ _ _ I' ((pd _ _).trans hd) hx
theorem aLN (hF:Free F) (hm:P.follows .mixedOrders=true) {id:Nat} {st:St} {Q:Exit->St->Prop} (H:PDok P lo st.t st.B st.V trs As tT) {V':List Vec} (hl:V'.length=st.V.length) (h1:∀ j,j ∉ trs.map (·.vi)->V'[j]? = st.V[j]?) (h2:∀ q∈trs,V'[q.vi]? = some { q.v with es:=bV q.mi.kl.length q.cs q.d q.v.es })
  (hQ:Q .normal ⟨tT lo.length,st.B,V'⟩):W F n P (.region id lo.toArray true) st Q:=by
 intro n0 w0 e a w Qr hr hk;refine wpIn_region_any hm ?_;have ct:=hr.mem.drew;have hx:dW e st w e st.B st.V w.drew:=UV;have bo:Rel n0 w0 e st a w.drew:=⟨AV.all.mono hx _ _ hr.sc hr.tm,hr.sc,ct⟩
 have ki:∀ j,(Array.replicate lo.toArray.size false).getD j true=true↔lo.length<=j:=fun j=>by
  rcases Nat.lt_or_ge j lo.length with h | h
  ·simp [h]
  grind
 have key:=aIO (F:=F) (n:=n) (Qr:=Qr) (a0:=a) (wst:=w) (e0:=e) (n0:=n0) (w0:=w0) hF H ?_ lo.toArray.size (Array.replicate lo.toArray.size false) (List.range lo.length) e st.t st.V a w.drew (by simp) ?_ List.nodup_range (by simp) ?_ ?_ rfl hx
 ·simp_all
 ·intro e' t V a' w' I hd bw
  have Ls:V=V':=by
   apply List.ext_getElem?;intro j
   by_cases hj:j∈trs.map (·.vi)
   ·obtain ⟨q,hq,rfl⟩:=List.mem_map.1 hj
    rw [I.v2 q hq,h2 q hq];rfl
   ·rw [I.v1 j hj,h1 j hj]
  have tc:t=tT lo.length:=by
   obtain ⟨p1,p2⟩:=H.at lo.length (Nat.le_refl _);apply List.ext_getElem?;intro d
   by_cases iN:∃ (j:Nat) (o:Oper),lo[j]? = some o/\o.dst=some d
   ·obtain ⟨j,o,ho,d8⟩:=iN
    by_cases ja:d<st.t.length
    ·rw [I.t1 j o d ho trivial d8 ja,p1 j o d (List.getElem?_eq_some_iff.1 ho).1 ho d8 ja]
    ·have e1:t[d]? = none:=List.getElem?_eq_none (by rw [I.tl];omega)
     have e2:(tT lo.length)[d]? = none:=List.getElem?_eq_none (by rw [H.len _ (Nat.le_refl _)];omega)
     grind
   ·rw [I.t2 d fun j o ho _ d8=>iN ⟨j,o,ho,d8⟩,p2 d fun j o _ ho d8=>iN ⟨j,o,ho,d8⟩]
  subst Ls tc;exact hk .normal e' _ a' w' hQ I.rel hd bw
 ·intro j oj hj hL e _ _
  grind
 ·grind
 ·have aq:∀ q∈trs,q.im<lo.length/\q.is<lo.length:=fun q hq=>by
   obtain ⟨o,ho,_⟩:=(H.htr q hq).om;obtain ⟨o',ge,_⟩:=(H.htr q hq).os;grind
  refine ⟨bo,rfl,fun j o d ho hL=>?_,fun _ _=>rfl,rfl,fun _ _=>rfl,fun q hq=>?_,fun q hq hL=>?_⟩
  ·grind
  ·rw [(H.htr q hq).hv]
   unfold Tr.es;simp_all
  grind
end
end Go.Sx
namespace Go.Sx
open Go Go.RowKit
structure TrS where
 im:Nat
 ix:Nat
 is:Nat
 T:TypeId
 d1:Nat
 d2:Nat
 x:Nat
 k:Operand
 y:Operand
def PZ {A:Type} (p:Oper->Option A):Nat->List Oper->Option (Nat×A)
 | _,[]=>none
 | i,o::l=>match p o with
  | some a=>some (i,a)
  | none=>PZ p (i+1) l
def aIP (d1:Nat) (o:Oper):Option Nat:=match o.op,o.dst with
 | .extract (.tmp d) 1,some d2=>if d=d1 then some d2 else none
 | _,_=>none
def aIQ (T:TypeId) (x d2:Nat) (o:Oper):Option Operand:=match o.op,o.dst with
 | .entryStore T' (.tmp x') (.tmp d) y,none=>if T'=T/\x'=x/\d=d2 then some y else none
 | _,_=>none
def aJU (lo:List Oper) (i:Nat) (o:Oper):Option TrS:=match o.op,o.dst with
 | .mapEntry T (.tmp x) k,some d1=>match PZ (aIP d1) 0 lo with
  | some (ix,d2)=>match PZ (aIQ T x d2) 0 lo with
   | some (is,y)=>some ⟨i,ix,is,T,d1,d2,x,k,y⟩
   | none=>none
  | none=>none
 | _,_=>none
def WC (lo:List Oper):Nat->List Oper->List TrS
 | _,[]=>[]
 | i,o::l=>match aJU lo i o with
  | some q=>q::WC lo (i+1) l
  | none=>WC lo (i+1) l
def aEm:Operand->Option Nat
 | .tmp d=>some d
 | _=>none
def noW (lo:List Oper) (i:Nat) (d:Option Nat):Bool:=match d with
 | some d=>(lo.drop i).all fun o=>o.dst != some d
 | none=>true
def ZZ:Op->Bool
 | .lookup _ _ _ _=>true
 | _=>false
def TA (l:List Nat):Bool:=decide l.Nodup
def aAa (lo:List Oper) (n:Nat) (ts:List TrS):Bool:=
 lo.all (fun o=>o.guard.isNone)&&sQ (fun i o=>o.after.all fun e=>!Region.binds .any e || decide (e.on<i)) 0 lo &&
 sQ (fun i oi=>sQ (fun j oj=>decide (j<=i) || (((wl lo i).getD j false || oi.apart lo.toArray oj)&&(match oi.dst with
  | some d=>oj.dst != some d
  | none=>true))) 0 lo) 0 lo &&
 ts.all (fun q=>(wl lo q.im).getD q.ix false&&(wl lo q.ix).getD q.is false&&(wl lo q.im).getD q.is false&&decide (q.d1<n)&&decide (q.d2<n)&&noW lo q.im (some q.x)&&noW lo q.is (some q.x)&&noW lo q.im (aEm q.k)&&noW lo q.is (aEm q.y)) &&
 sQ (fun i o=>!ZZ o.op || ts.all fun q=>(wl lo i).getD q.is false) 0 lo&&TA (ts.map (·.im))&&TA (ts.map (·.ix))&&TA (ts.map (·.is))
def aAb:Op->Bool
 | .move _=>true
 | .nilCheck _=>true
 | .fieldAddr _ _ _=>true
 | .build _ _=>true
 | .binOp _ _ _ _ _=>true
 | .unOp _ _ _=>true
 | .load _ _=>true
 | _=>false
def aJV (s:SS):Op->Bool
 | .load _ x=>(match s.ev x with
  | .ptr _ _=>true
  | .cv _=>true
  | _=>false)
 | _=>true
section
variable (P:Program)
def evL (lk:Lk) (ts:List TrS):Nat->List Oper->SS->(SS->Option Ou)->Option Ou
 | _,[],s,K=>K s
 | i,o::rest,s,K=>if bX lk o.dst=true then
   match ts.any (fun q=>q.im == i || q.ix == i || q.is == i) with
   | true=>evL lk ts (i+1) rest (s.put o.dst .any s.B s.V) K
   | false=>match o.op with
    | .lookup T x k false=>match s.ev x with
     | .own v g=>(match s.V[v]?,eO P T with
      | some vv,some mi=>match fJ mi (s.ev k) with
       | some cs=>if isM mi T g vv cs=true then chk (dX mi.kl mi.vl vv.es) (evL lk ts (i+1) rest (s.put o.dst (.cv (xG mi.vl (aH mi.kl.length cs mi.z vv.es))) s.B s.V) K) else none
       | none=>none
      | _,_=>none)
     | _=>none
    | op=>if (aAb op&&aJV s op)=true then sOp P lk s op fun x _ _=>evL lk ts (i+1) rest (s.put o.dst x s.B s.V) K else none
  else none
def evU (lk:Lk) (s:SS):List TrS->List Nat->List Vec->(List Vec->Option Ou)->Option Ou
 | [],_,V,K=>K V
 | q::qs,done,V,K=>match s.ev (.tmp q.x),eO P q.T,s.ev q.y with
  | .own i g,some mi,.cv d=>match s.V[i]?,fJ mi (s.ev q.k) with
   | some v,some cs=>if (isM mi q.T g v cs&&kC d == some mi.vl&&!lk.v.contains i&&!done.contains i)=true then
     chk (dX mi.kl mi.vl v.es) (evU lk s qs (i::done) (V.set i ⟨v.live,v.T,v.k,v.ver,bV mi.kl.length cs d v.es⟩) K)
    else none
   | _,_=>none
  | _,_,_=>none
def aIR (lo:List Oper):Bool:=lo.any fun o=>match o.op with
 | .mapEntry _ _ _=>true
 | _=>false
def aLO (lo:List Oper) (n:Nat):Bool:=aIR lo&&P.follows .mixedOrders&&(let ts:=WC lo 0 lo;sQ (fun i o=>aAb o.op || ZZ o.op || ts.any fun q=>q.im == i || q.ix == i || q.is == i) 0 lo&&aAa lo n ts)
def aIS (lk:Lk) (ops:Array Oper) (s:SS) (K:SS->Option Ou):Option Ou:=
 let ts:=WC ops.toList 0 ops.toList
 if (P.follows .mixedOrders&&aAa ops.toList s.n ts)=true then evL P lk ts 0 ops.toList s fun s'=>evU P lk s' ts [] s'.V fun V'=>K ⟨s'.n,s'.t,s'.B,V'⟩ else none
end
end Go.Sx
namespace Go.Sx
open Go Go.RowKit
variable [G:Ghost]
section
variable {P:Program} {lo:List Oper}
def wK (t:List AV):List Oper->List AV->Nat->List AV
 | o::rest,A::as,j+1=>wK (sR t o.dst A) rest as j
 | _,_,_=>t
theorem QA (t:List AV) (l:List Oper) (as:List AV):wK t l as 0=t:=by have _:=G;cases l <;> cases as <;> rfl
theorem FG:∀ (l:List Oper) (as:List AV) (t:List AV) (i:Nat) (o:Oper),as.length=l.length->l[i]? = some o->wK t l as (i+1)=sR (wK t l as i) o.dst (as.getD i .any)
 | [],_,_,_,_,_,h=>by grind
 | o::l,[],_,_,_,h,_=>by grind
 | o::l,A::as,t,0,o',hl,h=>by
  grind [wK,QA]
 | o::l,A::as,t,i+1,o',hl,h=>by
  simp only [wK];rw [FG l as _ i o' (by simpa using hl) (by simpa using h)]
  simp
def aEn (P:Program) (lo:List Oper) (ts:List TrS) (B:List Box) (V0:List Vec) (i:Nat) (o:Oper) (A:AV) (t:List AV):Prop:=
 (ts.any (fun q=>q.im == i || q.ix == i || q.is == i)=true->A=.any) /\
 (ts.any (fun q=>q.im == i || q.ix == i || q.is == i)=false->(∀ c,o.op≠.defer c)/\∃ rd,(∀ ms,LR P lo o A t B V0 ms rd)/\(rd≠none->ZZ o.op=true))
variable {T:TypeId} {o:Oper}
theorem GX {mi:MI} {st:St} {x k:Operand} {i u:Nat} {v:Vec} {cs:List CV} (hm:eO P T=some mi) (ae:o.op=.lookup T x k false) (hx:st.ev x=.own i u) (hv:st.V[i]? = some v) (hI:IsM mi T v) (hu:v.ver=u) (hk:fJ mi (st.ev k)=some cs) (aa:dU mi cs=true)
  {n0:Nat} {w0:World} {e:Env} {a:Act} {w:World} (hr:Rel n0 w0 e st a w) :
  ∃ r,(execOp a.eval o).run P w=.ok (.value r) w/\AV.holds e w (kss st.V) (.cv (aH mi.kl.length cs mi.z v.es)) r/\AV.sco st.B.length (vers st.V) (.cv (aH mi.kl.length cs mi.z v.es)):=by
 subst hu;obtain ⟨b,arr,c,h1,h2,h3,h4⟩:=hI.get hm hr.mem hv;have ce:=(hr.ev x).1;rw [hx] at ce;have j9:=pU hk aa (hr.ev k).1;have ai:=(mG hm h3 h4 hI.ok aa).1;obtain ⟨e1,e2⟩:=pF (gX hm (cs:=cs) hI.ok);refine ⟨cvV (aH mi.kl.length cs mi.z v.es),?_,?_,by simp⟩
 ·simp [execOp,ae,ce.1,h1,j9,ai]
 ·rw [e1];simp only [AV.holds,CV.holds,cvV];exact ⟨trivial,uO e2⟩
variable {V0:List Vec}
theorem aCw {mi:MI} {t:List AV} {B:List Box} {x k:Operand} {i u:Nat} {v:Vec} {cs:List CV} (hm:eO P T=some mi) (ae:o.op=.lookup T x k false) (hx:St.ev ⟨t,B,V0⟩ x=.own i u) (hv:V0[i]? = some v) (hI:IsM mi T v) (hu:v.ver=u)
  (hk:fJ mi (St.ev ⟨t,B,V0⟩ k)=some cs) (aa:dU mi cs=true) (ms:List Nat):LR P lo o (.cv (aH mi.kl.length cs mi.z v.es)) t B V0 ms (some i):=by
 intro t' V' Fv _ _ Fu n0 w0 e a w hr;have aw:=jI (lo:=lo) (s:=⟨t,B,V0⟩) (s':=⟨t',B,V'⟩) Fv;have bw:St.ev ⟨t',B,V'⟩ x=.own i u:=by grind [Op.operands]
 have jp:fJ mi (St.ev ⟨t',B,V'⟩ k)=some cs:=by grind [Op.operands]
 rcases Fu i rfl with h | ⟨v1,v',h1,h2,h3,h4,h5,h6,h7⟩
 ·exact GX (st:=⟨t',B,V'⟩) hm ae bw (by grind) hI hu jp aa hr
 ·rw [hv] at h1;cases h1
  obtain ⟨q1,q2⟩:=h7 T mi hm hI.T;have:=GX (st:=⟨t',B,V'⟩) hm ae bw h2 ⟨h3.trans hI.live,h4.trans hI.T,h5.trans hI.k,by rw [q1];exact hI.ok⟩ (h6.trans hu) jp aa hr
  rw [q2 hI.ok cs aa] at this;omega
theorem aAc {st:St} {parts:Array (Nat×Operand)} {av:AV} (ae:o.op=.build T parts) (h:mD P T (parts.toList.map fun p=>(p.1,st.ev p.2))=some av) {n0:Nat} {w0:World} {e:Env} {a:Act} {w:World} (hr:Rel n0 w0 e st a w) :
  ∃ v,(execOp a.eval o).run P w=.ok (.value v) w/\AV.holds e w (kss st.V) av v/\AV.sco st.B.length (vers st.V) av:=by
 have cn:=hr.evs (parts.toList.map (·.2))
 obtain ⟨r,a1,a2,a3⟩:=AC (vparts:=parts.map fun p=>(p.1,a.eval p.2)) h (by simp) (by simpa [Function.comp_def] using cn.1)
 simp_all [execOp,Function.comp_def]
theorem aJW {t:List AV} {B:List Box} {a0 A:AV} (hl:aAb o.op=true) (Du:∀ T x,o.op=.load T x->iW (St.ev ⟨t,B,V0⟩ x)=none) (h:dB P ⟨t,B,V0⟩ o.op=some (a0,B,V0)) (bq:AV.le a0 A) (dz:∀ nb vs,AV.sco nb vs a0->AV.sco nb vs A) (ms:List Nat):LR P lo o A t B V0 ms none:=by
 intro t' V' Fv _ _ _ n0 w0 e a w hr;have aw:=jI (lo:=lo) (s:=⟨t,B,V0⟩) (s':=⟨t',B,V'⟩) Fv
 have hk:oJ o.op<=1/\SC o.op=false:=by
  revert hl;cases o.op <;> simp [aAb,oJ,SC]
 obtain ⟨_,_,h3⟩:=FB (s:=⟨t,B,V0⟩) (s':=⟨t',B,V'⟩) hk.1 hk.2 aw (fun _ _ _ _ _ _=>rfl) (fun hr x hx i hi=>by
  revert hl hr hx;cases ho:o.op <;> simp [aAb,rdV,Op.operands];grind) h
 have hp:∃ v,(execOp a.eval o).run P w=.ok (.value v) w/\AV.holds e w (kss V') a0 v/\AV.sco B.length (vers V') a0:=by
  by_cases hp:kW o.op=true
  ·exact aB1 hp h3 hr
  ·cases ho:o.op <;> rw [ho] at hl hp h3 <;> simp [aAb] at hl <;> simp [kW] at hp
   simp only [dB,Option.map_eq_some_iff] at h3;obtain ⟨av,h4,rfl,_,_⟩:=h3;exact aAc ho h4 hr
 obtain ⟨v,g1,g2,g3⟩:=hp;exact ⟨v,g1,bq _ _ _ _ g2,dz _ _ g3⟩
end
section
variable {P:Program} {lo:List Oper}
theorem SS.put_B (s:SS) (d:Option Nat) (x:AV) (B:List Box) (V:List Vec):(s.put d x B V).B=B:=by have _:=G;rfl
theorem WD {lk:Lk} {ts:List TrS} {K:SS->Option Ou} {r:Ou}:∀ (rest:List Oper) (i:Nat) {m:Emb} {s:SS} {st:St},Em m s st->evL P lk ts i rest s K=some r ->
  ∃ (as:List AV) (s':SS) (m':Emb),as.length=rest.length/\(∀ (j:Nat) (o:Oper),rest[j]? = some o->aEn P lo ts st.B st.V (i+j) o (as.getD j .any) (wK st.t rest as j)) /\
   Em m' s' ⟨wK st.t rest as rest.length,st.B,st.V⟩/\Adv lk m s st m' s' ⟨wK st.t rest as rest.length,st.B,st.V⟩/\s'.B=s.B/\s'.V=s.V/\K s'=some r
 | [],i,m,s,st,hE,h=>⟨[],s,m,rfl,fun j o hj=>by grind,hE,Adv.refl _ _ _ _,rfl,rfl,h⟩
 | o::rest,i,m,s,st,hE,h=>by
  unfold evL at h;split at h
  case isFalse=>cases h
  rename_i hd
  have comb:∀ (x:AV) (m1:Emb),Em m1 (s.put o.dst x s.B s.V) (st.put o.dst (x.cz m1) st.B st.V)->Adv lk m s st m1 (s.put o.dst x s.B s.V) (st.put o.dst (x.cz m1) st.B st.V)->aEn P lo ts st.B st.V i o (x.cz m1) st.t->evL P lk ts (i+1) rest (s.put o.dst x s.B s.V) K=some r ->
    ∃ (as:List AV) (s':SS) (m':Emb),as.length=(o::rest).length/\(∀ (j:Nat) (o':Oper),(o::rest)[j]? = some o'->aEn P lo ts st.B st.V (i+j) o' (as.getD j .any) (wK st.t (o::rest) as j)) /\
     Em m' s' ⟨wK st.t (o::rest) as (o::rest).length,st.B,st.V⟩/\Adv lk m s st m' s' ⟨wK st.t (o::rest) as (o::rest).length,st.B,st.V⟩/\s'.B=s.B/\s'.V=s.V/\K s'=some r:=by
   intro x m1 bY zo hF hk;rw [aIN] at bY zo;obtain ⟨as,s',m',q1,q2,q3,q4,q5,q6,q7⟩:=WD rest (i+1) bY hk;refine ⟨x.cz m1::as,s',m',by grind,fun j o' hj=>?_,q3,zo.trans q4,q5.trans (SS.put_B _ _ _ _ _),q6.trans (SS.put_V _ _ _ _ _),q7⟩
   cases j with
   | zero =>
    simp at hj;subst hj;exact hF
   | succ j =>
    grind [wK]
  split at h
  ·refine comb .any m ?_ ?_ ⟨fun _=>by rfl,fun hf=>by grind⟩ h
   ·exact hE.put hE.m (Emb.Up.refl _) (fun _ _=>rfl) (Nat.le_refl _) (Nat.le_refl _) rfl o.dst
   ·exact Adv.put hd (Stp.refl _ _ _) (Nat.le_refl _) (Nat.le_refl _) (fun _ _ _=>rfl) (fun _ _ _=>rfl) (fun _ _=>rfl)
  ·split at h
   ·rename_i T x k ae
    split at h
    ·rename_i v g hx
     split at h
     ·rename_i vv mi hv hm
      split at h
      ·rename_i cs aT
       split at h
       ·rename_i hc
        obtain ⟨h1,h2⟩:=aO h;obtain ⟨hI,rfl,aa⟩:=mH hc h1;rw [oL (gX hm hI.ok)] at h2;have bt:=hE.m.v v vv hv (.inl hI.live);refine comb (.cv (aH mi.kl.length cs mi.z vv.es)) m ?_ ?_ ⟨fun hf=>(by grind),fun _=>⟨fun c hc=>(by grind),some (m.fv v),fun ms=>?_,fun _=>by rw [ae];rfl⟩⟩ h2
        ·exact hE.put hE.m (Emb.Up.refl _) (fun _ _=>rfl) (Nat.le_refl _) (Nat.le_refl _) rfl o.dst
        ·exact Adv.put hd (Stp.refl _ _ _) (Nat.le_refl _) (Nat.le_refl _) (fun _ _ _=>rfl) (fun _ _ _=>rfl) (fun _ _=>rfl)
        ·have:=aCw (lo:=lo) (t:=st.t) (B:=st.B) (V0:=st.V) (u:=m.fo v+vv.ver) hm ae (by rw [hE.ev,hx];rfl) bt (hI.cz m v) rfl (by rw [hE.ev];exact iV m aT) aa ms
         grind [AV.cz,Vec.cz]
       grind
      grind
     grind
    grind
   ·split at h
    ·rename_i hc
     simp at hc;obtain ⟨hl,Du⟩:=hc
     have hk:oJ o.op<=1/\SC o.op=false:=by
      revert hl;cases o.op <;> simp [aAb,oJ,SC]
     classical
     let K1:AV->List Box->List Vec->Option Ou:=fun x _ _=>evL P lk ts (i+1) rest (s.put o.dst x s.B s.V) K
     have h':sOp P lk s o.op (fun x B V=>if B=s.B/\V=s.V then K1 x B V else none)=some r:=by
      grind [aBf]
     obtain ⟨a,x,B,V,B',V',m1,h1,h2,h3,h4,h5,h6,h7,h8,h9,jj,n9,pv⟩:=oK hE h';have h4:(if B=s.B/\V=s.V then K1 x B V else none)=some r:=h4
     split at h4
     case isFalse=>cases h4
     rename_i Bj;obtain ⟨rfl,rfl⟩:=Bj;obtain ⟨e1,e2,_⟩:=FB (s:=st) (s':=st) hk.1 hk.2 (fun _ _=>rfl) (fun _ _ _ _ _ _=>rfl) (fun _ _ _ _ _=>rfl) h1
     subst e1 e2;refine comb x m1 (hE.put h5 h6.up h7 h9 jj h8 o.dst) (Adv.put hd h6 h9 jj n9 pv fun i hi=>h7 i (by rw [hE.m.vl];exact hi)) ⟨fun hf=>(by grind),fun _=>⟨fun c hc=>(by simp_all),none,fun ms=>?_,fun hn=>absurd rfl hn⟩⟩ h4
     refine aJW hl (fun T y hy=>?_) h1 h2 (OpOK.sc h3) ms
     show iW (st.ev y)=none;rw [hE.ev];rw [hy] at Du;simp only [aJV] at Du;split at Du
     ·grind [AV.cz,iW]
     ·grind [AV.cz,iW]
     ·grind
    grind
end
section
variable {P:Program} {lo:List Oper}
structure TR (P:Program) (st:St) (u:TrS) (q:Tr):Prop where
 im:q.im=u.im
 ix:q.ix=u.ix
 is:q.is=u.is
 T:q.T=u.T
 d1:q.d1=u.d1
 d2:q.d2=u.d2
 x:q.x=.tmp u.x
 k:q.k=u.k
 y:q.y=u.y
 hm:eO P q.T=some q.mi
 hv:st.V[q.vi]? = some q.v
 hI:IsM q.mi q.T q.v
 ok:dU q.mi q.cs=true
 kd:kC q.d=some q.mi.vl
 ex:st.ev q.x=.own q.vi q.v.ver
 ek:fJ q.mi (st.ev q.k)=some q.cs
 ey:st.ev q.y=.cv q.d
theorem WE {lk:Lk} {m:Emb} {s:SS} {st:St} {K:List Vec->Option Ou} {r:Ou} (hE:Em m s st):∀ (qs:List TrS) (done:List Nat) (V V1:List Vec),EmM m s.B V st.B V1->V.length=s.V.length->evU P lk s qs done V K=some r ->
  ∃ (trs:List Tr) (V' V1':List Vec),trs.map (·.im)=qs.map (·.im)/\trs.map (·.ix)=qs.map (·.ix)/\trs.map (·.is)=qs.map (·.is)/\(∀ q∈trs,∃ u∈qs,TR P st u q)/\(∀ q∈trs,∃ i,q.vi=m.fv i/\i ∉ done/\i<s.V.length)/\(trs.map (·.vi)).Nodup /\
   EmM m s.B V' st.B V1'/\V1'.length=V1.length/\(∀ j,j ∉ trs.map (·.vi)->V1'[j]? = V1[j]?)/\(∀ q∈trs,V1'[q.vi]? = some { q.v with es:=bV q.mi.kl.length q.cs q.d q.v.es })/\V'.length=V.length/\(∀ i∈lk.v,i<V.length->V'[i]? = V[i]?)/\Stp m st.B V1 m st.B V1'/\K V'=some r
 | [],done,V,V1,zp,hl,h=>⟨[],V,V1,rfl,rfl,rfl,by simp,by simp,by simp,zp,rfl,fun _ _=>rfl,by simp,rfl,fun _ _ _=>rfl,Stp.refl _ _ _,h⟩
 | u::qs,done,V,V1,zp,hl,h=>by
  unfold evU at h;split at h
  case h_2=>cases h
  rename_i i g mi d hx hm hy;split at h
  case h_2=>cases h
  rename_i v cs hv aT;split at h
  case isFalse=>cases h
  rename_i hc;simp at hc;obtain ⟨⟨⟨c1,c2⟩,c3⟩,c4⟩:=hc;obtain ⟨h1,h2⟩:=aO h;obtain ⟨hI,rfl,aa⟩:=mH c1 h1;have aq:=(List.getElem?_eq_some_iff.1 hv).1;have rh:i<V.length:=by omega
  have bt:=hE.m.v i v hv (.inl hI.live);have df:i ∉ done:=by grind
  let v':Vec:=⟨v.live,v.T,v.k,v.ver,bV mi.kl.length cs d v.es⟩
  obtain ⟨trs,V',V1',q1,q2,q3,q4,q5,q6,q7,q8,q9,q10,q11,q12,q13,q14⟩:=WE hE qs (i::done) (V.set i v') (V1.set (m.fv i) (v'.cz m i)) (zp.setV rh) (by grind) h2
  have Lt:m.fv i ∉ trs.map (·.vi):=by
   intro an;obtain ⟨q,hq,he⟩:=List.mem_map.1 an;obtain ⟨i',e1,e2,e3⟩:=q5 q hq;have:=zp.vi i' i (by omega) rh (e1.symm.trans he)
   grind
  have aw:∀ x,st.ev x=(s.ev x).cz m:=hE.ev;refine ⟨⟨u.im,u.ix,u.is,u.T,mi,u.d1,u.d2,.tmp u.x,u.k,u.y,m.fv i,v.cz m i,cs,d⟩::trs,V',V1',by grind,by grind,by grind,?_,?_,?_,q7,by grind,?_,?_,by grind,?_,?_,q14⟩
  ·intro q hq
   rcases List.mem_cons.1 hq with rfl | hq
   ·exact ⟨u,by simp,⟨rfl,rfl,rfl,rfl,rfl,rfl,rfl,rfl,rfl,hm,bt,hI.cz m i,aa,c2,by grind [AV.cz,Vec.cz],by rw [aw];exact iV m aT,by grind [AV.cz]⟩⟩
   grind
  ·grind
  ·grind
  ·grind
  ·intro q hq
   rcases List.mem_cons.1 hq with rfl | hq
   ·rw [q9 _ Lt,List.getElem?_set_self (zp.vlt i rh)]
    rfl
   grind
  ·grind
  ·exact (Stp.setV zp rh _).trans q13
theorem BI {A:Type} {p:Oper->Option A}:∀ {l:List Oper} {i0 i:Nat} {a:A},PZ p i0 l=some (i,a)->i0<=i/\∃ o,l[i - i0]? = some o/\p o=some a
 | [],_,_,_,h=>by have _:=G;grind [PZ]
 | o::l,i0,i,a,h=>by
  unfold PZ at h;split at h
  ·grind
  ·obtain ⟨h1,o',h2,h3⟩:=BI h
   grind
theorem aCx {d1 d2:Nat} {o:Oper} (h:aIP d1 o=some d2):o.op=.extract (.tmp d1) 1/\o.dst=some d2:=by
 have _:=G;unfold aIP at h;grind
theorem aCy {T:TypeId} {x d2:Nat} {o:Oper} {y:Operand} (h:aIQ T x d2 o=some y):o.op=.entryStore T (.tmp x) (.tmp d2) y/\o.dst=none:=by
 have _:=G;unfold aIQ at h;grind
theorem QB {lo:List Oper}:∀ {l:List Oper} {i0:Nat},(∀ j o,l[j]? = some o->lo[i0+j]? = some o)->∀ u∈WC lo i0 l,
  (∃ o,lo[u.im]? = some o/\o.op=.mapEntry u.T (.tmp u.x) u.k/\o.dst=some u.d1)/\(∃ o,lo[u.ix]? = some o/\o.op=.extract (.tmp u.d1) 1/\o.dst=some u.d2)/\(∃ o,lo[u.is]? = some o/\o.op=.entryStore u.T (.tmp u.x) (.tmp u.d2) u.y/\o.dst=none)
 | [],_,_,u,hu=>by grind [WC]
 | o::l,i0,hl,u,hu=>by
  have ih:=@QB lo l (i0+1) fun j o' hj=>by
   rw [show i0+1+j=i0+(j+1) from by omega]
   simp_all
  unfold WC at hu;split at hu
  ·rename_i q hq
   rcases List.mem_cons.1 hu with rfl | hu
   ·unfold aJU at hq
    split at hq
    ·rename_i T x k d1 ae dk
     split at hq
     ·rename_i ix d2 hx
      split at hq
      ·rename_i is y hs
       cases hq;obtain ⟨_,ox,a1,a2⟩:=BI hx;obtain ⟨_,os,b1,b2⟩:=BI hs;exact ⟨⟨o,by simpa using hl 0 o rfl,ae,dk⟩,⟨ox,by omega,aCx a2⟩,⟨os,by omega,aCy b2⟩⟩
      grind
     grind
    grind
   grind
  grind
theorem jV {p:Nat->Oper->Bool}:∀ {l:List Oper} {i0:Nat},sQ p i0 l=true->∀ j o,l[j]? = some o->p (i0+j) o=true
 | [],_,_,j,o,hj=>by have _:=G;grind
 | o::l,i0,h,j,o',hj=>by
  unfold sQ at h;simp at h;cases j with
  | zero=>grind
  | succ j =>
   rw [show i0+(j+1)=i0+1+j from by omega]
   exact jV h.2 j o' (by grind)
theorem WF {t:List AV} {as:List AV} (ha:as.length=lo.length) {d:Nat}:∀ (k i:Nat),i+k=lo.length->noW lo i (some d)=true->(wK t lo as lo.length)[d]? = (wK t lo as i)[d]?
 | 0,i,hi,_=>by
  grind
 | k+1,i,hi,h=>by
  have aq:i<lo.length:=by omega
  have ho:lo[i]? = some lo[i]:=List.getElem?_eq_getElem aq;have h:((lo.drop i).all fun o=>o.dst != some d)=true:=h
  rw [List.drop_eq_getElem_cons aq,List.all_cons,Bool.and_eq_true,bne_iff_ne] at h;rw [WF ha k (i+1) (by omega) h.2,FG lo as t i lo[i] ha ho]
  unfold sR;grind
theorem TB {t:List AV} {as:List AV} (ha:as.length=lo.length) {B:List Box} {V:List Vec} {i:Nat} (hi:i<=lo.length) {x:Operand} (h:noW lo i (aEm x)=true):St.ev ⟨wK t lo as i,B,V⟩ x=St.ev ⟨wK t lo as lo.length,B,V⟩ x:=by
 cases x with
 | tmp d =>
  have:=WF (t:=t) ha (lo.length - i) i (by omega) h
  simp_all
 | _=>rfl
end
section
variable {F:Fence} {n:Nat} {P:Program}
theorem zG {A:Type} {f:A->Nat}:∀ {l:List A},(l.map f).Nodup->∀ a∈l,∀ b∈l,f a=f b->a=b
 | [],_,a,ha,_,_,_=>by have _:=G;cases ha
 | x::l,h,a,ha,b,hb,he=>by
  simp at h;rcases List.mem_cons.1 ha with h1 | h1 <;> rcases List.mem_cons.1 hb with h2 | h2
  ·grind
  ·grind
  ·grind
  ·exact zG h.2 a h1 b h2 he
theorem aIT (hF:Free F) {lk:Lk} {id:Nat} {ops:Array Oper} {m:Emb} {s:SS} {st:St} {K:SS->Option Ou} {r:Ou} {Q:Exit->St->Prop} (hE:Em m s st) (h:aIS P lk ops s K=some r)
  (hk:∀ m' s' st',K s'=some r->Em m' s' st'->Adv lk m s st m' s' st'->Q .normal st'):W F n P (.region id ops true) st Q:=by
 obtain ⟨lo⟩:=ops;unfold aIS at h;simp only at h;split at h
 case isFalse=>cases h
 rename_i hc;rw [Bool.and_eq_true] at hc;obtain ⟨Fw,ak⟩:=hc;generalize td:WC lo 0 lo=ts at h ak;have dn:=QB (lo:=lo) (l:=lo) (i0:=0) (fun j o hj=>by grind)
 rw [td] at dn;unfold aAa at ak;simp only [Bool.and_eq_true] at ak;obtain ⟨⟨⟨⟨⟨⟨⟨p1,p2⟩,p3⟩,p4⟩,p5⟩,p6⟩,p7⟩,p8⟩:=ak;obtain ⟨as,s1,m1,a1,a2,a3,a4,a5,a6,a7⟩:=WD (lo:=lo) lo 0 hE h;simp at a2;obtain ⟨trs,V',V1',b1,b2,b3,b4,b5,b6,b7,b8,b9,b10,b11,b12,b13,b14⟩:=WE a3 ts [] s1.V st.V a3.m rfl a7;have aj:st.t.length=s.n:=by rw [hE.t];simp
 have hu:∀ u∈ts,∃ q∈trs,q.im=u.im/\q.ix=u.ix/\q.is=u.is:=by
  intro u hu;have:u.im∈trs.map (·.im):=by grind
  obtain ⟨q,hq,he⟩:=List.mem_map.1 this;obtain ⟨u',pp,ht⟩:=b4 q hq;have:u'=u:=zG (of_decide_eq_true p6) u' pp u hu (ht.im.symm.trans he);subst this;exact ⟨q,hq,ht.im,ht.ix,ht.is⟩
 have Fx:PDok P lo st.t st.B st.V trs (fun j=>as.getD j .any) (wK st.t lo as):=by
  refine ⟨fun o ho=>?_,fun i o ho e he hb=>?_,fun i j oi oj gp Fy kg=>?_,?_,QA _ _ _,fun i o ho=>FG lo as st.t i o a1 ho,fun i o ho hq=>?_,fun q hq=>?_,fun q hq=>?_,fun q hq q' bp he=>zG b6 q hq q' bp he,fun q hq q' bp=>⟨?_,?_,?_⟩⟩
  ·simp_all
  ·have:=jV p2 i o ho
   have:=(Array.all_eq_true_iff_forall_mem.1 this) e he;grind
  ·have:=jV (jV p3 i oi Fy) j oj kg
   grind
  ·have key:∀ (i j:Nat) (oi oj:Oper) (d:Nat),i<j->lo[i]? = some oi->lo[j]? = some oj->oi.dst=some d->oj.dst≠some d:=by
    intro i j oi oj d gp Fy kg hd;have:=jV (jV p3 i oi Fy) j oj kg;grind
   grind
  ·have hf:ts.any (fun q=>q.im == i || q.ix == i || q.is == i)=false:=by
    rw [List.any_eq_false];grind
   obtain ⟨c1,rd,c2,c3⟩:=(a2 i o ho).2 hf;refine ⟨c1,rd,c2 _,fun q hq hr=>?_⟩
   have lj:=c3 (by grind)
   have:=jV p5 i o ho;simp [lj] at this;obtain ⟨u,pp,ht⟩:=b4 q hq;rw [ht.is];exact this u pp
  ·obtain ⟨u,pp,ht⟩:=b4 q hq
   obtain ⟨s1',s2',s3'⟩:=dn u pp;have hp:=List.all_eq_true.1 p4 u pp;simp at hp;obtain ⟨⟨⟨⟨⟨⟨⟨⟨w1,w2⟩,w3⟩,l1⟩,l2⟩,n1⟩,n2⟩,n3⟩,n4⟩:=hp;have bq:∀ {i:Nat} {o:Oper},lo[i]? = some o->i<=lo.length:=fun ho=>Nat.le_of_lt (List.getElem?_eq_some_iff.1 ho).1
   have I0:u.im<=lo.length:=by grind
   have I1:u.is<=lo.length:=by grind
   refine ⟨ht.hm,ht.hv,ht.hI,ht.ok,ht.kd,?_,?_,?_,by rw [ht.d1,aj];exact l1,by rw [ht.d2,aj];exact l2,by rw [ht.im,ht.ix];exact w1,by rw [ht.ix,ht.is];exact w2,by rw [ht.im,ht.is];exact w3,?_,?_,?_,?_⟩
   ·rw [ht.im,ht.T,ht.x,ht.k,ht.d1];omega
   ·rw [ht.ix,ht.d1,ht.d2];omega
   ·rw [ht.is,ht.T,ht.x,ht.d2,ht.y];omega
   ·rw [ht.im,TB a1 I0 (by rw [ht.x];exact n1)];exact ht.ex
   ·rw [ht.im,TB a1 I0 (by rw [ht.k];exact n3)];exact ht.ek
   ·rw [ht.is,TB a1 I1 (by rw [ht.x];exact n2)];exact ht.ex
   ·rw [ht.is,TB a1 I1 (by rw [ht.y];exact n4)];exact ht.ey
  ·obtain ⟨u,pp,ht⟩:=b4 q hq
   obtain ⟨⟨om,Fz,_⟩,⟨ox,ya,_⟩,_⟩:=dn u pp;constructor
   ·have:=(a2 u.im om Fz).1 (by grind)
    rw [ht.im];exact this
   ·have:=(a2 u.ix ox ya).1 (by grind)
    rw [ht.ix];exact this
  ·exact zG (by rw [b1];exact of_decide_eq_true p6) q hq q' bp
  ·exact zG (by rw [b2];exact of_decide_eq_true p7) q hq q' bp
  ·exact zG (by rw [b3];exact of_decide_eq_true p8) q hq q' bp
 refine aLN hF Fw Fx b8 b9 b10 (hk m1 _ _ b14 ⟨a3.t,fun p hp=>?_,b7⟩ (a4.trans ⟨b13,rfl,Nat.le_refl _,Nat.le_of_eq b11.symm,fun _ _=>rfl,fun _ _ _=>rfl,fun i hi hl=>b12 i hi hl,fun _ _ _=>rfl⟩))
 have:=a3.ti p hp;grind
end
inductive HT where
 | nil
 | reg (as:List Pa) (ks:List Nat) (j:Option Hint) (il:List (Option Nat×Hint×HT))
 | rt (as:List Pa)
 | ins
 | mt (hdr:Bool)
 | rf (d:Option Nat)
 | pre (as:List Pa) (a:HT)
 | yl (sh:YSh)
 | two (a b:HT)
 | sel (a:HT) (n:Nat) (b c:HT)
 | cond (j:Option Hint) (a b:HT)
 | blk (h:Hint) (a:HT)
 | thru (a:HT)
 | lp (as:List Pa) (h:Hint) (a:HT)
 | rg (sh:YSh) (h:Hint) (a b:HT)
 | mr (as:List Pa) (il:List (Option Nat×Hint×HT)) (h:Hint) (il2:List (Option Nat×Hint×HT)) (a:HT)
 | alt (f:FuncId) (a b:HT)
 | fv (fs:List FuncId) (a:HT)
 | in2 (h:Hint) (n:Nat) (a:HT)
 | bx (T:TypeId) (ts:List (Option (TypeId×Nat))) (a:HT)
 | nb (T:TypeId) (ts:List (Option (TypeId×Nat)))
def aBh (d:Option Nat):List (Option Nat×Hint×HT)->Option (Hint×HT)
 | []=>none
 | (i,x)::r=>if i=d then some x else aBh d r
def rfD (il:List (Option Nat×Hint×HT)) (d:Option Nat):Bool:=match aBh d il with
 | some (_,.rf none)=>true
 | _=>false
def aLP:HT->Bool
 | .rf none=>true
 | _=>false
def aJX (dr:Bool) (il:List (Option Nat×Hint×HT)):List (Option Nat×Hint×HT):=match dr with
 | true=>il.filter fun p=>!aLP p.2.2
 | false=>il
def aIU (f:FuncId):HT->HT
 | .alt g a b=>if f=g then a else aIU f b
 | h=>h
def aN (x:Option Ou) (k:List CV->Option Ou):Option Ou:=match x with
 | some (.nx vs)=>k vs
 | o=>o
def cD (id:Nat) (x:Option Ou) (k:List CV->Option Ou):Option Ou:=match x with
 | some (.br i vs)=>if i=id then k vs else some (.br i vs)
 | o=>o
def nG (step:List CV->Option Ou):Nat->List CV->Option Ou
 | 0,_=>none
 | n+1,vs=>match step vs with
  | some (.nx vs')=>nG step n vs'
  | o=>o
open Classical in
noncomputable def aL (step:List CV->Option Ou) (vs:List CV):Option Ou:=
 if h:∃ n r,nG step n vs=some r then some (Classical.choose (Classical.choose_spec h)) else none
theorem BJ {step:List CV->Option Ou}:∀ {n:Nat} {vs:List CV} {r:Ou},nG step n vs=some r->∀ k,nG step (n+k) vs=some r
 | 0,vs,r,h,k=>by have _:=G;grind [nG]
 | n+1,vs,r,h,k=>by
  rw [show n+1+k=(n+k)+1 by omega]
  simp [nG] at h ⊢;cases hs:step vs with
  | none=>grind
  | some o =>
   rw [hs] at h;cases o with
   | nx vs'=>exact BJ h k
   | br i vs'=>exact h
   | ret vs'=>exact h
variable {step:List CV->Option Ou}
theorem aCz {n k:Nat} {vs:List CV} {r r':Ou} (h:nG step n vs=some r) (h':nG step k vs=some r'):r=r':=by
 have h1:=BJ h k;have h2:=BJ h' n;grind
theorem uU {vs:List CV} {r:Ou}:aL step vs=some r↔∃ n,nG step n vs=some r:=by
 unfold aL;constructor
 ·intro h
  split at h
  ·grind
  grind
 ·rintro ⟨n,h⟩
  have hh:∃ n r,nG step n vs=some r:=⟨n,r,h⟩;rw [dif_pos hh];congr 1;exact aCz (Classical.choose_spec (Classical.choose_spec hh)) h
theorem CR (step:List CV->Option Ou) (vs:List CV):aL step vs=match step vs with
  | some (.nx vs')=>aL step vs'
  | o=>o:=by
 refine Option.ext fun r=>?_
 rw [uU];constructor
 ·rintro ⟨n,h⟩
  cases n with
  | zero=>grind [nG]
  | succ n =>
   simp [nG] at h;cases hs:step vs with
   | none=>grind
   | some o =>
    rw [hs] at h;cases o with
    | nx vs'=>exact uU.2 ⟨n,h⟩
    | br i vs'=>exact h
    | ret vs'=>exact h
 ·intro h
  cases hs:step vs with
  | none=>grind
  | some o =>
   rw [hs] at h;cases o with
   | nx vs' =>
    obtain ⟨n,h'⟩:=uU.1 h;exact ⟨n+1,by grind [nG]⟩
   | br i vs'=>exact ⟨1,by grind [nG]⟩
   | ret vs'=>exact ⟨1,by grind [nG]⟩
def SS.kept (ks:List Nat) (s:SS):SS:=⟨s.n,ks.map fun k=>(k,s.get k),s.B,s.V⟩
section
variable (P:Program) (sg:FuncId->Option Sig) (M:Den)
noncomputable def aBi (inl:IN) (rf:Option Nat->Bool) (lk:Lk) (ops:Array Oper) (dr:Bool) (s:SS) (K:SS->Option Ou):Option Ou:=
 match dr with
 | true=>if aLO P ops.toList s.n=true then aIS P lk ops s K else ZO P sg M inl rf lk ops s K
 | false=>evR P sg M inl lk false 0 ops.toList ops.toList s K
def xK (id:Nat):List (Nat×Hint)->Option Hint
 | []=>none
 | (i,h)::r=>if i=id then some h else xK id r
noncomputable def evC (inl:List (Option Nat×Hint×HT)->IN) (rt:SS->Option Ou):Code->HT->Lk->List (Nat×Hint)->SS->(SS->Option Ou)->Option Ou
 | .skip,_,_,_,s,K=>K s
 | .region _ ops dr,.reg as ks none il,lk,_,s,K=>match rQ as lk s with
  | some s=>aBi P sg M (inl (aJX dr il)) (rfD il) lk ops dr s fun s'=>K (s'.kept (ks++lk.t))
  | none=>none
 | .region _ ops dr,.reg as _ (some h) il,lk,_,s,K=>match rQ as lk s with
  | some s=>if gF h lk s=true then aN (aBi P sg M (inl (aJX dr il)) (rfD il) (cW h lk s) ops dr s fun s'=>(kI h s').map .nx) fun vs=>K (bF h lk s vs) else none
  | none=>none
 | .seq a b,.two x y,lk,env,s,K=>evC inl rt a x lk env s fun s'=>evC inl rt b y lk env s' K
 | .seq a b,.sel x n y z,lk,env,s,K=>evC inl rt a x lk env s fun s'=>evC inl rt b (if s'.V.length<=n then y else z) lk env s' K
 | .cond c a b,.cond none x y,lk,env,s,K=>match s.ev c with
  | .cv (.val (.bool t))=>aA t (evC inl rt a x lk env s K) (evC inl rt b y lk env s K)
  | _=>none
 | .cond c a b,.cond (some h) x y,lk,env,s,K=>match s.ev c with
  | .cv (.val (.bool t))=>if gF h lk s=true then
    aN (aA t (evC inl rt a x (cW h lk s) env s fun s'=>(kI h s').map .nx) (evC inl rt b y (cW h lk s) env s fun s'=>(kI h s').map .nx)) fun vs=>K (bF h lk s vs)
   else none
  | _=>none
 | .block id c,.blk h x,lk,env,s,K=>if gF h lk s=true then
   cD id (evC inl rt c x (cW h lk s) ((id,h)::env) s fun s'=>(kI h s').map (.br id)) fun vs=>K (bF h lk s vs)
  else none
 | .block id c,.thru x,lk,env,s,K=>match xK id env with
  | none=>evC inl rt c x lk env s K
  | some _=>none
 | .loop c,.lp as h x,lk,env,s,_=>match rQ as lk s with
  | some s=>if gF h lk s=true then
    match kI h s with
    | some v0=>aL (fun vs=>evC inl rt c x (cW h lk s) env (bF h lk s vs) fun s'=>(kI h s').map .nx) v0
    | none=>none
   else none
  | none=>none
 | .exit id,_,_,env,s,_=>match xK id env with
  | some h=>(kI h s).map (.br id)
  | none=>none
 | .label _,_,_,_,s,K=>K s
 | .scope c,x,lk,env,s,K=>evC inl rt c x lk env s K
 | .ret,.rt as,lk,_,s,_=>match rQ as lk s with
  | some s=>rt s
  | none=>none
 | .ret,_,_,_,s,_=>rt s
 | _,_,_,_,_,_=>none
end
end Go.Sx
namespace Go.Sx
open Go Go.RowKit
structure MRS where
 id0:Nat
 ops:Array Oper
 pre:List Oper
 oR:Oper
 T:TypeId
 x:Operand
 it:Nat
 id:Nat
 id1:Nat
 oN:Oper
 oX:Oper
 tn:Nat
 ok:Nat
 b1:Nat
 id2:Nat
 eops:List Oper
 oE:Oper
 te:Nat
 rest:Code
def MRS.head (s:MRS):Code:=.region s.id0 s.ops false
def MRS.loop (s:MRS):Code:=
 .block s.id (.loop (.seq (.region s.id1 #[s.oN,s.oX] false) (.seq (.cond (.tmp s.ok) .skip (.exit s.id)) (.block s.b1 (.seq (.region s.id2 (s.oE::s.eops).toArray false) s.rest)))))
structure MRS.Ok (s:MRS):Prop where
 ops:s.ops=(s.pre++[s.oR]).toArray
 rop:s.oR.op=.range s.T s.x
 rd:s.oR.dst=some s.it
 rg:s.oR.guard=none
 nop:s.oN.op=.next (.tmp s.it) false
 nd:s.oN.dst=some s.tn
 ng:s.oN.guard=none
 xop:s.oX.op=.extract (.tmp s.tn) 0
 xd:s.oX.dst=some s.ok
 xg:s.oX.guard=none
 eop:s.oE.op=.entry (.tmp s.it)
 ed:s.oE.dst=some s.te
 eg:s.oE.guard=none
 ne1:s.tn≠s.it
 ne2:s.ok≠s.it
 ne3:s.ok≠s.tn
def TC:Code->Code->Option MRS
 | .region id0 ops false,.block id (.loop (.seq (.region id1 nops false) (.seq (.cond (.tmp ok) .skip (.exit id')) (.block b1 (.seq (.region id2 eops false) rest))))) =>
  match ops.toList.getLast?,nops.toList,eops.toList with
  | some ⟨some it,.range T x,rt,rp,re,none⟩,[⟨some tn,.next (.tmp it1) false,nt,np,ne,none⟩,⟨some ok1,.extract (.tmp tn1) 0,xt,xp,xe,none⟩],⟨some te,.entry (.tmp it2),et,ep,ee,none⟩::eops' =>
   if (id == id'&&it == it1&&it == it2&&tn == tn1&&ok == ok1&&tn != it&&ok != it&&ok != tn)=true then
    some ⟨id0,ops,ops.toList.dropLast,⟨some it,.range T x,rt,rp,re,none⟩,T,x,it,id,id1,⟨some tn,.next (.tmp it1) false,nt,np,ne,none⟩,⟨some ok1,.extract (.tmp tn1) 0,xt,xp,xe,none⟩,tn,ok,b1,id2,eops',⟨some te,.entry (.tmp it2),et,ep,ee,none⟩,te,rest⟩
   else none
  | _,_,_=>none
 | _,_=>none
theorem TD {a b:Code} {s:MRS} (h:TC a b=some s):a=s.head/\b=s.loop/\s.Ok:=by
 unfold TC at h;split at h
 case h_2=>cases h
 rename_i id0 ops id id1 nops ok id' b1 id2 eops rest;split at h
 case h_2=>cases h
 rename_i it T x rt rp re tn it1 nt np ne ok1 tn1 xt xp xe te it2 et ep ee eops' h1 h2 h3;split at h
 case isFalse=>cases h
 rename_i hc;simp at hc;obtain ⟨⟨⟨⟨⟨⟨⟨rfl,rfl⟩,rfl⟩,rfl⟩,rfl⟩,c1⟩,c2⟩,c3⟩:=hc;cases h;have hn:nops=#[⟨some tn,.next (.tmp it) false,nt,np,ne,none⟩,⟨some ok,.extract (.tmp tn) 0,xt,xp,xe,none⟩]:=Array.toList_inj.1 (by rw [h2])
 have he:eops=((⟨some te,.entry (.tmp it),et,ep,ee,none⟩:Oper)::eops').toArray:=Array.toList_inj.1 (by rw [h3])
 have ho:ops=(ops.toList.dropLast++[(⟨some it,.range T x,rt,rp,re,none⟩:Oper)]).toArray:=by
  grind
 exact ⟨rfl,by rw [hn,he];rfl,⟨ho,rfl,rfl,rfl,rfl,rfl,rfl,rfl,rfl,rfl,rfl,rfl,rfl,c1,c2,c3⟩⟩
open Classical in
noncomputable def OJ {A:Type} (rows:List (List CV)) (K:Nat->List (List CV)->Option A):Option A:=
 if h:∃ r,∀ p l,l.Perm rows->K p l=some r then some (Classical.choose h) else none
theorem zH {A:Type} {rows:List (List CV)} {K:Nat->List (List CV)->Option A} {r:A}:OJ rows K=some r↔∀ p l,l.Perm rows->K p l=some r:=by
 unfold OJ;constructor
 ·intro h
  split at h
  ·grind
  grind
 ·intro h
  have hh:∃ r,∀ p l,l.Perm rows->K p l=some r:=⟨r,h⟩;have:=Classical.choose_spec hh 0 rows (.refl _);rw [h 0 rows (.refl _)] at this;grind
def xL (b1:Nat):Option Ou->Option (List CV)
 | some (.nx v)=>some v
 | some (.br i v)=>if i=b1 then some v else none
 | _=>none
def gU (b1:Nat) (step:List CV->List CV->Option Ou):List (List CV)->List CV->Option (List CV)
 | [],v=>some v
 | x::l,v=>match xL b1 (step x v) with
  | some v'=>gU b1 step l v'
  | none=>none
theorem uV {b1:Nat} {step:List CV->List CV->Option Ou}:∀ {l l':List (List CV)} {v:List CV},gU b1 step (l++l') v=(gU b1 step l v).bind (gU b1 step l')
 | [],l',v=>rfl
 | x::l,l',v=>by
  simp [gU];split
  ·exact uV
  ·rfl
def wL (mi:MI) (row:List CV):AV:=
 .tup [match mi.kl with
  | [q]=>.cv (xG q (row.getD 0 dC))
  | kl=>.agg ((kl.zip (List.range kl.length)).map fun p=>.cv (xG p.1 (row.getD p.2 dC))),.cv (xG mi.vl (row.getD mi.kl.length dC))]
def eK (p:Nat):AV:=.cv (.val (.pointer (some ⟨p,0,none⟩)))
section
variable (P:Program) (sg:FuncId->Option Sig) (M:Den) (cm:Bool)
noncomputable def aIV (inl:List (Option Nat×Hint×HT)->IN) (rt:SS->Option Ou) (q:MRS) (as:List Pa) (il:List (Option Nat×Hint×HT)) (h:Hint) (il2:List (Option Nat×Hint×HT)) (y:HT) (lk:Lk) (env:List (Nat×Hint)) (s:SS) (K:SS->Option Ou):Option Ou:=
 if cm=true then
  match eO P q.T,rQ as lk s with
  | some mi,some s=>evR P sg M (inl il) lk false 0 q.ops.toList q.pre s fun s1 =>
   match s1.ev q.x with
   | .cv (.mp kn rows) =>
    let s2:=s1.put (some q.it) .any s1.B s1.V
    let lk2:Lk:=⟨q.it::lk.t,lk.b,lk.v,lk.o⟩
    if (kn == mi.kl.length&&gF h lk s2&&bX lk (some q.it)&&bX lk (some q.tn)&&bX lk (some q.ok)&&bX (cW h lk s2) (some q.it)&&bX (cW h lk2 s2) (some q.tn)&&bX (cW h lk2 s2) (some q.ok)&&bX (cW h lk2 s2) (some q.te)&&decide (q.it<s1.n)&&decide (q.tn<s1.n)&&decide (q.ok<s1.n))=true then
     chk (dX mi.kl mi.vl rows) (OJ rows fun p l =>
      aB (let sp:=s1.put (some q.it) (eK p) s1.B s1.V
      match kI h sp with
      | some v0 =>
       if gF h lk2 sp=true then
        gU q.b1 (fun row vs =>
         let t:=bF h lk2 sp vs
         let t1:=t.put (some q.tn) .any t.B t.V
         let t2:=t1.put (some q.ok) (.cv (.val (.bool true))) t1.B t1.V
         evR P sg M (inl il2) (cW h lk2 sp) false 0 (q.oE::q.eops) q.eops (t2.put (some q.te) (wL mi row) t2.B t2.V) fun s3 =>
          evC P sg M inl rt q.rest y (cW h lk2 sp) ((q.b1,h)::env) s3 fun s'=>(kI h s').map .nx) l v0
       else none
      | none=>none) fun v =>
      let t:=bF h lk s2 v
      let t1:=t.put (some q.tn) .any t.B t.V
      K (t1.put (some q.ok) .any t1.B t1.V))
    else none
   | _=>none
  | _,_=>none
 else none
noncomputable def evB (inl:List (Option Nat×Hint×HT)->IN) (rt:SS->Option Ou):Code->HT->Lk->List (Nat×Hint)->SS->(SS->Option Ou)->Option Ou
 | .seq a b,.two x y,lk,env,s,K=>evB inl rt a x lk env s fun s'=>evB inl rt b y lk env s' K
 | .seq a b,.mr as il h il2 y,lk,env,s,K=>match TC a b with
  | some q=>aIV P sg M cm inl rt q as il h il2 y lk env s K
  | none=>none
 | c,ht,lk,env,s,K=>evC P sg M inl rt c ht lk env s K
end
end Go.Sx
namespace Go.Sx
open Go Go.RowKit
variable [G:Ghost]
section
variable {F:Fence} {n:Nat} {P:Program} {sg:FuncId->Option Sig} {M:Den}
theorem Em.kept {m:Emb} {s:SS} {st:St} (hE:Em m s st) (ks:List Nat):∃ st1,Wk st st1/\Em m (s.kept ks) st1/\st1.B=st.B:=by
 let st1:St:=⟨mkT s.n ((s.kept ks).t.map fun p=>(p.1,p.2.cz m)),st.B,st.V⟩
 have cw:∀ d,Go.Sx.lk ((s.kept ks).t.map fun p=>(p.1,p.2.cz m)) d=(if ks.contains d then s.get d else .any).cz m:=by
  intro d;rw [qJ (AV.cz m) (by rfl)]
  simp [SS.kept,yX]
 have gx:∀ d,Go.Sx.lk (s.t.map fun p=>(p.1,p.2.cz m)) d=(Go.Sx.lk s.t d).cz m:=fun d=>qJ (AV.cz m) (by rfl) s.t d
 have bq:∀ d,d<s.n->LeS (Go.Sx.lk (s.t.map fun p=>(p.1,p.2.cz m)) d) (Go.Sx.lk ((s.kept ks).t.map fun p=>(p.1,p.2.cz m)) d):=by
  intro d hd;rw [cw,gx];split
  ·simp [SS.get,hd];exact LeS.refl _
  ·exact LeS.any _
 refine ⟨st1,⟨?_,rfl,fun i b1 hb=>⟨b1,hb,fun hl=>⟨hl,rfl,AV.les_refl _⟩⟩,rfl,?_,fun _ _ i b b1 h1 h2 h3=>by grind⟩,⟨rfl,?_,hE.m⟩,rfl⟩
 ·rw [hE.t]
  have:∀ (l:List Nat),(∀ d∈l,d<s.n)->AV.les (l.map (Go.Sx.lk (s.t.map fun p=>(p.1,p.2.cz m)))) (l.map (Go.Sx.lk ((s.kept ks).t.map fun p=>(p.1,p.2.cz m)))):=by
   intro l
   induction l with
   | nil=>intro _;exact .nil
   | cons d l ih =>
    intro hl;exact .cons (bq d (hl d (by simp))).1 (ih fun d hd=>hl d (by grind))
  exact this _ fun d hd=>by grind
 ·intro nB ws hs
  rw [hE.t] at hs;rw [AV.scos_iff] at hs ⊢;intro y hy;simp [st1,mkT] at hy;obtain ⟨d,hd,rfl⟩:=hy;refine (bq d hd).2 nB ws (hs _ ?_);grind [mkT]
 ·intro p hp
  simp [SS.kept] at hp;obtain ⟨d,_,rfl⟩:=hp;exact hE.inn d
theorem SS.kept_get {s:SS} {ks:List Nat} {d:Nat} (h:d∈ks):(s.kept ks).get d=s.get d:=by
 show (if d<s.n then Go.Sx.lk (ks.map fun k=>(k,s.get k)) d else .any)=s.get d
 simp_all [yX,SS.get]
variable {Q:Exit->St->Prop}
theorem TE (hM:Fns P sg M) (hF:Free F) {inl:IN} {rf:Option Nat->Bool} (hI:CP F n P inl) {lk:Lk} {id:Nat} {ops:Array Oper} {dr:Bool} {m:Emb} {s:SS} {st:St} {K:SS->Option Ou} {r:Ou} (hE:Em m s st) (h:aBi P sg M inl rf lk ops dr s K=some r)
  (hk:∀ m' s' st',K s'=some r->Em m' s' st'->Adv lk m s st m' s' st'->Q .normal st'):W F n P (.region id ops dr) st Q:=by
 unfold aBi at h;split at h
 ·split at h
  ·exact aIT hF hE h hk
  ·exact aEk hM hF hI hE h hk
 ·refine aDw ?_
  have:=nT (F:=F) (n:=n) hM hF hI ops.toList hE h hk;omega
open Classical in
theorem aG3 {body:Code} {st:St} (I:Nat->St->Prop) {k0:Nat} (h0:I k0 st)
  (gf:∀ k s,I k s->W F n P body s fun ex s'=>match ex with
   | .normal=>∃ s1,Wk s' s1/\∃ k',k'<k/\I k' s1
   | ex=>Q ex s'):W F n P (.loop body) st Q:=by
 intro n0 w0 e a w Qr hr hk
 let J:Nat->Act->World->Prop:=fun k a' w'=>∃ e' s,I k s/\Rel n0 w0 e' s a' w'/\a'.defers=a.defers/\dW e st w e' s.B s.V w'
 have yb:∀ a' w',(∃ k,J k a' w')->∃ k,J k a' w'/\∀ j,J j a' w'->k<=j:=fun a' w' h=>exists_least h
 let μr:Act->World->Nat:=fun a' w'=>if h:∃ k,J k a' w' then Classical.choose (yb a' w' h) else 0
 have hμ:∀ a' w' (h:∃ k,J k a' w'),J (μr a' w') a' w'/\∀ j,J j a' w'->μr a' w'<=j:=by
  intro a' w' h;grind
 refine wpIn_loop (fun a' w'=>∃ k,J k a' w') μr ⟨k0,e,st,h0,hr,rfl,Ext.refl _ _ _ _ _⟩ ?_
 intro a1 w1 hJ;obtain ⟨⟨e1,s,hI,l9,ve,de⟩,Lu⟩:=hμ a1 w1 hJ;refine gf _ s hI n0 w0 e1 a1 w1 _ l9 ?_;intro ex e2 s2 a2 w2 hq kz t7 ku;cases ex with
 | normal =>
  obtain ⟨s3,px,k',hlt,Lv⟩:=hq;have oc:=px.weak kz;have F0:J k' a2 w2:=⟨e2,s3,Lv,kz.weak oc,t7.trans ve,de.trans (ku.weak oc (by rw [px.Bl];exact ku.nB) (by rw [px.V];simpa using ku.nV))⟩
  refine ⟨⟨_,F0⟩,?_⟩;have:=(hμ a2 w2 ⟨_,F0⟩).2 _ F0;omega
 | _=>exact hk _ e2 s2 a2 w2 hq kz (t7.trans ve) (de.trans ku)
end
section
variable {F:Fence} {n:Nat} {P:Program} {sg:FuncId->Option Sig} {M:Den} {rt:SS->Option Ou}
variable {x:Option Ou} {k:List CV->Option Ou}
theorem QC {r:Ou} (h:aN x k=some r):(∃ vs,x=some (.nx vs)/\k vs=some r)\/(x=some r/\∀ vs,r≠.nx vs):=by
 have _:=G;unfold aN at h;grind
theorem aCA {id:Nat} {r:Ou} (h:cD id x k=some r):(∃ vs,x=some (.br id vs)/\k vs=some r)\/(x=some r/\∀ vs,r≠.br id vs):=by
 have _:=G;unfold cD at h;grind
theorem BK {id i:Nat} {h:Hint} {env:List (Nat×Hint)}:xK i ((id,h)::env)=if id=i then some h else xK i env:=have _:=G;rfl
theorem nU (hM:Fns P sg M) (hF:Free F) {inl:List (Option Nat×Hint×HT)->IN} (hI:∀ il,CP F n P (inl il)) (mc:∀ s o,rt s=some o->∃ l,o=.ret l):∀ (c:Code) (ht:HT) (lk:Lk) (env:List (Nat×Hint)) (s:SS) (K:SS->Option Ou) (r:Ou) (m:Emb) (st:St) (Q:Exit->St->Prop),
  Em m s st->evC P sg M inl rt c ht lk env s K=some r ->
  (∀ m' s' st',K s'=some r->Em m' s' st'->Adv lk m s st m' s' st'->Q .normal st') ->
  (∀ id h vs m' s' st',xK id env=some h->kI h s'=some vs->r=.br id vs->Em m' s' st'->Adv lk m s st m' s' st'->Q (.exit id) st') ->
  (∀ m' s' st',rt s'=some r->Em m' s' st'->Adv lk m s st m' s' st'->Q .ret st') ->
  W F n P c st Q:=by
 intro c
 induction c with
 | skip =>
  intro ht lk env s K r m st Q hE h hK hX hR;exact aIx (hK m s st h hE (Adv.refl _ _ _ _))
 | label l =>
  intro ht lk env s K r m st Q hE h hK hX hR;exact aGy (hK m s st h hE (Adv.refl _ _ _ _))
 | ret =>
  intro ht lk env s K r m st Q hE h hK hX hR;cases ht with
  | rt as =>
   simp [evC] at h;split at h
   ·rename_i s1 iz
    exact BG hE iz fun m1 st1 bY dy=>aIa (hR m1 s1 st1 h bY dy)
   grind
  | _=>simp only [evC] at h;exact aIa (hR m s st h hE (Adv.refl _ _ _ _))
 | exit id =>
  intro ht lk env s K r m st Q hE h hK hX hR;simp [evC] at h;split at h
  ·rename_i hh hl
   simp at h;obtain ⟨vs,h1,rfl⟩:=h;exact aIy (hX id hh vs m s st hl h1 rfl hE (Adv.refl _ _ _ _))
  grind
 | region id ops dr =>
  intro ht lk env s K r m st Q hE h hK hX hR;cases ht with
  | reg as ks j il =>
   cases j with
   | none =>
    simp [evC] at h;split at h
    ·rename_i s0 i9
     refine BG hE i9 fun m0 st0 ma zq=>SP (TE hM hF (hI _) ma h fun m' s' st' h1 h2 h3=>?_)
     obtain ⟨st1,q1,q2,q0⟩:=h2.kept (ks++lk.t);refine ⟨st1,q1,hK m' _ st1 h1 q2 (zq.trans ?_)⟩;have hB:st1.B.length=st'.B.length:=q1.Bl;refine ⟨⟨h3.stp.up,by rw [hB];exact h3.stp.bl,by rw [q1.V];exact h3.stp.vl,h3.stp.bn,h3.stp.vn,fun j hj hn=>?_,by rw [q1.V];exact h3.stp.vf⟩,h3.n,h3.bl,h3.vl,fun d hd=>?_,h3.b,h3.v,h3.o⟩
     ·rw [q0];exact h3.stp.bf j hj hn
     ·rw [SS.kept_get (by grind)];exact h3.t d hd
    grind
   | some h0 =>
    simp [evC] at h;split at h
    ·rename_i s0 i9
     split at h
     ·rename_i aa
      rcases QC h with ⟨vs,h1,h2⟩ | ⟨h1,h2⟩
      ·refine BG hE i9 fun m0 st0 ma zq=>SP (TE hM hF (hI _) ma h1 fun m' s' st' g1 g2 g3=>?_)
       simp only [Option.map_eq_some_iff] at g1;obtain ⟨vs',g1,g4⟩:=g1;cases g4;obtain ⟨m1,st1,q1,q2,q3⟩:=oF ma g2 g3 g1 aa;exact ⟨st1,q1,hK m1 _ st1 h2 q2 (zq.trans (q3.sub aa))⟩
      ·refine BG hE i9 fun m0 st0 ma zq=>TE hM hF (hI _) ma h1 fun m' s' st' g1 g2 g3=>?_
       grind [Option.map_eq_some_iff]
     grind
    grind
  | _=>simp [evC] at h
 | seq a b iha ihb =>
  intro ht lk env s K r m st Q hE h hK hX hR;cases ht with
  | two x y =>
   refine aDx (iha x lk env s _ r m st _ hE h ?_ ?_ ?_)
   ·intro m' s' st' h1 h2 h3
    exact ihb y lk env s' K r m' st' Q h2 h1 (fun m'' s'' st'' g1 g2 g3=>hK m'' s'' st'' g1 g2 (h3.trans g3))
     (fun id h vs m'' s'' st'' g0 g1 g2 g3 g4=>hX id h vs m'' s'' st'' g0 g1 g2 g3 (h3.trans g4)) (fun m'' s'' st'' g1 g2 g3=>hR m'' s'' st'' g1 g2 (h3.trans g3))
   ·exact hX
   omega
  | sel x n y z =>
   refine aDx (iha x lk env s _ r m st _ hE h ?_ ?_ ?_)
   ·intro m' s' st' h1 h2 h3
    exact ihb _ lk env s' K r m' st' Q h2 h1 (fun m'' s'' st'' g1 g2 g3=>hK m'' s'' st'' g1 g2 (h3.trans g3))
     (fun id h vs m'' s'' st'' g0 g1 g2 g3 g4=>hX id h vs m'' s'' st'' g0 g1 g2 g3 (h3.trans g4)) (fun m'' s'' st'' g1 g2 g3=>hR m'' s'' st'' g1 g2 (h3.trans g3))
   ·exact hX
   omega
  | _=>simp [evC] at h
 | cond c a b iha ihb =>
  intro ht lk env s K r m st Q hE h hK hX hR;cases ht with
  | cond j x y =>
   cases j with
   | none =>
    simp [evC] at h;split at h
    ·rename_i t hc
     refine YP (b:=t) (by rw [hE.ev,hc];rfl) (fun ht=>?_) (fun ht=>?_)
     ·subst ht
      exact iha x lk env s K r m st Q hE h hK hX hR
     ·subst ht
      exact ihb y lk env s K r m st Q hE h hK hX hR
    grind
   | some h0 =>
    simp [evC] at h;split at h
    ·rename_i t hc
     split at h
     ·rename_i aa
      rcases QC h with ⟨vs,h1,h2⟩ | ⟨h1,h2⟩
      ·refine SP (YP (b:=t) (by rw [hE.ev,hc];rfl) (fun ht=>?_) (fun ht=>?_))
       all_goals
        subst ht
        first
        | refine iha x (cW h0 lk s) env s _ _ m st _ hE h1 ?_ ?_ ?_
        | refine ihb y (cW h0 lk s) env s _ _ m st _ hE h1 ?_ ?_ ?_
        ·intro m' s' st' g1 g2 g3
         simp only [Option.map_eq_some_iff] at g1;obtain ⟨vs',g1,g4⟩:=g1;cases g4;obtain ⟨m1,st1,q1,q2,q3⟩:=oF hE g2 g3 g1 aa;exact ⟨st1,q1,hK m1 _ st1 h2 q2 (q3.sub aa)⟩
        ·intro id h vs' m' s' st' g0 g1 g2 g3 g4;cases g2
        ·intro m' s' st' g1 g2 g3
         obtain ⟨l,hl⟩:=mc _ _ g1;cases hl
      ·refine YP (b:=t) (by rw [hE.ev,hc];rfl) (fun ht=>?_) (fun ht=>?_)
       all_goals
        subst ht
        first
        | refine iha x (cW h0 lk s) env s _ _ m st _ hE h1 ?_ ?_ ?_
        | refine ihb y (cW h0 lk s) env s _ _ m st _ hE h1 ?_ ?_ ?_
        ·intro m' s' st' g1 g2 g3
         simp only [Option.map_eq_some_iff] at g1;obtain ⟨vs',g1,g4⟩:=g1;exact absurd g4.symm (h2 vs')
        ·intro id h vs' m' s' st' g0 g1 g2 g3 g4;exact hX id h vs' m' s' st' g0 g1 g2 g3 (g4.sub aa)
        ·intro m' s' st' g1 g2 g3;exact hR m' s' st' g1 g2 (g3.sub aa)
     grind
    grind
  | _=>simp [evC] at h
 | block id c ih =>
  intro ht lk env s K r m st Q hE h hK hX hR;cases ht with
  | thru x =>
   simp [evC] at h;split at h
   ·refine RZ (ih x lk env s K r m st _ hE h ?_ ?_ ?_)
    ·exact hK
    ·grind
    omega
   grind
  | blk h0 x =>
   simp only [evC] at h;split at h
   ·rename_i aa
    rcases aCA h with ⟨vs,h1,h2⟩ | ⟨h1,h2⟩
    ·refine SP (RZ (ih x (cW h0 lk s) _ s _ _ m st _ hE h1 ?_ ?_ ?_))
     ·intro m' s' st' g1 g2 g3
      simp only [Option.map_eq_some_iff] at g1;obtain ⟨vs',g1,g4⟩:=g1;cases g4;obtain ⟨m1,st1,q1,q2,q3⟩:=oF hE g2 g3 g1 aa;exact ⟨st1,q1,hK m1 _ st1 h2 q2 (q3.sub aa)⟩
     ·intro i h vs' m' s' st' g0 g1 g2 g3 g4
      cases g2;rw [BK,if_pos rfl] at g0;cases g0;obtain ⟨m1,st1,q1,q2,q3⟩:=oF hE g3 g4 g1 aa;simp;exact ⟨st1,q1,hK m1 _ st1 h2 q2 (q3.sub aa)⟩
     grind
    ·refine RZ (ih x (cW h0 lk s) _ s _ _ m st _ hE h1 ?_ ?_ ?_)
     ·grind [Option.map_eq_some_iff]
     ·intro i h vs' m' s' st' g0 g1 g2 g3 g4
      by_cases hi:i=id
      ·grind
      ·simp [hi]
       rw [BK,if_neg (fun h=>hi h.symm)] at g0
       exact hX i h vs' m' s' st' g0 g1 g2 g3 (g4.sub aa)
     ·intro m' s' st' g1 g2 g3;exact hR m' s' st' g1 g2 (g3.sub aa)
   grind
  | _=>simp [evC] at h
 | loop c ih =>
  intro ht lk env s K r m st Q hE h hK hX hR;cases ht with
  | lp as h0 x =>
   simp [evC] at h;split at h
   case h_2=>cases h
   rename_i sA Lw;refine BG hE Lw fun mA stA uh I2=>?_
   split at h
   ·rename_i aa
    split at h
    ·rename_i v0 ig
     obtain ⟨k0,j8⟩:=uU.1 h;obtain ⟨m1,st1,q1,q2,q3⟩:=oF (st0:=stA) uh uh (Adv.refl _ _ _ _) ig aa;refine aJN q1 ?_
     refine aG3 (fun k st'=>∃ vs m',nG (fun vs=>evC P sg M inl rt c x (cW h0 lk sA) env (bF h0 lk sA vs) fun s'=>(kI h0 s').map .nx) k vs=some r /\
      Em m' (bF h0 lk sA vs) st'/\Adv (cW h0 lk sA) mA sA stA m' (bF h0 lk sA vs) st') ⟨v0,m1,j8,q2,q3⟩ ?_
     rintro k s1 ⟨vs,m',g1,g2,g3⟩;cases k with
     | zero=>grind [nG]
     | succ k =>
      simp [nG] at g1;split at g1
      ·rename_i vs' gg
       refine ih x (cW h0 lk sA) env _ _ _ m' s1 _ g2 gg ?_ ?_ ?_
       ·intro m2 s2 st2 e1 e2 e3
        simp only [Option.map_eq_some_iff] at e1;obtain ⟨vs2,e1,e4⟩:=e1;obtain ⟨m3,st3,w1,w2,w3⟩:=oF uh e2 (g3.trans e3) e1 aa;grind
       ·simp
       grind
      ·refine ih x (cW h0 lk sA) env _ _ r m' s1 _ g2 g1 ?_ ?_ ?_
       ·intro m2 s2 st2 e1 e2 e3
        simp at e1;obtain ⟨vs2,e1,e4⟩:=e1;subst e4;grind
       ·intro id h vs2 m2 s2 st2 e0 e1 e2 e3 e4
        exact hX id h vs2 m2 s2 st2 e0 e1 e2 e3 (I2.trans ((g3.trans e4).sub aa))
       ·intro m2 s2 st2 e1 e2 e3
        exact hR m2 s2 st2 e1 e2 (I2.trans ((g3.trans e3).sub aa))
    grind
   grind
  | _=>simp [evC] at h
 | scope c ih =>
  intro ht lk env s K r m st Q hE h hK hX hR;refine aGD (ih ht lk env s K r m st (aGC Q) hE h ?_ ?_ ?_)
  ·exact hK
  ·exact hX
  ·exact hR
 | _=>intro ht lk env s K r m st Q hE h hK hX hR;cases ht <;> simp [evC] at h
end
end Go.Sx
namespace Go.Sx
open Go Go.RowKit Go.ChangeMaps
variable [G:Ghost]
section
variable {F:Fence} {n:Nat} {P:Program}
variable {w:World}
theorem aJY {o:Oper} {a:Act} {K K':Act->World->Prop} {Q Q':Exit->Act->World->Prop} (h:∀ a w,K a w->K' a w) (hq:∀ ex a w,ex≠.normal->Q ex a w->Q' ex a w) (hh:o.wpIn F n P a w K Q):o.wpIn F n P a w K' Q':=by
 have _:=G;refine ⟨hh.1,?_⟩;have hh:=hh.2;have hl:LetsOut Q->LetsOut Q':=fun ⟨a,w,h⟩=>⟨a,w,hq _ _ _ (by simp) h⟩
 generalize (o.semAt F.round a.eval).run P w=r at *;cases r with
 | ok x w' =>
  cases x <;> simp only [Oper.uponIn] at hh ⊢ <;>
   first
    | exact h _ _ hh
    | exact ⟨hh.1,CallsIn.mono hh.2 (fun e w'' he=>by grind)⟩
    | exact ⟨hh.1,RowsIn.mono hh.2 (fun _ _ he=>h _ _ he)⟩
    | exact ⟨hh.1,RoundIn.mono hh.2 (fun e w'' he=>by grind)⟩
 | halt x w'=>cases x <;> simp only [Oper.uponIn] at hh ⊢ <;> first | grind | exact hh
theorem BL {ops:Array Oper} {Q:Exit->Act->World->Prop} {l2:List Oper}:∀ {l1:List Oper} {a:Act} {w:World},
  wpListIn F n P ops (fun ex a w=>match ex with | .normal=>wpListIn F n P ops Q l2 a w | ex=>Q ex a w) l1 a w->wpListIn F n P ops Q (l1++l2) a w
 | [],a,w,h=>h
 | o::l1,a,w,h=>by
  simp [wpListIn] at h ⊢;split
  ·rename_i hw
   rw [if_pos hw] at h;exact aJY (fun a w=>BL) (fun ex a w hx hq=>by grind) h
  ·rename_i hw
   rw [if_neg hw] at h;exact ⟨h.1,BL h.2⟩
mutual
theorem AV.swap {e e':Env} {w:World} {ks:List Nat} (h1:e'.ρ=e.ρ) (h2:e'.hdr=e.hdr) (h3:e'.S=e.S):∀ (x:AV) (v:Value),AV.holds e w ks x v->AV.holds e' w ks x v
 | .any,_,_=>by have _:=G;simp [AV.holds]
 | .cv c,v,h=>by grind [AV.holds]
 | .ptr i o,v,h=>by grind [AV.holds]
 | .own i u,v,h=>by grind [AV.holds]
 | .opt i u el o,v,h=>by grind [AV.holds]
 | .agg cs,v,h=>by
  obtain ⟨us,q1,q2⟩:=h;exact ⟨us,q1,AV.swaps h1 h2 h3 cs _ q2⟩
 | .tup cs,v,h=>by
  obtain ⟨us,q1,q2⟩:=h;exact ⟨us,q1,AV.swaps h1 h2 h3 cs _ q2⟩
 | .fn f cs,v,h=>by
  obtain ⟨us,q1,q2⟩:=h;exact ⟨us,q1,AV.swaps h1 h2 h3 cs _ q2⟩
 | .gd L x,v,h=>by
  exact ⟨fun hl=>AV.swap h1 h2 h3 x v (h.1 hl),h.2⟩
theorem AV.swaps {e e':Env} {w:World} {ks:List Nat} (h1:e'.ρ=e.ρ) (h2:e'.hdr=e.hdr) (h3:e'.S=e.S):∀ (xs:List AV) (us:List Value),AV.all e w ks xs us->AV.all e' w ks xs us
 | [],[],_=>by have _:=G;simp [AV.all]
 | x::xs,u::us,h=>by exact ⟨AV.swap h1 h2 h3 x u h.1,AV.swaps h1 h2 h3 xs us h.2⟩
 | [],_::_,h=>by grind [AV.all]
 | _::_,[],h=>by grind [AV.all]
end
variable {e:Env} {ks:List Nat} {H:Nat->Option (Obj×Bool)}
theorem AV.swapH {xs:List AV} {us:List Value} (h:AV.all e w ks xs us):AV.all { e with H:=H } w ks xs us:=AV.swaps (e:=e) (e':={ e with H:=H }) rfl rfl rfl _ _ h
variable {n0:Nat} {w0:World} {B:List Box} {V:List Vec}
theorem Mem.rehide (h:Mem n0 w0 e B V w) (hy:e.y=false) {r:Nat} {o:Obj} (hr:e.H r=some (o,true)) (hn:n0<=r) {w1:World} (h1:w1=w\/w1=w.drew) (o':Obj) :
  Mem n0 w0 { e with H:=fun b=>if b=r then some (o',true) else e.H b } B V (setBlock w1 r o')/\(∀ b,b≠r->(setBlock w1 r o').heap[b]? = w.heap[b]?)/\Ext e w B.length (vers V) (kss V) e (setBlock w1 r o') B.length (vers V) (kss V):=by
 have qj:w1.heap=w.heap:=by rcases h1 with rfl | rfl <;> rfl
 have hlt:r<w.heap.size:=(Array.getElem?_eq_some_iff.1 (h.hid.obj r o true hr)).1
 have hold:∀ b,b≠r->(setBlock w1 r o').heap[b]? = w.heap[b]?:=by
  grind [setBlock]
 have am:(setBlock w1 r o').heap[r]? = some o':=by
  grind [setBlock]
 have di:(setBlock w1 r o').heap.size=w.heap.size:=by grind [setBlock]
 let e':Env:={ e with H:=fun b=>if b=r then some (o',true) else e.H b }
 have hS:∀ b,e.S b->b≠r:=fun b hb hc=>h.hid.own b o hb (by grind)
 have ba:RO w e.S (setBlock w1 r o') e'.S:=⟨fun _ hb=>hb,fun b hb=>hold b (hS b hb)⟩
 have hx:Ext e w B.length (vers V) (kss V) { e with H:=e.H } (setBlock w1 r o') B.length (vers V) (kss V):=
  ⟨ba,fun _ _=>rfl,fun _ _ _ _=>rfl,Nat.le_refl _,Nat.le_refl _,fun _ _=>Nat.le_refl _,fun _ _=>rfl,by omega,fun _ h=>.inl h,rfl,fun _=>rfl,rfl⟩
 have qo:e.nb n0=n0:=Env.nb_false hy n0
 have hB:∀ (i:Nat) (b:Box),B[i]? = some b->b.live=true->e.ρ i≠r:=fun i b hi hl hc=>by
  have:=h.hid.box i b hi hl;grind
 have hV:∀ (i:Nat) (x:Vec) (g:Nat),V[i]? = some x->x.live=true->bM (e.hdr i x.ver)=some g->g≠r:=fun i x g hi hl hg hc=>by
  have:=h.hid.vec i x g hi hl hg;grind
 refine ⟨⟨fun i b hi hl=>?_,h.boxsc,h.boxlo,h.boxinj,fun i x hi hl=>?_,h.vecS,h.vecbox,h.vecinj,fun b hb=>by rw [di];exact h.ro b hb,?_,by omega,⟨h.bl.1,h.bl.2⟩,⟨fun b o1 f hb=>?_,fun i b hi hl=>?_,fun i x g hi hl hg=>?_,fun i x hi hT=>?_,fun b o1 hb hc=>?_⟩⟩,hold,hx⟩
 ·obtain ⟨vs,q1,q2⟩:=h.box i b hi hl
  exact ⟨vs,(hold _ (hB i b hi hl)).trans q1,AV.swapH (AV.all.mono hx _ _ (h.boxsc i b hi) q2)⟩
 ·obtain ⟨xs,q1,q2,q3⟩:=h.vec i x hi hl
  exact ⟨xs,q1.keep fun g hg=>hold g (hV i x g hi hl hg),CV.vals.mono ba _ _ q2,q3⟩
 ·have hb:=h.below
  have yc:e'.nb n0=n0:=Env.nb_false hy n0;rw [yc] ; rw [qo] at hb
  have ii:Below n0 w w1:=by
   rcases h1 with rfl | rfl
   ·exact Below.refl _ _
   ·exact (Below.refl n0 w).drew
  refine hb.trans (ii.trans ⟨rfl,rfl,rfl,by grind,fun b hb=>?_⟩)
  grind
 ·by_cases yd:b=r
  ·grind
  ·simp [yd] at hb
   rw [hold b yd];exact h.hid.obj b o1 f hb
 ·have:=hB i b hi hl
  show (if e.ρ i=r then _ else e.H (e.ρ i))=none
  rw [if_neg this];exact h.hid.box i b hi hl
 ·have:=hV i x g hi hl hg
  show (if g=r then _ else e.H g)=none
  rw [if_neg this];exact h.hid.vec i x g hi hl hg
 ·have:=(h.hid.gh i x hi hT).2.1
  grind
 ·have:=hS b hb
  have hc:(if b=r then some (o',true) else e.H b)=some (o1,true):=hc
  rw [if_neg this] at hc;exact h.hid.own b o1 hb hc
theorem Mem.unhide (h:Mem n0 w0 e B V w) (hy:e.y=false) (hH:∀ b,H b=none\/H b=e.H b):Mem n0 w0 { e with H:=H } B V w:=by
 refine ⟨fun i b hi hl=>(h.box i b hi hl).imp fun vs hv=>⟨hv.1,AV.swapH hv.2⟩,h.boxsc,h.boxlo,h.boxinj,h.vec,h.vecS,h.vecbox,h.vecinj,h.ro,h.below,h.base,h.bl,⟨fun b o f hb=>?_,fun i b hi hl=>?_,fun i x g hi hl hg=>?_,fun i x hi hT=>?_,fun b o hb hc=>?_⟩⟩
 ·rcases hH b with h1 | h1
  ·grind
  ·exact h.hid.obj b o f (by grind)
 ·show H (e.ρ i)=none
  rcases hH (e.ρ i) with h1 | h1
  ·exact h1
  ·rw [h1];exact h.hid.box i b hi hl
 ·show H g=none
  rcases hH g with h1 | h1
  ·exact h1
  ·rw [h1];exact h.hid.vec i x g hi hl hg
 ·have:=(h.hid.gh i x hi hT).2.1;grind
 ·rcases hH b with h1 | h1
  ·grind
  ·exact h.hid.own b o hb (by grind)
theorem Rel.unhide {n0:Nat} {w0:World} {e:Env} {st:St} {a:Act} {w:World} (h:Rel n0 w0 e st a w) (hy:e.y=false) {H:Nat->Option (Obj×Bool)} (hH:∀ b,H b=none\/H b=e.H b):Rel n0 w0 { e with H:=H } st a w:=
 ⟨AV.swapH h.tm,h.sc,h.mem.unhide hy hH⟩
theorem Mem.calm (h:Mem n0 w0 e B V w) (hc:G.yy=false):e.y=false:=by
 cases hy:e.y with
 | false=>rfl
 | true =>
  have:=(h.bl.2 hy).2.2.2;grind
variable {st:St}
theorem Rel.hide {a:Act} (h:Rel n0 w0 e st a w) (hy:e.y=false) (o:Obj) :
  Rel n0 w0 { e with H:=fun b=>if b=w.heap.size then some (o,true) else e.H b } st a (w.alloc o):=by
 have hx:=h.mem.ext_alloc o;have hm:=h.mem.alloc o;refine ⟨AV.swapH (AV.all.mono hx _ _ h.sc h.tm),h.sc,?_⟩;refine ⟨fun i b hi hl=>(hm.box i b hi hl).imp fun vs hv=>⟨hv.1,AV.swapH hv.2⟩,hm.boxsc,hm.boxlo,hm.boxinj,hm.vec,hm.vecS,hm.vecbox,hm.vecinj,hm.ro,hm.below,hm.base,hm.bl,⟨fun b o1 f hb=>?_,fun i b hi hl=>?_,fun i x g hi hl hg=>?_,fun i x hi hT=>?_,fun b o1 hb hc=>?_⟩⟩
 ·by_cases yd:b=w.heap.size
  ·subst yd
   simp at hb;rw [<- hb.1];exact heap_alloc_new w o
  ·simp [yd] at hb
   exact hm.hid.obj b o1 f hb
 ·have ax:e.ρ i≠w.heap.size:=Nat.ne_of_lt (h.mem.lt_box hi hl)
  show (if e.ρ i=w.heap.size then _ else e.H (e.ρ i))=none
  rw [if_neg ax];exact hm.hid.box i b hi hl
 ·have ax:g≠w.heap.size:=by
   obtain ⟨xs,q1,_⟩:=h.mem.vec i x hi hl;exact Nat.ne_of_lt (q1.lt g hg).2
  show (if g=w.heap.size then _ else e.H g)=none
  rw [if_neg ax];exact hm.hid.vec i x g hi hl hg
 ·have:=(hm.hid.gh i x hi hT).2.1;grind
 ·have ax:b≠w.heap.size:=Nat.ne_of_lt (h.mem.ro b hb)
  have hc:(if b=w.heap.size then some (o,true) else e.H b)=some (o1,true):=hc
  rw [if_neg ax] at hc;exact hm.hid.own b o1 hb hc
variable {mi:MI} {row:List CV}
theorem entA_holds (hl:mi.kl.length≠0) (aa:okE mi row=true):AV.holds e w ks (wL mi row) (.tuple #[(fQ mi.kl.length row).1,(fQ mi.kl.length row).2]):=by
 obtain ⟨h1,h2,h3,h4,h5⟩:=mF aa
 have lm:∀ i q,i<row.length->kC (row.getD i dC)=some q->(xG q (row.getD i dC))=.val (cvV (row.getD i dC))/\(cvV (row.getD i dC)).oneCell'=true:=by
  intro i q _ hq;rw [oL hq];obtain ⟨q1,q2⟩:=pF hq;exact ⟨q1,uO q2⟩
 have dx:∀ i q,mi.kl[i]? = some q->kC (row.getD i dC)=some q:=by
  intro i q hi;have:=congrArg (fun l=>l[i]?) h2
  grind
 refine ⟨_,rfl,?_⟩;refine ⟨?_,?_,trivial⟩
 ·simp only [fQ]
  cases hk:mi.kl with
  | nil=>grind
  | cons q kl =>
   cases kl with
   | nil =>
    have h0:=dx 0 q (by grind)
    have hr:0<row.length:=by omega
    have:(row.map cvV).take 1=[cvV (row.getD 0 dC)]:=by
     cases row with
     | nil=>grind
     | cons c r=>simp
    simp_all [mkV,AV.holds,CV.holds]
   | cons q2 kl =>
    have jq:∀ xs:List Value,2<=xs.length->mkV xs=.agg xs.toArray:=by
     intro xs hx
     match xs,hx with
     | _::_::_,_=>rfl
    have key:∀ (l:List LK) (o:Nat),(∀ i q,l[i]? = some q->kC (row.getD (o+i) dC)=some q)->o+l.length<=row.length ->
      AV.all e w ks ((l.zip (List.range' o l.length)).map fun p=>.cv (xG p.1 (row.getD p.2 dC))) ((row.map cvV).drop o |>.take l.length):=by
     intro l
     induction l with
     | nil=>simp [AV.all]
     | cons q l ih =>
      intro o hq aj;simp at aj;have I3:=hq 0 q rfl;obtain ⟨c1,c2⟩:=lm o q (by omega) I3
      have hd:(row.map cvV).drop o=cvV (row.getD o dC)::(row.map cvV).drop (o+1):=by
       grind [List.drop_eq_getElem_cons]
      rw [hd];simp only [List.length_cons,List.range'_succ,List.zip_cons_cons,List.map_cons,List.take_succ_cons,AV.all];refine ⟨?_,ih (o+1) (fun i q' hi=>by have:=hq (i+1) q' (by grind);grind) (by omega)⟩
      rw [c1];simp only [AV.holds,CV.holds];exact ⟨trivial,c2⟩
    grind [List.range_eq_range',AV.holds]
 ·have:(fQ mi.kl.length row).2=cvV (row.getD mi.kl.length dC):=by
   simp [fQ,<- List.map_drop,mkV];grind
  grind [AV.holds,CV.holds]
variable {vs:List Nat}
theorem Ext.swapH {nB:Nat} {e':Env} {w':World} {nB':Nat} {vs' ks':List Nat} (h:Ext e w nB vs ks e' w' nB' vs' ks') (H:Nat->Option (Obj×Bool)):Ext { e with H:=H } w nB vs ks { e' with H:=H } w' nB' vs' ks':=have _:=G;
 ⟨h.ro,h.ρ,h.hdr,h.nB,h.nV,h.verle,h.kseq,h.sz,h.snew,h.be,fun _=>rfl,h.ye⟩
theorem oG {A B:Type} {f:A->B}:∀ {l m:List B},l.Perm m->∀ rows:List A,m=rows.map f->∃ rows':List A,rows'.Perm rows/\rows'.map f=l
 | _,_,.nil,rows,h=>have _:=G;⟨rows,.refl _,h.symm⟩
 | _,_,.cons x hp,rows,h=>by
  cases rows with
  | nil=>grind
  | cons r rows =>
   simp at h;obtain ⟨rows',h1,h2⟩:=oG hp rows h.2;exact ⟨r::rows',h1.cons _,by grind⟩
 | _,_,.swap x y l,rows,h=>by
  match rows,h with
  | r1::r2::rows,h =>
   exact ⟨r2::r1::rows,.swap _ _ _,by grind⟩
  | [],h=>grind
  | [_],h=>grind
 | _,_,.trans h1 h2,rows,h=>by
  obtain ⟨r1,q1,q2⟩:=oG h2 rows h;obtain ⟨r2,q3,q4⟩:=oG h1 r1 q2.symm;exact ⟨r2,q3.trans q1,q4⟩
theorem St.put_ev {d:Nat} {x:AV} (hd:d<st.t.length):(st.put (some d) x B V).ev (.tmp d)=x:=by
 have _:=G;simp_all
theorem St.put_ev_ne {d d':Nat} {x:AV} (hd:d≠d'):(st.put (some d) x B V).ev (.tmp d')=st.ev (.tmp d'):=by
 have _:=G;simp_all
theorem WG {nB:Nat}:AV.sco nB vs (wL mi row):=by
 have _:=G;unfold wL;grind [AV.sco,AV.scos_iff]
theorem aAd (hF:Free F) (hc:G.yy=false) {q:MRS} (hq:q.Ok) (hm:eO P q.T=some mi) {Q:Exit->St->Prop}
  (h:dQ F n P q.ops q.pre st fun st1=>∃ rows,st1.ev q.x=.cv (.mp mi.kl.length rows)/\rows.all (okE mi)=true/\∃ (I:Nat->List (List CV)->St->Prop) (E:List (List CV)->St->Prop),
   (∀ p,(∃ s1,Wk (st1.put (some q.it) (eK p) st1.B st1.V) s1/\I p [] s1)/\∃ s2,Wk (st1.put (some q.it) (eK p) st1.B st1.V) s2/\E [] s2) /\
   (∀ p d s,I p d s->s.ev (.tmp q.it)=eK p/\q.tn<s.t.length/\q.ok<s.t.length) /\
   (∀ p d row l s,(d++row::l).Perm rows->I p d s->dQ F n P (q.oE::q.eops).toArray q.eops (((s.put (some q.tn) .any s.B s.V).put (some q.ok) (.cv (.val (.bool true))) s.B s.V).put (some q.te) (wL mi row) s.B s.V) fun s' =>
    W F n P q.rest s' fun ex s''=>(ex=.normal\/ex=.exit q.b1)/\(∃ s1,Wk s'' s1/\I p (d++[row]) s1)/\∃ s2,Wk s'' s2/\E (d++[row]) s2) /\
   (∀ d s,d.Perm rows->E d s->Q .normal ((s.put (some q.tn) .any s.B s.V).put (some q.ok) .any s.B s.V))):W F n P (.seq q.head q.loop) st Q:=by
 intro n0 w0 e a w Qr hr hk;obtain ⟨mu,_,_,_,_,ml,_⟩:=cX hm;have Lx:q.ops.toList=q.pre++[q.oR]:=by rw [hq.ops]
 refine wpIn_seq (wpIn_region_list ?_);rw [Lx];refine BL (h n0 w0 e a w _ hr ?_);rintro e1 st1 a1 w1 ⟨rows,hx,aa,I,E,Ly,Lz,gg,nk⟩ l9 ve de;have hy:e1.y=false:=l9.mem.calm hc;have ce:=(l9.ev q.x).1;rw [hx] at ce;obtain ⟨b,arr,c,Bf,sn,Dv,hM⟩:=aDA ce aa;obtain ⟨rows',A5,A6⟩:=oG hM.2 rows rfl;have aj:rows'.length=arr.toList.length:=by have:=congrArg List.length A6;grind
 obtain ⟨Z,hZ⟩:∃ Z,Z=arr.toList.zip rows':=⟨_,rfl⟩;have I4:Z.map (·.1)=arr.toList:=by rw [hZ];exact List.map_fst_zip (by omega)
 have I5:Z.map (·.2)=rows':=by rw [hZ];exact List.map_snd_zip (by omega)
 have LE:∀ x∈Z,fQ mi.kl.length x.2=(x.1.key,x.1.val):=by
  intro x I6
  have h1:Z.map (fun x=>fQ mi.kl.length x.2)=Z.map fun x=>(x.1.key,x.1.val):=by
   have a1:Z.map (fun x=>fQ mi.kl.length x.2)=(Z.map (·.2)).map (fQ mi.kl.length):=by simp
   have a2:(Z.map fun x=>(x.1.key,x.1.val))=(Z.map (·.1)).map fun e=>(e.key,e.val):=by simp
   grind
  exact List.map_inj_left.1 h1 x I6
 have F1:∀ x∈Z,okE mi x.2=true:=fun x I6=>by
  have:x.2∈rows:=A5.mem_iff.1 (by grind)
  grind
 obtain ⟨Bp,df,_⟩:=hM.1
 have F2:(Z.map fun x=>x.1.born).Nodup:=by
  grind
 simp only [wpListIn,Region.wanted,hq.rg,if_true];refine ⟨fun f _=>hF.fn f,?_⟩
 have ai:(execOp a1.eval q.oR).run P w1=.ok (.value (.pointer (some ⟨w1.heap.size,0,none⟩))) (w1.alloc (.mapIter (some b) c #[] c)):=by
  simp [execOp,hq.rop,Bf,run_range_map w1 q.T mi.kT mi.eT b arr c mu Dv]
 rw [Oper.semAt_plain F _ _ (by intro c' gq;have:=hq.rop;grind),ai]
 obtain ⟨r,yg⟩:∃ r,r=w1.heap.size:=⟨_,rfl⟩;have kz:=l9.hide hy (.mapIter (some b) c #[] c);rw [<- yg] at kz ⊢;have ua:=kz.put (x:=eK r) (v:=.pointer (some ⟨r,0,none⟩)) kz.mem (Ext.refl _ _ _ _ _) (by simp [eK,AV.holds,CV.holds]) (by simp [eK]) q.oR.dst
 have t4:=l9.mem.ext_alloc (.mapIter (some b) c #[] c);have yd:b≠r:=by grind
 have F3:n0<=r:=by rw [yg];exact l9.mem.base
 let J:Act->World->Prop:=fun a' w'=>∃ (e':Env) (s:St) (d:List (List CV)) (seen:Array Nat) (D L:List (MapEntry×List CV)),
  Rel n0 w0 e' s a' w'/\e'.y=false/\(∀ x,x≠r->e'.H x=e1.H x)/\e'.H r=some (.mapIter (some b) c seen c,true)/\dW e st w { e' with H:=e1.H } s.B s.V w'/\a'.defers=a.defers /\
  (∃ s1,Wk s s1/\I r d s1)/\(∃ s2,Wk s s2/\E d s2)/\(D++L).Perm Z/\d=D.map (·.2)/\seen.toList=D.map (fun x=>x.1.born)/\e'.S b/\w'.heap[b]? = some (.map arr c)
 let μ:Act->World->Nat:=fun _ w'=>match w'.heap[r]? with
  | some (.mapIter _ _ seen _)=>Z.length+1 - seen.size
  | _=>0
 have LT:e1.H r=none:=by rw [yg];exact l9.mem.hid.new (Nat.le_refl _)
 have L0:J (a1.put q.oR.dst (.pointer (some ⟨r,0,none⟩))) (w1.alloc (.mapIter (some b) c #[] c)):=by
  obtain ⟨Dw,L3⟩:=Ly r;rw [hq.rd] at ua ⊢;refine ⟨_,_,[],#[],[],Z,ua,hy,fun x hx=>by grind,by simp,?_,ve,Dw,L3,by simp,rfl,rfl,sn,(Below.heap_alloc w1 _ b (l9.mem.ro b sn)).trans Dv⟩
  exact de.trans t4
 refine wpIn_block (wpIn_loop J μ L0 ?_);rintro a' w' ⟨e',s,d,seen,D,L,ah,oa,L4,I7,ly,ac,⟨s1,ii,Dw⟩,⟨s2,je,i7⟩,dq,F4,og,Ar,cd⟩;obtain ⟨ar,L5,yh⟩:=Lz _ _ _ Dw;have Bq:=ii.weak ah;have Br:=ii.rel ah;have L6:=ly.weak (e:=e) (s:=s) Bq (by rw [ii.Bl];exact ly.nB) (by rw [ii.V];simpa using ly.nV)
 have da:w'.heap[r]? = some (.mapIter (some b) c seen c):=ah.mem.hid.obj r _ true I7
 have aw:a'.eval (.tmp q.it)=.pointer (some ⟨r,0,none⟩):=by
  have:=(Br.ev (.tmp q.it)).1;grind [eK,AV.holds,CV.holds]
 refine wpIn_seq (wpIn_region_list ?_);show wpListIn F n P #[q.oN,q.oX] _ [q.oN,q.oX] a' w';simp only [wpListIn,Region.wanted,hq.ng,hq.xg,if_true];refine ⟨fun f _=>hF.fn f,?_⟩
 rw [Oper.semAt_plain F _ _ (by intro c' gq;have:=hq.nop;grind)]
 have F5:∀ (v:Value) (w'':World),(Instr.next (.pointer (some ⟨r,0,none⟩)) false q.oN.type).run P w'=.ok v w''->(execOp a'.eval q.oN).run P w'=.ok (.value v) w'':=by
  intro v w'' vr;simp [execOp,hq.nop,aw,vr]
 have F6:∀ (a2:Act) (w2:World) (bb:Bool) (xs:Array Value),xs[0]? = some (.bool bb)->a2.eval (.tmp q.tn)=.tuple xs->(execOp a2.eval q.oX).run P w2=.ok (.value (.bool bb)) w2:=by
  intro a2 w2 bb xs h1 h2;have h0:xs.getD 0 undef=.bool bb:=by simp_all
  simp [execOp,hq.xop,h2,Instr.extract,h1]
 have L7:∀ x,e1.H x=none\/e1.H x=e'.H x:=fun x=>by
  grind
 have L8:∀ c',q.oX.op≠.defer c':=by intro c' gq;have:=hq.xop;grind
 have two:∀ (en:Env) (w2:World) (bb:Bool) (xs:Array Value),xs[0]? = some (.bool bb)->(Instr.next (.pointer (some ⟨r,0,none⟩)) false q.oN.type).run P w'=.ok (.tuple xs) w2->Rel n0 w0 en s a' w2 ->
   ∃ a3,a3.defers=a'.defers/\a3.eval (.tmp q.ok)=.bool bb/\(∀ (nx:Act->World->Prop) (Qx:Exit->Act->World->Prop),nx a3 w2->q.oN.uponIn F n P a' (fun a w=>q.oX.wpIn F n P a w nx Qx) Qx ((execOp a'.eval q.oN).run P w')) /\
    ∀ s3,Wk s s3->Rel n0 w0 en ((s3.put (some q.tn) .any s3.B s3.V).put (some q.ok) .any s3.B s3.V) a3 w2/\Rel n0 w0 en ((s3.put (some q.tn) .any s3.B s3.V).put (some q.ok) (.cv (.val (.bool bb))) s3.B s3.V) a3 w2:=by
  intro en w2 bb xs dO vr hR;have Bs:=ii.rel hR
  obtain ⟨xs0,iy⟩:∃ xs0,xs.toList=.bool bb::xs0:=by
   match hh:xs.toList with
   | []=>simp_all
   | y::ys=>rw [<- Array.getElem?_toList,hh] at dO;grind
  have bh:∀ (ys:List Value),AV.all en w2 (kss s1.V) (List.replicate ys.length .any) ys:=by
   intro ys
   induction ys with
   | nil=>simp [AV.all]
   | cons y ys ih=>simp_all [List.replicate_succ,AV.all,AV.holds]
  have hT:=Bs.put (x:=.tup (.cv (.val (.bool bb))::List.replicate xs0.length .any)) (v:=.tuple xs) Bs.mem (Ext.refl _ _ _ _ _)
   (by simp_all [AV.holds,AV.all,CV.holds])
   (by simp [AV.sco,AV.scos,AV.scos_iff]) (some q.tn)
  have F7:=(hT.ev (.tmp q.tn)).1;rw [St.put_ev L5] at F7;simp only [AV.holds] at F7;obtain ⟨vs,bt,Dx⟩:=F7
  have ig:vs[0]? = some (.bool bb):=by
   rw [<- Array.getElem?_toList]
   match hh:vs.toList with
   | []=>grind [AV.all]
   | y::ys=>grind [AV.all,AV.holds,CV.holds]
  have L9:=F6 (a'.put (some q.tn) (.tuple xs)) w2 bb vs ig bt
  have h3:∀ s3,Wk s s3->Rel n0 w0 en (s3.put (some q.tn) .any s3.B s3.V) (a'.put (some q.tn) (.tuple xs)) w2:=fun s3 px=>by
   have I8:=px.rel hR;exact I8.put (x:=.any) (v:=.tuple xs) I8.mem (Ext.refl _ _ _ _ _) (by simp [AV.holds]) (by simp [AV.sco]) (some q.tn)
  refine ⟨(a'.put (some q.tn) (.tuple xs)).put (some q.ok) (.bool bb),rfl,?_,?_,?_⟩
  ·have h4:=(h3 s1 ii).put (x:=.cv (.val (.bool bb))) (v:=.bool bb) (h3 s1 ii).mem (Ext.refl _ _ _ _ _) (by simp [AV.holds,CV.holds,Value.oneCell']) (by simp [AV.sco]) (some q.ok)
   have h5:=(h4.ev (.tmp q.ok)).1;rw [St.put_ev (by simpa [St.put] using yh)] at h5
   simp only [AV.holds,CV.holds] at h5;exact h5.1
  ·intro nx Qx Ma
   rw [F5 _ _ vr,Oper.uponIn_value,hq.nd];refine ⟨fun f _=>hF.fn f,?_⟩
   rw [Oper.semAt_plain F _ _ L8,L9,Oper.uponIn_value,hq.xd];exact Ma
  ·intro s3 px
   have h4:=h3 s3 px
   exact ⟨h4.put (x:=.any) (v:=.bool bb) h4.mem (Ext.refl _ _ _ _ _) (by simp [AV.holds]) (by simp [AV.sco]) (some q.ok),
    h4.put (x:=.cv (.val (.bool bb))) (v:=.bool bb) h4.mem (Ext.refl _ _ _ _ _) (by simp [AV.holds,CV.holds,Value.oneCell']) (by simp [AV.sco]) (some q.ok)⟩
 rcases run_next_at (P:=P) w' q.oN.type r b c c seen arr c da cd Bp (Nat.le_refl _) with ⟨hz,vr⟩ | ⟨en,dv,w2,F8,vr⟩
 ·
  have F9:=je.weak ah;obtain ⟨a3,q1,q2,q3,q4⟩:=two { e' with H:=e1.H } w' false #[.bool false] rfl vr (ah.unhide oa L7)
  refine q3 _ _ ?_;refine wpIn_seq (wpIn_cond_split q2 (fun h=>by cases h) fun _=>wpIn_exit ?_)
  have hL:L=[]:=by
   cases L with
   | nil=>rfl
   | cons x L =>
    exfalso;have Bt:x∈Z:=dq.mem_iff.1 (by simp)
    have t4:x.1∈arr.toList:=by rw [<- I4];exact List.mem_map.2 ⟨x,Bt,rfl⟩
    have Bu:((D++x::L).map fun x=>x.1.born).Nodup:=(dq.map _).nodup_iff.2 F2
    rw [List.map_append,List.nodup_append] at Bu
    have pw:x.1.born ∉ seen.toList:=by
     rw [og];intro gq;exact Bu.2.2 _ gq _ (by simp) rfl
    have:x.1∈(leftOf arr seen).toList:=by
     unfold leftOf;rw [Array.toList_filter,List.mem_filter];refine ⟨t4,?_⟩;simpa using pw
    have h0:(leftOf arr seen).toList.length=0:=by simpa using hz
    rw [List.length_eq_zero_iff] at h0;rw [h0] at this;cases this
  subst hL;rw [List.append_nil] at dq;have Mb:d.Perm rows:=by rw [F4];exact (dq.map _).trans (by rw [I5];exact A5)
  show Exit.inBlock q.id Qr (.exit q.id) a3 w';simp only [Exit.inBlock,if_true];have Bf:dW e st w { e' with H:=e1.H } s2.B s2.V w':=ly.weak (e:=e) (s:=s) F9 (by rw [je.Bl];exact ly.nB) (by rw [je.V];simpa using ly.nV)
  exact hk _ _ _ a3 w' (nk d s2 Mb i7) (q4 s2 je).1 (q1.trans ac) Bf
 ·
  have yi:en∈arr.toList/\en.born ∉ seen.toList:=by
   unfold leftOf at dv;rw [Array.toList_filter,List.mem_filter] at dv;exact ⟨dv.1,by simpa using dv.2⟩
  obtain ⟨x,Bt,yj⟩:∃ x∈Z,x.1=en:=by
   have:=yi.1;rw [<- I4,List.mem_map] at this;exact this
  have Bo:x∈L:=by
   rcases List.mem_append.1 (dq.mem_iff.2 Bt) with h1 | h1
   ·exfalso
    apply yi.2;rw [og];exact List.mem_map.2 ⟨x,h1,by rw [yj]⟩
   ·exact h1
  obtain ⟨L1,L2,rfl⟩:=List.append_of_mem Bo
  have ri:((D++[x])++(L1++L2)).Perm Z:=by
   refine List.Perm.trans ?_ dq;rw [List.append_assoc];exact (List.Perm.refl D).append (show (x::(L1++L2)).Perm (L1++x::L2) from List.perm_middle.symm)
  have Dy:(d++x.2::(L1++L2).map (·.2)).Perm rows:=by
   have:=ri.map (·.2)
   rw [I5] at this;have:=this.trans A5;simpa [F4] using this
  have Ga:=F1 x Bt;have Mc:=LE x Bt;obtain ⟨I9,vt,Gb⟩:=ah.mem.rehide oa I7 F3 F8 (.mapIter (some b) c (seen.push en.born) c);obtain ⟨w3,px⟩:∃ w3,w3=setBlock w2 r (.mapIter (some b) c (seen.push en.born) c):=⟨_,rfl⟩;rw [<- px] at I9 vt Gb vr;obtain ⟨e3,yk⟩:∃ e3,e3={ e' with H:=fun b_1=>if b_1=r then some (.mapIter (some b) c (seen.push en.born) c,true) else e'.H b_1 }:=⟨_,rfl⟩
  have vu:Rel n0 w0 e3 s a' w3:=by rw [yk];exact ⟨AV.swapH (AV.all.mono Gb _ _ ah.sc ah.tm),ah.sc,I9⟩
  have ym:e3.H r=some (.mapIter (some b) c (seen.push en.born) c,true):=by rw [yk];simp
  have Gc:∀ y,y≠r->e3.H y=e1.H y:=fun y vw=>by rw [yk];simp only [vw,if_false];exact L4 y vw
  have vw:e3.y=false:=by rw [yk];exact oa
  have Gd:e3.S=e'.S:=by rw [yk]
  have Ak:w3.heap[b]? = some (.map arr c):=(vt b yd).trans cd;have ua:w3.heap[r]? = some (.mapIter (some b) c (seen.push en.born) c):=vu.mem.hid.obj r _ true ym;have Ge:dW { e' with H:=e1.H } s w' { e3 with H:=e1.H } s.B s.V w3:=by rw [yk];exact Gb.swapH e1.H
  obtain ⟨a3,q1,q2,q3,q4⟩:=two e3 w3 true #[.bool true,en.key,en.val] rfl vr vu;refine q3 _ _ ?_;refine wpIn_seq (wpIn_cond_split q2 (fun _=>wpIn_skip ?_) fun h=>by cases h)
  refine wpIn_block (wpIn_seq (wpIn_region_list ?_));show wpListIn F n P (q.oE::q.eops).toArray _ (q.oE::q.eops) a3 w3;have Gf:=(q4 s1 ii).2
  have Gg:a3.eval (.tmp q.it)=.pointer (some ⟨r,0,none⟩):=by
   have h5:=(Gf.ev (.tmp q.it)).1;rw [St.put_ev_ne hq.ne2,St.put_ev_ne hq.ne1,ar] at h5;simp only [eK,AV.holds,CV.holds] at h5;exact h5.1
  have Gh:(execOp a3.eval q.oE).run P w3=.ok (.value (.tuple #[en.key,en.val])) w3:=by
   have:=run_entry_at (P:=P) w3 r b c seen arr c en ua Ak yi.1 df;simp [execOp,hq.eop,Gg,this]
  simp only [wpListIn,Region.wanted,hq.eg,if_true];refine ⟨fun f _=>hF.fn f,?_⟩
  rw [Oper.semAt_plain F _ _ (by intro c' gq;have:=hq.eop;rw [gq] at this;cases this),Gh,Oper.uponIn_value,hq.ed]
  have vy:=entA_holds (mi:=mi) ml Ga (e:=e3) (w:=w3) (ks:=kss s1.V);rw [Mc,yj] at vy;have Md:=Gf.put Gf.mem (Ext.refl _ _ _ _ _) vy WG (some q.te);refine gg r d x.2 _ s1 Dy Dw n0 w0 e3 _ w3 _ Md ?_;intro e4 s4 a5 w5 hW Bv Me tf;refine hW n0 w0 e4 a5 w5 _ Bv ?_;rintro ex e5 s5 a6 w6 ⟨iN,Mf,Mh⟩ vz Mi ui;have Ja:e4.y=false:=tf.ye.trans vw;have Gi:e5.H=e3.H:=(ui.he Ja).trans (tf.he vw)
  have fw:dW e st w { e5 with H:=e1.H } s5.B s5.V w6:=by
   have g1:dW e st w { e3 with H:=e1.H } s.B s.V w3:=ly.trans Ge
   have g2:dW e st w { e3 with H:=e1.H } s1.B s1.V w3:=g1.weak (e:=e) (s:=s) Bq (by rw [ii.Bl];exact g1.nB) (by rw [ii.V];simpa using g1.nV)
   exact g2.trans ((tf.swapH e1.H).trans (ui.swapH e1.H))
  have hJ:J a6 w6:=by
   refine ⟨e5,s5,d++[x.2],seen.push en.born,D++[x],L1++L2,vz,ui.ye.trans Ja,fun y Mj=>by rw [Gi];exact Gc y Mj,by rw [Gi];exact ym,fw,?_,Mf,Mh,ri,by simp [F4],by simp [og,yj],?_,?_⟩
   ·rw [Mi,Me];exact q1.trans ac
   ·exact ui.ro.sub b (tf.ro.sub b (by rw [Gd];exact Ar))
   ·exact (ui.ro.same b (tf.ro.sub b (by rw [Gd];exact Ar))).trans ((tf.ro.same b (by rw [Gd];exact Ar)).trans Ak)
  have hμ:μ a6 w6<μ a' w':=by
   have h6:w6.heap[r]? = some (.mapIter (some b) c (seen.push en.born) c):=vz.mem.hid.obj r _ true (by rw [Gi];exact ym)
   simp only [μ,h6,da];have h7:seen.size=D.length:=by have:=congrArg List.length og;simpa using this
   have h8:D.length+(L1++x::L2).length=Z.length:=by have:=dq.length_eq;simpa using this
   simp only [Array.size_push];simp only [List.length_append,List.length_cons] at h8;omega
  rcases iN with rfl | rfl
  ·exact ⟨hJ,hμ⟩
  ·show Exit.inBlock q.b1 _ (.exit q.b1) a6 w6
   simp only [Exit.inBlock,if_true];exact ⟨hJ,hμ⟩
end
end Go.Sx
