/-
 The laws of a pinder's court (plaints) hold at every input, without any condition.
-/
import Derived.Test.YtgpnoeojpmaeiaaGreatP03
set_option linter.unusedSectionVars false
set_option linter.unusedVariables false
set_option linter.unusedSimpArgs false
namespace Go.Sx
open Go Go.RowKit
variable [G:Ghost]
section
variable {F:Fence} {n:Nat} {P:Program} [C:Co P] {ops:List Oper} {sg:FuncId->Option Sig} {M:Den}
variable {s:SS} {st:St}
theorem XW {m:Emb} (hE:Em m s st) {T:TypeId} {x y:Operand} {es:List (List CV)} (h:aAR P s T x y=some es) :
  (∃ s' z e k b,aZ P T=some ⟨s',z,.slc e k b⟩)/\st.ev y=.cv (.val (.slice none 0 0)) /\
  (∀ n0 w0 e a w,Rel n0 w0 e st a w->∃ ao cap,a.eval x=.slice ao es.length cap/\(ao.isNone=true->es.length=0)):=by
 unfold aAR at h;split at h
 ·rename_i a1 a2 a3 a4 a5 hT hy
  refine ⟨⟨_,_,_,_,_,hT⟩,by rw [hE.ev,hy];rfl,fun n0 w0 e a w hr=>?_⟩
  have cr:=(hr.ev x).1;rw [hE.ev] at cr;split at h
  ·grind [AV.cz,AV.holds,CV.holds]
  ·rename_i i g hx
   split at h
   ·rename_i v hv
    split at h
    ·rename_i hc
     simp at hc;obtain ⟨c1,rfl⟩:=hc;rw [hx] at cr;have h1:=hE.m.v i v hv (.inl (Vec.sl_live c1));obtain ⟨xs,q1',_⟩:=hr.mem.vec _ _ h1 (Vec.sl_live c1);have q1:=q1'.s (Vec.sl_T c1);simp [Vec.cz] at q1;rw [<- cr.1] at q1;rcases q1 with ⟨a',q1,q2,_⟩ | ⟨q1,g,q2,_⟩
     ·grind
     ·rcases q1.2 with ⟨q3,q4⟩ | ⟨g',cap,cur,q3,_⟩
      ·grind
      grind
    grind
   grind
  grind
 grind
variable {o:Oper} {rest:List Oper} {K:AV->List Box->List Vec->Option Ou} {r:Ou} {Q:St->Prop}
theorem SL (hF:Free F) {lk:Lk} {m:Emb} (hE:Em m s st) (hw:Wants ops o st true) (hd:cM lk o.dst=true)
  (h:CY P lk s o.op K=some (some r))
  (hk:∀ x B V m' B' V',K x B V=some r->Em m' (s.put o.dst x B V) (st.put o.dst (x.cz m') B' V')->Adv lk m s st m' (s.put o.dst x B V) (st.put o.dst (x.cz m') B' V')->cE F n P ops.toArray rest (st.put o.dst (x.cz m') B' V') Q) :
  cE F n P ops.toArray (o::rest) st Q:=by
 have ay:=hE.ev;unfold CY at h;split at h
 ·rename_i T a x aa
  split at h
  ·rename_i i g el off ha
   injection h with h
   split at h
   ·cases h
   ·rename_i dc
    split at h
    ·rename_i v ti new hv ai aj
     split at h
     ·rename_i cs bc
      split at h
      ·rename_i hc
       simp at hc;obtain ⟨⟨c1,rfl⟩,c3⟩:=hc;obtain ⟨h1,h2⟩:=aW h;simp at h1;have ah:=(List.getElem?_eq_some_iff.1 hv).1;have cx:=hE.m.v i v hv (.inl (Vec.sl_live c1));have ax:=pU (P:=P) (o:=o) (st:=st) (u:=m.fo i+v.ver) (el:=el) (off:=off) aa (by grind [AV.cz]) cx c1 rfl h1.1 ai (by rw [ay];exact AV.cells_cz aj) (by rw [eG bc];exact qW cs) c3 h1.2
       refine dM hw (qY hF (by grind) (fun a=>by simp only [execOp,aa];exact k_b (qT _ _ _) fun _=>trivial) ax ?_)
       have:=hk .any s.B (s.V.set i ⟨v.live,v.T,v.k,v.ver,v.es.set el (spl (v.es.getD el []) off cs)⟩) m st.B _ h2
        (hE.put (hE.m.setV (v:=⟨v.live,v.T,v.k,v.ver,v.es.set el (spl (v.es.getD el []) off cs)⟩) ah) (Emb.Up.refl _) (fun _ _=>rfl) (Nat.le_refl _) (by simp) rfl o.dst)
        (Adv.put hd (Stp.setV hE.m ah _) (Nat.le_refl _) (by simp) (fun _ _ _=>rfl) (kS dc) (fun _ _=>rfl))
       grind [AV.cz,Vec.cz]
      grind
     grind
    grind
  grind
 ·rename_i T x hh aa
  split at h
  ·rename_i i g hx
   injection h with h
   split at h
   ·cases h
   ·rename_i dc
    split at h
    ·rename_i v a1 a2 a3 k a4 kk nn hv ai hn
     split at h
     ·rename_i hc
      simp at hc;obtain ⟨⟨⟨c1,rfl⟩,c3⟩,c4⟩:=hc;obtain ⟨h1,h2⟩:=aW h;simp at h1;have ah:=(List.getElem?_eq_some_iff.1 hv).1;have cx:=hE.m.v i v hv (.inl (Vec.sl_live c1));have ax:=HU (P:=P) (kk:=kk) (n:=nn) (o:=o) (st:=st) (u:=m.fo i+v.ver) aa (by grind [AV.cz]) cx c1 rfl (by grind [AV.cz]) h1.1 h1.2 ai c3 c4
      refine dM hw (qY hF (by grind) (fun a=>by simp only [execOp,aa];exact k_v (qU _ _ _ _ _)) ax ?_)
      have:=hk (.own i (v.ver+1)) s.B (s.V.set i ⟨v.live,v.T,v.k,v.ver+1,v.es.take nn.toNat⟩) m st.B _ h2
       (hE.put (hE.m.setV (v:=⟨v.live,v.T,v.k,v.ver+1,v.es.take nn.toNat⟩) ah) (Emb.Up.refl _) (fun _ _=>rfl) (Nat.le_refl _) (by simp) (by grind [AV.inn]) o.dst)
       (Adv.put hd (Stp.setV hE.m ah _) (Nat.le_refl _) (by simp) (fun _ _ _=>rfl) (kS dc) (fun _ _=>rfl))
      grind [AV.cz,Vec.cz,Nat.add_assoc]
     grind
    grind
  grind
 ·rename_i T x y aa
  injection h with h
  split at h
  ·rename_i a1 a2 et k by_ k1 l k2 c ai hx hy
   split at h
   ·rename_i te d7
    split at h
    ·rename_i hc
     simp only [Bool.and_eq_true,beq_iff_eq,bne_iff_ne] at hc;obtain ⟨⟨c1,c2⟩,c3⟩:=hc;obtain ⟨h1,h2⟩:=aW h;simp only [Bool.and_eq_true,decide_eq_true_eq,bL] at h1;obtain ⟨⟨g1,g2⟩,g3,g4⟩:=h1;have ax:=SH (P:=P) (o:=o) (st:=st) (k1:=k1) (k2:=k2) aa (by grind [AV.cz]) (by grind [AV.cz]) ai c1 d7 c2 c3 g1 g2 g3 g4
     refine dM hw (qY hF (by grind) (fun a=>by simp only [execOp,aa];exact k_v (uD _ _ _)) ax ?_)
     have hl:m.vb.length=m.vm.length:=by rw [hE.m.ol,hE.m.vl]
     have:=hk (.own s.V.length 0) s.B (s.V++[⟨true,et,k,0,List.replicate l.toNat (te.zero.map .val)⟩]) (m.pushV st.V.length) st.B (st.V++[⟨true,et,k,0,List.replicate l.toNat (te.zero.map .val)⟩]) h2
      (hE.put (hE.m.pushV (v:=⟨true,et,k,0,List.replicate l.toNat (te.zero.map .val)⟩)) (Emb.pushV_up _ _) (Emb.pushV_fo _ hl) (Nat.le_refl _) (by simp) (by simp [AV.inn]) o.dst)
      (Adv.put hd (Stp.pushV _) (Nat.le_refl _) (by simp) (fun _ _ _=>rfl) (fun i _ hi=>List.getElem?_append_left hi) (fun i hi=>Emb.pushV_fo _ hl i (by rw [hE.m.vl];exact hi)))
     have e1:(AV.own s.V.length 0).cz (m.pushV st.V.length)=.own st.V.length 0:=by
      simp only [AV.cz];rw [<- hE.m.vl,Emb.pushV_new,Emb.pushV_new0 _ hl]
     grind
    grind
   grind
  grind
 ·rename_i x y T T' aa
  split at h
  ·rename_i i g k es hx hy
   injection h with h
   split at h
   ·cases h
   ·rename_i dc
    split at h
    ·rename_i v a1 a2 a3 k' a4 hv ai
     split at h
     ·rename_i hc
      simp at hc;obtain ⟨⟨⟨⟨c1,rfl⟩,c3⟩,rfl⟩,c5⟩:=hc;obtain ⟨h1,h2⟩:=aW h;simp at h1;have ah:=(List.getElem?_eq_some_iff.1 hv).1;have cx:=hE.m.v i v hv (.inl (Vec.sl_live c1));have ax:=XV (P:=P) (o:=o) (st:=st) (u:=m.fo i+v.ver) aa (by grind [AV.cz]) (by grind [AV.cz]) cx c1 rfl ai c3 c5 h1
      refine dM hw (qY hF (by grind) (fun a=>by simp only [execOp,aa,resolve,invoke,builtin];exact k_v (aFq _ _ _)) ax ?_)
      have:=hk (.cv (.val (.int .i64 es.length))) s.B (s.V.set i ⟨v.live,v.T,v.k,v.ver,es++v.es.drop es.length⟩) m st.B _ h2
       (hE.put (hE.m.setV (v:=⟨v.live,v.T,v.k,v.ver,es++v.es.drop es.length⟩) ah) (Emb.Up.refl _) (fun _ _=>rfl) (Nat.le_refl _) (by simp) rfl o.dst)
       (Adv.put hd (Stp.setV hE.m ah _) (Nat.le_refl _) (by simp) (fun _ _ _=>rfl) (kS dc) (fun _ _=>rfl))
      grind [AV.cz,Vec.cz]
     grind
    grind
  grind
 grind
variable {next:SS->Option Ou}
theorem CI (hF:Free F) {lk:Lk} {m:Emb} {o2:Oper} (hE:Em m s st)
  (h:VI P lk s o o2 next=some (some r))
  (hk:∀ m' s' st',next s'=some r->Em m' s' st'->Adv lk m s st m' s' st'->cE F n P ops.toArray rest st' Q) :
  cE F n P ops.toArray (o::o2::rest) st Q:=by
 have ay:=hE.ev;unfold VI at h;split at h
 ·rename_i T x l args ats aa uq
  split at h
  ·rename_i d i g kk lo d' T' hd hx hl ac jh
   injection h with h
   split at h
   ·rename_i v a1 a2 e k a3 hv ai
    split at h
    ·rename_i te d7
     split at h
     ·rename_i hc
      simp only [Bool.and_eq_true,beq_iff_eq,bne_iff_ne] at hc;obtain ⟨⟨⟨⟨⟨⟨⟨⟨⟨⟨⟨⟨⟨⟨c1,c2⟩,c3⟩,rfl⟩,rfl⟩,c6⟩,c7⟩,c8⟩,c9⟩,rfl⟩,c11⟩,c12⟩,c13⟩,c14⟩,c15⟩:=hc;obtain ⟨h1,h2⟩:=aW h;simp at h1;have ah:=(List.getElem?_eq_some_iff.1 hv).1;have cx:=hE.m.v i v hv (.inl (Vec.sl_live c9));have ib:args=#[.tmp d']:=by rw [<- Array.toArray_toList (xs:=args),ac]
      have yu:ats=#[T']:=by rw [<- Array.toArray_toList (xs:=ats),jh]
      have qg:d'<st.t.length:=by rw [hE.t];simp_all
      refine SA hF (kk:=kk) (u:=m.fo i+v.ver) (by simp_all) (by simp_all) aa hd uq ib yu (by simp_all) qg (by grind [AV.cz]) cx c9 rfl (by grind [AV.cz]) h1.1 h1.2 ai c11 c12 d7 (by
       grind) c14 c15 ?_
      have Jj:=hE.put (hE.m.setV (v:=⟨v.live,v.T,v.k,v.ver,v.es.take lo.toNat++List.replicate (v.es.length - lo.toNat) (te.zero.map .val)⟩) ah) (Emb.Up.refl _) (fun _ _=>rfl) (Nat.le_refl _) (by simp) (x:=.any) rfl (some d')
      refine hk m _ _ h2 (by grind [SS.put,St.put,AV.cz,Vec.cz]) ?_
      have:=Adv.put (lk:=lk) (m:=m) (s:=s) (st:=st) (d:=some d') (x:=.any) (y:=.any) (B:=s.B) (V:=s.V.set i ⟨v.live,v.T,v.k,v.ver,v.es.take lo.toNat++List.replicate (v.es.length - lo.toNat) (te.zero.map .val)⟩)
       (B':=st.B) (V':=st.V.set (m.fv i) { v.cz m i with es:=v.es.take lo.toNat++List.replicate (v.es.length - lo.toNat) (te.zero.map .val) }) (by grind [cM]) (Stp.setV hE.m ah _) (Nat.le_refl _) (by simp) (fun _ _ _=>rfl) (kS (by grind)) (fun _ _=>rfl)
      simpa [SS.put,St.put,Vec.cz] using this
     grind
    grind
   grind
  grind
 grind
theorem PE (hF:Free F) {lk:Lk} {m:Emb} {o2 o3:Oper} (hE:Em m s st)
  (h:aAS P lk s o o2 o3 next=some (some r))
  (hk:∀ m' s' st',next s'=some r->Em m' s' st'->Adv lk m s st m' s' st'->cE F n P ops.toArray rest st' Q) :
  cE F n P ops.toArray (o::o2::o3::rest) st Q:=by
 simp [aAS] at h
theorem JL (hM:Fns P sg M) (hF:Free F) {lk:Lk} {b0:Nat} {m:Emb} (hE:Em m s st) (hw:Wants ops o st true) (hd:cM lk o.dst=true)
  (h:evO P sg M lk false b0 s o K=some r)
  (hk:∀ x B V m' B' V',K x B V=some r->Em m' (s.put o.dst x B V) (st.put o.dst (x.cz m') B' V')->Adv lk m s st m' (s.put o.dst x B V) (st.put o.dst (x.cz m') B' V')->cE F n P ops.toArray rest (st.put o.dst (x.cz m') B' V') Q) :
  cE F n P ops.toArray (o::rest) st Q:=by
 have xx:∀ (neg:Bool) (T T':TypeId) (x y:Operand) (es:List (List CV)),o.op=.binOp (if neg=true then .neq else .eql) T x y T'->aAR P s T x y=some es ->
   (∀ b:Bool,(b=true->es=[])->K (.cv (.val (.bool (if neg=true then !b else b)))) s.B s.V=some r)->cE F n P ops.toArray (o::rest) st Q:=by
  intro neg T T' x y es aa hn hK;obtain ⟨⟨_,_,_,_,_,hT⟩,hy,hx⟩:=XW hE hn;refine dM hw (aAT hF aa hx hy hT fun b hb=>?_)
  have:=hk _ s.B s.V m st.B st.V (hK b fun h=>List.eq_nil_of_length_eq_zero (hb h)) (hE.put hE.m (Emb.Up.refl _) (fun _ _=>rfl) (Nat.le_refl _) (Nat.le_refl _) rfl o.dst) (Adv.put hd (Stp.refl _ _ _) (Nat.le_refl _) (Nat.le_refl _) (fun _ _ _=>rfl) (fun _ _ _=>rfl) (fun _ _=>rfl))
  grind [AV.cz]
 unfold evO at h;split at h
 ·rename_i x args ats aa
  exact SK hF hE hw hd (CH hM hE aa h) fun x hx he ha=>hk x s.B s.V m st.B st.V hx he ha
 ·cases h
 ·simp at h
  split at h
  ·split at h
   ·obtain ⟨h1,h2⟩:=JJ h
    simp_all
   ·exact AS hF hE hw hd (nP hE h) hk
  ·split at h
   ·obtain ⟨h1,h2⟩:=JJ h
    simp_all
   ·exact AS hF hE hw hd (nP hE h) hk
  ·split at h
   ·rename_i r' hx
    subst h;exact SL hF hE hw hd hx hk
   ·exact AS hF hE hw hd (nP hE h) hk
theorem Em.slot {m:Emb} (h:Em m s st) {d:Nat} (hd:d<s.n):st.t[d]? = some ((s.get d).cz m):=by
 have h1:=h.get d;rw [h.t] at h1 ⊢;simp_all
def zB (F:Fence) (n:Nat) (P:Program) [Co P] (inl:IN):Prop:=
 ∀ {lk:Lk} {m:Emb} {s:SS} {st:St} {ops:List Oper} {o:Oper} {rest:List Oper} {r:Ou} {Q:St->Prop} {next:SS->Option Ou},Em m s st->Wants ops o st true->cM lk o.dst=true->inl lk s o next=some (some r) ->
  (∀ m' s' st',next s'=some r->Em m' s' st'->Adv lk m s st m' s' st'->cE F n P ops.toArray rest st' Q)->cE F n P ops.toArray (o::rest) st Q
theorem aDn:zB F n P aFw:=by
 intro lk m s st ops o rest r Q next hE hw hd h hk
 grind [aFw]
theorem aDo (hw:Wants ops o st true) (h:cE F n P ops.toArray (ngO o::rest) st Q):cE F n P ops.toArray (o::rest) st Q:=by
 intro n0 w0 e a w Qr hr hk;have h1:=h n0 w0 e a w Qr hr hk;simp only [bP,hw st (fun _ _=>rfl) _ _ _ _ _ hr,if_true]
 simp only [bP,Region.wanted,ngO,if_true] at h1;exact h1
theorem mX (hM:Fns P sg M) (hF:Free F) {lk:Lk} {b0:Nat} {m:Emb} {inl:IN} (hI:zB F n P inl) (hE:Em m s st) (h:AR P sg M inl lk false b0 ops o s next=some r)
  (hk:∀ m' s' st',next s'=some r->Em m' s' st'->Adv lk m s st m' s' st'->cE F n P ops.toArray rest st' Q):cE F n P ops.toArray (o::rest) st Q:=by
 unfold AR at h;split at h
 ·rename_i hd
  have run:∀ (s1:SS),Em m s1 st->Adv lk m s st m s1 st->Wants ops o st true->evW P sg M inl lk false b0 s1 o next=some r->cE F n P ops.toArray (o::rest) st Q:=by
   intro s1 cg d9 hw h1;unfold evW at h1;split at h1
   ·rename_i r' dm
    subst h1;exact aDo hw (hI cg (Wants.none rfl) hd dm fun m' s' st' hx he ha=>hk _ _ _ hx he (d9.trans ha))
   exact JL hM hF cg hw hd h1 fun x B V m' B' V' hx he ha=>hk _ _ _ hx he (d9.trans ha)
  have skip:∀ (s1:SS),Em m s1 st->Adv lk m s st m s1 st->Wants ops o st false->next (s1.put o.dst unA s1.B s1.V)=some r->cE F n P ops.toArray (o::rest) st Q:=by
   intro s1 cg d9 hw h1;refine SI hF hw ?_
   have he:Em m (s1.put o.dst unA s1.B s1.V) (st.put o.dst (.gd [false] .any) st.B st.V):=by
    have:=cg.put cg.m (Emb.Up.refl _) (fun _ _=>rfl) (Nat.le_refl _) (Nat.le_refl _) (x:=unA) rfl o.dst
    grind [unA,AV.cz]
   have ha:Adv lk m s1 st m (s1.put o.dst unA s1.B s1.V) (st.put o.dst (.gd [false] .any) st.B st.V):=Adv.put hd (Stp.refl _ _ _) (Nat.le_refl _) (Nat.le_refl _) (fun _ _ _=>rfl) (fun _ _ _=>rfl) (fun _ _=>rfl)
   exact hk _ _ _ h1 he (d9.trans ha)
  split at h
  ·rename_i hg
   exact run s hE (Adv.refl _ _ _ _) (Wants.none hg) h
  ·rename_i j want hg
   split at h
   ·cases h
   ·rename_i d jw
    split at h
    ·rename_i fm
     have dt:=hE.slot fm;split at h
     ·rename_i c hc
      split at h
      ·cases h
      ·rw [hc] at dt
       have hw:=Wants.known hg jw dt;have cg:=hE.set hc fm;have d9:=Adv.set (lk:=lk) (m:=m) (st:=st) hc;cases c <;> cases want
       ·exact run _ cg d9 hw h
       ·exact skip _ cg d9 hw h
       ·exact skip _ cg d9 hw h
       ·exact run _ cg d9 hw h
     ·rename_i x hc
      rw [hc] at dt;exact skip s hE (Adv.refl _ _ _ _) (Wants.undef hg jw dt) h
     grind
    grind
 grind
theorem qZ (hM:Fns P sg M) (hF:Free F) {inl:IN} (hI:zB F n P inl) {lk:Lk} {b0:Nat} {r:Ou}:∀ (l:List Oper) {m:Emb} {s:SS} {st:St} {K:SS->Option Ou} {Q:St->Prop},Em m s st->evR P sg M inl lk false b0 ops l s K=some r ->
  (∀ m' s' st',K s'=some r->Em m' s' st'->Adv lk m s st m' s' st'->Q st')->cE F n P ops.toArray l st Q
 | [],m,s,st,K,Q,hE,h,hk=>by
  exact aN (hk m s st h hE (Adv.refl _ _ _ _))
 | [o],m,s,st,K,Q,hE,h,hk=>by
  exact mX hM hF hI hE h fun m' s' st' h1 h2 h3=>aN (hk m' s' st' h1 h2 h3)
 | [o,o2],m,s,st,K,Q,hE,h,hk=>by
  simp [evR] at h;split at h
  ·rename_i r' hc
   subst h;exact CI hF hE hc fun m' s' st' h1 h2 h3=>aN (hk m' s' st' h1 h2 h3)
  ·exact mX hM hF hI hE h fun m' s' st' h1 h2 h3=>mX hM hF hI h2 h1 fun m'' s'' st'' g1 g2 g3=>aN (hk m'' s'' st'' g1 g2 (h3.trans g3))
 | o::o2::o3::rest,m,s,st,K,Q,hE,h,hk=>by
  simp [evR] at h;split at h
  ·rename_i r' hc
   subst h;exact CI hF hE hc fun m' s' st' h1 h2 h3=>qZ hM hF hI (o3::rest) h2 h1 fun m'' s'' st'' g1 g2 g3=>hk m'' s'' st'' g1 g2 (h3.trans g3)
  ·split at h
   ·rename_i r' hc
    subst h;exact PE hF hE hc fun m' s' st' h1 h2 h3=>qZ hM hF hI rest h2 h1 fun m'' s'' st'' g1 g2 g3=>hk m'' s'' st'' g1 g2 (h3.trans g3)
   ·exact mX hM hF hI hE h fun m' s' st' h1 h2 h3=>qZ hM hF hI (o2::o3::rest) h2 h1 fun m'' s'' st'' g1 g2 g3=>hk m'' s'' st'' g1 g2 (h3.trans g3)
end
section
variable {F:Fence} {n:Nat} {P:Program} [C:Co P] {lo:List Oper} {b0:Nat} {sg:FuncId->Option Sig} {M:Den}
theorem nQ {o:Oper} {s:St} {A:AV} {B':List Box} (hw:Wants lo o s true) (h:aDg F n P o s A B'):aGO F n P lo o s A B':=by
 intro n0 w0 e a w Q K hr hk;rw [if_pos (hw s (fun _ _=>rfl) _ _ _ _ _ hr)]
 exact h n0 w0 e a w Q K hr hk
theorem Wants.agr {o:Oper} {s s':St} {b:Bool} (h:Wants lo o s b) (ha:∀ d∈o.looksAt lo.toArray,s'.t[d]? = s.t[d]?):Wants lo o s' b:=
 fun s'' h'=>h s'' fun d hd=>(h' d hd).trans (ha d hd)
end
structure FP where
 rb:List Nat
 wb:Option Nat
 al:Option Nat
 v:Option Nat
 rv:List Nat
 mr:List Nat
 z:Bool
def MEq (P:Program) (a b:Option Vec):Prop:=a=b\/∃ v v',a=some v/\b=some v'/\v'.live=v.live/\v'.T=v.T/\v'.k=v.k/\v'.ver=v.ver /\
 ∀ (T:TypeId) (mi:MI),aGP P T=some mi->v.T=mi.tag T->(v'.es.all (okE mi)=v.es.all (okE mi))/\(v.es.all (okE mi)=true->∀ cs,aGQ mi cs=true->aET mi.kl.length cs mi.z v'.es=aET mi.kl.length cs mi.z v.es)
theorem MEq.refl {P:Program} [Co P] (a:Option Vec):MEq P a a:=.inl rfl
theorem MEq.symm {P:Program} [Co P] {a b:Option Vec} (h:MEq P a b):MEq P b a:=by
 rcases h with h | ⟨v,v',h1,h2,h3,h4,h5,h6,h7⟩
 ·exact .inl h.symm
 ·refine .inr ⟨v',v,h2,h1,h3.symm,h4.symm,h5.symm,h6.symm,fun T mi hm hT=>?_⟩
  grind
theorem MEq.trans {P:Program} [Co P] {a b c:Option Vec} (h:MEq P a b) (h':MEq P b c):MEq P a c:=by
 rcases h with rfl | ⟨v,v',h1,h2,h3,h4,h5,h6,h7⟩
 ·exact h'
 ·rcases h' with rfl | ⟨x,x',g1,g2,g3,g4,g5,g6,g7⟩
  ·exact .inr ⟨v,v',h1,h2,h3,h4,h5,h6,h7⟩
  ·rw [h2] at g1;cases g1
   refine .inr ⟨v,x',h1,g2,g3.trans h3,g4.trans h4,g5.trans h5,g6.trans h6,fun T mi hm hT=>?_⟩
   grind
structure Eff where
 b:Option (Nat×Box)
 p:Option Box
 v:Option (Nat×Vec)
def Eff.none':Eff:=⟨none,none,none⟩
def Eff.B (f:Eff) (B:List Box):List Box:=(match f.b with | some (i,x)=>B.set i x | none=>B)++f.p.toList
def Eff.V (f:Eff) (V:List Vec):List Vec:=match f.v with | some (i,x)=>V.set i x | none=>V
theorem Eff.V_length (f:Eff) (V:List Vec):(f.V V).length=V.length:=by unfold Eff.V;grind
theorem Eff.B_length (f:Eff) (B:List Box):(f.B B).length=B.length+f.p.toList.length:=by unfold Eff.B;grind
def apF (x y:FP):Bool:=
 (match x.wb with | some i=>!y.rb.contains i | none=>true)&&(match y.wb with | some i=>!x.rb.contains i | none=>true) &&
 (match x.al with | some i=>!y.rb.contains i&&y.al.isNone | none=>true)&&(match y.al with | some i=>!x.rb.contains i&&x.al.isNone | none=>true) &&
 (match x.v,y.v with | some i,some j=>i != j | _,_=>true)&&(match x.v with | some i=>!y.rv.contains i | none=>true)&&(match y.v with | some i=>!x.rv.contains i | none=>true)&&(match x.v with | some i=>x.z || !y.mr.contains i | none=>true)&&(match y.v with | some i=>y.z || !x.mr.contains i | none=>true)
theorem aAU {x y:FP} (h:apF x y=true):apF y x=true:=by
 unfold apF at h ⊢;grind
def CZ (lo:List Oper) (fps:List FP):Bool:=
 (List.range lo.length).all fun i=>(List.range lo.length).all fun j=>j<=i || (wl lo i).getD j false || (match fps[i]?,fps[j]? with | some x,some y=>apF x y | _,_=>false)
def aAV (w:List Bool):Nat->Nat->Bool
 | _,0=>true
 | j,f+1=>w.getD j false&&aAV w (j+1) f
def VJ (lo:List Oper) (n:Nat):Nat->Nat->Bool
 | _,0=>true
 | i,f+1=>aAV (wl lo i) (i+1) (n - (i+1))&&VJ lo n (i+1) f
def aDp (w:List Bool) (x:FP) (n:Nat):Nat->List FP->Bool
 | j,[]=>aAV w j (n - j)
 | j,y::ys=>(apF x y || w.getD j false)&&aDp w x n (j+1) ys
def aDq (lo:List Oper) (n:Nat):Nat->List FP->Bool
 | i,[]=>VJ lo n i (n - i)
 | i,x::xs=>aDp (wl lo i) x n (i+1) xs&&aDq lo n (i+1) xs
def aDr (lo:List Oper) (fps:List FP):Bool:=aDq lo lo.length 0 fps
theorem AT {w:List Bool}:∀ {f j:Nat},aAV w j f=true->∀ k,j<=k->k<j+f->w.getD k false=true
 | 0,j,_,k,h1,h2=>by omega
 | f+1,j,h,k,h1,h2=>by
  simp [aAV] at h
  by_cases hk:k=j
  ·grind
  ·exact AT h.2 k (by omega) (by omega)
theorem FD {lo:List Oper} {n:Nat}:∀ {f i:Nat},VJ lo n i f=true->∀ a b,i<=a->a<i+f->a<b->b<n->(wl lo a).getD b false=true
 | 0,i,_,a,b,h1,h2,_,_=>by omega
 | f+1,i,h,a,b,h1,h2,h3,h4=>by
  simp [VJ] at h
  by_cases ha:a=i
  ·subst ha;exact AT h.1 b (by omega) (by omega)
  ·exact FD h.2 a b (by omega) (by omega) h3 h4
theorem JM {w:List Bool} {x:FP} {n:Nat}:∀ {ys:List FP} {j:Nat},aDp w x n j ys=true->∀ k,j<=k->k<n->w.getD k false=true\/∃ y,ys[k - j]? = some y/\apF x y=true
 | [],j,h,k,h1,h2=>.inl (AT h k h1 (by omega))
 | y::ys,j,h,k,h1,h2=>by
  simp [aDp] at h
  by_cases hk:k=j
  ·grind
  ·rcases JM h.2 k (by omega) h2 with h3 | ⟨z,h3,h4⟩
   ·grind
   grind
theorem JN {lo:List Oper} {n:Nat}:∀ {xs:List FP} {i:Nat},aDq lo n i xs=true->∀ a b,i<=a->a<b->b<n->(wl lo a).getD b false=true\/∃ x y,xs[a - i]? = some x/\xs[b - i]? = some y/\apF x y=true
 | [],i,h,a,b,h1,h2,h3=>.inl (FD h a b h1 (by omega) h2 h3)
 | x::xs,i,h,a,b,h1,h2,h3=>by
  simp [aDq] at h
  by_cases ha:a=i
  ·rcases JM h.1 b (by omega) h3 with h4 | ⟨y,h4,h5⟩
   ·grind
   grind
  ·rcases JN h.2 a b (by omega) h2 h3 with h4 | ⟨y,z,h4,h5,h6⟩
   ·grind
   grind
theorem JO {lo:List Oper} {fps:List FP} (h:aDr lo fps=true):CZ lo fps=true:=by
 unfold CZ;rw [List.all_eq_true];intro i hi;rw [List.all_eq_true];intro j hj;simp at hi hj
 by_cases i7:j<=i
 ·grind
 ·rcases JN h i j (Nat.zero_le _) (by omega) hj with h1 | ⟨x,y,h1,h2,h3⟩
  ·grind
  grind
section
variable (F:Fence) (n:Nat) (P:Program) [C:Co P] (lo:List Oper) (vb:Nat->Prop)
def SM (o:Oper) (s:St) (A:AV) (B':List Box) (V':List Vec):Prop:=
 ∀ n0 w0 e a w (Q:Exit->Act->World->Prop) (K:Act->World->Prop),Rel n0 w0 e s a w ->
  (∀ e' v w',Mem n0 w0 e' B' V' w'->cL e s w e' B' V' w'->AV.holds e' w' (kss V') A v->AV.sco B'.length (vers V') A->K (a.put o.dst v) w') ->
  if Region.wanted o (yielded lo.toArray a.tmps)=true then o.wpCo F n P a w K else K (a.put o.dst undef) w
structure AgrF (fp:FP) (o:Oper) (s s':St):Prop where
 sl:∀ d∈o.looksAt lo.toArray,s'.t[d]? = s.t[d]?
 B:∀ i∈fp.rb,s'.B[i]? = s.B[i]?
 Bl:fp.al.isSome=true->s'.B.length=s.B.length
 Vl:s'.V.length=s.V.length
 V0:∀ i,vb i->s'.V[i]? = s.V[i]?
 Vx:∀ j,fp.v=some j->s'.V[j]? = s.V[j]?
 Vr:∀ j∈fp.rv,s'.V[j]? = s.V[j]?
 Vm:∀ j∈fp.mr,MEq P (s.V[j]?) (s'.V[j]?)
theorem AgrF.refl (fp:FP) (o:Oper) (s:St):AgrF P lo vb fp o s s:=⟨fun _ _=>rfl,fun _ _=>rfl,fun _=>rfl,rfl,fun _ _=>rfl,fun _ _=>rfl,fun _ _=>rfl,fun _ _=>MEq.refl _⟩
theorem AgrF.trans {fp:FP} {o:Oper} {s s' s'':St} (h:AgrF P lo vb fp o s s') (h':AgrF P lo vb fp o s' s''):AgrF P lo vb fp o s s'':=
 ⟨fun d hd=>(h'.sl d hd).trans (h.sl d hd),fun i hi=>(h'.B i hi).trans (h.B i hi),fun hk=>(h'.Bl hk).trans (h.Bl hk),h'.Vl.trans h.Vl,fun i hi=>(h'.V0 i hi).trans (h.V0 i hi),fun j hj=>(h'.Vx j hj).trans (h.Vx j hj),fun j hj=>(h'.Vr j hj).trans (h.Vr j hj),fun j hj=>(h.Vm j hj).trans (h'.Vm j hj)⟩
theorem AgrF.symm {fp:FP} {o:Oper} {s s':St} (h:AgrF P lo vb fp o s s'):AgrF P lo vb fp o s' s:=
 ⟨fun d hd=>(h.sl d hd).symm,fun i hi=>(h.B i hi).symm,fun hk=>(h.Bl hk).symm,h.Vl.symm,fun i hi=>(h.V0 i hi).symm,fun j hj=>(h.Vx j hj).symm,fun j hj=>(h.Vr j hj).symm,fun j hj=>(h.Vm j hj).symm⟩
structure RF (fp:FP) (o:Oper) (s:St) (A:AV) (f:Eff):Prop where
 rl:∀ i∈fp.rb,i<s.B.length
 wb:∀ i x,f.b=some (i,x)->fp.wb=some i/\i∈fp.rb
 al:f.p.isSome=true->fp.al=some s.B.length
 v:∀ j x,f.v=some (j,x)->fp.v=some j/\¬vb j/\(fp.z=true->MEq P (s.V[j]?) (some x))
 sem:∀ s',AgrF P lo vb fp o s s'->SM F n P lo o s' A (f.B s'.B) (f.V s'.V)
variable {F n P lo vb}
theorem RF.agr {fp:FP} {o:Oper} {s s':St} {A:AV} {f:Eff} (h:RF F n P lo vb fp o s A f) (ha:AgrF P lo vb fp o s s'):RF F n P lo vb fp o s' A f:=by
 refine ⟨fun i hi=>?_,h.wb,fun hp=>?_,fun j x hf=>?_,fun s'' h'=>h.sem s'' (ha.trans P lo vb h')⟩
 ·have h1:=h.rl i hi
  have h2:=ha.B i hi;grind
 ·have h1:=h.al hp
  rw [ha.Bl (by grind)];exact h1
 ·obtain ⟨q1,q2,q3⟩:=h.v j x hf
  exact ⟨q1,q2,fun hz=>by rw [ha.Vx j q1];grind⟩
def stF (o:Oper) (s:St) (A:AV) (f:Eff):St:=s.put o.dst A (f.B s.B) (f.V s.V)
theorem PF {oi oj:Oper} {fi fj:FP} {s:St} {A:AV} {f:Eff} (my:oi.apart lo.toArray oj=true) (hm:apF fi fj=true) (h:RF F n P lo vb fi oi s A f) (hj:∀ i∈fj.rb,i<s.B.length\/fi.al=some i) :
  AgrF P lo vb fj oj s (stF oi s A f):=by
 obtain ⟨h1,h2,h3⟩:=Oper.apart_spec my;unfold apF at hm;simp at hm;refine ⟨fun d hd=>put_get fun x hx he=>h1 x hx (he▸hd),fun i hi=>?_,fun Nl=>?_,f.V_length _,fun q hq=>?_,fun j hj=>?_,fun q hq=>?_,fun q hq=>?_⟩
 ·show (f.B s.B)[i]? = _
  unfold Eff.B;split
  ·rename_i k x hb
   obtain ⟨hw,_⟩:=h.wb k x hb;grind
  grind
 ·show (f.B s.B).length=_
  rw [f.B_length];cases hp:f.p with
  | none=>rfl
  | some x =>
   have:=h.al (by grind)
   grind
 ·show (f.V s.V)[q]? = _
  unfold Eff.V;split
  ·rename_i k x hv
   obtain ⟨_,hk,_⟩:=h.v k x hv;grind
  ·rfl
 ·show (f.V s.V)[j]? = _
  unfold Eff.V;split
  ·rename_i k x hv
   obtain ⟨hk,_⟩:=h.v k x hv;grind
  ·rfl
 ·show (f.V s.V)[q]? = _
  unfold Eff.V;split
  ·rename_i k x hv
   obtain ⟨hk,_⟩:=h.v k x hv;grind
  ·rfl
 ·show MEq P (s.V[q]?) ((f.V s.V)[q]?)
  unfold Eff.V;split
  ·rename_i k x hv
   obtain ⟨hk,_,hz⟩:=h.v k x hv
   by_cases Jk:k=q
   ·have Jl:fi.z=true:=by
     grind
    have dl:=hz Jl
    have an:k<s.V.length:=by
     rcases dl with dl | ⟨v,v',dl,_⟩
     ·grind
     grind
    grind
   ·rw [List.getElem?_set_ne Jk];exact MEq.refl _
  ·exact MEq.refl _
end
section
variable {F:Fence} {n:Nat} {P:Program} [C:Co P] {lo:List Oper} {vb:Nat->Prop}
theorem SN {oi oj:Oper} (my:oi.apart lo.toArray oj=true):oj.apart lo.toArray oi=true:=by
 obtain ⟨h1,h2,h3⟩:=Oper.apart_spec my;unfold Oper.apart;grind
theorem aAW {oi oj:Oper} {fi fj:FP} {s:St} {Ai Aj:AV} {gi gj:Eff} (my:oi.apart lo.toArray oj=true) (hm:apF fi fj=true) (hi:RF F n P lo vb fi oi s Ai gi) (hj:RF F n P lo vb fj oj s Aj gj) :
  stF oj (stF oi s Ai gi) Aj gj=stF oi (stF oj s Aj gj) Ai gi:=by
 obtain ⟨h1,h2,h3⟩:=Oper.apart_spec my;unfold apF at hm;simp at hm;obtain ⟨⟨⟨⟨⟨⟨⟨⟨m1,m2⟩,m3⟩,m4⟩,m5⟩,m6⟩,m7⟩,m8⟩,m9⟩:=hm
 have hB:gj.B (gi.B s.B)=gi.B (gj.B s.B):=by
  have Hb:gi.p=none\/gj.p=none:=by
   cases hp:gi.p with
   | none=>simp
   | some x =>
    right;have:=hi.al (by grind)
    cases hq:gj.p with
    | none=>rfl
    | some y =>
     have:=hj.al (by grind)
     grind
  have lt:∀ {fp:FP} {o:Oper} {A:AV} {g:Eff},RF F n P lo vb fp o s A g->∀ i x,g.b=some (i,x)->i<s.B.length:=fun h i x hb=>h.rl i (h.wb i x hb).2
  have ne:∀ i x j y,gi.b=some (i,x)->gj.b=some (j,y)->i≠j:=by
   rintro i x j y h h' rfl;rw [(hi.wb _ _ h).1] at m1;simp at m1;exact m1 (hj.wb _ _ h').2
  unfold Eff.B;cases Nm:gi.b with
  | none =>
   cases Nn:gj.b with
   | none=>grind
   | some q =>
    grind
  | some q =>
   grind [List.set_comm]
 have hV:gj.V (gi.V s.V)=gi.V (gj.V s.V):=by
  unfold Eff.V;cases Jm:gi.v with
  | none=>rfl
  | some q =>
   cases C1:gj.v with
   | none=>rfl
   | some q =>
    rw [(hi.v _ _ Jm).1,(hj.v _ _ C1).1] at m5;grind [List.set_comm]
 simp [stF,hB,hV];grind [List.set_comm]
end
def DOpF (F:Fence) (n:Nat) (P:Program) [Co P] (lo:List Oper) (vb:Nat->Prop) (fps:List FP) (i:Nat) (K:St->Prop) (s:St):Prop:=
 match lo.toArray[i]?,fps[i]? with
 | none,_=>K s
 | some o,some fp=>∃ A f,RF F n P lo vb fp o s A f/\K (stF o s A f)
 | some _,none=>False
section
variable {F:Fence} {n:Nat} {P:Program} [C:Co P] {lo:List Oper} {vb:Nat->Prop} {fps:List FP}
theorem DOpF.mono {i:Nat} {K K':St->Prop} {s:St} (h:∀ s,K s->K' s) (hh:DOpF F n P lo vb fps i K s):DOpF F n P lo vb fps i K' s:=by
 unfold DOpF at *;grind
theorem aAX {j:Nat} {oi oj:Oper} {fi fj:FP} {A:AV} {f:Eff} (hj:lo.toArray[j]? = some oj) (C2:fps[j]? = some fj) (my:oi.apart lo.toArray oj=true) (hm:apF fi fj=true) {K:St->Prop} {s:St}
  (hy:RF F n P lo vb fi oi s A f) (h:DOpF F n P lo vb fps j K (stF oi s A f)) :
  DOpF F n P lo vb fps j (fun s'=>RF F n P lo vb fi oi s' A f/\K (stF oi s' A f)) s:=by
 unfold DOpF at *;simp [hj,C2] at *;obtain ⟨Aj,gj,h1,h2⟩:=h
 have jk:∀ i∈fj.rb,i<s.B.length\/fi.al=some i:=by
  intro i hi;have h3:=h1.rl i hi;have h4:(stF oi s A f).B.length=s.B.length+f.p.toList.length:=f.B_length _;cases hp:f.p with
  | none=>grind
  | some x =>
   rcases Nat.lt_or_ge i s.B.length with h5 | h5
   ·omega
   ·rw [hy.al (by grind)];grind
 have gg:RF F n P lo vb fj oj s Aj gj:=h1.agr (PF my hm hy jk).symm;refine ⟨Aj,gj,gg,hy.agr (PF (SN my) (aAU hm) gg fun i hi=>.inl (hy.rl i hi)),?_⟩
 grind [aAW]
def Fo (F:Fence) (n:Nat) (P:Program) [Co P] (lo:List Oper) (fuel:Nat) (listed:Array Bool) (s:St) (Q:St->Prop):Prop:=
 ∃ (k:Nat) (l:List Oper),l.length=fuel/\(∀ j,l[j]? = lo.toArray[k+j]?)/\(∀ j,j<k->listed.getD j true=true)/\(∀ j,k<=j->j<lo.length->listed.getD j true=false)/\Down lo listed/\Region.lexFrom .any lo.toArray l.length k listed=true /\
  (∀ j,k<=j->j<lo.length->∀ i,i<j->(wl lo i).getD j false=true)/\cE F n P lo.toArray l s Q
def JP (F:Fence) (n:Nat) (P:Program) [Co P] (lo:List Oper) (vb:Nat->Prop) (fps:List FP) (Q:St->Prop):Nat->Array Bool->St->Prop
 | 0,listed,s=>Region.ready .any lo.toArray listed=[]/\Q s
 | fuel+1,listed,s =>
  ((Region.ready .any lo.toArray listed=[]->Q s) /\
  ∀ i∈Region.ready .any lo.toArray listed,DOpF F n P lo vb fps i (JP F n P lo vb fps Q fuel (listed.setIfInBounds i true)) s)\/Fo F n P lo (fuel+1) listed s Q
theorem PG {Q:St->Prop} {i:Nat} {oi:Oper} {fi:FP} {A:AV} {f:Eff} (hi:lo.toArray[i]? = some oi) (No:fps[i]? = some fi) :
  ∀ (fuel:Nat) (listed:Array Bool) (s:St),
   (∀ j oj,lo.toArray[j]? = some oj->j≠i->listed.getD j true=false->(∀ e∈oj.after,Region.binds .any e=true->e.on≠i)->(wl lo i).getD j false=false->oi.apart lo.toArray oj=true/\∃ fj,fps[j]? = some fj/\apF fi fj=true) ->
   Down lo listed->i∈Region.ready .any lo.toArray listed->RF F n P lo vb fi oi s A f ->
   JP F n P lo vb fps Q fuel (listed.setIfInBounds i true) (stF oi s A f)->JP F n P lo vb fps Q (fuel+1) listed s:=by
 intro fuel
 induction fuel with
 | zero =>
  intro listed s _ _ hr hy H;refine .inl ⟨fun h=>(by grind),fun j hj=>?_⟩
  by_cases i7:j=i
  ·unfold DOpF;grind
  ·have:=ready_mono hj i7
   rw [H.1] at this;grind
 | succ fuel ih =>
  intro listed s sv fm hr hy H;refine .inl ⟨fun h=>(by grind),fun j hj=>?_⟩
  by_cases i7:j=i
  ·unfold DOpF;grind
  ·have H':(Region.ready .any lo.toArray (listed.setIfInBounds i true)=[]->Q (stF oi s A f))/\∀ q∈Region.ready .any lo.toArray (listed.setIfInBounds i true),DOpF F n P lo vb fps q (JP F n P lo vb fps Q fuel ((listed.setIfInBounds i true).setIfInBounds q true)) (stF oi s A f):=by
    rcases H with H | H
    ·exact H
    ·obtain ⟨k,l,f1,f2,f3,fu,f4,f5,f6,f7⟩:=H
     obtain ⟨uy,oj,xk,ct⟩:=mem_ready.1 hj;have bk:j<lo.length:=by grind
     have ah:i<lo.length:=by grind
     have Hc:k<=j:=by
      rcases Nat.lt_or_ge j k with h' | h'
      ·have:=f3 j h'
       simp_all [Ne.symm]
      omega
     have eo:i<k:=by
      rcases Nat.lt_or_ge i k with h' | h'
      ·exact h'
      ·have h1:=fu i h' ah
       have:i<listed.size:=by
        grind
       simp_all
     have nu:=f6 j Hc bk i (by omega)
     have:=fm.ready (mem_ready.1 hr).1 (by simpa using xk) (fun e he hb=>yY (ct e he hb))
     rw [nu] at this;cases this
   have h1:=H'.2 j (ready_mono hj i7);obtain ⟨uy,oj,xk,ct⟩:=mem_ready.1 hj
   have C3:∀ e∈oj.after,Region.binds .any e=true->e.on≠i:=fun e he hb iy=>by
    have h1:=ct e he hb;have h0:=(mem_ready.1 hr).1;grind
   have yw:lo[j]? = some oj:=by grind
   have s7:∀ e∈oj.after,Region.binds .any e=true->listed.getD e.on true=true:=fun e he hb=>yY (ct e he hb)
   obtain ⟨my,fj,C2,hm⟩:=sv j oj xk i7 uy C3 (fm.ready (mem_ready.1 hr).1 yw s7);have h2:=aAX xk C2 my hm hy h1
   have uz:∀ k ok,lo.toArray[k]? = some ok->k≠i->(listed.setIfInBounds j true).getD k true=false ->
     (∀ e∈ok.after,Region.binds .any e=true->e.on≠i)->(wl lo i).getD k false=false->oi.apart lo.toArray ok=true/\∃ fj,fps[k]? = some fj/\apF fi fj=true:=fun k ok hk Gt u0 jc nu=>by
    refine sv k ok hk Gt ?_ jc nu
    by_cases ik:j=k
    ·grind
    simp_all
   refine DOpF.mono (fun s' h3=>ih (listed.setIfInBounds j true) s' uz (fm.set yw s7) (ready_mono hr (Ne.symm i7)) h3.1 ?_) h2
   rw [Array.setIfInBounds_comm _ _ i7];exact h3.2
def aAY (F:Fence) (n:Nat) (P:Program) [Co P] (lo:List Oper) (vb:Nat->Prop):List Oper->List FP->St->(St->Prop)->Prop
 | [],_,s,Q=>Q s
 | o::l,fp::fps,s,Q=>∃ A f,RF F n P lo vb fp o s A f/\aAY F n P lo vb l fps (stF o s A f) Q
 | o::l,[],s,Q=>cE F n P lo.toArray (o::l) s Q
theorem JQ {Q:St->Prop} (bv:CZ lo fps=true):∀ (l:List Oper) (k:Nat) (listed:Array Bool) (s:St),(∀ j,l[j]? = lo.toArray[k+j]?)->(∀ j,j<k->listed.getD j true=true)->(∀ j,k<=j->j<lo.length->listed.getD j true=false)->Down lo listed ->
  Region.lexFrom .any lo.toArray l.length k listed=true->aAY F n P lo vb l (fps.drop k) s Q->JP F n P lo vb fps Q l.length listed s
 | [],k,listed,s,hl,qs,u0,fm,hB,h=>by
  refine ⟨by grind [Region.lexFrom],?_⟩
  cases hd:fps.drop k <;> rw [hd] at h <;> exact h
 | o::l,k,listed,s,hl,qs,u0,fm,hB,h=>by
  have h0:lo.toArray[k]? = some o:=by simpa using (hl 0).symm
  simp [Region.lexFrom] at hB;obtain ⟨⟨hr,hf⟩,Bh⟩:=hB;have ba:k∈Region.ready .any lo.toArray listed:=by grind
  have Bi:lo[k]? = some o:=by grind
  obtain ⟨_,ok,bg,nw⟩:=mem_ready.1 ba;rw [h0] at bg;cases bg;have u2:Down lo (listed.setIfInBounds k true):=fm.set Bi fun e he hb=>yY (nw e he hb)
  cases hd:fps.drop k with
  | nil =>
   rw [hd] at h;have ak:fps.length<=k:=by simp_all
   refine .inr ⟨k,o::l,rfl,hl,qs,u0,fm,by simp_all [Region.lexFrom],fun j Hc bk i d8=>?_,h⟩
   unfold CZ at bv;rw [List.all_eq_true] at bv;have h1:=bv i (List.mem_range.2 (by omega))
   grind
  | cons fp rest =>
   rw [hd] at h;obtain ⟨A,f,hy,hK⟩:=h;have Jn:fps[k]? = some fp:=by grind [List.head?_drop]
   have db:fps.drop (k+1)=rest:=by rw [<- List.drop_drop,hd];rfl
   rw [<- db] at hK
   refine PG h0 Jn l.length listed s ?_ fm ba hy
    (JQ bv l (k+1) _ _ (fun j=>by have:=hl (j+1);grind) ?_ (fun j hj bk=>by rw [getD_set_ne true (by omega)];grind) u2 Bh hK)
   ·intro j oj hj bY u0 jc nu
    refine ⟨Region.free_spec h0 hf j oj hj bY u0 jc,?_⟩;unfold CZ at bv;rw [List.all_eq_true] at bv;have h1:=bv k (List.mem_range.2 (List.getElem?_eq_some_iff.1 Bi).1);grind
   ·intro j hj
    by_cases ik:j=k
    ·simp_all
    ·rw [getD_set_ne true (Ne.symm ik)]
     grind
theorem FF {Qr:Exit->Act->World->Prop}:∀ (l:List Oper) (k:Nat) (listed:Array Bool) (a:Act) (w:World),(∀ j,l[j]? = lo.toArray[k+j]?)->(∀ j,j<k->listed.getD j true=true)->(∀ j,k<=j->j<lo.length->listed.getD j true=false)->Down lo listed ->
  Region.lexFrom .any lo.toArray l.length k listed=true->(∀ j,k<=j->j<lo.length->∀ i,i<j->(wl lo i).getD j false=true)->bP F n P lo.toArray Qr l a w->vO F n P .any lo.toArray Qr l.length listed a w
 | [],k,listed,a,w,hl,qs,u0,fm,hB,nu,h=>⟨by grind [Region.lexFrom],h⟩
 | o::l,k,listed,a,w,hl,qs,u0,fm,hB,nu,h=>by
  have h0:lo.toArray[k]? = some o:=by simpa using (hl 0).symm
  simp [Region.lexFrom] at hB;obtain ⟨⟨hr,hf⟩,Bh⟩:=hB;have ba:k∈Region.ready .any lo.toArray listed:=by grind
  have Bi:lo[k]? = some o:=by grind
  obtain ⟨_,ok,bg,nw⟩:=mem_ready.1 ba;rw [h0] at bg;cases bg;have u2:Down lo (listed.setIfInBounds k true):=fm.set Bi fun e he hb=>yY (nw e he hb)
  refine ⟨(fun Np=>by grind),fun j hj=>?_⟩
  have ik:j=k:=by
   obtain ⟨uy,oj,xk,ct⟩:=mem_ready.1 hj;rcases Nat.lt_trichotomy j k with h' | h' | h'
   ·grind
   ·exact h'
   ·have h2:=fm.ready (mem_ready.1 ba).1 (by simpa using xk) (fun e he hb=>yY (ct e he hb))
    grind
  subst ik
  have ih:∀ a w,bP F n P lo.toArray Qr l a w->vO F n P .any lo.toArray Qr l.length (listed.setIfInBounds j true) a w:=fun a w h' =>
   FF l (j+1) _ a w (fun q=>by have:=hl (q+1);grind)
    (fun q hq=>by
     by_cases qt:q=j
     ·simp_all
     ·rw [getD_set_ne true (Ne.symm qt)];grind)
    (fun q hq He=>by rw [getD_set_ne true (by omega)];grind) u2 Bh (fun q hq He=>nu q (by omega) He) h'
  unfold tX;simp [h0];simp [bP] at h;split
  ·rename_i hw
   rw [if_pos hw] at h;exact Oper.wpCo_mono ih h
  grind
theorem PH {Q:St->Prop}:∀ (fuel:Nat) (listed:Array Bool) (s:St),JP F n P lo vb fps Q fuel listed s->∀ n0 w0 e a w (Qr:Exit->Act->World->Prop),Rel n0 w0 e s a w ->
  (∀ e' s' a' w',Q s'->Rel n0 w0 e' s' a' w'->a'.defers=a.defers->cL e s w e' s'.B s'.V w'->Qr .normal a' w')->vO F n P .any lo.toArray Qr fuel listed a w:=by
 intro fuel
 induction fuel with
 | zero=>intro listed s h n0 w0 e a w Qr hr hk;exact ⟨h.1,hk e s a w h.2 hr rfl (Ext.refl _ _ _ _ _)⟩
 | succ fuel ih =>
  intro listed s h n0 w0 e a w Qr hr hk;rcases h with h | h
  case inr =>
   obtain ⟨k,l,f1,f2,f3,fu,f4,f5,f6,f7⟩:=h;rw [<- f1];exact FF l k listed a w f2 f3 fu f4 f5 f6 (f7 n0 w0 e a w Qr hr fun e' s' a' w' hq af bq hx=>hk e' s' a' w' hq af bq hx)
  refine ⟨fun h0=>hk e s a w (h.1 h0) hr rfl (Ext.refl _ _ _ _ _),fun i hi=>?_⟩
  have h1:=h.2 i hi;unfold DOpF at h1;unfold tX;cases ho:lo.toArray[i]? with
  | none=>grind
  | some o =>
   cases hf:fps[i]? with
   | none=>grind
   | some fp =>
    simp [ho,hf] at h1 ⊢;obtain ⟨A,f,hy,hK⟩:=h1;refine hy.sem s (AgrF.refl _ _ _ _ _ _) n0 w0 e a w Qr _ hr ?_;intro e' v w' hm hx hv dj;have ba:=hr.put hm hx hv dj o.dst;exact ih _ _ hK n0 w0 e' _ w' Qr ba fun e'' s' a' w'' hq af bq ap=>hk e'' s' a' w'' hq af (by rw [bq,put_defers]) (hx.trans ap)
def oY (F:Fence) (n:Nat) (P:Program) [Co P] (lo:List Oper) (vb:Nat->Prop):List Oper->List FP->St->(St->Prop)->Prop
 | [],acc,s,Q=>CZ lo acc=true/\Q s
 | o::l,acc,s,Q=>(∃ fp A f,RF F n P lo vb fp o s A f/\oY F n P lo vb l (acc++[fp]) (stF o s A f) Q)\/(CZ lo acc=true/\cE F n P lo.toArray (o::l) s Q)
theorem VK {Q:St->Prop}:∀ (l:List Oper) (acc:List FP) (s:St),oY F n P lo vb l acc s Q->∃ fps,CZ lo (acc++fps)=true/\aAY F n P lo vb l fps s Q
 | [],acc,s,h=>⟨[],by simpa using h.1,h.2⟩
 | o::l,acc,s,.inl ⟨fp,A,f,h1,h2⟩=>by
  obtain ⟨fps,h3,h4⟩:=VK l _ _ h2;exact ⟨fp::fps,by grind,A,f,h1,h4⟩
 | o::l,acc,s,.inr ⟨h2,h3⟩=>⟨[],by grind,h3⟩
theorem DR {id:Nat} {l:List Oper} {st:St} {Q:Exit->St->Prop} (hm:P.follows .mixedOrders=true) (hB:Region.lexB .any l.toArray=true)
  (h:oY F n P l vb l [] st (Q .normal)):W F n P (.region id l.toArray true) st Q:=by
 intro n0 w0 e a w Qr hr hk;refine CT hm ?_;simp [Region.lexB] at hB;obtain ⟨fps,bv,hG⟩:=VK _ _ _ h;have h1:=JQ bv l 0 (Array.replicate l.toArray.size false) st (by simp) (by omega) (by simp_all) (by intro j oj hj hl;have:j<l.length:=(List.getElem?_eq_some_iff.1 hj).1;simp_all) (by grind) (by simpa using hG)
 intro w₁ hw₁;obtain ⟨cf,ar⟩:=hr.rely hw₁;have dl:=cf.mem.drew;have hx:cL e st w₁ e st.B st.V w₁.drew:=aAv;have ba:Rel n0 w0 e st a w₁.drew:=⟨AV.all.mono hx _ _ cf.sc cf.tm,cf.sc,dl⟩;have dn:=PH _ _ _ h1 n0 w0 e a w₁.drew Qr ba fun e' s' a' w' hq af bq ap=>hk .normal e' s' a' w' hq af bq (ar.trans (hx.trans ap))
 simpa using dn
end
section
variable {F:Fence} {n:Nat} {P:Program} [C:Co P] {lo:List Oper} {vb:Nat->Prop}
theorem Eff.none_B (B:List Box):Eff.none'.B B=B:=by simp [Eff.B,Eff.none']
theorem Eff.none_V (V:List Vec):Eff.none'.V V=V:=rfl
theorem RF.le {fp:FP} {o:Oper} {s:St} {A A':AV} {f:Eff} (h:RF F n P lo vb fp o s A f) (bt:AV.le A A') (dj:∀ nb vs,AV.sco nb vs A->AV.sco nb vs A'):RF F n P lo vb fp o s A' f:=
 ⟨h.rl,h.wb,h.al,h.v,fun s' ha n0 w0 e a w Q K hr hk=>h.sem s' ha n0 w0 e a w Q K hr fun e' v w' hm hx hv hs=>hk e' v w' hm hx (bt _ _ _ _ hv) (dj _ _ hs)⟩
variable {s:St}
theorem RF.quiet {fp:FP} {o:Oper} {A:AV} (jk:∀ i∈fp.rb,i<s.B.length) (h:∀ s',AgrF P lo vb fp o s s'->aGO F n P lo o s' A s'.B):RF F n P lo vb fp o s A Eff.none':=
 ⟨jk,(fun i x h=>by cases h),(fun h=>by cases h),(fun j x h=>by cases h),fun s' ha=>by rw [Eff.none_B,Eff.none_V];exact h s' ha⟩
theorem aDs (hF:Free F) {o:Oper} (hw:Wants lo o s false):RF F n P lo vb ⟨[],none,none,none,[],[],false⟩ o s (.gd [false] .any) Eff.none':=by
 refine RF.quiet (by simp) fun s' ha=>?_
 intro n0 w0 e a w Q K hr gm;rw [if_neg (by rw [hw s' ha.sl _ _ _ _ _ hr];simp)]
 exact gm e undef w hr.mem (Ext.refl _ _ _ _ _) (by simp [AV.holds]) (by simp)
def fQ:AV->Option Nat
 | .own i _=>some i
 | .opt i _ _ _=>some i
 | _=>none
variable {T:TypeId} {x:AV}
theorem PI {s':St} (hB:∀ i o,x=.ptr i o->s'.B[i]? = s.B[i]?) (hV:∀ i,fQ x=some i->s'.V[i]? = s.V[i]?):fW P s' T x=fW P s T x:=by
 unfold fW;cases aZ P T with
 | none=>rfl
 | some ti =>
  cases x with
  | ptr i off=>grind
  | opt i u el o=>simp [hV i rfl]
  | cv c=>grind
  | _=>rfl
theorem AU {s':St} {i:AV} (hV:∀ i,fQ x=some i->s'.V[i]? = s.V[i]?):dW P s' T x i=dW P s T x i:=by
 cases x with
 | own j u=>unfold dW;simp [hV j rfl]
 | fn f caps=>unfold dW;repeat (first | rfl | contradiction | split)
 | cv c=>cases c <;> rfl
 | _=>rfl
theorem SO {s':St} (hV:∀ i,fQ x=some i->s'.V[i]? = s.V[i]?):qQ P s' T x=qQ P s T x:=by
 cases x with
 | own j u=>simp [hV j rfl]
 | cv c =>
  simp;grind
 | _=>rfl
def rdV:Op->Bool
 | .load ..=>true
 | .indexAddr ..=>true
 | .call { callee:=.builtin .len,.. }=>true
 | _=>false
theorem XX {op:Op} {s':St} {A:AV} {B':List Box} {V':List Vec} (hk:nN op<=1) (ny:RY op=false) (ay:∀ x∈op.operands,s'.ev x=s.ev x)
  (hB:∀ T x i o,op=.load T x->s.ev x=.ptr i o->s'.B[i]? = s.B[i]?) (hV:rdV op=true->∀ x∈op.operands,∀ i,fQ (s.ev x)=some i->s'.V[i]? = s.V[i]?)
  (h:bI P s op=some (A,B',V')):B'=s.B/\V'=s.V/\bI P s' op=some (A,s'.B,s'.V):=by
 cases op <;> try (simp [nN] at hk;done)
 case move x=>grind [bI,Op.operands]
 case assign x=>grind [bI,Op.operands]
 case pick c a b =>
  simp only [bI] at h ⊢;rw [ay c (by simp [Op.operands]),ay a (by simp [Op.operands]),ay b (by simp [Op.operands])]
  obtain ⟨h1,h2,h3⟩:=aU h;grind
 case build T ps =>
  simp only [bI] at h ⊢
  have:(ps.toList.map fun p=>(p.1,s'.ev p.2))=ps.toList.map fun p=>(p.1,s.ev p.2):=by
   refine List.map_congr_left fun p hp=>?_
   rw [ay p.2 (by grind [Op.operands])]
  rw [this];obtain ⟨h1,h2,h3⟩:=aU h;grind
 case binOp op T x y yT =>
  simp only [bI] at h ⊢;rw [ay x (by simp [Op.operands]),ay y (by simp [Op.operands])]
  obtain ⟨h1,h2,h3⟩:=aU h;grind
 case unOp op T x =>
  simp only [bI] at h ⊢;rw [ay x (by simp [Op.operands])]
  obtain ⟨h1,h2,h3⟩:=aU h;grind
 case fieldAddr T x f =>
  simp only [bI] at h ⊢;rw [ay x (by simp [Op.operands])]
  obtain ⟨h1,h2,h3⟩:=aU h;grind
 case index T x i =>
  simp only [bI] at h ⊢;rw [ay x (by simp [Op.operands]),ay i (by simp [Op.operands])]
  obtain ⟨h1,h2,h3⟩:=aU h;grind
 case convert T T' x =>
  simp only [bI] at h ⊢;rw [ay x (by simp [Op.operands])]
  obtain ⟨h1,h2,h3⟩:=aU h;grind
 case field T x f =>
  simp only [bI] at h ⊢;rw [ay x (by simp [Op.operands])]
  obtain ⟨h1,h2,h3⟩:=aU h;grind
 case nilCheck x =>
  simp only [bI] at h ⊢;rw [ay x (by simp [Op.operands])]
  obtain ⟨h1,h2,h3⟩:=aU h;grind
 case extract x i =>
  simp only [bI] at h ⊢;rw [ay x (by simp [Op.operands])]
  obtain ⟨h1,h2,h3⟩:=aU h;grind
 case load T x =>
  simp only [bI] at h ⊢;rw [ay x (by simp [Op.operands])]
  obtain ⟨h1,h2,h3⟩:=aU h;refine ⟨h2,h3,?_⟩;rw [PI (fun i o hx=>hB T x i o rfl hx) (hV rfl x (by simp [Op.operands])),h1]
  rfl
 case slice T x lo hi mx =>
  cases mx with
  | some mm =>
   obtain ⟨p,q,rfl,rfl⟩:∃ p q,hi=some (.tmp p)/\mm=.tmp q:=by
    cases hi with
    | none=>simp_all
    | some hh=>cases hh <;> cases mm <;> simp [nN] at hk ⊢
   simp only [bI] at h ⊢;have ek:fH s' lo=fH s lo:=by cases lo <;> simp [fH] <;> exact ay _ (by simp [Op.operands])
   rw [ay x (by simp [Op.operands]),ek,ay (.tmp p) (by simp [Op.operands]),ay (.tmp q) (by simp [Op.operands])]
   obtain ⟨h1,h2,h3⟩:=aU h;grind
  | none =>
   simp only [bI] at h ⊢;have ek:fH s' lo=fH s lo:=by cases lo <;> simp [fH] <;> exact ay _ (by simp [Op.operands])
   have qm:fH s' hi=fH s hi:=by cases hi <;> simp [fH] <;> exact ay _ (by simp [Op.operands])
   rw [ay x (by simp [Op.operands]),ek,qm]
   obtain ⟨h1,h2,h3⟩:=aU h;exact ⟨h2,h3,by grind⟩
 case indexAddr T x i =>
  simp only [bI] at h ⊢;rw [ay x (by simp [Op.operands]),ay i (by simp [Op.operands])]
  obtain ⟨h1,h2,h3⟩:=aU h;exact ⟨h2,h3,by rw [AU (hV rfl x (by simp [Op.operands])),h1];rfl⟩
 case call c =>
  obtain ⟨callee,args,ts⟩:=c;cases callee with
  | value f=>simp_all
  | invoke r m=>simp_all
  | builtin b =>
   have ac:args.toList.map s'.ev=args.toList.map s.ev:=List.map_congr_left fun x hx=>ay x (by grind [Op.operands,Call.operands])
   cases b <;> try (simp [nN] at hk;done)
   case len =>
    simp only [bI] at h ⊢;split at h
    ·rename_i x T hx hT
     obtain ⟨h1,h2,h3⟩:=aU h;have Jo:s'.ev x=s.ev x:=by rw [hx] at ac;simpa using ac
     have xh:x∈(Op.call { callee:=.builtin .len,args:=args,argTypes:=ts }).operands:=by
      have:x∈args.toList:=by rw [hx];simp
      simpa [Op.operands,Call.operands] using this
     exact ⟨h2,h3,by rw [Jo,SO (hV rfl x xh),h1];rfl⟩
    ·cases h
   case max =>
    simp only [bI] at h ⊢;obtain ⟨h1,h2,h3⟩:=aU h;exact ⟨h2,h3,by rw [ac,h1];rfl⟩
   case min =>
    simp only [bI] at h ⊢;obtain ⟨h1,h2,h3⟩:=aU h;exact ⟨h2,h3,by rw [ac,h1];rfl⟩
 simp_all
end
section
variable {F:Fence} {n:Nat} {P:Program} [C:Co P] {lo:List Oper} {vb:Nat->Prop}
variable {o:Oper} {s:St} {A:AV} {B':List Box} {V':List Vec}
theorem aEW (hF:Free F) (rb rv:List Nat) (hw:Wants lo o s true) (hk:nN o.op<=1) (ny:RY o.op=false) (jk:∀ i∈rb,i<s.B.length)
  (hB:∀ T x i off,o.op=.load T x->s.ev x=.ptr i off->i∈rb) (hV:rdV o.op=true->∀ x∈o.op.operands,∀ i,fQ (s.ev x)=some i->i∈rv) (h:bI P s o.op=some (A,B',V')) :
  RF F n P lo vb ⟨rb,none,none,none,rv,[],false⟩ o s A Eff.none'/\B'=s.B/\V'=s.V:=by
 have key:∀ s',AgrF P lo vb ⟨rb,none,none,none,rv,[],false⟩ o s s'->B'=s.B/\V'=s.V/\bI P s' o.op=some (A,s'.B,s'.V):=fun s' ha =>
  XX hk ny (lF ha.sl) (fun T x i off aa hx=>ha.B i (hB T x i off aa hx)) (fun C4 x hx i hi=>ha.Vr i (hV C4 x hx i hi)) h
 refine ⟨RF.quiet jk fun s' ha=>nQ (hw.agr ha.sl) (LW hF (key s' ha).2.2),(key s (AgrF.refl _ _ _ _ _ _)).1,(key s (AgrF.refl _ _ _ _ _ _)).2.1⟩
variable {x:Operand}
theorem aAZ (hF:Free F) {T:TypeId} {y:Operand} {i off:Nat} {b:Box} (hw:Wants lo o s true) (aa:o.op=.store T x y) (hx:s.ev x=.ptr i off) (hb:s.B[i]? = some b)
  (h:bI P s o.op=some (A,B',V')):∃ b',RF F n P lo vb ⟨[i],some i,none,none,[],[],false⟩ o s A ⟨some (i,b'),none,none⟩/\B'=s.B.set i b'/\V'=s.V:=by
 rw [aa] at h;simp only [bI,hx] at h;cases ax:fK P s T (.ptr i off) (s.ev y) with
 | none=>grind
 | some q =>
  rw [ax] at h;obtain ⟨rfl,rfl⟩:=h;unfold fK at ax;split at ax
  ·rename_i ti i' off' new ai gk aj
   obtain ⟨rfl,rfl⟩:=gk;simp only [hb] at ax;split at ax
   ·rename_i hc
    obtain ⟨rfl,rfl⟩:=ax;refine ⟨_,⟨by grind,?_,(fun h=>by cases h),(fun j x h=>by cases h),fun s' ha=>?_⟩,rfl,rfl⟩
    ·simp
    ·have ay:=lF ha.sl
     have cd:s'.B[i]? = some b:=by rw [ha.B i (by simp)];exact hb
     have h1:bI P s' o.op=some (.any,s'.B.set i { b with cs:=splice b.cs off new },s'.V):=by
      rw [aa] at ay ⊢;simp only [bI,ay x (by simp [Op.operands]),hx,ay y (by simp [Op.operands]),fK,ai,aj,cd,hc,if_true,Option.map_some]
     have h2:=nQ (hw.agr ha.sl) (LW (F:=F) (n:=n) hF h1);have e1:Eff.B ⟨some (i,{ b with cs:=splice b.cs off new }),none,none⟩ s'.B=s'.B.set i { b with cs:=splice b.cs off new }:=by simp [Eff.B]
     rw [e1];exact h2
   grind
  grind
theorem aA0 (hF:Free F) {T:TypeId} (hw:Wants lo o s true) (aa:o.op=.alloc T)
  (h:bI P s o.op=some (A,B',V')):∃ b',RF F n P lo vb ⟨[],none,some s.B.length,none,[],[],false⟩ o s A ⟨none,some b',none⟩/\B'=s.B++[b']/\V'=s.V:=by
 rw [aa] at h;simp at h;split at h
 ·rename_i ti ai
  split at h
  ·obtain ⟨rfl,rfl,rfl⟩:=h
   refine ⟨_,⟨by simp,(fun i x h=>by cases h),(fun _=>rfl),(fun j x h=>by cases h),fun s' ha=>?_⟩,rfl,rfl⟩
   have hl:s'.B.length=s.B.length:=ha.Bl rfl
   have h1:bI P s' o.op=some (.ptr s.B.length 0,s'.B++[Box.mk true T (fL ti.zero)],s'.V):=by
    simp_all
   have h2:=nQ (hw.agr ha.sl) (LW (F:=F) (n:=n) hF h1);exact h2
  grind
 grind
variable {args:Array Operand} {ts:Array TypeId} {caps:List AV}
theorem aA1 (hF:Free F) {f:FuncId} (rb rv:List Nat)
  (aa:o.op=.call { callee:=.value x,args,argTypes:=ts }) (hw:Wants lo o s true) (hx:dA (s.ev x)=some (f,caps)) (jk:∀ i∈rb,i<s.B.length)
  (da:dS P f=true) (hB:∀ i∈AV.bnms (args.toList.map s.ev++caps),i∈rb) (hV:∀ i∈AV.vnms (args.toList.map s.ev++caps),i∈rv) (hW:∀ i∈bvs s.B (AV.bnms (args.toList.map s.ev++caps)),i∈rv)
  (h:SpecR P f (AV.lends s.B s.V (args.toList.map s.ev++caps)) A) (hA:AV.closed A=true) (eh:AV.flat A=true):RF F n P lo vb ⟨rb,none,none,none,rv,[],false⟩ o s A Eff.none':=by
 refine RF.quiet jk fun s' ha=>?_
 have ay:=lF ha.sl;have ap:dA (s'.ev x)=some (f,caps):=by grind [Op.operands,Call.operands]
 have fx:args.toList.map s'.ev++caps=args.toList.map s.ev++caps:=by
  simp_all [Op.operands,Call.operands]
 refine nQ (hw.agr ha.sl) (AN (A:=A) hF aa ap (enters da) ?_);rw [fx];refine SpecR.lent h ?_ hA eh;exact AV.lends_agr _ (fun i hi=>ha.B i (hB i hi)) (fun i hi=>ha.Vr i (hV i hi)) (fun i hi=>ha.Vr i (hW i hi))
theorem VL (hF:Free F) {f:FuncId} {as':List AV}
  (aa:o.op=.call { callee:=.value x,args,argTypes:=ts }) (hw:Wants lo o s true) (hx:dA (s.ev x)=some (f,caps))
  (da:dS P f=true) (bt:AV.les (args.toList.map s.ev++caps) as') (bw:AV.closeds as'=true)
  (h:SpecR P f as' A) (hA:AV.closed A=true):RF F n P lo vb ⟨[],none,none,none,[],[],false⟩ o s A Eff.none':=by
 refine RF.quiet (by simp) fun s' ha=>?_
 have ay:=lF ha.sl;have ap:dA (s'.ev x)=some (f,caps):=by grind [Op.operands,Call.operands]
 have fx:args.toList.map s'.ev++caps=args.toList.map s.ev++caps:=by
  simp_all [Op.operands,Call.operands]
 refine nQ (hw.agr ha.sl) (AN (A:=A) hF aa ap (enters da) ?_);rw [fx];exact CallP.args (SpecR.frame h bw hA _ _) bt (AV.scos_closed _ _ _ bw)
end
section
variable {n0:Nat} {w0:World} {e:Env} {B:List Box} {V:List Vec} {w w':World}
theorem Mem.fillVec (h:Mem n0 w0 e B V w) {i:Nat} {x:Vec} (hi:V[i]? = some x) (_:x.live=false) (T:TypeId) (v':Value) (es':List (List CV)) (xs':List Value)
  (au:OwnsV w' n0 T x.k v' es'.length xs') (bu:CV.vals w e.S es'.flatten xs') (hk:∀ l∈es',l.length=x.k)
  (hg:w.grownBy w' none) (di:∀ g,aY v'=some g->w.heap.size<=g) :
  ∃ e',Mem n0 w0 e' B (V.set i (Vec.mk true T x.k (x.ver+1) es')) w' /\
   Ext e w B.length (vers V) (kss V) e' w' B.length (vers (V.set i (Vec.mk true T x.k (x.ver+1) es'))) (kss (V.set i (Vec.mk true T x.k (x.ver+1) es'))) /\
   e'.hdr i (x.ver+1)=v'/\e'.ρ=e.ρ/\e'.S=e.S:=by
 let e':Env:={ e with hdr:=fun j u=>if j=i/\u=x.ver+1 then v' else e.hdr j u }
 have nd:∀ j u,j≠i\/u<=x.ver->e'.hdr j u=e.hdr j u:=by
  grind
 have aj:e'.hdr i (x.ver+1)=v':=by grind
 have ez:∀ b,b<w.heap.size->w'.heap[b]? = w.heap[b]?:=fun b hb=>hg.block b hb (by simp)
 have ae:∀ (j:Nat) (y:Vec),(V.set i (Vec.mk true T x.k (x.ver+1) es'))[j]? = some y->(j≠i/\V[j]? = some y/\e'.hdr j y.ver=e.hdr j y.ver)\/(j=i/\y=Vec.mk true T x.k (x.ver+1) es'/\e'.hdr j y.ver=v'):=by
  grind
 have hx:Ext e w B.length (vers V) (kss V) e' w' B.length (vers (V.set i (Vec.mk true T x.k (x.ver+1) es'))) (kss (V.set i (Vec.mk true T x.k (x.ver+1) es'))):=by
  refine ⟨⟨fun _ hb=>hb,fun b hb=>ez b (h.ro b hb)⟩,fun _ _=>rfl,fun j u hj hu=>nd j u ?_,Nat.le_refl _,by simp,fun j hj=>?_,fun j hj=>?_,hg.size,fun _ h=>.inl h,rfl,fun _=>rfl,rfl⟩
  ·grind
  ·grind
  grind
 have ek:∀ (j:Nat) (y:Vec),V[j]? = some y->y.live=true->∀ g,aY (e.hdr j y.ver)=some g->g<w.heap.size:=by
  intro j y hy aq g eg;obtain ⟨ys,a1,_⟩:=h.vec j y hy aq;exact (a1.lt g eg).2
 refine ⟨e',⟨?_,?_,h.boxlo,h.boxinj,?_,?_,?_,?_,?_,?_,?_,h.bl,h.hid.of rfl ⟨rfl,rfl⟩ (fun _ h=>.inl h) (SameG.set (show T≠ghT from au.ne)) (fun b cd _=>ez b cd) (fun i b hb hl=>.inl ⟨i,b,hb,hl,rfl⟩) (fun j y g hj aq cq=>?_)⟩,hx,aj,rfl,rfl⟩
 rotate_left 9
 ·grind
 ·intro j b hb bo
  obtain ⟨vs,a1,a2⟩:=h.box j b hb bo;exact ⟨vs,(ez _ (Array.getElem?_eq_some_iff.1 a1).1).trans a1,AV.all.mono hx _ _ (h.boxsc j b hb) a2⟩
 ·intro j b hb;exact hx.scos (h.boxsc j b hb)
 ·intro j y hy aq
  rcases ae j y hy with ⟨hj,hy,he⟩ | ⟨rfl,rfl,he⟩
  ·obtain ⟨ys,a1,a2,a3⟩:=h.vec j y hy aq
   refine ⟨ys,?_,CV.vals.mono hx.ro _ _ a2,a3⟩;rw [he];exact a1.keep fun g qh=>ez g (a1.lt g qh).2
  ·exact ⟨xs',by grind,CV.vals.mono hx.ro _ _ bu,hk⟩
 ·intro j y g hy aq cq
  rcases ae j y hy with ⟨hj,hy,he⟩ | ⟨rfl,rfl,he⟩
  ·rw [he] at cq;exact h.vecS j y g hy aq cq
  ·rw [he] at cq
   intro hc;have:=di g cq;have:=h.ro g hc;omega
 ·intro j y l b g hy aq hb bo cq
  rcases ae j y hy with ⟨hj,hy,he⟩ | ⟨rfl,rfl,he⟩
  ·rw [he] at cq;exact h.vecbox j y l b g hy aq hb bo cq
  ·have:=h.lt_box hb bo
   grind
 ·intro j y l z g hy aq hz eu cq kg
  rcases ae j y hy with ⟨bY,kx,he⟩ | ⟨h1,h2,he⟩ <;> rcases ae l z hz with ⟨qi,f9,ga⟩ | ⟨A9,yt,ga⟩
  ·rw [he] at cq;rw [ga] at kg;exact h.vecinj j y l z g kx aq f9 eu cq kg
  ·grind
  ·grind
  omega
 ·intro b hb;exact Nat.lt_of_lt_of_le (h.ro b hb) hg.size
 ·exact h.below.grown hg h.nbase fun k hk=>by cases hk
 ·exact Nat.le_trans h.base hg.size
end
section
variable {F:Fence} {n:Nat} {P:Program} [C:Co P] {lo:List Oper} {vb:Nat->Prop}
variable {o:Oper} {s:St} {A:AV} {B':List Box} {V':List Vec}
theorem aDt (hF:Free F) (hw:Wants lo o s true) (h:bI P s o.op=some (A,B',V')):SM F n P lo o s A B' V':=by
 intro n0 w0 e a w Q K hr hk;rw [if_pos (hw s (fun _ _=>rfl) _ _ _ _ _ hr)]
 refine jF (by grind [bI]) (vP h hr) fun w₁ hw₁=>?_
 obtain ⟨cf,ar⟩:=hr.rely hw₁;obtain ⟨nx,v,w',e',h1,h2,h3,h4,h5,h6⟩:=rT h n0 w0 e a w₁ cf;exact ⟨nx,v,w',h1,h2,hk e' v w' h3 (ar.trans h4) h5 h6⟩
theorem XY (hF:Free F) (hw:Wants lo o s true) (fc:∀ c,o.op≠.defer c) (hc:∀ a:Act,(execOp a.eval o).calm P) (ax:Step P o s A B' V'):SM F n P lo o s A B' V':=by
 intro n0 w0 e a w Q K hr hk;rw [if_pos (hw s (fun _ _=>rfl) _ _ _ _ _ hr)]
 refine jF fc (hc a) fun w₁ hw₁=>?_
 obtain ⟨cf,ar⟩:=hr.rely hw₁;obtain ⟨nx,v,w',e',h1,h2,h3,h4,h5,h6⟩:=ax n0 w0 e a w₁ cf;exact ⟨nx,v,w',h1,h2,hk e' v w' h3 (ar.trans h4) h5 h6⟩
variable {T:TypeId} {v:Vec}
theorem XZ (hF:Free F) {ao xo:Operand} {i u el off:Nat} {ti:TI} {new:List AV} {cs:List CV} (hw:Wants lo o s true) (aa:o.op=.store T ao xo) (ha:s.ev ao=.opt i u el off)
  (hv:s.V[i]? = some v) (hl:v.sl=true) (hu:v.ver=u) (ma:el<v.es.length) (ai:aZ P T=some ti) (aj:(s.ev xo).cells=some new) (bc:dX new=some cs) (cn:cs.length=ti.size) (mb:off+cs.length<=v.k) (uu:¬vb i) :
  RF F n P lo vb ⟨[],none,none,some i,[],[],false⟩ o s .any ⟨none,none,some (i,{ v with es:=v.es.set el (spl (v.es.getD el []) off cs) })⟩:=by
 refine ⟨by simp,(fun i x h=>by cases h),(fun h=>by cases h),?_,fun s' qa=>?_⟩
 ·grind
 ·have ay:=lF qa.sl
  have lc:s'.V[i]? = some v:=by rw [qa.Vx i rfl];exact hv
  have h1:=XY (F:=F) (n:=n) (P:=P) hF (hw.agr qa.sl) (by grind) (fun a=>by simp only [execOp,aa];exact k_b (qT _ _ _) fun _=>trivial) (pU (P:=P) (st:=s') aa (by grind [Op.operands]) lc hl hu ma ai (by grind [Op.operands]) bc cn mb)
  have e1:Eff.B ⟨none,none,some (i,{ v with es:=v.es.set el (spl (v.es.getD el []) off cs) })⟩ s'.B=s'.B:=by simp [Eff.B]
  rw [e1];exact h1
variable {j:Nat}
theorem aFx (hF:Free F) {x y:Operand} {args:Array Operand} {ats:Array TypeId} {u:Nat} (hw:Wants lo o s true) (aa:o.op=.call { callee:=.builtin .append,args:=args,argTypes:=ats })
  (ac:args.toList=[x,y]) (jh:ats.toList=[T,T]) (hx:s.ev x=.own j u) (hj:¬vb j) (rv:List Nat) (hy:∀ i,fQ (s.ev y)=some i->i∈rv) (h:bI P s o.op=some (A,B',V')) :
  ∃ v',RF F n P lo vb ⟨[],none,none,some j,rv,[],false⟩ o s A ⟨none,none,some (j,v')⟩/\B'=s.B/\V'=s.V.set j v':=by
 rw [aa] at h;simp only [bI,ac,jh,if_true,hx] at h;unfold qS at h;split at h
 ·rename_i a1 a2 et k by_ i' u' ai gk
  obtain ⟨rfl,rfl⟩:=gk;split at h
  ·rename_i te v new d7 hv aj
   split at h
   ·split at h
    ·split at h
     ·obtain ⟨rfl,rfl,rfl⟩:=h
      refine ⟨_,⟨by simp,(fun i x h=>by cases h),(fun h=>by cases h),?_,fun s' ha=>?_⟩,rfl,rfl⟩
      ·grind
      ·have ay:=lF ha.sl
       have lc:s'.V[j]? = some v:=by rw [ha.Vx j rfl];exact hv
       have xh:x∈o.op.operands:=by
        have:x∈args.toList:=by grind
        grind [Op.operands,Call.operands]
       have Nq:y∈o.op.operands:=by
        have:y∈args.toList:=by grind
        grind [Op.operands,Call.operands]
       have nh:wW s' k (s.ev y)=some new:=by
        rw [<- aj];generalize s.ev y=yy at hy;cases yy with
        | own i g=>simp [ha.Vr i (hy i rfl)]
        | cv c =>
         cases c <;> try rfl
         rename_i v;cases v <;> try rfl
         rename_i ao l c;cases ao <;> try rfl
         cases l <;> try rfl
         cases c <;> rfl
        | _=>rfl
       have h1:bI P s' o.op=some (.own j (v.ver+1),s'.B,s'.V.set j { v with ver:=v.ver+1,es:=v.es++new }):=by
        simp_all
       have h2:=aDt (F:=F) (n:=n) hF (hw.agr ha.sl) h1;have e1:Eff.B ⟨none,none,some (j,{ v with ver:=v.ver+1,es:=v.es++new })⟩ s'.B=s'.B:=by simp [Eff.B]
       rw [e1];exact h2
     grind
    grind
   grind
  grind
 grind
theorem FG {r:Out} (h:bH P ⟨[],[],[]⟩ T 0 []=some r) :
  ∃ s z et k by_,aZ P T=some ⟨s,z,.slc et k by_⟩/\r=(.own 0 0,[],[⟨true,et,k,0,[]⟩])/\∀ w,∃ vout,(Instr.buildSlice T 0 #[]).run P w=.ok (.slice (some ⟨w.heap.size,0,none⟩) 0 0) (w.alloc (.cells vout et)):=by
 unfold bH at h;split at h
 ·rename_i s z et k by_ ai
  obtain ⟨hT,hk,_⟩:=cZ ai;split at h
  ·rename_i te d7
   split at h
   ·split at h
    ·rename_i out qn
     cases i9:dX out with
     | none=>grind
     | some cs =>
      refine ⟨s,z,et,k,by_,ai,?_,fun w=>⟨#[],?_⟩⟩
      ·simp_all
      ·have r0:Array.range 0=#[]:=rfl
       simp [Instr.buildSlice,run_underlying hT,run_sizeOf d7,r0,newRow,Instr.fill]
    grind
   grind
  grind
 grind
theorem aDu (hF:Free F) {parts:Array (Nat×Operand)} {x:Vec} {et k:Nat} (hw:Wants lo o s true) (aa:o.op=.buildSlice T 0 parts) (hp:parts.toList=[])
  (h:bH P ⟨[],[],[]⟩ T 0 []=some (.own 0 0,[],[⟨true,et,k,0,[]⟩])) (hx:s.V[j]? = some x) (aT:x.live=false) (Bj:x.k=k) (hj:¬vb j) :
  RF F n P lo vb ⟨[],none,none,some j,[],[],false⟩ o s (.own j (x.ver+1)) ⟨none,none,some (j,⟨true,et,x.k,x.ver+1,[]⟩)⟩:=by
 refine ⟨by simp,(fun i x h=>by cases h),(fun h=>by cases h),?_,fun s' ha=>?_⟩
 ·grind
 ·have ap:s'.V[j]? = some x:=by rw [ha.Vx j rfl];exact hx
  obtain ⟨_,_,et',k',_,ai,gq,ag⟩:=FG h;obtain ⟨rfl,rfl⟩:=gq;have e1:Eff.B ⟨none,none,some (j,(⟨true,et,x.k,x.ver+1,[]⟩:Vec))⟩ s'.B=s'.B:=by simp [Eff.B]
  rw [e1];show SM F n P lo o s' _ s'.B (s'.V.set j ⟨true,et,x.k,x.ver+1,[]⟩);intro n0 w0 e a wO Q K lj hk;rw [if_pos (hw.agr ha.sl s' (fun _ _=>rfl) _ _ _ _ _ lj)]
  refine jF (by grind) (by simp only [execOp,aa];exact k_v (rU _ _ _)) fun w hw₁=>?_
  obtain ⟨hr,ei⟩:=lj.rely hw₁;obtain ⟨vout,ag⟩:=ag w
  obtain ⟨e',b1,b2,b3,_⟩:=hr.mem.fillVec (w':=w.alloc (.cells vout et)) ap aT et (.slice (some ⟨w.heap.size,0,none⟩) 0 0) [] []
   (.inl ⟨eJ ai,.inl ⟨_,rfl,rfl,rfl⟩⟩) (by simp [CV.vals]) (by simp) (World.grownBy_alloc _ _ _) (fun g hg=>by simp [aY] at hg)
  have jx:(execOp a.eval o).run P w=.ok (.value (.slice (some ⟨w.heap.size,0,none⟩) 0 0)) (w.alloc (.cells vout et)):=by
   simp_all [execOp]
  have bk:j<s'.V.length:=(List.getElem?_eq_some_iff.1 ap).1;exact ⟨_,_,_,jx,.inl rfl,hk e' _ _ b1 (ei.trans b2) (by simp [AV.holds,b3]) (by simp_all)⟩
theorem VM (hF:Free F) {x y:Operand} {k1 k2:IntKind} {l c:Int} {sz e' k by_:Nat} {z:List Value} {te:TI} (hw:Wants lo o s true) (aa:o.op=.makeSlice T x y)
  (hx:s.ev x=.cv (.val (.int k1 l))) (hy:s.ev y=.cv (.val (.int k2 c))) (ai:aZ P T=some ⟨sz,z,.slc e' k by_⟩) (cy:k≠0) (d7:aZ P e'=some te) (eu:te.zero.length=k) (f9:te.zero.all Value.oneCell'=true)
  (h0:0<=l) (h1:l<=c) (h2:c.toNat*by_<=140737488355328) (h3:c.toNat<=maxLen) (hv:s.V[j]? = some v) (aT:v.live=false) (sj:v.k=k) (hj:¬vb j) :
  RF F n P lo vb ⟨[],none,none,some j,[],[],false⟩ o s (.own j (v.ver+1)) ⟨none,none,some (j,⟨true,e',v.k,v.ver+1,List.replicate l.toNat (te.zero.map .val)⟩)⟩:=by
 refine ⟨by simp,(fun i x h=>by cases h),(fun h=>by cases h),?_,fun s' ha=>?_⟩
 ·grind
 ·have lc:s'.V[j]? = some v:=by rw [ha.Vx j rfl];exact hv
  have ay:=lF ha.sl;have ap:s'.ev x=.cv (.val (.int k1 l)):=by grind [Op.operands]
  have jy:s'.ev y=.cv (.val (.int k2 c)):=by grind [Op.operands]
  have e1:Eff.B ⟨none,none,some (j,(⟨true,e',v.k,v.ver+1,List.replicate l.toNat (te.zero.map .val)⟩:Vec))⟩ s'.B=s'.B:=by simp [Eff.B]
  rw [e1];show SM F n P lo o s' _ s'.B (s'.V.set j ⟨true,e',v.k,v.ver+1,List.replicate l.toNat (te.zero.map .val)⟩);intro n0 w0 e a wO Q K lj hk;rw [if_pos (hw.agr ha.sl s' (fun _ _=>rfl) _ _ _ _ _ lj)]
  refine jF (by grind) (by simp only [execOp,aa];exact k_v (uD _ _ _)) fun w hw₁=>?_
  obtain ⟨hr,ei⟩:=lj.rely hw₁;subst sj;obtain ⟨vout,ag,r1,r2,r3,r4⟩:=JI (k1:=k1) (k2:=k2) ai cy d7 eu f9 h0 h1 h2 h3 hr.mem.base e.S
  obtain ⟨e1,b1,b2,b3,_⟩:=hr.mem.fillVec (w':=w.alloc (.cells vout e')) lc aT e' (.slice (some ⟨w.heap.size,0,none⟩) l.toNat c.toNat) (List.replicate l.toNat (te.zero.map .val)) (iR te.zero l.toNat)
   r1 r2 r3 (World.grownBy_alloc _ _ _) r4
  have cr:=(hr.ev x).1;rw [ap] at cr;have ju:=(hr.ev y).1;rw [jy] at ju
  have jx:(execOp a.eval o).run P w=.ok (.value (.slice (some ⟨w.heap.size,0,none⟩) l.toNat c.toNat)) (w.alloc (.cells vout e')):=by
   simp [execOp,aa,cr.1,ju.1,ag]
  have bk:j<s'.V.length:=(List.getElem?_eq_some_iff.1 lc).1;exact ⟨_,_,_,jx,.inl rfl,hk e1 _ _ b1 (ei.trans b2) (by simp [AV.holds,b3]) (by simp_all)⟩
theorem YA (hF:Free F) {ti:TI} (hw:Wants lo o s true) (aa:o.op=.alloc T) (ai:aZ P T=some ti) (hT:T<bE) (yx:ti.zero≠[]) (f9:ti.zero.all Value.oneCell'=true)
  (hv:s.V[j]? = some v) (aT:v.live=false) (sj:v.k=ti.zero.length) (hj:¬vb j) :
  RF F n P lo vb ⟨[],none,none,some j,[],[],false⟩ o s (.opt j (v.ver+1) 0 0) ⟨none,none,some (j,⟨true,T,v.k,v.ver+1,[ti.zero.map .val]⟩)⟩:=by
 refine ⟨by simp,(fun i x h=>by cases h),(fun h=>by cases h),?_,fun s' ha=>?_⟩
 ·grind
 ·have lc:s'.V[j]? = some v:=by rw [ha.Vx j rfl];exact hv
  have e1:Eff.B ⟨none,none,some (j,(⟨true,T,v.k,v.ver+1,[ti.zero.map .val]⟩:Vec))⟩ s'.B=s'.B:=by simp [Eff.B]
  rw [e1];show SM F n P lo o s' _ s'.B (s'.V.set j ⟨true,T,v.k,v.ver+1,[ti.zero.map .val]⟩);intro n0 w0 e a wO Q K lj hk;rw [if_pos (hw.agr ha.sl s' (fun _ _=>rfl) _ _ _ _ _ lj)]
  refine jF (by grind) (by simp only [execOp,aa];exact k_v (UX _ _ _)) fun w hw₁=>?_
  obtain ⟨hr,ei⟩:=lj.rely hw₁;obtain ⟨z,I5,xg⟩:=EK ai yx w;have aj:(w.alloc (.cells z.cells T)).heap[w.heap.size]? = some (.cells z.cells T (0,0)):=World.alloc_heap_new w _;have cn:z.cells.size=v.k:=by grind
  have au:OwnsS (w.alloc (.cells z.cells T)) n0 T v.k (.slice (some ⟨w.heap.size,0,none⟩) 1 1) 1 ti.zero:=by
   right;refine ⟨⟨by omega,.inr ⟨w.heap.size,1,_,rfl,hr.mem.base,aj,Nat.le_refl _,by simp [maxLen],by omega,?_⟩⟩,w.heap.size,rfl,rfl⟩
   grind
  have bu:CV.vals w e.S (ti.zero.map CV.val) ti.zero:=by
   have:∀ (l:List Value),l.all Value.oneCell'=true->CV.vals w e.S (l.map CV.val) l:=by
    intro l
    induction l with
    | nil=>grind [CV.vals]
    | cons y l ih =>
     simp_all [CV.vals,CV.holds]
   grind
  obtain ⟨e1,b1,b2,b3,_⟩:=hr.mem.fillVec (w':=w.alloc (.cells z.cells T)) lc aT T (.slice (some ⟨w.heap.size,0,none⟩) 1 1) [ti.zero.map .val] ti.zero
   (.inl ⟨hT,au⟩) (by grind) (by grind) (World.grownBy_alloc _ _ _) (fun g hg=>by grind [aY])
  have jx:(execOp a.eval o).run P w=.ok (.value (.pointer (some ⟨w.heap.size,0,none⟩))) (w.alloc (.cells z.cells T)):=by
   simp_all [execOp,Instr.alloc,newVar,newRow]
  have bk:j<s'.V.length:=(List.getElem?_eq_some_iff.1 lc).1;exact ⟨_,_,_,jx,.inl rfl,hk e1 _ _ b1 (ei.trans b2) (by grind [AV.holds,aY]) (by simp_all)⟩
theorem aDv (hF:Free F) (hw:Wants lo o s true) (h:xK P s o.op=some A):RF F n P lo vb ⟨[],none,none,none,[],[],false⟩ o s A Eff.none':=by
 refine RF.quiet (by simp) fun s' ha=>?_
 refine nQ (hw.agr ha.sl) (XN hF ?_);rw [<- h];have ay:=lF ha.sl;unfold xK;cases aa:o.op <;> try rfl
 rename_i T len parts;rw [aa] at ay;have hp:∀ p∈parts.toList,s'.ev p.2=s.ev p.2:=fun p hp=>ay p.2 (by grind [Op.operands])
 have h1:(parts.toList.map fun p=>s'.ev p.2)=parts.toList.map fun p=>s.ev p.2:=List.map_congr_left hp
 have h2:(parts.toList.map fun p=>(p.1,s'.ev p.2))=parts.toList.map fun p=>(p.1,s.ev p.2):=List.map_congr_left fun p h=>by grind
 simp only [h1,h2]
end
section
variable {n0:Nat} {w0:World} {e:Env} {B:List Box} {V:List Vec} {w:World}
theorem Mem.fill2 (h:Mem n0 w0 e B V w) {i:Nat} {x:Vec} (hi:V[i]? = some x) (_:x.live=false) (T:TypeId) (v':Value) (es':List (List CV)) (xs':List Value)
  (au:OwnsV w n0 T x.k v' es'.length xs') (bu:CV.vals w e.S es'.flatten xs') (hk:∀ l∈es',l.length=x.k)
  (hS:∀ g,aY v'=some g->¬e.S g) (Nr:∀ g,aY v'=some g->∀ (j:Nat) (b:Box),B[j]? = some b->b.live=true->e.ρ j≠g)
  (Hf:∀ g,aY v'=some g->∀ (j:Nat) (y:Vec),V[j]? = some y->y.live=true->aY (e.hdr j y.ver)≠some g) (hH:∀ g,aY v'=some g->e.H g=none) :
  ∃ e',Mem n0 w0 e' B (V.set i (Vec.mk true T x.k (x.ver+1) es')) w /\
   Ext e w B.length (vers V) (kss V) e' w B.length (vers (V.set i (Vec.mk true T x.k (x.ver+1) es'))) (kss (V.set i (Vec.mk true T x.k (x.ver+1) es'))) /\
   e'.hdr i (x.ver+1)=v'/\e'.ρ=e.ρ/\e'.S=e.S:=by
 let e':Env:={ e with hdr:=fun j u=>if j=i/\u=x.ver+1 then v' else e.hdr j u }
 have nd:∀ j u,j≠i\/u<=x.ver->e'.hdr j u=e.hdr j u:=by
  grind
 have aj:e'.hdr i (x.ver+1)=v':=by grind
 have ae:∀ (j:Nat) (y:Vec),(V.set i (Vec.mk true T x.k (x.ver+1) es'))[j]? = some y->(j≠i/\V[j]? = some y/\e'.hdr j y.ver=e.hdr j y.ver)\/(j=i/\y=Vec.mk true T x.k (x.ver+1) es'/\e'.hdr j y.ver=v'):=by
  grind
 have hx:Ext e w B.length (vers V) (kss V) e' w B.length (vers (V.set i (Vec.mk true T x.k (x.ver+1) es'))) (kss (V.set i (Vec.mk true T x.k (x.ver+1) es'))):=by
  refine ⟨⟨fun _ hb=>hb,fun b hb=>rfl⟩,fun _ _=>rfl,fun j u hj hu=>nd j u ?_,Nat.le_refl _,by simp,fun j hj=>?_,fun j hj=>?_,Nat.le_refl _,fun _ h=>.inl h,rfl,fun _=>rfl,rfl⟩
  ·grind
  ·grind
  grind
 refine ⟨e',⟨?_,?_,h.boxlo,h.boxinj,?_,?_,?_,?_,h.ro,h.below,h.base,h.bl,⟨h.hid.obj,h.hid.box,fun j y g hj aq cq=>?_,fun j y hj hT=>by obtain ⟨x0,q1,q2,q3⟩:=SameG.set (V:=V) (i:=i) (y:=Vec.mk true T x.k (x.ver+1) es') (show T≠ghT from au.ne) j y hj hT;rw [<- q3];exact h.hid.gh j x0 q1 q2,h.hid.own⟩⟩,hx,aj,rfl,rfl⟩
 rotate_left 6
 ·rcases ae j y hj with ⟨bY,hy,he⟩ | ⟨rfl,rfl,he⟩
  ·rw [he] at cq;exact h.hid.vec j y g hy aq cq
  grind
 ·intro j b hb bo
  obtain ⟨vs,a1,a2⟩:=h.box j b hb bo;exact ⟨vs,a1,AV.all.mono hx _ _ (h.boxsc j b hb) a2⟩
 ·intro j b hb;exact hx.scos (h.boxsc j b hb)
 ·intro j y hy aq
  rcases ae j y hy with ⟨hj,hy,he⟩ | ⟨rfl,rfl,he⟩
  ·obtain ⟨ys,a1,a2,a3⟩:=h.vec j y hy aq
   grind
  grind
 ·intro j y g hy aq cq
  rcases ae j y hy with ⟨hj,hy,he⟩ | ⟨rfl,rfl,he⟩
  ·rw [he] at cq;exact h.vecS j y g hy aq cq
  grind
 ·intro j y l b g hy aq hb bo cq
  rcases ae j y hy with ⟨hj,hy,he⟩ | ⟨rfl,rfl,he⟩
  ·rw [he] at cq;exact h.vecbox j y l b g hy aq hb bo cq
  grind
 ·intro j y l z g hy aq hz eu cq kg
  rcases ae j y hy with ⟨bY,kx,he⟩ | ⟨h1,h2,he⟩ <;> rcases ae l z hz with ⟨qi,f9,ga⟩ | ⟨A9,yt,ga⟩
  ·rw [he] at cq;rw [ga] at kg;exact h.vecinj j y l z g kx aq f9 eu cq kg
  ·grind
  ·grind
  omega
end
section
variable {P:Program} [C:Co P]
variable {f:FuncId} {args:List AV} {T:TypeId} {k j:Nat} {es:List (List CV)}
theorem CallP.fill (h:sT P f args T k es) (ac:AV.scos 0 [] args) (B:List Box) (V:List Vec) {x:Vec} (hx:V[j]? = some x) (aT:x.live=false) (Bj:x.k=k) :
  CallP P f args B V fun r B' V'=>r=.own j (x.ver+1)/\B'=B/\V'=V.set j ⟨true,T,x.k,x.ver+1,es⟩:=by
 intro F n hF am n0 w0 e w vs hm hv hs;have ei:Ext e w 0 [] (kss V) e w 0 [] []:=⟨RO.refl _ _,fun _ _=>rfl,fun _ _ _ _=>rfl,Nat.le_refl _,Nat.le_refl _,fun _ _=>Nat.le_refl _,fun i hi=>by grind,Nat.le_refl _,fun _ h=>.inl h,rfl,fun _=>rfl,rfl⟩
 refine CallsCo.mono (h F n hF am w.heap.size w { e with base:=w.heap.size,H:=fun _=>none,y:=false } w vs ⟨rfl,rfl⟩ (Mem.nothing e w hm.ro) (AV.rebases _ _ _ (AV.all.mono ei _ _ ac hv)) ac) ?_
 rintro en w' ⟨e1,B1,V0,r0,v,rfl,⟨i,y,rfl,hy,aq,rfl,rfl,rfl⟩,h1,ar,hr,dj⟩;have h2:Mem w.heap.size w e1 [] [] w':=⟨by simp,by simp,by simp,by simp,by simp,by simp,by simp,by simp,h1.ro,h1.below,h1.base,h1.bl,h1.hid.of rfl ⟨rfl,rfl⟩ (fun _ h=>.inl h) (fun i x h=>by grind) (fun _ _ _=>rfl) (by simp) (by simp)⟩
 obtain ⟨e',hρ,hS,nm,px,dl,gk⟩:=hm.beside h2 ar.ye e1.S (fun b hb=>ar.ro.sub b hb) (fun b hb=>(ar.snew b hb).elim .inl fun hl=>.inr ⟨hl,h1.ro b hb,hb⟩) (fun _ _ _ _ _ h=>h)
 rw [List.append_nil] at dl gk;obtain ⟨xs,a1,a2,a3⟩:=h1.vec i y hy aq;have ek:∀ g,aY (e1.hdr i y.ver)=some g->w.heap.size<=g:=fun g hg=>(a1.lt g hg).1
 obtain ⟨e2,m1,m2,m3,_⟩:=dl.fill2 hx aT y.T (e1.hdr i y.ver) y.es xs (by rw [Bj];exact a1.base hm.base) (by grind) (by grind)
  (fun g hg=>by rw [hS];exact h1.vecS i y g hy aq hg)
  (fun g hg l b hb bo hc=>by
   have:=hm.lt_box hb bo;grind)
  (fun g hg l z hz eu hc=>by
   obtain ⟨zs,c1,_⟩:=hm.vec l z hz eu;have hl:=(List.getElem?_eq_some_iff.1 hz).1;rw [nm l _ hl] at hc;have:=(c1.lt g hc).2;grind)
  (fun g hg=>by rw [hρ.2];exact hm.hid.new (ek g hg))
 have bk:=(List.getElem?_eq_some_iff.1 hx).1;refine ⟨e2,B,_,.own j (x.ver+1),v,rfl,⟨rfl,rfl,rfl⟩,m1,gk.trans m2,?_,?_⟩
 ·grind [AV.holds]
 simp_all
theorem CallP.fillL {cs:List CV} (h:sT P f (cs.map .cv) T k es) (eh:es.flatten.all CV.flat=true) (B:List Box) (V:List Vec) (ha:AV.lends B V args=cs.map .cv) {x:Vec} (hx:V[j]? = some x) (aT:x.live=false) (Bj:x.k=k) :
  CallP P f args B V fun r B' V'=>r=.own j (x.ver+1)/\B'=B/\V'=V.set j ⟨true,T,x.k,x.ver+1,es⟩:=by
 intro F n hF am n0 w0 e w vs hm hv hs;refine CallsCo.mono (h F n hF am w.heap.size w { e with S:=fun b=>b<w.heap.size,base:=w.heap.size,H:=fun _=>none,y:=false } w vs ⟨rfl,rfl⟩ (Mem.nothing { e with S:=fun b=>b<w.heap.size } w fun b hb=>hb) (by rw [<- ha];exact AV.rebases _ _ _ (AV.lends_holds hm (fun b hb=>hb) _ _ hv)) (AV.scos_cv _ _ _)) ?_
 rintro en w' ⟨e1,B1,V0,r0,v,rfl,⟨i,y,rfl,hy,aq,rfl,rfl,rfl⟩,h1,ar,hr,dj⟩;have h2:Mem w.heap.size w e1 [] [] w':=⟨by simp,by simp,by simp,by simp,by simp,by simp,by simp,by simp,h1.ro,h1.below,h1.base,h1.bl,h1.hid.of rfl ⟨rfl,rfl⟩ (fun _ h=>.inl h) (fun i x h=>by grind) (fun _ _ _=>rfl) (by simp) (by simp)⟩
 obtain ⟨e',hρ,hS,nm,px,dl,gk⟩:=hm.beside h2 ar.ye e.S (fun b hb=>hb) (fun b hb=>.inl hb) (fun i x h=>by simp at h)
 rw [List.append_nil] at dl gk;obtain ⟨xs,a1,a2,a3⟩:=h1.vec i y hy aq;have ek:∀ g,aY (e1.hdr i y.ver)=some g->w.heap.size<=g:=fun g hg=>(a1.lt g hg).1
 obtain ⟨e2,m1,m2,m3,_⟩:=dl.fill2 hx aT y.T (e1.hdr i y.ver) y.es xs (by rw [Bj];exact a1.base hm.base) (CV.flat_vals eh a2) (by grind)
  (fun g hg=>by rw [hS];intro hc;have:=hm.ro g hc;have:=ek g hg;omega)
  (fun g hg l b hb bo hc=>by
   have:=hm.lt_box hb bo;grind)
  (fun g hg l z hz eu hc=>by
   obtain ⟨zs,c1,_⟩:=hm.vec l z hz eu;have hl:=(List.getElem?_eq_some_iff.1 hz).1;rw [nm l _ hl] at hc;have:=(c1.lt g hc).2;grind)
  (fun g hg=>by rw [hρ.2];exact hm.hid.new (ek g hg))
 have bk:=(List.getElem?_eq_some_iff.1 hx).1;refine ⟨e2,B,_,.own j (x.ver+1),v,rfl,⟨rfl,rfl,rfl⟩,m1,gk.trans m2,?_,?_⟩
 ·grind [AV.holds]
 simp_all
theorem xR {V:List Vec}:∀ {xs:List AV} {cs:List CV},dR V xs=some cs->AV.bnms xs=[]/\(∀ i∈AV.vnms xs,i<V.length)/\(∀ B,AV.lends B V xs=cs.map .cv)/\(AV.vnms xs=[]->xs=cs.map .cv)
 | [],cs,h=>by simp [dR] at h;subst h;simp [AV.bnms,AV.vnms,AV.lends]
 | x::xs,cs,h=>by
  simp only [dR] at h;split at h
  case h_2=>cases h
  rename_i c cs' h1 h2;cases h;obtain ⟨q1,q2,q3,q4⟩:=xR h2;cases x <;> simp [fB] at h1
  ·subst h1
   simp [AV.bnms,AV.bnm,AV.vnms,AV.vnm,AV.lends,AV.lend,q1,q3];exact ⟨q2,q4⟩
  ·rename_i i u
   have hh:fB V (.own i u)=some c:=by simpa [fB] using h1
   refine ⟨by simp [AV.bnms,AV.bnm,q1],?_,fun B=>by simp [AV.lends,AV.lend,hh,q3],by simp [AV.vnms,AV.vnm]⟩
   intro j hj;simp [AV.vnms,AV.vnm] at hj;rcases hj with rfl | hj
   ·split at h1
    ·rename_i v hv;exact (List.getElem?_eq_some_iff.1 hv).1
    ·cases h1
   ·exact q2 j hj
variable {ts:Array TypeId}
theorem vU {F:Fence} {n:Nat} {lo:List Oper} (hF:Free F) {o:Oper} {s:St} {A:AV} {B1:List Box} {V1:List Vec} {x:Operand} {args:Array Operand} {caps:List AV} (hw:Wants lo o s true)
  (aa:o.op=.call { callee:=.value x,args,argTypes:=ts }) (hx:dA (s.ev x)=some (f,caps))
  (da:Ent P f)
  (h:CallP P f (args.toList.map s.ev++caps) s.B s.V fun r B' V'=>r=A/\B'=B1/\V'=V1):SM F n P lo o s A B1 V1:=by
 intro n0 w0 e a w Q K hr hk;rw [if_pos (hw s (fun _ _=>rfl) _ _ _ _ _ hr)]
 have cr:=hr.ev x
 obtain ⟨cvs,hf,i9,bc⟩:∃ cvs:Array Value,a.eval x=.func (.func f) #[] cvs/\AV.all e w (kss s.V) caps cvs.toList/\AV.scos s.B.length (vers s.V) caps:=by
  unfold dA at hx;split at hx
  ·rename_i g cs hg
   obtain ⟨rfl,rfl⟩:=hx;rw [hg] at cr;obtain ⟨⟨vs,h1,h2⟩,_⟩:=cr;exact ⟨vs,h1,AV.all.of_vals h2,AV.scos_cv _ _ _⟩
  ·rename_i g cs hg
   split at hx
   ·cases hx
   ·rename_i ia
    obtain ⟨rfl,rfl⟩:=hx;rw [hg] at cr;obtain ⟨⟨vs,h1,h2⟩,h3⟩:=cr;rw [eq_false_of_ne_true ia] at h1;exact ⟨vs,h1,h2,h3⟩
  grind
 refine yV aa hf da fun w₁ hw₁=>?_
 obtain ⟨cf,ar⟩:=hr.rely hw₁;have b8:=cf.evs args.toList
 refine CallsCo.mono (h F.plain (n - 1) hF.plain rfl n0 w0 e w₁ (#[]++args.map a.eval++cvs) cf.mem (by simpa using b8.1.append (AV.all.mono ar _ _ bc i9)) (by
  grind [AV.scos_iff])) ?_
 rintro en w' ⟨e',B',V',r,v,rfl,⟨rfl,rfl,rfl⟩,hm,mq,kz,dj⟩;exact ⟨v,rfl,hk e' v w' hm (ar.trans mq) kz dj⟩
theorem aA2 {F:Fence} {n:Nat} {lo:List Oper} {vb:Nat->Prop} (hF:Free F) {o:Oper} {s:St} {x:Operand} {args:Array Operand} {cs:List CV} {z:Vec}
  (aa:o.op=.call { callee:=.value x,args,argTypes:=ts }) (hw:Wants lo o s true) (hx:dA (s.ev x)=some (f,[]))
  (da:dS P f=true) (C5:dR s.V (args.toList.map s.ev)=some cs) (eh:AV.vnms (args.toList.map s.ev)=[]\/es.flatten.all CV.flat=true) (h:sT P f (cs.map .cv) T k es) (hz:s.V[j]? = some z) (aT:z.live=false) (Hg:z.k=k) (hj:¬vb j) :
  RF F n P lo vb ⟨[],none,none,some j,AV.vnms (args.toList.map s.ev),[],false⟩ o s (.own j (z.ver+1)) ⟨none,none,some (j,⟨true,T,z.k,z.ver+1,es⟩)⟩:=by
 obtain ⟨q1,q2,q3,q4⟩:=xR C5;refine ⟨by simp,(fun i x h=>by cases h),(fun h=>by cases h),?_,fun s' ha=>?_⟩
 ·grind
 ·have ay:=lF ha.sl
  have ap:dA (s'.ev x)=some (f,[]):=by grind [Op.operands,Call.operands]
  have fx:args.toList.map s'.ev=args.toList.map s.ev:=List.map_congr_left fun y hy=>ay y (by grind [Op.operands,Call.operands])
  have py:s'.V[j]? = some z:=by rw [ha.Vx j rfl];exact hz
  have e1:Eff.B ⟨none,none,some (j,(⟨true,T,z.k,z.ver+1,es⟩:Vec))⟩ s'.B=s'.B:=by simp [Eff.B]
  rw [e1];refine vU hF (hw.agr ha.sl) aa ap (enters da) ?_;rw [fx,List.append_nil];rcases eh with hn | eh
  ·rw [q4 hn]
   exact CallP.fill h (AV.scos_cv _ _ _) s'.B s'.V py aT Hg
  ·refine CallP.fillL h eh s'.B s'.V ?_ py aT Hg
   rw [<- q3 s.B];exact AV.lends_agr _ (fun i hi=>by rw [q1] at hi;cases hi) (fun i hi=>ha.Vr i hi) (fun i hi=>by rw [q1] at hi;simp [bvs] at hi)
end
inductive Sh1 where
 | lf (l:Lf)
 | own (i:Nat)
inductive Sh where
 | lf (l:Lf)
 | agg (ls:List Lf)
 | ptr (i o:Nat)
 | own (i:Nat)
 | fnp (f:FuncId) (ps:List Nat)
 | tp (b:Bool) (hs:List Sh1)
 | any
def FH:List AV->Option (List Nat)
 | []=>some []
 | .ptr i 0::xs=>(FH xs).map (i::·)
 | _::_=>none
def Sh1.ext (V:List Vec) (sh:Sh1) (x:AV):Option (List CV):=
 match sh,x with
 | .lf l,.cv c=>if l.ok c=true then some [c] else none
 | .own i,.own i' g=>match V[i]? with
  | some v=>if (i == i'&&v.live&&v.ver == g)=true then some [] else none
  | none=>none
 | _,_=>none
def Sh1.exts (V:List Vec):List Sh1->List AV->Option (List CV)
 | [],[]=>some []
 | h::hs,x::xs=>match h.ext V x,Sh1.exts V hs xs with
  | some a,some b=>some (a++b)
  | _,_=>none
 | _,_=>none
def Sh1.n:Sh1->Nat
 | .lf _=>1
 | .own _=>0
def Sh1.ns:List Sh1->Nat
 | []=>0
 | h::hs=>h.n+Sh1.ns hs
def Sh1.bld (sh:Sh1) (vs:List CV) (k:Nat):AV:=match sh with
 | .lf l=>l.av (vs.getD k dC)
 | .own i=>.own i 0
def Sh1.blds:List Sh1->List CV->Nat->List AV
 | [],_,_=>[]
 | h::hs,vs,k=>h.bld vs k::Sh1.blds hs vs (k+h.n)
def Sh1.okS (nv:Nat) (vx:List Nat):Sh1->Bool
 | .lf _=>true
 | .own i=>decide (i<nv)&&vx.contains i
def Sh.ext (V:List Vec) (sh:Sh) (x:AV):Option (List CV):=
 match sh,x with
 | .lf l,.cv c=>if l.ok c=true then some [c] else none
 | .agg ls,.agg xs=>match dX xs with
  | some cs=>if (oks ls cs 0&&ls.length == cs.length)=true then some cs else none
  | none=>none
 | .ptr i o,.ptr i' o'=>if i=i'/\o=o' then some [] else none
 | .own i,.own i' g=>match V[i]? with
  | some v=>if (i == i'&&v.live&&v.ver == g)=true then some [] else none
  | none=>none
 | .fnp f ps,.fn f' xs=>if f=f'/\FH xs=some ps then some [] else none
 | .tp true hs,.tup xs=>Sh1.exts V hs xs
 | .tp false hs,.agg xs=>Sh1.exts V hs xs
 | .any,_=>some []
 | _,_=>none
def Sh.n:Sh->Nat
 | .lf _=>1
 | .agg ls=>ls.length
 | .tp _ hs=>Sh1.ns hs
 | _=>0
def Sh.bld (sh:Sh) (vs:List CV) (k:Nat):AV:=
 match sh with
 | .lf l=>l.av (vs.getD k dC)
 | .agg ls=>.agg (avs ls vs k)
 | .ptr i o=>.ptr i o
 | .own i=>.own i 0
 | .fnp f ps=>.fn f (ps.map fun i=>.ptr i 0)
 | .tp true hs=>.tup (Sh1.blds hs vs k)
 | .tp false hs=>.agg (Sh1.blds hs vs k)
 | .any=>.any
def Sh.exts (V:List Vec):List Sh->List AV->Option (List CV)
 | [],[]=>some []
 | h::hs,x::xs=>match h.ext V x,Sh.exts V hs xs with
  | some a,some b=>some (a++b)
  | _,_=>none
 | _,_=>none
def Sh.ns:List Sh->Nat
 | []=>0
 | h::hs=>h.n+Sh.ns hs
def Sh.blds:List Sh->List CV->Nat->List AV
 | [],_,_=>[]
 | h::hs,vs,k=>h.bld vs k::Sh.blds hs vs (k+h.n)
structure Hint where
 keep:List Nat
 vars:List (Nat×Sh)
 bx:List (Nat×TypeId×List Sh)
 vx:List (Nat×TypeId×Nat×Option Nat)
def Hint.vxu (h:Hint):List Nat:=(h.vx.filter fun p=>p.2.2.2.isNone).map (·.1)
mutual
def AV.noV (vx:List Nat):AV->Bool
 | .own i _=>!vx.contains i
 | .opt i _ _ _=>!vx.contains i
 | .agg xs=>AV.noVs vx xs
 | .tup xs=>AV.noVs vx xs
 | .fn _ xs=>AV.noVs vx xs
 | .gd _ x=>AV.noV vx x
 | _=>true
def AV.noVs (vx:List Nat):List AV->Bool
 | []=>true
 | x::xs=>AV.noV vx x&&AV.noVs vx xs
end
def DA (s:SS):List (Nat×TypeId×List Sh)->Option (List CV)
 | []=>some []
 | (i,T,hs)::r=>match s.B[i]? with
  | some b=>if (b.live&&b.T == T)=true then
    match Sh.exts s.V hs b.cs,DA s r with
    | some a,some c=>some (a++c)
    | _,_=>none
   else none
  | none=>none
def aEX (g:Option Nat) (ver:Nat):Bool:=match g with
 | some g=>ver == g
 | none=>true
def liveT (T:TypeId):Bool:=!(T == ghT)
def MH (s:SS):List (Nat×TypeId×Nat×Option Nat)->Option (List CV)
 | []=>some []
 | (i,T,k,g)::r=>match s.V[i]? with
  | some v=>if (v.live == liveT T&&v.T == T&&v.k == k&&aEX g v.ver)=true then (MH s r).map (.row k v.es::·) else none
  | none=>none
def iK (h:Hint) (s:SS):Option (List CV):=
 match Sh.exts s.V (h.vars.map (·.2)) (h.vars.map fun p=>s.get p.1),DA s h.bx,MH s h.vx with
 | some a,some b,some c=>some (a++(b++c))
 | _,_,_=>none
def HV:List (Nat×Sh)->List CV->Nat->List (Nat×AV)
 | [],_,_=>[]
 | (d,h)::r,vs,k=>(d,h.bld vs k)::HV r vs (k+h.n)
def FI:List (Nat×TypeId×List Sh)->Nat->List CV->Nat->Option Box
 | [],_,_,_=>none
 | (j,T,hs)::r,i,vs,k=>if i=j then some ⟨true,T,Sh.blds hs vs k⟩ else FI r i vs (k+Sh.ns hs)
def nB':List (Nat×TypeId×List Sh)->Nat
 | []=>0
 | (_,_,hs)::r=>Sh.ns hs+nB' r
def FJ:List (Nat×TypeId×Nat×Option Nat)->Nat->List CV->Nat->Option Vec
 | [],_,_,_=>none
 | (j,T,k,g)::r,i,vs,p=>if i=j then some ⟨liveT T,T,k,g.getD 0,cR (vs.getD p dC)⟩ else FJ r i vs (p+1)
def fY (n:Nat) (l:List Nat):Nat:=l.countP fun i=>decide (n<=i)
def aA3 (h:Hint) (s:SS) (vs:List CV):List Box:=
 (List.range (s.B.length+fY s.B.length (h.bx.map (·.1)))).map fun i =>
  match FI h.bx i vs (Sh.ns (h.vars.map (·.2))) with
  | some b=>b
  | none=>s.B.getD i ⟨false,0,[]⟩
def VN (h:Hint) (s:SS) (vs:List CV):List Vec:=
 (List.range (s.V.length+fY s.V.length (h.vx.map (·.1)))).map fun i =>
  match FJ h.vx i vs (Sh.ns (h.vars.map (·.2))+nB' h.bx) with
  | some v=>v
  | none=>s.V.getD i ⟨false,0,0,0,[]⟩
def bF (h:Hint) (lk:Lk) (s:SS) (vs:List CV):SS:=
 ⟨s.n,(h.keep++lk.t).map (fun d=>(d,s.get d))++HV h.vars vs 0,aA3 h s vs,VN h s vs⟩
def dD (h:Hint) (lk:Lk) (s:SS):Lk:=
 ⟨h.keep++lk.t,(List.range s.B.length).filter (fun i=>!(h.bx.map (·.1)).contains i),(List.range s.V.length).filter (fun i=>!(h.vx.map (·.1)).contains i),lk.o⟩
def fM (h:Hint) (lk:Lk) (s:SS):Bool:=
 (h.keep++lk.t).all (fun d=>(s.get d).noV h.vxu) &&
 (List.range s.B.length).all (fun i=>(h.bx.map (·.1)).contains i || AV.noVs h.vxu ((s.B.getD i ⟨false,0,[]⟩).cs)) &&
 lk.b.all (fun i=>!(h.bx.map (·.1)).contains i)&&(lk.v.all (fun i=>!(h.vx.map (·.1)).contains i)&&lk.o.all (fun i=>!h.vxu.contains i)) &&
 (h.bx.map (·.1)).all (fun i=>decide (i<s.B.length+fY s.B.length (h.bx.map (·.1))))&&(h.vx.map (·.1)).all (fun i=>decide (i<s.V.length+fY s.V.length (h.vx.map (·.1)))) &&
 h.vx.all (fun p=>p.2.2.2.isNone || !h.vxu.contains p.1) &&
 (List.range (fY s.B.length (h.bx.map (·.1)))).all (fun j=>(h.bx.map (·.1)).contains (s.B.length+j))&&(List.range (fY s.V.length (h.vx.map (·.1)))).all (fun j=>(h.vx.map (·.1)).contains (s.V.length+j)) &&
 (let nb:=s.B.length+fY s.B.length (h.bx.map (·.1));let nv:=s.V.length+fY s.V.length (h.vx.map (·.1));
  let zC:Sh->Bool:=fun sh=>match sh with
   | .ptr i _=>decide (i<nb)
   | .own i=>decide (i<nv)&&h.vxu.contains i
   | .tp _ hs=>hs.all (Sh1.okS nv h.vxu)
   | .fnp _ ps=>ps.all fun i=>decide (i<nb)
   | _=>true
  h.vars.all (fun p=>zC p.2)&&h.bx.all (fun p=>p.2.2.all zC))
structure Wk (st st1:St):Prop where
 t:AV.les st.t st1.t
 Bl:st1.B.length=st.B.length
 B:∀ (i:Nat) (b1:Box),st1.B[i]? = some b1->∃ b,st.B[i]? = some b/\(b1.live=true->b.live=true/\b1.T=b.T/\AV.les b.cs b1.cs)
 V:st1.V=st.V
 sct:∀ nb vs,AV.scos nb vs st.t->AV.scos nb vs st1.t
 scB:∀ nb vs (i:Nat) (b b1:Box),st.B[i]? = some b->st1.B[i]? = some b1->AV.scos nb vs b.cs->AV.scos nb vs b1.cs
variable {st:St} {a:Act}
theorem Wk.weak {n0:Nat} {w0:World} {e:Env} {st1:St} {w:World} (h:Wk st st1) (hr:Rel n0 w0 e st a w):Weak st st1:=by
 refine ⟨h.t,h.B,fun i v1 hv=>⟨v1,by rw [<- h.V];exact hv,rfl,rfl,fun _=>rfl⟩,?_,?_⟩
 ·rw [h.Bl,h.V];exact h.sct _ _ hr.sc
 ·intro i b1 co
  obtain ⟨b,hb,_⟩:=h.B i b1 co;rw [h.Bl,h.V];exact h.scB _ _ i b b1 hb co (hr.mem.boxsc i b hb)
theorem Wk.refl (st:St):Wk st st:=
 ⟨AV.les_refl _,rfl,fun i b1 hb=>⟨b1,hb,fun hl=>⟨hl,rfl,AV.les_refl _⟩⟩,rfl,fun _ _ h=>h,fun _ _ i b b1 h1 h2 h3=>by grind⟩
section
variable {F:Fence} {n:Nat} {P:Program} [C:Co P]
variable {Q:Exit->St->Prop}
theorem MJ {c:Code} {st:St} (h:W F n P c st fun ex st'=>∃ st1,Wk st' st1/\Q ex st1):W F n P c st Q:=by
 intro n0 w0 e a w Qr hr hk;refine h n0 w0 e a w Qr hr ?_;rintro ex e' st' a' w' ⟨st1,hw,hq⟩ af bq hx;have jd:=hw.weak af;refine hk ex e' st1 a' w' hq (af.weak jd) bq ?_;exact hx.weak jd (by rw [hw.Bl];exact hx.nB) (by rw [hw.V];simpa using hx.nV)
theorem PJ {c:Code} {st st1:St} (hw:Wk st st1) (h:W F n P c st1 Q):W F n P c st Q:=by
 intro n0 w0 e a w Qr hr hk;have jd:=hw.weak hr;have hx:cL e st w e st1.B st1.V w:=(Ext.refl e w st.B.length (vers st.V) (kss st.V)).weak jd (by rw [hw.Bl];omega) (by rw [hw.V];simp)
 exact h n0 w0 e a w Qr (hr.weak jd) fun x e' st' a' w' hq af bq ap=>hk x e' st' a' w' hq af bq (hx.trans ap)
end
def LeS (x y:AV):Prop:=AV.le x y/\∀ nb vs,AV.sco nb vs x->AV.sco nb vs y
theorem LeS.refl (x:AV):LeS x x:=⟨AV.le_refl _,fun _ _ h=>h⟩
theorem LeS.any (x:AV):LeS x .any:=⟨AV.le_any _,fun _ _ _=>by simp⟩
theorem LeS.of_cv {x:AV} {c:CV} (h:AV.le x (.cv c)):LeS x (.cv c):=⟨h,fun _ _ _=>by simp⟩
def Win (vs:List CV) (k:Nat) (a:List CV):Prop:=∀ j,j<a.length->vs.getD (k+j) dC=a.getD j dC
variable {k:Nat}
theorem Win.left {vs a b:List CV} (h:Win vs k (a++b)):Win vs k a:=by
 intro j hj;rw [h j (by grind)]
 grind
theorem Win.right {vs a b:List CV} (h:Win vs k (a++b)):Win vs (k+a.length) b:=by
 intro j hj;have:=h (a.length+j) (by grind)
 grind
mutual
theorem AV.cz_noV {m m':Emb} {vx:List Nat} {nb nv:Nat} (hb:∀ i,i<nb->m.fb i=m'.fb i) (hv:∀ i,i<nv->m.fv i=m'.fv i) (ho:∀ i,i<nv->vx.contains i=false->m.fo i=m'.fo i) :
  ∀ (x:AV),AV.inn nb nv x=true->AV.noV vx x=true->x.cz m=x.cz m'
 | .any,_,_=>by rfl
 | .cv _,_,_=>by rfl
 | .ptr i _,h,_=>by simp_all [AV.inn,AV.cz]
 | .own i _,h,h'=>by simp_all [AV.inn,AV.noV,AV.cz]
 | .opt i _ _ _,h,h'=>by simp_all [AV.inn,AV.noV,AV.cz]
 | .agg xs,h,h'=>by simp only [AV.inn,AV.noV] at h h';simp only [AV.cz,AV.czs_noV hb hv ho xs h h']
 | .tup xs,h,h'=>by simp only [AV.inn,AV.noV] at h h';simp only [AV.cz,AV.czs_noV hb hv ho xs h h']
 | .fn _ xs,h,h'=>by simp only [AV.inn,AV.noV] at h h';simp only [AV.cz,AV.czs_noV hb hv ho xs h h']
 | .gd [] x,h,h'=>by simp only [AV.inn,AV.noV] at h h';simp only [AV.cz,AV.cz_noV hb hv ho x h h']
 | .gd (_::_) x,h,h'=>by simp only [AV.inn,AV.noV] at h h';simp only [AV.cz,AV.cz_noV hb hv ho x h h']
theorem AV.czs_noV {m m':Emb} {vx:List Nat} {nb nv:Nat} (hb:∀ i,i<nb->m.fb i=m'.fb i) (hv:∀ i,i<nv->m.fv i=m'.fv i) (ho:∀ i,i<nv->vx.contains i=false->m.fo i=m'.fo i) :
  ∀ (xs:List AV),AV.inns nb nv xs=true->AV.noVs vx xs=true->AV.czs m xs=AV.czs m' xs
 | [],_,_=>by rfl
 | x::xs,h,h'=>by
  simp [AV.inns,AV.noVs] at h h';simp only [AV.czs,AV.cz_noV hb hv ho x h.1 h'.1,AV.czs_noV hb hv ho xs h.2 h'.2]
end
def zC (nb nv:Nat) (vx:List Nat) (sh:Sh):Bool:=match sh with
 | .ptr i _=>decide (i<nb)
 | .own i=>decide (i<nv)&&vx.contains i
 | .tp _ hs=>hs.all (Sh1.okS nv vx)
 | .fnp _ ps=>ps.all fun i=>decide (i<nb)
 | _=>true
theorem JR:∀ {xs:List AV} {ps:List Nat},FH xs=some ps->xs=ps.map fun i=>.ptr i 0
 | [],ps,h=>by grind [FH]
 | x::xs,ps,h=>by
  unfold FH at h;split at h
  ·rename_i h1;cases h1
  ·rename_i i xs' h1
   cases h1;simp only [Option.map_eq_some_iff] at h;obtain ⟨q,h2,rfl⟩:=h;rw [JR h2];rfl
  ·cases h
section
variable {m m1:Emb} {nb nv:Nat} {vx:List Nat} {V:List Vec}
structure Reb (m m1:Emb) (nb nv:Nat) (vx:List Nat) (V:List Vec):Prop where
 b:∀ i,i<nb->m1.fb i=m.fb i
 v:∀ i,i<nv->m1.fv i=m.fv i
 o:∀ i,i<nv->vx.contains i=false->m1.fo i=m.fo i
 x:∀ i v,i<nv->vx.contains i=true->V[i]? = some v->m1.fo i=m.fo i+v.ver
variable {x:AV} {a:List CV}
theorem Sh1.ext_spec (hr:Reb m m1 nb nv vx V) {sh:Sh1} {vs:List CV} {k:Nat} (h:sh.ext V x=some a) (ho:sh.okS nv vx=true) (hw:Win vs k a) :
  a.length=sh.n/\LeS (x.cz m) ((sh.bld vs k).cz m1)/\AV.inn nb nv (sh.bld vs k)=true:=by
 unfold Sh1.ext at h;split at h
 ·rename_i l c
  split at h
  ·rename_i bg
   cases h;have:=hw 0 (by simp)
   simp at this;obtain ⟨d,hd⟩:=l.av_cv (vs.getD k dC);refine ⟨rfl,?_,by simp only [Sh1.bld,hd];rfl⟩
   simp only [Sh1.bld,hd];refine LeS.of_cv ?_;rw [<- hd];simp [this];exact Lf.le bg
  grind
 ·rename_i i i' g
  split at h
  ·rename_i v hv
   split at h
   ·rename_i hc
    cases h;simp at hc;obtain ⟨⟨rfl,_⟩,rfl⟩:=hc;simp only [Sh1.okS,Bool.and_eq_true,decide_eq_true_eq] at ho;refine ⟨rfl,?_,by grind [Sh1.bld,AV.inn]⟩
    simp [Sh1.bld,AV.cz,hr.v i ho.1,hr.x i v ho.1 ho.2 hv];exact LeS.refl _
   grind
  grind
 grind
theorem Sh1.exts_spec (hr:Reb m m1 nb nv vx V):∀ {hs:List Sh1} {xs:List AV} {a vs:List CV} {k:Nat},Sh1.exts V hs xs=some a->hs.all (Sh1.okS nv vx)=true->Win vs k a ->
  a.length=Sh1.ns hs/\AV.les (AV.czs m xs) (AV.czs m1 (Sh1.blds hs vs k))/\AV.inns nb nv (Sh1.blds hs vs k)=true/\(∀ nB ws,AV.scos nB ws (AV.czs m xs)->AV.scos nB ws (AV.czs m1 (Sh1.blds hs vs k)))
 | [],[],a,vs,k,h,_,_=>by
  simp [Sh1.exts] at h;subst h;exact ⟨rfl,.nil,rfl,fun _ _ h=>h⟩
 | h::hs,x::xs,a,vs,k,he,ho,hw=>by
  simp [Sh1.exts] at he;simp only [List.all_cons,Bool.and_eq_true] at ho;split at he
  ·rename_i a1 a2 h1 h2
   cases he;obtain ⟨p1,p2,p3⟩:=Sh1.ext_spec hr h1 ho.1 hw.left;have er:=hw.right;rw [p1] at er;obtain ⟨q0,q1,q2,q3⟩:=Sh1.exts_spec hr h2 ho.2 er;simp only [Sh1.blds,AV.inns,p3,q2];exact ⟨by grind [Sh1.ns],.cons p2.1 q1,rfl,fun nB ws hs=>⟨p2.2 _ _ hs.1,q3 _ _ hs.2⟩⟩
  grind
 | [],_::_,_,_,_,h,_,_=>by grind [Sh1.exts]
 | _::_,[],_,_,_,h,_,_=>by grind [Sh1.exts]
theorem Sh1.exts_len:∀ {hs:List Sh1} {xs:List AV} {a:List CV},Sh1.exts V hs xs=some a->a.length=Sh1.ns hs
 | [],[],a,h=>by simp [Sh1.exts] at h;subst h;rfl
 | h::hs,x::xs,a,he=>by
  simp only [Sh1.exts] at he;split at he
  ·rename_i a1 a2 h1 h2
   cases he
   have:a1.length=h.n:=by
    unfold Sh1.ext at h1;split at h1
    ·split at h1
     ·cases h1;rfl
     ·cases h1
    ·split at h1
     ·split at h1
      ·cases h1;rfl
      ·cases h1
     ·cases h1
    ·cases h1
   simp [Sh1.ns,this,Sh1.exts_len h2]
  ·cases he
 | [],_::_,_,h=>by grind [Sh1.exts]
 | _::_,[],_,h=>by grind [Sh1.exts]
theorem Sh.ext_spec (hr:Reb m m1 nb nv vx V) {sh:Sh} {vs:List CV} {k:Nat} (h:sh.ext V x=some a) (ho:zC nb nv vx sh=true) (hw:Win vs k a) :
  a.length=sh.n/\LeS (x.cz m) ((sh.bld vs k).cz m1)/\AV.inn nb nv (sh.bld vs k)=true:=by
 unfold Sh.ext at h;split at h
 ·rename_i l c
  split at h
  ·rename_i bg
   cases h;have:=hw 0 (by simp)
   simp at this;obtain ⟨d,hd⟩:=l.av_cv (vs.getD k dC);refine ⟨rfl,?_,by simp only [Sh.bld,hd];rfl⟩
   simp only [Sh.bld,hd];refine LeS.of_cv ?_;rw [<- hd];simp [this];exact Lf.le bg
  grind
 ·rename_i ls xs
  split at h
  ·rename_i cs bc
   split at h
   ·rename_i bg
    cases h;simp at bg;have bt:=DN bg.1;simp [bg.2] at bt;have he:avs ls vs k=avs ls a 0:=avs_cut ls vs a k 0 fun j hj=>by rw [Nat.zero_add];exact hw j (by omega)
    obtain ⟨p1,p2⟩:=avs_pl ls a 0 m1 nb nv;refine ⟨by grind [Sh.n],?_,by grind [Sh.bld,AV.inn]⟩
    simp [Sh.bld,he,AV.cz,p1,AV.czs_eq,eG bc];refine ⟨AV.le_agg bt,fun _ _ _=>?_⟩
    have:=AV.sco_closed (vs:=by omega) (nB:=by omega) (.agg (avs ls a 0)) (by exact avs_closed _ _ _)
    omega
   grind
  grind
 ·rename_i i o i' o'
  split at h
  ·rename_i hc
   obtain ⟨rfl,rfl⟩:=hc;cases h;simp [zC] at ho;exact ⟨rfl,by simp [Sh.bld,AV.cz,hr.b i ho];exact LeS.refl _,by grind [Sh.bld,AV.inn]⟩
  grind
 ·rename_i i i' g
  split at h
  ·rename_i v hv
   split at h
   ·rename_i hc
    cases h;simp at hc;obtain ⟨⟨rfl,_⟩,rfl⟩:=hc;simp only [zC,Bool.and_eq_true,decide_eq_true_eq] at ho;refine ⟨rfl,?_,by grind [Sh.bld,AV.inn]⟩
    simp [Sh.bld,AV.cz,hr.v i ho.1,hr.x i v ho.1 ho.2 hv];exact LeS.refl _
   grind
  grind
 ·rename_i f ps f' xs
  split at h
  ·rename_i hc
   obtain ⟨rfl,hp⟩:=hc;cases h;simp [zC] at ho;rw [JR hp];refine ⟨rfl,?_,?_⟩
   ·simp [Sh.bld,AV.cz,AV.czs_eq]
    have:(ps.map (AV.cz m∘fun i=>.ptr i 0))=ps.map (AV.cz m1∘fun i=>.ptr i 0):=List.map_congr_left fun i hi=>by simp [AV.cz,hr.b i (ho i hi)]
    rw [this];exact LeS.refl _
   grind [Sh.bld,AV.inn,AV.inns_eq]
  grind
 ·obtain ⟨q0,q1,q2,q3⟩:=Sh1.exts_spec (m:=m) (m1:=m1) (nb:=nb) (nv:=nv) (vx:=vx) hr h (by grind [zC]) hw
  refine ⟨q0,?_,by grind [Sh.bld,AV.inn]⟩
  simp [Sh.bld,AV.cz];refine ⟨fun e w ks u hu=>?_,fun nB ws hs=>?_⟩
  ·obtain ⟨us,h1,h2⟩:=hu
   exact ⟨us,h1,q1.all h2⟩
  ·simp_all
 ·obtain ⟨q0,q1,q2,q3⟩:=Sh1.exts_spec (m:=m) (m1:=m1) (nb:=nb) (nv:=nv) (vx:=vx) hr h (by grind [zC]) hw
  refine ⟨q0,?_,by grind [Sh.bld,AV.inn]⟩
  simp only [Sh.bld,AV.cz];exact ⟨AV.le_agg q1,fun nB ws hs=>by simp_all⟩
 ·cases h
  exact ⟨rfl,by exact LeS.any _,rfl⟩
 grind
theorem Sh.exts_len:∀ {hs:List Sh} {xs:List AV} {a:List CV},Sh.exts V hs xs=some a->(∀ sh∈hs,∀ x a,sh.ext V x=some a->a.length=sh.n)->a.length=Sh.ns hs
 | [],[],a,h,_=>by simp [Sh.exts] at h;subst h;rfl
 | h::hs,x::xs,a,he,hl=>by
  simp only [Sh.exts] at he;split at he
  ·rename_i a1 a2 h1 h2
   cases he;simp [Sh.ns,hl h (by simp) x a1 h1,Sh.exts_len h2 fun sh s9=>hl sh (by simp [s9])]
  ·cases he
 | [],_::_,_,h,_=>by grind [Sh.exts]
 | _::_,[],_,h,_=>by grind [Sh.exts]
theorem Sh.ext_len {sh:Sh} (h:sh.ext V x=some a):a.length=sh.n:=by
 unfold Sh.ext at h;split at h
 ·split at h
  ·cases h;rfl
  grind
 ·grind [Sh.n]
 ·split at h
  ·cases h;rfl
  grind
 ·split at h
  ·split at h
   ·cases h;rfl
   grind
  grind
 ·split at h
  ·cases h;rfl
  grind
 ·exact Sh1.exts_len h
 ·exact Sh1.exts_len h
 ·cases h;rfl
 grind
theorem Sh.exts_spec (hr:Reb m m1 nb nv vx V):∀ {hs:List Sh} {xs:List AV} {a vs:List CV} {k:Nat},Sh.exts V hs xs=some a->hs.all (zC nb nv vx)=true->Win vs k a ->
  AV.les (AV.czs m xs) (AV.czs m1 (Sh.blds hs vs k))/\AV.inns nb nv (Sh.blds hs vs k)=true/\(∀ nB ws,AV.scos nB ws (AV.czs m xs)->AV.scos nB ws (AV.czs m1 (Sh.blds hs vs k)))
 | [],[],a,vs,k,h,_,_=>by exact ⟨.nil,rfl,fun _ _ h=>h⟩
 | h::hs,x::xs,a,vs,k,he,ho,hw=>by
  simp [Sh.exts] at he;simp only [List.all_cons,Bool.and_eq_true] at ho;split at he
  ·rename_i a1 a2 h1 h2
   cases he;obtain ⟨p1,p2,p3⟩:=Sh.ext_spec hr h1 ho.1 hw.left;have er:=hw.right;rw [p1] at er;obtain ⟨q1,q2,q3⟩:=Sh.exts_spec hr h2 ho.2 er;simp only [Sh.blds,AV.inns,p3,q2];exact ⟨.cons p2.1 q1,rfl,fun nB ws hs=>⟨p2.2 _ _ hs.1,q3 _ _ hs.2⟩⟩
  grind
 | [],_::_,_,_,_,h,_,_=>by grind [Sh.exts]
 | _::_,[],_,_,_,h,_,_=>by grind [Sh.exts]
theorem AW (hr:Reb m m1 nb nv vx V) {s':SS}:∀ {vars:List (Nat×Sh)} {a vs:List CV} {k:Nat},Sh.exts V (vars.map (·.2)) (vars.map fun p=>s'.get p.1)=some a->vars.all (fun p=>zC nb nv vx p.2)=true->Win vs k a ->
  (∀ d,LeS ((s'.get d).cz m) ((lk (HV vars vs k) d).cz m1))/\(∀ p∈HV vars vs k,AV.inn nb nv p.2=true)
 | [],a,vs,k,_,_,_=>⟨fun d=>by exact LeS.any _,by simp [HV]⟩
 | (d0,h)::vars,a,vs,k,he,ho,hw=>by
  simp [Sh.exts] at he;simp only [List.all_cons,Bool.and_eq_true] at ho;split at he
  ·rename_i a1 a2 h1 h2
   cases he;obtain ⟨p1,p2,p3⟩:=Sh.ext_spec hr h1 ho.1 hw.left;have er:=hw.right;obtain ⟨q1,q2⟩:=AW hr h2 ho.2 er;grind [HV,vQ]
  grind
theorem AX:∀ {bx:List (Nat×TypeId×List Sh)} {i:Nat} {vs:List CV} {k:Nat},FI bx i vs k=none↔(bx.map (·.1)).contains i=false
 | [],i,vs,k=>by simp [FI]
 | (j,T,hs)::r,i,vs,k=>by
  simp only [FI,List.map_cons,List.contains_cons,Bool.or_eq_false_iff,beq_eq_false_iff_ne];split
  ·rename_i h;simp [h]
  ·rename_i h;rw [AX];simp [h]
theorem JS (hr:Reb m m1 nb nv vx V) {s':SS} (hV:s'.V=V):∀ {bx:List (Nat×TypeId×List Sh)} {a vs:List CV} {k i:Nat} {b:Box},DA s' bx=some a->bx.all (fun p=>p.2.2.all (zC nb nv vx))=true->Win vs k a->FI bx i vs k=some b ->
  ∃ b',s'.B[i]? = some b'/\b.live=true/\b'.live=true/\b.T=b'.T/\AV.les (AV.czs m b'.cs) (AV.czs m1 b.cs)/\AV.inns nb nv b.cs=true/\(∀ nB ws,AV.scos nB ws (AV.czs m b'.cs)->AV.scos nB ws (AV.czs m1 b.cs))
 | [],a,vs,k,i,b,_,_,_,h=>by grind [FI]
 | (j,T,hs)::r,a,vs,k,i,b,he,ho,hw,hb=>by
  simp [DA] at he;simp only [List.all_cons,Bool.and_eq_true] at ho;split at he
  ·split at he
   ·split at he
    ·rename_i a1 a2 h1 h2
     cases he;rw [hV] at h1;have hl:=Sh.exts_len h1 fun sh _ x a h=>Sh.ext_len h
     simp [FI] at hb;split at hb
     ·obtain ⟨q1,q2,q3⟩:=Sh.exts_spec hr h1 ho.1 hw.left
      grind
     ·have er:=hw.right
      rw [hl] at er;exact JS hr hV h2 ho.2 er hb
    grind
   grind
  grind
theorem PK {s':SS}:∀ {bx:List (Nat×TypeId×List Sh)} {a:List CV},DA s' bx=some a->a.length=nB' bx
 | [],a,h=>by simp [DA] at h;subst h;rfl
 | (j,T,hs)::r,a,he=>by
  simp only [DA] at he;split at he
  ·split at he
   ·split at he
    ·rename_i a1 a2 h1 h2
     cases he;simp [nB',Sh.exts_len h1 fun sh _ x a h=>Sh.ext_len h,PK h2]
    ·cases he
   ·cases he
  ·cases he
theorem PL {s':SS}:∀ {bx:List (Nat×TypeId×List Sh)} {a:List CV},DA s' bx=some a->∀ i∈bx.map (·.1),∃ b,s'.B[i]? = some b
 | [],a,h,i,hi=>by grind
 | (j,T,hs)::r,a,he,i,hi=>by
  simp [DA] at he;split at he
  ·split at he
   ·split at he
    ·rename_i a1 a2 h1 h2
     simp only [List.map_cons,List.mem_cons] at hi;rcases hi with rfl | hi
     ·grind
     ·exact PL h2 i hi
    grind
   grind
  grind
theorem AY:∀ {vxs:List (Nat×TypeId×Nat×Option Nat)} {i:Nat} {vs:List CV} {k:Nat},FJ vxs i vs k=none↔(vxs.map (·.1)).contains i=false
 | [],i,vs,k=>by simp [FJ]
 | (j,T,q,g)::r,i,vs,k=>by
  simp only [FJ,List.map_cons,List.contains_cons,Bool.or_eq_false_iff,beq_eq_false_iff_ne];split
  ·rename_i h;simp [h]
  ·rename_i h;rw [AY];simp [h]
theorem JT {s':SS}:∀ {vxs:List (Nat×TypeId×Nat×Option Nat)} {a vs:List CV} {p i:Nat} {v:Vec},MH s' vxs=some a->Win vs p a->FJ vxs i vs p=some v ->
  ∃ v',s'.V[i]? = some v'/\v'=⟨v.live,v.T,v.k,v'.ver,v.es⟩/\(v.live=true\/v.T=ghT)/\∃ q∈vxs,q.1=i/\((q.2.2.2.isNone=true/\v.ver=0)\/(q.2.2.2.isNone=false/\v.ver=v'.ver))
 | [],a,vs,p,i,v,_,_,h=>by grind [FJ]
 | (j,T,k,g)::r,a,vs,p,i,v,he,hw,hb=>by
  simp [MH] at he;split at he
  ·rename_i v' lc
   split at he
   ·simp at he
    obtain ⟨a2,h2,rfl⟩:=he;simp [FJ] at hb;split at hb
    ·rename_i d8
     subst d8;cases hb;have:=hw 0 (by simp)
     refine ⟨v',lc,?_,by grind [liveT],(i,T,k,g),by simp,rfl,?_⟩
     ·obtain ⟨lv,T',k',ver',es'⟩:=v'
      grind [cR]
     ·cases g with
      | none=>simp
      | some g =>
       simp_all [aEX]
    ·have er:Win vs (p+1) a2:=by
      have:Win vs p ([CV.row k v'.es]++a2):=hw;simpa using this.right
     obtain ⟨v',q1,q2,q3,q,q4,q5⟩:=JT h2 er hb;grind
   grind
  grind
theorem PM {s':SS}:∀ {vxs:List (Nat×TypeId×Nat×Option Nat)} {a:List CV},MH s' vxs=some a->∀ i∈vxs.map (·.1),∃ v,s'.V[i]? = some v
 | [],a,h,i,hi=>by grind
 | (j,T,k,g)::r,a,he,i,hi=>by
  simp [MH] at he;split at he
  ·split at he
   ·simp at he
    obtain ⟨a2,h2,rfl⟩:=he;simp only [List.map_cons,List.mem_cons] at hi;rcases hi with rfl | hi
    ·grind
    ·exact PM h2 i hi
   grind
  grind
end
variable {i:Nat}
theorem getD_some {A:Type} {l:List A} {d x:A} (h:l[i]? = some x):l.getD i d=x:=by grind
theorem lS {h:Hint} {lk:Lk} {s:SS} (bg:fM h lk s=true) :
  (∀ d∈h.keep++lk.t,(s.get d).noV h.vxu=true) /\
  (∀ i,i<s.B.length->(h.bx.map (·.1)).contains i=false->AV.noVs h.vxu ((s.B.getD i ⟨false,0,[]⟩).cs)=true) /\
  (∀ i∈lk.b,(h.bx.map (·.1)).contains i=false)/\(∀ i∈lk.v,(h.vx.map (·.1)).contains i=false) /\
  (∀ j,j<fY s.B.length (h.bx.map (·.1))->(h.bx.map (·.1)).contains (s.B.length+j)=true) /\
  (∀ j,j<fY s.V.length (h.vx.map (·.1))->(h.vx.map (·.1)).contains (s.V.length+j)=true) /\
  h.vars.all (fun p=>zC (s.B.length+fY s.B.length (h.bx.map (·.1))) (s.V.length+fY s.V.length (h.vx.map (·.1))) h.vxu p.2)=true /\
  h.bx.all (fun p=>p.2.2.all (zC (s.B.length+fY s.B.length (h.bx.map (·.1))) (s.V.length+fY s.V.length (h.vx.map (·.1))) h.vxu))=true /\
  (∀ p∈h.vx,p.2.2.2.isNone=false->h.vxu.contains p.1=false)/\(∀ i∈lk.o,h.vxu.contains i=false):=by
 unfold fM at bg;simp only [Bool.and_eq_true] at bg;obtain ⟨⟨⟨⟨⟨⟨⟨⟨⟨h1,h2⟩,h3⟩,h4,pz⟩,h5⟩,h6⟩,mw⟩,h7⟩,h8⟩,h9,lh⟩:=bg;refine ⟨?_,?_,?_,?_,?_,?_,?_,?_,?_,?_⟩
 ·grind
 ·grind
 ·grind
 ·grind
 ·grind
 ·grind
 ·congr 1
 ·congr 1
 ·grind
 grind
theorem aA4 (l l':List (Nat×AV)) (d:Nat):lk (l++l') d=if (l.map (·.1)).contains d then lk l d else lk l' d:=by
 induction l with
 | nil=>simp
 | cons p l ih =>
  grind [vQ]
section
variable {h:Hint} {lk:Lk} {s0 s':SS} {st0 st':St} {m0 m':Emb} {vs:List CV}
theorem PN (km:Em m0 s0 st0) (hE:Em m' s' st') (ha:Adv (dD h lk s0) m0 s0 st0 m' s' st') (hx:iK h s'=some vs) (bg:fM h lk s0=true) :
  ∃ m1 st1,Wk st' st1/\Em m1 (bF h lk s0 vs) st1/\Adv (dD h lk s0) m0 s0 st0 m1 (bF h lk s0 vs) st1/\∀ i,i<(bF h lk s0 vs).V.length->m1.fv i=m'.fv i:=by
 obtain ⟨o1,o2,o3,o4,o5,o6,o7,o8,o9,o10⟩:=lS bg;generalize u4:h.bx.map (·.1)=bxs at *
 have ic:∀ i,h.vxu.contains i=true->(h.vx.map (·.1)).contains i=true:=by
  grind [Hint.vxu,List.contains_iff_mem]
 generalize C6:h.vxu=vxu at *;generalize u6:h.vx.map (·.1)=vxs at *
 generalize ny:s0.B.length+fY s0.B.length bxs=nb at *;generalize qu:s0.V.length+fY s0.V.length vxs=nv at *;unfold iK at hx;split at hx
 case h_2=>cases hx
 rename_i a b c ea eb ec;injection hx with hx
 have Hh:=Sh.exts_len ea fun sh _ x a h=>Sh.ext_len h
 have ku:=PK eb
 have wa:Win vs 0 a:=by
  intro j hj;grind
 have wbc:Win vs a.length (b++c):=by
  intro j hj;grind
 have wb:Win vs (Sh.ns (h.vars.map (·.2))) b:=by rw [<- Hh];exact wbc.left
 have wc:Win vs (Sh.ns (h.vars.map (·.2))+nB' h.bx) c:=by rw [<- Hh,<- ku];exact wbc.right
 have kb:∀ i,i<s0.B.length->bxs.contains i=false->s'.B[i]? = s0.B[i]?:=fun i hi hc=>ha.b i (by grind [dD]) hi
 have kv:∀ i,i<s0.V.length->vxs.contains i=false->s'.V[i]? = s0.V[i]?:=fun i hi hc=>ha.v i (by grind [dD]) hi
 have nbI:∀ i,i<nb->bxs.contains i=true\/(i<s0.B.length/\bxs.contains i=false):=by
  intro i hi
  by_cases ah:i<s0.B.length
  ·grind
  ·left
   have:=o5 (i - s0.B.length) (by omega)
   grind
 have nvI:∀ i,i<nv->vxs.contains i=true\/(i<s0.V.length/\vxs.contains i=false):=by
  intro i hi
  by_cases ah:i<s0.V.length
  ·grind
  ·left
   have:=o6 (i - s0.V.length) (by omega)
   grind
 have cd:∀ i,i<nb->∃ b,s'.B[i]? = some b:=by
  intro i hi;rcases nbI i hi with hc | ⟨ah,hc⟩
  ·exact PL eb i (by grind)
  grind
 have lc:∀ i,i<nv->∃ v,s'.V[i]? = some v:=by
  intro i hi;rcases nvI i hi with hc | ⟨ah,hc⟩
  ·exact PM ec i (by grind)
  grind
 have Jp:nb<=s'.B.length:=by
  grind
 have Jq:nv<=s'.V.length:=by
  grind
 let m1:Emb:=⟨m'.bm.take nb,m'.vm.take nv,(List.range nv).map fun i=>if vxu.contains i=true then m'.fo i+(s'.V.getD i ⟨false,0,0,0,[]⟩).ver else m'.fo i⟩
 have m1b:∀ i,i<nb->m1.fb i=m'.fb i:=by grind [Emb.fb,List.getD]
 have m1v:∀ i,i<nv->m1.fv i=m'.fv i:=by grind [Emb.fv,List.getD]
 have m1o:∀ i,i<nv->m1.fo i=if vxu.contains i=true then m'.fo i+(s'.V.getD i ⟨false,0,0,0,[]⟩).ver else m'.fo i:=by
  intro i hi;have:m1.fo i=((List.range nv).map fun i=>if vxu.contains i=true then m'.fo i+(s'.V.getD i ⟨false,0,0,0,[]⟩).ver else m'.fo i).getD i 0:=rfl
  grind
 have mc:Reb m' m1 nb nv vxu s'.V:=by
  refine ⟨m1b,m1v,fun i hi hc=>?_,fun i v hi hc hv=>?_⟩
  ·grind
  grind
 have yz:m1.bm.length=nb/\m1.vm.length=nv/\m1.vb.length=nv:=by
  refine ⟨?_,?_,by grind⟩
  ·simp [m1,hE.m.bl];omega
  ·simp [m1,hE.m.vl];omega
 let T:=bF h lk s0 vs
 have ta:T.B.length=nb:=by grind [bF,aA3]
 have qv:T.V.length=nv:=by grind [bF,VN]
 have y4:∀ i,i<nb->T.B[i]? = some (match FI h.bx i vs (Sh.ns (h.vars.map (·.2))) with | some b=>b | none=>s0.B.getD i ⟨false,0,[]⟩):=by
  grind [bF,aA3,List.getElem?_range]
 have y5:∀ i,i<nv->T.V[i]? = some (match FJ h.vx i vs (Sh.ns (h.vars.map (·.2))+nB' h.bx) with | some v=>v | none=>s0.V.getD i ⟨false,0,0,0,[]⟩):=by
  grind [bF,VN,List.getElem?_range]
 have qw:s0.B.length<=nb:=by omega
 have qx:s0.V.length<=nv:=by omega
 have boxI:∀ (i:Nat) (bT:Box),T.B[i]? = some bT->∃ b':Box,s'.B[i]? = some b'/\AV.inns nb nv bT.cs=true/\(bT.live=true->b'.live=true/\bT.T=b'.T/\AV.les (AV.czs m' b'.cs) (AV.czs m1 bT.cs)) /\
   (∀ nB ws,AV.scos nB ws (AV.czs m' b'.cs)->AV.scos nB ws (AV.czs m1 bT.cs)):=by
  intro i bT nz;have hi:i<nb:=by grind
  rw [y4 i hi] at nz;injection nz with nz
  cases hq:FI h.bx i vs (Sh.ns (h.vars.map (·.2))) with
  | some b0 =>
   rw [hq] at nz;subst nz;obtain ⟨b',q1,q2,q3,q4,q5,q6,q7⟩:=JS mc rfl eb o8 wb hq;grind
  | none =>
   rw [hq] at nz;subst nz;have hc:bxs.contains i=false:=by rw [<- u4];exact AX.1 hq
   rcases nbI i hi with gc | ⟨ah,_⟩
   ·grind
   ·have ko:s0.B[i]? = some s0.B[i]:=by simp
    have jc:=o2 i ah hc;have dm:=(km.m.b i _ ko).2;rw [getD_some ko] at jc ⊢
    have im:AV.czs m1 s0.B[i].cs=AV.czs m' s0.B[i].cs:=
     AV.czs_noV (nb:=s0.B.length) (nv:=s0.V.length) (fun j hj=>m1b j (by omega)) (fun j hj=>m1v j (by omega)) (fun j hj Bk=>by grind) _ dm jc
    refine ⟨s0.B[i],by grind,?_,fun hl=>⟨hl,rfl,by rw [im];exact AV.les_refl _⟩,fun nB ws hs=>by grind⟩
    rw [AV.inns_eq,List.all_eq_true] at dm ⊢;exact fun y hy=>AV.inn_mono qw qx y (dm y hy)
 have dO:∀ i j,i<nb->j<nb->m'.fb i=m'.fb j->i=j:=fun i j hi hj he=>hE.m.bi i j (by omega) (by omega) he
 let pick:Nat->Option Nat:=fun j=>(List.range nb).find? fun i=>m'.fb i == j
 have pickS:∀ i,i<nb->pick (m'.fb i)=some i:=by
  intro i hi;simp only [pick];cases hf:(List.range nb).find? fun k=>m'.fb k == m'.fb i with
  | none =>
   grind
  | some k =>
   grind
 have pickI:∀ j i,pick j=some i->i<nb/\m'.fb i=j:=by
  grind
 let B1:List Box:=(List.range st'.B.length).map fun j=>match pick j with
  | some i=>(T.B.getD i ⟨false,0,[]⟩).cz m1
  | none=>st'.B.getD j ⟨false,0,[]⟩
 let st1:St:=⟨mkT T.n (T.t.map fun p=>(p.1,p.2.cz m1)),B1,st'.V⟩
 have Bm:∀ j,j<st'.B.length->B1[j]? = some (match pick j with | some i=>(T.B.getD i ⟨false,0,[]⟩).cz m1 | none=>st'.B.getD j ⟨false,0,[]⟩):=by
  intro j hj;simp [B1,List.getElem?_range hj]
 have slotLe:∀ d,LeS ((s'.get d).cz m') ((if d<T.n then Go.Sx.lk T.t d else .any).cz m1):=by
  intro d
  by_cases hd:d<T.n
  ·rw [if_pos hd]
   have hT:T.t=(h.keep++lk.t).map (fun d=>(d,s0.get d))++HV h.vars vs 0:=rfl
   rw [hT,aA4];have n7:((h.keep++lk.t).map (fun d=>(d,s0.get d))).map (·.1)=h.keep++lk.t:=by rw [List.map_map];exact List.map_id _
   rw [n7];split
   ·rename_i hc
    have bv:d∈h.keep++lk.t:=by simpa using hc
    have e1:Go.Sx.lk ((h.keep++lk.t).map fun d=>(d,s0.get d)) d=s0.get d:=by
     rw [vR s0.get];rw [if_pos hc]
    have e2:s'.get d=s0.get d:=ha.t d bv;rw [e1,e2]
    have im:(s0.get d).cz m1=(s0.get d).cz m':=
     AV.cz_noV (nb:=s0.B.length) (nv:=s0.V.length) (fun j hj=>m1b j (by omega)) (fun j hj=>m1v j (by omega)) (fun j hj Bk=>by rw [m1o j (by omega),Bk];rfl) _ (km.inn d) (o1 d bv)
    rw [im];exact LeS.refl _
   ·exact (AW mc (s':=s') ea o7 wa).1 d
  ·rw [if_neg hd]
   simp only [AV.cz];exact LeS.any _
 have dc:∀ d,Go.Sx.lk (T.t.map fun p=>(p.1,p.2.cz m1)) d=(Go.Sx.lk T.t d).cz m1:=fun d=>nO (AV.cz m1) (by simp [AV.cz]) T.t d
 have fy:∀ d,Go.Sx.lk (s'.t.map fun p=>(p.1,p.2.cz m')) d=(Go.Sx.lk s'.t d).cz m':=fun d=>nO (AV.cz m') (by simp [AV.cz]) s'.t d
 have hn:s'.n=T.n:=ha.n
 have slotLe':∀ d,d<T.n->LeS ((Go.Sx.lk s'.t d).cz m') ((Go.Sx.lk T.t d).cz m1):=by
  intro d hd;have:=slotLe d;rw [if_pos hd] at this;simpa only [SS.get,hn,hd,if_true] using this
 have tc:st'.t=mkT T.n (s'.t.map fun p=>(p.1,p.2.cz m')):=by rw [hE.t,hn]
 refine ⟨m1,st1,⟨?_,?_,?_,rfl,?_,?_⟩,⟨rfl,?_,?_⟩,?_,fun i hi=>m1v i (by rw [<- qv];exact hi)⟩
 ·
  rw [tc];show AV.les (mkT T.n _) (mkT T.n _)
  have:∀ (l:List Nat),(∀ d∈l,d<T.n)->AV.les (l.map (Go.Sx.lk (s'.t.map fun p=>(p.1,p.2.cz m')))) (l.map (Go.Sx.lk (T.t.map fun p=>(p.1,p.2.cz m1)))):=by
   intro l
   induction l with
   | nil=>intro _;exact .nil
   | cons d l ih =>
    intro hl;simp only [List.map_cons,dc,fy];exact .cons (slotLe' d (hl d (by simp))).1 (by simpa only [dc,fy] using ih fun d hd=>hl d (by simp [hd]))
  exact this _ fun d hd=>by simpa using hd
 ·simp [st1,B1]
 ·intro j b1 co
  have hj:j<st'.B.length:=by
   have:=(List.getElem?_eq_some_iff.1 co).1;simpa [st1,B1] using this
  rw [show st1.B[j]? = B1[j]? from rfl,Bm j hj] at co;injection co with co
  cases hp:pick j with
  | none =>
   rw [hp] at co;simp only at co;have hs:st'.B[j]? = some st'.B[j]:=by simp [hj]
   rw [getD_some hs] at co;subst co;exact ⟨_,hs,fun hl=>⟨hl,rfl,AV.les_refl _⟩⟩
  | some i =>
   rw [hp] at co;simp only at co;obtain ⟨hi,rfl⟩:=pickI j i hp
   have C7:T.B[i]? = some (T.B.getD i ⟨false,0,[]⟩):=by
    have:i<T.B.length:=by rw [ta];exact hi
    simp [List.getD,this]
   obtain ⟨b',q1,q2,q3,q4⟩:=boxI i _ C7;obtain ⟨q5,_⟩:=hE.m.b i b' q1;subst co;exact ⟨_,q5,fun hl=>q3 hl⟩
 ·intro nB ws hs
  rw [tc] at hs;rw [AV.scos_iff] at hs ⊢;intro y hy;show AV.sco nB ws y;simp only [st1,mkT,List.mem_map,List.mem_range] at hy;obtain ⟨d,hd,rfl⟩:=hy;rw [dc];refine (slotLe' d hd).2 nB ws ?_;rw [<- fy];exact hs _ (by simp only [mkT,List.mem_map,List.mem_range];exact ⟨d,hd,rfl⟩)
 ·intro nB ws j b b1 hb co hs
  have hj:j<st'.B.length:=(List.getElem?_eq_some_iff.1 hb).1;rw [show st1.B[j]? = B1[j]? from rfl,Bm j hj] at co;injection co with co
  cases hp:pick j with
  | none =>
   rw [hp] at co;simp only at co;rw [getD_some hb] at co;subst co;exact hs
  | some i =>
   rw [hp] at co;simp only at co;obtain ⟨hi,rfl⟩:=pickI j i hp
   have C7:T.B[i]? = some (T.B.getD i ⟨false,0,[]⟩):=by
    have:i<T.B.length:=by rw [ta];exact hi
    simp [List.getD,this]
   obtain ⟨b',q1,q2,q3,q4⟩:=boxI i _ C7;obtain ⟨q5,_⟩:=hE.m.b i b' q1;rw [q5] at hb;injection hb with hb
   subst hb;subst co;exact q4 nB ws hs
 ·
  intro p hp;show AV.inn T.B.length T.V.length p.2=true;rw [ta,qv];have hT:T.t=(h.keep++lk.t).map (fun d=>(d,s0.get d))++HV h.vars vs 0:=rfl
  rw [show (bF h lk s0 vs).t=T.t from rfl,hT,List.mem_append] at hp;rcases hp with hp | hp
  ·obtain ⟨d,_,rfl⟩:=List.mem_map.1 hp
   exact AV.inn_mono qw qx _ (km.inn d)
  ·exact (AW mc (s':=s') ea o7 wa).2 p hp
 ·
  refine ⟨by rw [yz.1];exact ta.symm,by rw [yz.2.1];exact qv.symm,by rw [yz.2.2];exact qv.symm,fun i bT nz=>?_,fun i v hv jr=>?_,fun i hi=>?_,fun i j hi hj he=>?_,fun i j hi hj he=>?_⟩
  ·have hi:i<nb:=by rw [<- ta];exact (List.getElem?_eq_some_iff.1 nz).1
   obtain ⟨b',q1,q2,q3,q4⟩:=boxI i bT nz;obtain ⟨q5,_⟩:=hE.m.b i b' q1;have hj:=(List.getElem?_eq_some_iff.1 q5).1;refine ⟨?_,by show AV.inns T.B.length T.V.length _=true;rw [ta,qv];exact q2⟩
   rw [m1b i hi];show B1[m'.fb i]? = _;rw [Bm _ hj,pickS i hi];simp only;rw [getD_some nz]
  ·have hi:i<nv:=by rw [<- qv];exact (List.getElem?_eq_some_iff.1 hv).1
   rw [m1v i hi];show st'.V[m'.fv i]? = _;rw [show (bF h lk s0 vs).V[i]? = T.V[i]? from rfl,y5 i hi] at hv;injection hv with hv
   cases hq:FJ h.vx i vs (Sh.ns (h.vars.map (·.2))+nB' h.bx) with
   | some v0 =>
    rw [hq] at hv;simp only at hv;subst hv;obtain ⟨v',q1,q2,q3,q,q6,q7,q8⟩:=JT ec wc hq;have q5:=hE.m.v i v' q1 (by rw [q2];exact q3)
    rw [q5];rcases q8 with ⟨q8,q9⟩ | ⟨q8,q9⟩
    ·have hc:vxu.contains i=true:=by
      rw [<- C6];simp only [Hint.vxu,List.contains_iff_mem,List.mem_map,List.mem_filter];exact ⟨q,⟨q6,q8⟩,q7⟩
     simp only [Vec.cz,q9,Nat.add_zero,mc.x i v' hi hc q1];rw [q2]
    ·have hc:vxu.contains i=false:=by rw [<- q7];exact o9 q q6 q8
     simp only [Vec.cz,q9,mc.o i hi hc];rw [q2]
   | none =>
    rw [hq] at hv;simp only at hv;subst hv;have hc:vxs.contains i=false:=by rw [<- u6];exact AY.1 hq
    rcases nvI i hi with gc | ⟨ah,_⟩
    ·rw [hc] at gc;cases gc
    ·have ko:s0.V[i]? = some s0.V[i]:=by simp [ah]
     rw [getD_some ko];rw [getD_some ko] at jr;have q5:=hE.m.v i s0.V[i] (by rw [kv i ah hc,ko]) jr
     rw [q5]
     have C8:vxu.contains i=false:=by
      cases C8:vxu.contains i with
      | false=>rfl
      | true=>rw [ic i C8] at hc;cases hc
     simp only [Vec.cz,mc.o i hi C8]
  ·rw [show (bF h lk s0 vs).V.length=nv from qv] at hi
   rw [m1v i hi];show m'.fv i<st'.V.length;exact hE.m.vlt i (by omega)
  ·rw [show (bF h lk s0 vs).B.length=nb from ta] at hi hj
   rw [m1b i hi,m1b j hj] at he;exact dO i j hi hj he
  ·rw [show (bF h lk s0 vs).V.length=nv from qv] at hi hj
   rw [m1v i hi,m1v j hj] at he;exact hE.m.vi i j (by omega) (by omega) he
 ·
  have hu:=ha.stp.up;have C9:m0.bm.length=s0.B.length:=km.m.bl;have Da:m0.vm.length=s0.V.length:=km.m.vl;refine ⟨⟨⟨by rw [yz.1,C9];exact qw,fun i hi=>by rw [m1b i (by omega)];exact hu.b i hi,by rw [yz.2.1,Da];exact qx,fun i hi=>by rw [m1v i (by omega)];exact hu.v i hi⟩,?_,ha.stp.vl,?_,?_,?_,ha.stp.vf⟩,rfl,?_,?_,?_,?_,?_,fun i hi ah=>?_⟩
  ·show st0.B.length<=B1.length
   simpa [B1] using ha.stp.bl
  ·intro j hj;exact ha.stp.bn j (List.mem_of_mem_take hj)
  ·intro j hj;exact ha.stp.vn j (List.mem_of_mem_take hj)
  ·intro j hj ui
   show B1[j]? = _;have gg:j<st'.B.length:=Nat.lt_of_lt_of_le hj ha.stp.bl;rw [Bm j gg]
   have hp:pick j=none:=by
    cases hp:pick j with
    | none=>rfl
    | some i =>
     obtain ⟨hi,he⟩:=pickI j i hp;have bv:m'.fb i∈m'.bm:=Emb.fb_mem (by rw [hE.m.bl];omega)
     rw [he] at bv;rcases ha.stp.bn j bv with h1 | h1
     ·exact absurd h1 ui
     ·omega
   rw [hp];simp only;rw [<- ha.stp.bf j hj ui];simp [List.getD,gg]
  ·rw [show (bF h lk s0 vs).B.length=nb from ta];exact qw
  ·rw [show (bF h lk s0 vs).V.length=nv from qv];exact qx
  ·intro d hd
   show T.get d=s0.get d
   by_cases fm:d<s0.n
   ·simp only [SS.get,show T.n=s0.n from rfl,fm,if_true]
    have hT:T.t=(h.keep++lk.t).map (fun d=>(d,s0.get d))++HV h.vars vs 0:=rfl
    have bv:d∈h.keep++lk.t:=hd;have n7:((h.keep++lk.t).map (fun d=>(d,s0.get d))).map (·.1)=h.keep++lk.t:=by rw [List.map_map];exact List.map_id _
    rw [hT,aA4,n7,if_pos (by simpa using bv),vR s0.get,if_pos (by simpa using bv)]
    simp [SS.get,fm]
   ·simp only [SS.get,show T.n=s0.n from rfl,fm,if_false]
  ·intro i hi ah
   have hc:bxs.contains i=false:=by
    simp only [dD,List.mem_filter,u4,Bool.not_eq_true'] at hi;exact hi.2
   have td:i<nb:=by omega
   show T.B[i]? = _;rw [y4 i td];have hq:FI h.bx i vs (Sh.ns (h.vars.map (·.2)))=none:=AX.2 (by rw [u4];exact hc)
   rw [hq];simp [List.getD,ah]
  ·intro i hi ah
   have hc:vxs.contains i=false:=by
    simp only [dD,List.mem_filter,u6,Bool.not_eq_true'] at hi;exact hi.2
   have td:i<nv:=by omega
   show T.V[i]? = _;rw [y5 i td];have hq:FJ h.vx i vs (Sh.ns (h.vars.map (·.2))+nB' h.bx)=none:=AY.2 (by rw [u6];exact hc)
   rw [hq];simp [List.getD,ah]
  ·rw [m1o i (by omega),o10 i hi]
   exact ha.o i hi ah
theorem gC (km:Em m0 s0 st0) (hE:Em m' s' st') (ha:Adv (dD h lk s0) m0 s0 st0 m' s' st') (hx:iK h s'=some vs) (bg:fM h lk s0=true) :
  ∃ m1 st1,Wk st' st1/\Em m1 (bF h lk s0 vs) st1/\Adv (dD h lk s0) m0 s0 st0 m1 (bF h lk s0 vs) st1:=by
 obtain ⟨m1,st1,h1,h2,h3,_⟩:=PN km hE ha hx bg;grind
theorem Adv.sub (bg:fM h lk s0=true) {m:Emb} {s1:SS} {st1:St} (ha:Adv (dD h lk s0) m0 s0 st0 m s1 st1):Adv lk m0 s0 st0 m s1 st1:=by
 obtain ⟨_,_,o3,o4,_⟩:=lS bg;refine ⟨ha.stp,ha.n,ha.bl,ha.vl,fun d hd=>ha.t d (by simp [dD,hd]),fun i hi hl=>ha.b i ?_ hl,fun i hi hl=>ha.v i ?_ hl,ha.o⟩
 ·grind [dD]
 grind [dD]
end
mutual
def AV.fb (i:Nat) (cs:List CV):AV->AV
 | .ptr j o=>if j=i then .cv (.ref (cs.drop o)) else .ptr j o
 | .agg xs=>.agg (AV.fbs i cs xs)
 | .tup xs=>.tup (AV.fbs i cs xs)
 | .fn f xs=>.fn f (AV.fbs i cs xs)
 | .gd [] x=>.gd [] (AV.fb i cs x)
 | x=>x
def AV.fbs (i:Nat) (cs:List CV):List AV->List AV
 | []=>[]
 | x::xs=>AV.fb i cs x::AV.fbs i cs xs
end
def FK (i ver:Nat) (c:CV) (j u el o:Nat):AV:=if j=i/\u=ver/\el=0/\o=0 then (match c with
 | .row _ (l::_)=>.cv (.ref l)
 | _=>.opt j u el o) else .opt j u el o
def aDw (v:Value):Prop:=∀ b o n c,v=.slice (some ⟨b,o,none⟩) n (c+1)->o=0
mutual
def AV.fv (i ver:Nat) (c:CV):AV->AV
 | .own j u=>if j=i/\u=ver then .cv c else .own j u
 | .opt j u el o=>FK i ver c j u el o
 | .agg xs=>.agg (AV.fvs i ver c xs)
 | .tup xs=>.tup (AV.fvs i ver c xs)
 | .fn f xs=>.fn f (AV.fvs i ver c xs)
 | .gd [] x=>.gd [] (AV.fv i ver c x)
 | x=>x
def AV.fvs (i ver:Nat) (c:CV):List AV->List AV
 | []=>[]
 | x::xs=>AV.fv i ver c x::AV.fvs i ver c xs
end
theorem AV.fbs_eq (i:Nat) (cs:List CV):∀ xs,AV.fbs i cs xs=xs.map (AV.fb i cs)
 | []=>by rfl
 | x::xs=>by simp [AV.fbs,AV.fbs_eq i cs xs]
theorem AV.fvs_eq (i ver:Nat) (c:CV):∀ xs,AV.fvs i ver c xs=xs.map (AV.fv i ver c)
 | []=>by rfl
 | x::xs=>by simp [AV.fvs,AV.fvs_eq i ver c xs]
theorem aA5 (i:Nat) (cs:List CV) (xs:List AV):pQ (AV.fbs i cs xs)=pQ xs:=by
 match xs with
 | []=>rfl
 | .gd [] _::_=>rfl
 | .gd (b::L) x::r=>simp [AV.fbs,AV.fb];unfold pQ;grind
 | .any::_=>rfl
 | .cv _::_=>rfl
 | .ptr _ _::_=>simp [AV.fbs,AV.fb];split <;> rfl
 | .own _ _::_=>rfl
 | .opt _ _ _ _::_=>rfl
 | .agg _::_=>rfl
 | .tup _::_=>rfl
 | .fn _ _::_=>rfl
theorem aA6 (i ver:Nat) (c:CV) (xs:List AV):pQ (AV.fvs i ver c xs)=pQ xs:=by
 match xs with
 | []=>rfl
 | .gd [] _::_=>rfl
 | .gd (b::L) x::r=>simp [AV.fvs,AV.fv];unfold pQ;grind
 | .any::_=>rfl
 | .cv _::_=>rfl
 | .ptr _ _::_=>rfl
 | .own _ _::_=>simp [AV.fvs,AV.fv];split <;> rfl
 | .opt _ _ _ _::_ =>
  simp [AV.fvs,AV.fv,FK];split
  ·split <;> rfl
  ·rfl
 | .agg _::_=>rfl
 | .tup _::_=>rfl
 | .fn _ _::_=>rfl
section
variable {e:Env} {w:World} {ks:List Nat}
mutual
theorem AV.fb_holds {i:Nat} {cs:List CV} (hk:∀ o,CV.holds w e.S (.ref (cs.drop o)) (.pointer (some ⟨e.ρ i,o,none⟩))):∀ (x:AV) (v:Value),AV.holds e w ks x v->AV.holds e w ks (AV.fb i cs x) v
 | .ptr j o,v,h=>by
  grind [AV.fb,AV.holds]
 | .agg xs,v,h=>by obtain ⟨vs,h1,h2⟩:=h;exact ⟨vs,h1,AV.fbs_holds hk xs _ h2⟩
 | .tup xs,v,h=>by obtain ⟨vs,h1,h2⟩:=h;exact ⟨vs,h1,AV.fbs_holds hk xs _ h2⟩
 | .fn f xs,v,h=>by obtain ⟨vs,h1,h2⟩:=h;exact ⟨vs,by grind [aA5],AV.fbs_holds hk xs _ h2⟩
 | .gd [] x,v,h=>by exact ⟨fun hb=>AV.fb_holds hk x v (h.1 hb),h.2⟩
 | .gd (_::_) x,v,h=>by grind [AV.fb]
 | .any,v,h=>by grind [AV.fb]
 | .cv _,v,h=>by grind [AV.fb]
 | .own _ _,v,h=>by grind [AV.fb]
 | .opt _ _ _ _,v,h=>by grind [AV.fb]
theorem AV.fbs_holds {i:Nat} {cs:List CV} (hk:∀ o,CV.holds w e.S (.ref (cs.drop o)) (.pointer (some ⟨e.ρ i,o,none⟩))):∀ (xs:List AV) (vs:List Value),AV.all e w ks xs vs->AV.all e w ks (AV.fbs i cs xs) vs
 | [],vs,h=>by grind [AV.fbs]
 | x::xs,[],h=>by grind [AV.all]
 | x::xs,v::vs,h=>by
  exact ⟨AV.fb_holds hk x v h.1,AV.fbs_holds hk xs vs h.2⟩
end
mutual
theorem AV.fv_holds {i ver:Nat} {c:CV} (hk:CV.holds w e.S c (e.hdr i ver)/\aDw (e.hdr i ver)):∀ (x:AV) (v:Value),AV.holds e w ks x v->AV.holds e w ks (AV.fv i ver c x) v
 | .own j u,v,h=>by
  grind [AV.fv,AV.holds]
 | .agg xs,v,h=>by obtain ⟨vs,h1,h2⟩:=h;exact ⟨vs,h1,AV.fvs_holds hk xs _ h2⟩
 | .tup xs,v,h=>by obtain ⟨vs,h1,h2⟩:=h;exact ⟨vs,h1,AV.fvs_holds hk xs _ h2⟩
 | .fn f xs,v,h=>by obtain ⟨vs,h1,h2⟩:=h;exact ⟨vs,by grind [aA6],AV.fvs_holds hk xs _ h2⟩
 | .gd [] x,v,h=>by exact ⟨fun hb=>AV.fv_holds hk x v (h.1 hb),h.2⟩
 | .gd (_::_) x,v,h=>by grind [AV.fv]
 | .any,v,h=>by grind [AV.fv]
 | .cv _,v,h=>by grind [AV.fv]
 | .ptr _ _,v,h=>by grind [AV.fv]
 | .opt j u el o,v,h=>by
  simp [AV.fv,FK];split
  ·split
   ·simp [AV.holds] at h ⊢
    obtain ⟨q1,q2⟩:=hk;obtain ⟨a,cap,h2,h3,h4,h5⟩:=q1;rcases h5 with h5 | ⟨b',o',rfl,h6,h7⟩
    ·cases h5
    ·obtain ⟨c',rfl⟩:∃ c',cap=c'+1:=⟨cap - 1,by grind⟩
     have hz:=q2 b' o' _ _ h2;grind [aY,CV.rows,CV.holds]
   omega
  omega
theorem AV.fvs_holds {i ver:Nat} {c:CV} (hk:CV.holds w e.S c (e.hdr i ver)/\aDw (e.hdr i ver)):∀ (xs:List AV) (vs:List Value),AV.all e w ks xs vs->AV.all e w ks (AV.fvs i ver c xs) vs
 | [],vs,h=>by grind [AV.fvs]
 | x::xs,[],h=>by grind [AV.all]
 | x::xs,v::vs,h=>by
  exact ⟨AV.fv_holds hk x v h.1,AV.fvs_holds hk xs vs h.2⟩
end
end
mutual
theorem AV.fb_scoped {i:Nat} {cs:List CV} {nb:Nat} {vs:List Nat}:∀ (x:AV),AV.sco nb vs x->AV.sco nb vs (AV.fb i cs x)
 | .ptr j o,h=>by grind [AV.fb,AV.sco]
 | .agg xs,h=>by exact AV.fbs_scoped xs h
 | .tup xs,h=>by exact AV.fbs_scoped xs h
 | .fn f xs,h=>by exact AV.fbs_scoped xs h
 | .gd [] x,h=>by exact AV.fb_scoped x h
 | .gd (_::_) x,h=>by grind [AV.fb]
 | .any,h=>by grind [AV.fb]
 | .cv _,h=>by grind [AV.fb]
 | .own _ _,h=>by grind [AV.fb]
 | .opt _ _ _ _,h=>by grind [AV.fb]
theorem AV.fbs_scoped {i:Nat} {cs:List CV} {nb:Nat} {vs:List Nat}:∀ (xs:List AV),AV.scos nb vs xs->AV.scos nb vs (AV.fbs i cs xs)
 | [],h=>by grind [AV.fbs]
 | x::xs,h=>by exact ⟨AV.fb_scoped x h.1,AV.fbs_scoped xs h.2⟩
end
mutual
theorem AV.fv_scoped {i ver:Nat} {c:CV} {nb:Nat} {vs:List Nat}:∀ (x:AV),AV.sco nb vs x->AV.sco nb vs (AV.fv i ver c x)
 | .own j o,h=>by grind [AV.fv,AV.sco]
 | .agg xs,h=>by exact AV.fvs_scoped xs h
 | .tup xs,h=>by exact AV.fvs_scoped xs h
 | .fn f xs,h=>by exact AV.fvs_scoped xs h
 | .gd [] x,h=>by exact AV.fv_scoped x h
 | .gd (_::_) x,h=>by grind [AV.fv]
 | .any,h=>by grind [AV.fv]
 | .cv _,h=>by grind [AV.fv]
 | .ptr _ _,h=>by grind [AV.fv]
 | .opt j u el o,h=>by
  simp [AV.fv,FK];grind [AV.sco]
theorem AV.fvs_scoped {i ver:Nat} {c:CV} {nb:Nat} {vs:List Nat}:∀ (xs:List AV),AV.scos nb vs xs->AV.scos nb vs (AV.fvs i ver c xs)
 | [],h=>by grind [AV.fvs]
 | x::xs,h=>by exact ⟨AV.fv_scoped x h.1,AV.fvs_scoped xs h.2⟩
end
def Box.mp (f:List AV->List AV) (b:Box):Box:=⟨b.live,b.T,f b.cs⟩
def MK (p:Nat->Bool) (f:List AV->List AV) (B:List Box):List Box:=B.mapIdx fun j b=>if p j=true then b.mp f else b
theorem lT (p:Nat->Bool) (f:List AV->List AV) (B:List Box):(MK p f B).length=B.length:=by simp [MK]
theorem uG (p:Nat->Bool) (f:List AV->List AV) (B:List Box) (j:Nat):(MK p f B)[j]? = (B[j]?).map fun b=>if p j=true then b.mp f else b:=by simp [MK]
theorem Rel.map {n0:Nat} {w0:World} {e:Env} {w:World} (h:Rel n0 w0 e st a w) (p:Nat->Bool) (f:List AV->List AV) (hh:∀ xs vs,AV.all e w (kss st.V) xs vs->AV.all e w (kss st.V) (f xs) vs) (hs:∀ nb ws xs,AV.scos nb ws xs->AV.scos nb ws (f xs)) :
  Rel n0 w0 e ⟨f st.t,MK p f st.B,st.V⟩ a w:=by
 have ae:∀ (i:Nat) (b:Box),(MK p f st.B)[i]? = some b->∃ b0,st.B[i]? = some b0/\b.live=b0.live/\b.T=b0.T/\(b.cs=f b0.cs\/b.cs=b0.cs):=by
  intro i b hb;rw [uG,Option.map_eq_some_iff] at hb;obtain ⟨b0,h1,h2⟩:=hb;refine ⟨b0,h1,?_⟩;subst h2;split
  ·exact ⟨rfl,rfl,.inl rfl⟩
  simp
 have hl:(MK p f st.B).length=st.B.length:=lT _ _ _;refine ⟨hh _ _ h.tm,?_,⟨?_,?_,?_,?_,h.mem.vec,h.mem.vecS,?_,h.mem.vecinj,h.mem.ro,h.mem.below,h.mem.base,h.mem.bl,h.mem.hid.of rfl ⟨rfl,rfl⟩ (fun _ h=>.inl h) (SameG.refl _) (fun _ _ _=>rfl) (fun i b hb bo=>?_) (fun i x g hx hl hg=>.inl ⟨i,x,hx,hl,hg⟩)⟩⟩
 rotate_left 6
 ·grind
 ·rw [hl];exact hs _ _ _ h.sc
 ·intro i b hb bo
  obtain ⟨b0,h1,h2,h3,h4⟩:=ae i b hb;obtain ⟨vs,a1,a2⟩:=h.mem.box i b0 h1 (by grind)
  grind
 ·intro i b hb
  obtain ⟨b0,h1,h2,h3,h4⟩:=ae i b hb;rw [hl];rcases h4 with h4 | h4
  ·rw [h4];exact hs _ _ _ (h.mem.boxsc i b0 h1)
  ·rw [h4];exact h.mem.boxsc i b0 h1
 ·intro i b hb bo
  obtain ⟨b0,h1,h2,h3,h4⟩:=ae i b hb;exact h.mem.boxlo i b0 h1 (by grind)
 ·intro i j b c hb hc bo bw he
  obtain ⟨b0,h1,h2,_⟩:=ae i b hb;obtain ⟨c0,g1,g2,_⟩:=ae j c hc;exact h.mem.boxinj i j b0 c0 h1 g1 (by grind) (by grind) he
 ·intro i v j b g hv jr hb bo hg
  obtain ⟨b0,h1,h2,_⟩:=ae j b hb;exact h.mem.vecbox i v j b0 g hv jr h1 (by grind) hg
theorem Rel.freezeB' {n0:Nat} {w0:World} {e:Env} {w:World} (hr:Rel n0 w0 e st a w) {x:Box} {cs:List CV} (hx:st.B[i]? = some x) (hl:x.live=true) (bc:dX x.cs=some cs) :
  ∃ e',Rel n0 w0 e' ⟨st.t,st.B.set i { x with live:=false },st.V⟩ a w/\cL e st w e' (st.B.set i { x with live:=false }) st.V w /\
   (∀ o,CV.holds w e'.S (.ref (cs.drop o)) (.pointer (some ⟨e'.ρ i,o,none⟩))):=by
 have hn:∀ (e0:Env) (st0:St) (a0:Act),st0=⟨.ptr i 0::st.t,st.B,st.V⟩->a0=⟨(Value.pointer (some ⟨e.ρ i,0,none⟩)::a.tmps.toList).toArray,a.defers⟩->Rel n0 w0 e st0 a0 w:=by
  rintro e0 st0 a0 rfl rfl;refine ⟨?_,?_,hr.mem⟩
  ·exact ⟨by rfl,hr.tm⟩
  ·exact ⟨by grind [AV.sco],hr.sc⟩
 obtain ⟨e',h1,h2⟩:=(hn e _ _ rfl rfl).freezeB (i:=i) hx hl bc;have hρ:e'.ρ i=e.ρ i:=h2.ρ i (List.getElem?_eq_some_iff.1 hx).1;have Db:=h1.tm;have ak:(st.B.set i { x with live:=false }).length=st.B.length:=by simp
 have hp:CV.holds w e'.S (.ref cs) (.pointer (some ⟨e'.ρ i,0,none⟩)):=by
  rw [hρ];simpa [AV.holds] using Db.1
 refine ⟨e',⟨?_,?_,h1.mem⟩,h2,fun o=>?_⟩
 ·exact AV.all.mono h2 _ _ hr.sc hr.tm
 ·rw [ak];exact hr.sc
 ·obtain ⟨b,o',hb,hS,hc⟩:=hp
  cases hb;exact ⟨e'.ρ i,o,rfl,hS,by simpa using hc.drop o⟩
theorem OwnsV.offz {w:World} {n0:Nat} {T:TypeId} {v:Value} {n:Nat} {xs:List Value} (h:OwnsV w n0 T k v n xs):aDw v:=by
 intro b o m c hv;rcases h with ⟨_,h⟩ | h
 ·rcases h with ⟨a,h,_⟩ | ⟨h,_⟩
  ·grind
  ·rcases h.2 with ⟨h,_⟩ | ⟨g,cap,cur,h,_⟩
   ·grind
   grind
 ·obtain ⟨b',arr,c',h,_⟩:=h.2
  grind
theorem Rel.freezeV' {n0:Nat} {w0:World} {e:Env} {w:World} (hr:Rel n0 w0 e st a w) {x:Vec} {c:CV} (hx:st.V[i]? = some x) (hl:x.live=true) (hc:fB st.V (.own i x.ver)=some c) :
  ∃ e',Rel n0 w0 e' ⟨st.t,st.B,st.V.set i { x with live:=false }⟩ a w/\cL e st w e' st.B (st.V.set i { x with live:=false }) w /\
   (CV.holds w e'.S c (e'.hdr i x.ver)/\aDw (e'.hdr i x.ver)):=by
 obtain ⟨xs,q1,q2,q3⟩:=hr.mem.vec i x hx hl
 have hn:Rel n0 w0 e ⟨.own i x.ver::st.t,st.B,st.V⟩ ⟨(e.hdr i x.ver::a.tmps.toList).toArray,a.defers⟩ w:=by
  refine ⟨?_,?_,hr.mem⟩
  ·exact ⟨by simp only [AV.holds];exact ⟨trivial,q1.one⟩,hr.tm⟩
  ·exact ⟨⟨by grind,by grind⟩,hr.sc⟩
 obtain ⟨e',h1,h2⟩:=hn.freezeV (i:=i) hx hl hc;have hh:e'.hdr i x.ver=e.hdr i x.ver:=h2.hdr i x.ver (by grind) (by grind)
 have Db:=h1.tm
 have hv:vers (st.V.set i { x with live:=false })=vers st.V:=by
  refine List.ext_getElem? fun j=>?_
  grind
 refine ⟨e',⟨?_,?_,h1.mem⟩,h2,by rw [hh];simpa [AV.holds] using Db.1,by rw [hh];exact q1.offz⟩
 ·exact AV.all.mono h2 _ _ hr.sc hr.tm
 ·rw [hv];exact hr.sc
theorem Rel.ownNil {n0:Nat} {w0:World} {e:Env} {w:World} (hr:Rel n0 w0 e st a w) {d T:Nat} (hd:st.t[d]? = some (.cv (.val (.slice none 0 0)))) (hT:T<bE) :
  ∃ e',Rel n0 w0 e' ⟨st.t.set d (.own st.V.length 0),st.B,st.V++[⟨true,T,k,0,[]⟩]⟩ a w/\cL e st w e' st.B (st.V++[⟨true,T,k,0,[]⟩]) w:=by
 obtain ⟨e',b1,b2,b3,_⟩:=hr.mem.newVec (w':=w) T k (.slice none 0 0) [] [] (.inl ⟨hT,.inl ⟨none,rfl,rfl,rfl⟩⟩) (by simp [CV.vals]) (by simp)
  ⟨rfl,rfl,rfl,Nat.le_refl _,fun _ _ _=>rfl⟩ (fun g hg=>by grind [aY])
 refine ⟨e',?_,b2⟩;obtain ⟨v,h1,h2⟩:=hr.tm.get hd;simp only [AV.holds,CV.holds] at h2;have:=hr.put b1 b2 (x:=.own st.V.length 0) (v:=v) (by grind [AV.holds]) (by simp) (some d)
 have ha:a.put (some d) v=a:=by
  have:a.tmps.setIfInBounds d v=a.tmps:=by
   grind
  simp_all [Act.put]
 simp_all
theorem Rel.ownNilB {n0:Nat} {w0:World} {e:Env} {w:World} (hr:Rel n0 w0 e st a w) {off T:Nat} {b:Box} (hb:st.B[i]? = some b) (hl:b.live=true) (hd:b.cs[off]? = some (.cv (.val (.slice none 0 0)))) (hT:T<bE) :
  ∃ e',Rel n0 w0 e' ⟨st.t,st.B.set i ⟨b.live,b.T,b.cs.set off (.own st.V.length 0)⟩,st.V++[⟨true,T,k,0,[]⟩]⟩ a w /\
   cL e st w e' (st.B.set i ⟨b.live,b.T,b.cs.set off (.own st.V.length 0)⟩) (st.V++[⟨true,T,k,0,[]⟩]) w:=by
 obtain ⟨e',b1,b2,b3,_⟩:=hr.mem.newVec (w':=w) T k (.slice none 0 0) [] [] (.inl ⟨hT,.inl ⟨none,rfl,rfl,rfl⟩⟩) (by simp [CV.vals]) (by simp)
  ⟨rfl,rfl,rfl,Nat.le_refl _,fun _ _ _=>rfl⟩ (fun g hg=>by grind [aY])
 let V':=st.V++[⟨true,T,k,0,[]⟩]
 let cs':=b.cs.set off (.own st.V.length 0)
 let B':=st.B.set i ⟨b.live,b.T,cs'⟩
 have ak:B'.length=st.B.length:=by grind
 have ae:∀ (j:Nat) (c:Box),B'[j]? = some c->∃ c0,st.B[j]? = some c0/\c.live=c0.live/\c.T=c0.T/\(c.cs=c0.cs\/(c0=b/\c.cs=cs')):=by
  grind
 have Jr:AV.scos st.B.length (vers V') cs':=by
  have h0:=AV.scos_iff.1 (b1.boxsc i b hb);rw [AV.scos_iff];intro y hy;rcases List.mem_or_eq_of_mem_set hy with hy | rfl
  ·grind
  ·simp [V']
 have ct:∀ vs:List Value,AV.all e' w (kss V') b.cs vs->AV.all e' w (kss V') cs' vs:=by
  intro vs hv;obtain ⟨v,h1,h2⟩:=hv.get hd;simp only [AV.holds,CV.holds] at h2;have:=hv.set off (x:=.own st.V.length 0) (v:=v) (by grind [AV.holds])
  have dk:vs.set off v=vs:=by
   refine List.ext_getElem? fun j=>?_
   grind
  grind
 have hm:Mem n0 w0 e' B' V' w:=by
  refine ⟨?_,?_,?_,?_,b1.vec,b1.vecS,?_,b1.vecinj,b1.ro,b1.below,b1.base,b1.bl,b1.hid.of rfl ⟨rfl,rfl⟩ (fun _ h=>.inl h) (SameG.refl _) (fun _ _ _=>rfl) (fun j c hc bw=>?_) (fun i x g hx hl hg=>.inl ⟨i,x,hx,hl,hg⟩)⟩
  rotate_left 5
  ·grind
  ·intro j c hc bw
   obtain ⟨c0,h1,h2,h3,h4⟩:=ae j c hc;obtain ⟨vs,a1,a2⟩:=b1.box j c0 h1 (by grind)
   grind
  ·intro j c hc
   obtain ⟨c0,h1,h2,h3,h4⟩:=ae j c hc;rw [ak];rcases h4 with h4 | ⟨rfl,h4⟩
   ·rw [h4];exact b1.boxsc j c0 h1
   grind
  ·intro j c hc bw
   obtain ⟨c0,h1,h2,_⟩:=ae j c hc;exact b1.boxlo j c0 h1 (by grind)
  ·intro j l c d hc jw bw qg he
   obtain ⟨c0,h1,h2,_⟩:=ae j c hc;obtain ⟨d0,g1,g2,_⟩:=ae l d jw;exact b1.boxinj j l c0 d0 h1 g1 (by grind) (by grind) he
  ·intro j v l c g hv jr hc bw hg
   obtain ⟨c0,h1,h2,_⟩:=ae l c hc;exact b1.vecbox j v l c0 g hv jr h1 (by grind) hg
 have hx:cL e st w e' B' V' w:=by
  grind
 refine ⟨e',⟨AV.all.mono hx _ _ hr.sc hr.tm,hx.scos hr.sc,hm⟩,hx⟩
end Go.Sx
