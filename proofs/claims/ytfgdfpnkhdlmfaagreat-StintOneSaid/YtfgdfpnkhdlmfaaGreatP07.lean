/-
 The laws of the stints of a common hold at every input, without any condition.
-/
import Derived.RangeFuncLeaves
import Derived.RangeFuncNested
import Derived.Test.YtfgdfpnkhdlmfaaGreatP06
namespace Go.Sx
open Go Go.RowKit
variable [G:Ghost]
section
variable {F:Fence} {n:Nat} {P:Program} {sg:FuncId->Option Sig} {M:Den} {rt:SS->Option Ou} {cm:Bool}
variable {inl:List (Option Nat×Hint×HT)->IN}
theorem aAe (gt:cm=true->G.yy=false) (hM:Fns P sg M) (hF:Free F) (hI:∀ il,CP F n P (inl il)) (mc:∀ s o,rt s=some o->∃ l,o=.ret l) {q:MRS} (hq:q.Ok) {as:List Pa} {il il2:List (Option Nat×Hint×HT)} {h:Hint} {y:HT} {lk:Lk} {env:List (Nat×Hint)} {s:SS} {K:SS->Option Ou} {r:Ou} {m:Emb} {st:St} {Q:Exit->St->Prop}
  (hE:Em m s st) (hh:aIV P sg M cm inl rt q as il h il2 y lk env s K=some r) (hK:∀ m' s' st',K s'=some r->Em m' s' st'->Adv lk m s st m' s' st'->Q .normal st'):W F n P (.seq q.head q.loop) st Q:=by
 unfold aIV at hh;split at hh
 case isFalse=>cases hh
 rename_i hc;have hc:=gt hc;split at hh
 case h_2=>cases hh
 rename_i mi s0 Ml i9;refine BG hE i9 fun m0 st0 ma zq=>aAd hF hc hq Ml ?_
 have main:=nT (F:=F) (n:=n) (ops:=q.ops.toList) hM hF (hI il) q.pre ma hh (Q:=fun st1=>∃ rows,st1.ev q.x=.cv (.mp mi.kl.length rows)/\rows.all (okE mi)=true/\∃ (I:Nat->List (List CV)->St->Prop) (E:List (List CV)->St->Prop),
   (∀ p,(∃ s1,Wk (st1.put (some q.it) (eK p) st1.B st1.V) s1/\I p [] s1)/\∃ s2,Wk (st1.put (some q.it) (eK p) st1.B st1.V) s2/\E [] s2) /\
   (∀ p d s,I p d s->s.ev (.tmp q.it)=eK p/\q.tn<s.t.length/\q.ok<s.t.length) /\
   (∀ p d row l s,(d++row::l).Perm rows->I p d s->dQ F n P (q.oE::q.eops).toArray q.eops (((s.put (some q.tn) .any s.B s.V).put (some q.ok) (.cv (.val (.bool true))) s.B s.V).put (some q.te) (wL mi row) s.B s.V) fun s' =>
    W F n P q.rest s' fun ex s''=>(ex=.normal\/ex=.exit q.b1)/\(∃ s1,Wk s'' s1/\I p (d++[row]) s1)/\∃ s2,Wk s'' s2/\E (d++[row]) s2) /\
   (∀ d s,d.Perm rows->E d s->Q .normal ((s.put (some q.tn) .any s.B s.V).put (some q.ok) .any s.B s.V))) ?_
 ·omega
 intro m1 s1 st1 h1 bY dy;split at h1
 case h_2=>cases h1
 rename_i kn rows aw;simp only at h1;split at h1
 case isFalse=>cases h1
 rename_i kw;simp only [Bool.and_eq_true,beq_iff_eq,decide_eq_true_eq] at kw;obtain ⟨⟨⟨⟨⟨⟨⟨⟨⟨⟨⟨rfl,aa⟩,d1⟩,d2⟩,d3⟩,d4⟩,d5⟩,d6⟩,d7⟩,l1⟩,l2⟩,l3⟩:=kw;obtain ⟨bk,h1⟩:=aO h1;have bk:rows.all (okE mi)=true:=bk;rw [zH] at h1;obtain ⟨s2,kr⟩:∃ s2,s2=s1.put (some q.it) .any s1.B s1.V:=⟨_,rfl⟩;simp only [<- kr] at aa d4 d5 d6 d7 h1;obtain ⟨lk2,Bw⟩:∃ lk2:Lk,lk2=⟨q.it::lk.t,lk.b,lk.v,lk.o⟩:=⟨_,rfl⟩;rw [<- Bw] at d5 d6 d7;have Gj:∀ p,cW h lk2 (s1.put (some q.it) (eK p) s1.B s1.V)=cW h lk2 s2:=fun p=>by rw [kr];rfl
 have ka:∀ p,(eK p).cz m1=eK p:=fun p=>by rfl
 have Jb:∀ p,Em m1 (s1.put (some q.it) (eK p) s1.B s1.V) (st1.put (some q.it) (eK p) st1.B st1.V):=fun p=>by
  have:=bY.put bY.m (Emb.Up.refl _) (fun _ _=>rfl) (Nat.le_refl _) (Nat.le_refl _) (x:=eK p) (by rfl) (some q.it)
  grind
 have i7:Em m1 s2 (st1.put (some q.it) .any st1.B st1.V):=by
  rw [kr];exact bY.put bY.m (Emb.Up.refl _) (fun _ _=>rfl) (Nat.le_refl _) (Nat.le_refl _) (x:=.any) (by rfl) (some q.it)
 have vg:Adv lk m1 s1 st1 m1 s2 (st1.put (some q.it) .any st1.B st1.V):=by
  rw [kr];exact Adv.put d1 (Stp.refl _ _ _) (Nat.le_refl _) (Nat.le_refl _) (fun _ _ _=>rfl) (fun _ _ _=>rfl) (fun _ _=>rfl)
 have Mm:∀ p,Adv (cW h lk s2) m1 s2 (st1.put (some q.it) .any st1.B st1.V) m1 (s1.put (some q.it) (eK p) s1.B s1.V) (st1.put (some q.it) (eK p) st1.B st1.V):=fun p=>by
  refine ⟨Stp.refl _ _ _,by rw [kr];rfl,by rw [kr];exact Nat.le_refl _,by rw [kr];exact Nat.le_refl _,fun d hd=>?_,fun _ _ _=>by rw [kr];rfl,fun _ _ _=>by rw [kr];rfl,fun _ _ _=>rfl⟩
  grind [SS.put_get]
 have Bx:∀ {p:Nat} {m':Emb} {s':SS} {st':St},Adv (cW h lk2 s2) m1 (s1.put (some q.it) (eK p) s1.B s1.V) (st1.put (some q.it) (eK p) st1.B st1.V) m' s' st'->Adv (cW h lk s2) m1 s2 (st1.put (some q.it) .any st1.B st1.V) m' s' st':=by
  intro p m' s' st' ha;refine (Mm p).trans ⟨ha.stp,ha.n,ha.bl,ha.vl,fun d hd=>ha.t d ?_,ha.b,ha.v,fun i hi=>ha.o i (by grind [cW])⟩
  grind [cW]
 obtain ⟨step,gg⟩:∃ step:Nat->List CV->List CV->Option Ou,step=fun p row vs =>
   evR P sg M (inl il2) (cW h lk2 (s1.put (some q.it) (eK p) s1.B s1.V)) false 0 (q.oE::q.eops) q.eops
    ((((bF h lk2 (s1.put (some q.it) (eK p) s1.B s1.V) vs).put (some q.tn) .any (bF h lk2 (s1.put (some q.it) (eK p) s1.B s1.V) vs).B (bF h lk2 (s1.put (some q.it) (eK p) s1.B s1.V) vs).V).put (some q.ok) (.cv (.val (.bool true))) (bF h lk2 (s1.put (some q.it) (eK p) s1.B s1.V) vs).B (bF h lk2 (s1.put (some q.it) (eK p) s1.B s1.V) vs).V).put (some q.te) (wL mi row) (bF h lk2 (s1.put (some q.it) (eK p) s1.B s1.V) vs).B (bF h lk2 (s1.put (some q.it) (eK p) s1.B s1.V) vs).V) fun s3 =>
      evC P sg M inl rt q.rest y (cW h lk2 (s1.put (some q.it) (eK p) s1.B s1.V)) ((q.b1,h)::env) s3 fun s'=>(kI h s').map .nx:=⟨_,rfl⟩
 have fc:∀ p l,l.Perm rows->∃ v0,kI h (s1.put (some q.it) (eK p) s1.B s1.V)=some v0/\gF h lk2 (s1.put (some q.it) (eK p) s1.B s1.V)=true/\∃ vf,gU q.b1 (step p) l v0=some vf /\
   K (((bF h lk s2 vf).put (some q.tn) .any (bF h lk s2 vf).B (bF h lk s2 vf).V).put (some q.ok) .any ((bF h lk s2 vf).put (some q.tn) .any (bF h lk s2 vf).B (bF h lk s2 vf).V).B ((bF h lk s2 vf).put (some q.tn) .any (bF h lk s2 vf).B (bF h lk s2 vf).V).V)=some r:=by
  intro p l hl;obtain ⟨vf,hh,Gk⟩:=eA (h1 p l hl);split at hh
  case h_2=>cases hh
  rename_i v0 ig;rw [<- Bw] at hh;split at hh
  case isFalse=>cases hh
  rename_i jf;exact ⟨v0,ig,jf,vf,by rw [gg];exact hh,Gk⟩
 have meet:∀ (p:Nat) (m':Emb) (s':SS) (st':St) (v:List CV),gF h lk2 (s1.put (some q.it) (eK p) s1.B s1.V)=true->kI h s'=some v->Em m' s' st'->Adv (cW h lk2 s2) m1 (s1.put (some q.it) (eK p) s1.B s1.V) (st1.put (some q.it) (eK p) st1.B st1.V) m' s' st' ->
   (∃ m3 st3,Wk st' st3/\Em m3 (bF h lk2 (s1.put (some q.it) (eK p) s1.B s1.V) v) st3/\Adv (cW h lk2 s2) m1 (s1.put (some q.it) (eK p) s1.B s1.V) (st1.put (some q.it) (eK p) st1.B st1.V) m3 (bF h lk2 (s1.put (some q.it) (eK p) s1.B s1.V) v) st3) /\
   ∃ m4 st4,Wk st' st4/\Em m4 (bF h lk s2 v) st4/\Adv (cW h lk s2) m1 s2 (st1.put (some q.it) .any st1.B st1.V) m4 (bF h lk s2 v) st4:=by
  intro p m' s' st' v Bz hx he ha;refine ⟨?_,oF i7 he (Bx ha) hx aa⟩;have:=oF (Jb p) he (by grind) hx Bz
  grind
 refine ⟨rows,by rw [bY.ev,aw];rfl,bk,
  fun p d s=>∃ v0 v m',gF h lk2 (s1.put (some q.it) (eK p) s1.B s1.V)=true/\kI h (s1.put (some q.it) (eK p) s1.B s1.V)=some v0/\gU q.b1 (step p) d v0=some v/\Em m' (bF h lk2 (s1.put (some q.it) (eK p) s1.B s1.V) v) s /\
   Adv (cW h lk2 s2) m1 (s1.put (some q.it) (eK p) s1.B s1.V) (st1.put (some q.it) (eK p) st1.B st1.V) m' (bF h lk2 (s1.put (some q.it) (eK p) s1.B s1.V) v) s,
  fun d s=>∃ p v0 v m',kI h (s1.put (some q.it) (eK p) s1.B s1.V)=some v0/\gU q.b1 (step p) d v0=some v/\Em m' (bF h lk s2 v) s/\Adv (cW h lk s2) m1 s2 (st1.put (some q.it) .any st1.B st1.V) m' (bF h lk s2 v) s,?_,?_,?_,?_⟩
 ·intro p
  obtain ⟨v0,g1,g2,_⟩:=fc p rows (.refl _);obtain ⟨⟨m3,st3,w1,w2,w3⟩,m4,st4,w4,w5,w6⟩:=meet p m1 _ _ v0 g2 g1 (Jb p) (Adv.refl _ _ _ _);exact ⟨⟨st3,w1,v0,v0,m3,g2,g1,rfl,w2,w3⟩,st4,w4,p,v0,v0,m4,g1,rfl,w5,w6⟩
 ·rintro p d s ⟨v0,v,m',_,_,_,g4,g5⟩
  have hn:(bF h lk2 (s1.put (some q.it) (eK p) s1.B s1.V) v).n=s1.n:=g5.n;have aj:s.t.length=s1.n:=by rw [g4.t,<- hn];simp
  refine ⟨?_,by omega,by omega⟩
  rw [g4.ev];have ag:=g5.t q.it (by grind [cW])
  have:(s1.put (some q.it) (eK p) s1.B s1.V).get q.it=eK p:=by
   simp [SS.put,SS.get,l1]
  show ((bF h lk2 (s1.put (some q.it) (eK p) s1.B s1.V) v).get q.it).cz m'=_;rw [ag,this];simp [eK,AV.cz]
 ·rintro p d row l s dq ⟨v0,v,m',g1,g2,g3,g4,g5⟩
  obtain ⟨v0',e1,_,vf,e3,_⟩:=fc p _ dq;rw [g2] at e1;cases e1;rw [uV,g3] at e3;simp [gU] at e3;split at e3
  case h_2=>cases e3
  rename_i v' ir
  obtain ⟨o,ho⟩:∃ o,step p row v=some o:=by
   cases hs:step p row v with
   | none=>grind [xL]
   | some o=>simp
  rw [ho] at ir
  have jk:gU q.b1 (step p) (d++[row]) v0=some v':=by
   grind [uV,gU]
  obtain ⟨T,hT⟩:∃ T,T=bF h lk2 (s1.put (some q.it) (eK p) s1.B s1.V) v:=⟨_,rfl⟩;have ge:=ho;rw [gg] at ge;simp only [Gj] at ge;rw [<- hT] at g4 g5 ge;have t1:Em m' (T.put (some q.tn) .any T.B T.V) (s.put (some q.tn) .any s.B s.V):=g4.put g4.m (Emb.Up.refl _) (fun _ _=>rfl) (Nat.le_refl _) (Nat.le_refl _) (x:=.any) (by rfl) (some q.tn)
  have t2:Em m' ((T.put (some q.tn) .any T.B T.V).put (some q.ok) (.cv (.val (.bool true))) T.B T.V) ((s.put (some q.tn) .any s.B s.V).put (some q.ok) (.cv (.val (.bool true))) s.B s.V):=by
   have:=t1.put t1.m (Emb.Up.refl _) (fun _ _=>rfl) (Nat.le_refl _) (Nat.le_refl _) (x:=.cv (.val (.bool true))) (by rfl) (some q.ok)
   have hz:(AV.cv (.val (.bool true))).cz m'=.cv (.val (.bool true)):=by rfl
   exact this
  have hA:(wL mi row).cz m'=wL mi row/\AV.inn T.B.length T.V.length (wL mi row)=true:=by
   unfold wL;constructor
   ·simp [AV.cz,AV.czs]
    split
    ·rfl
    simp [AV.cz,AV.czs_eq,List.map_map]
   ·simp [AV.inn,AV.inns]
    grind [AV.inn,AV.inns_eq]
  have t3:Em m' (((T.put (some q.tn) .any T.B T.V).put (some q.ok) (.cv (.val (.bool true))) T.B T.V).put (some q.te) (wL mi row) T.B T.V) (((s.put (some q.tn) .any s.B s.V).put (some q.ok) (.cv (.val (.bool true))) s.B s.V).put (some q.te) (wL mi row) s.B s.V):=by
   have:=t2.put t2.m (Emb.Up.refl _) (fun _ _=>rfl) (Nat.le_refl _) (Nat.le_refl _) (x:=wL mi row) hA.2 (some q.te)
   rw [hA.1] at this;exact this
  have a3:Adv (cW h lk2 s2) m' T s m' (((T.put (some q.tn) .any T.B T.V).put (some q.ok) (.cv (.val (.bool true))) T.B T.V).put (some q.te) (wL mi row) T.B T.V) (((s.put (some q.tn) .any s.B s.V).put (some q.ok) (.cv (.val (.bool true))) s.B s.V).put (some q.te) (wL mi row) s.B s.V):=by
   have b1:Adv (cW h lk2 s2) m' T s m' (T.put (some q.tn) .any T.B T.V) (s.put (some q.tn) .any s.B s.V):=Adv.put d5 (Stp.refl _ _ _) (Nat.le_refl _) (Nat.le_refl _) (fun _ _ _=>rfl) (fun _ _ _=>rfl) (fun _ _=>rfl)
   have b2:Adv (cW h lk2 s2) m' (T.put (some q.tn) .any T.B T.V) (s.put (some q.tn) .any s.B s.V) m' ((T.put (some q.tn) .any T.B T.V).put (some q.ok) (.cv (.val (.bool true))) T.B T.V) ((s.put (some q.tn) .any s.B s.V).put (some q.ok) (.cv (.val (.bool true))) s.B s.V):=Adv.put d6 (Stp.refl _ _ _) (Nat.le_refl _) (Nat.le_refl _) (fun _ _ _=>rfl) (fun _ _ _=>rfl) (fun _ _=>rfl)
   exact b1.trans (b2.trans (Adv.put d7 (Stp.refl _ _ _) (Nat.le_refl _) (Nat.le_refl _) (fun _ _ _=>rfl) (fun _ _ _=>rfl) (fun _ _=>rfl)))
  have B4:∀ {m5:Emb} {s5:SS} {st5:St},Adv (cW h lk2 s2) m' (((T.put (some q.tn) .any T.B T.V).put (some q.ok) (.cv (.val (.bool true))) T.B T.V).put (some q.te) (wL mi row) T.B T.V) (((s.put (some q.tn) .any s.B s.V).put (some q.ok) (.cv (.val (.bool true))) s.B s.V).put (some q.te) (wL mi row) s.B s.V) m5 s5 st5 ->
    Adv (cW h lk2 s2) m1 (s1.put (some q.it) (eK p) s1.B s1.V) (st1.put (some q.it) (eK p) st1.B st1.V) m5 s5 st5:=fun ha=>g5.trans (a3.trans ha)
  have fin:∀ (m5:Emb) (s5:SS) (st5:St),kI h s5=some v'->Em m5 s5 st5->Adv (cW h lk2 s2) m1 (s1.put (some q.it) (eK p) s1.B s1.V) (st1.put (some q.it) (eK p) st1.B st1.V) m5 s5 st5->_:=fun m5 s5 st5 hx he ha=>meet p m5 s5 st5 v' g1 hx he ha
  refine nT (F:=F) (n:=n) (ops:=q.oE::q.eops) hM hF (hI il2) q.eops t3 ge ?_;intro m2 s3 st3 b1 Gl Dz;refine nU hM hF hI mc q.rest y _ _ s3 _ o m2 st3 _ Gl b1 ?_ ?_ ?_
  ·intro m5 s5 st5 c1 c2 c3
   simp at c1;obtain ⟨vs,c1,rfl⟩:=c1;simp [xL] at ir;subst ir;obtain ⟨⟨m6,st6,w1,w2,w3⟩,m7,st7,w4,w5,w6⟩:=fin m5 s5 st5 c1 c2 (B4 (Dz.trans c3));exact ⟨.inl rfl,⟨st6,w1,v0,_,m6,g1,g2,jk,w2,w3⟩,st7,w4,p,v0,_,m7,g2,jk,w5,w6⟩
  ·intro id Bn vs m5 s5 st5 c0 c1 c4 c2 c3
   subst c4;simp only [xL] at ir;split at ir
   case isFalse=>grind
   rename_i hid;subst hid;simp at ir;subst ir;rw [BK,if_pos rfl] at c0;cases c0;obtain ⟨⟨m6,st6,w1,w2,w3⟩,m7,st7,w4,w5,w6⟩:=fin m5 s5 st5 c1 c2 (B4 (Dz.trans c3));exact ⟨.inr rfl,⟨st6,w1,v0,_,m6,g1,g2,jk,w2,w3⟩,st7,w4,p,v0,_,m7,g2,jk,w5,w6⟩
  ·intro m5 s5 st5 c1 c2 c3
   obtain ⟨l',rfl⟩:=mc _ _ c1;grind [xL]
 ·rintro d s dq ⟨p,v0,v,m',g2,g3,g4,g5⟩
  obtain ⟨v0',e1,_,vf,e3,h1⟩:=fc p _ dq;rw [g2] at e1;cases e1;rw [g3] at e3;cases e3;obtain ⟨T,hT⟩:∃ T,T=bF h lk s2 v:=⟨_,rfl⟩;rw [<- hT] at g4 g5 h1;have t1:Em m' (T.put (some q.tn) .any T.B T.V) (s.put (some q.tn) .any s.B s.V):=g4.put g4.m (Emb.Up.refl _) (fun _ _=>rfl) (Nat.le_refl _) (Nat.le_refl _) (x:=.any) (by rfl) (some q.tn)
  have t2:Em m' ((T.put (some q.tn) .any T.B T.V).put (some q.ok) .any T.B T.V) ((s.put (some q.tn) .any s.B s.V).put (some q.ok) .any s.B s.V):=t1.put t1.m (Emb.Up.refl _) (fun _ _=>rfl) (Nat.le_refl _) (Nat.le_refl _) (x:=.any) (by rfl) (some q.ok)
  have b1:Adv lk m' T s m' (T.put (some q.tn) .any T.B T.V) (s.put (some q.tn) .any s.B s.V):=Adv.put d2 (Stp.refl _ _ _) (Nat.le_refl _) (Nat.le_refl _) (fun _ _ _=>rfl) (fun _ _ _=>rfl) (fun _ _=>rfl)
  have b2:Adv lk m' (T.put (some q.tn) .any T.B T.V) (s.put (some q.tn) .any s.B s.V) m' ((T.put (some q.tn) .any T.B T.V).put (some q.ok) .any T.B T.V) ((s.put (some q.tn) .any s.B s.V).put (some q.ok) .any s.B s.V):=Adv.put d3 (Stp.refl _ _ _) (Nat.le_refl _) (Nat.le_refl _) (fun _ _ _=>rfl) (fun _ _ _=>rfl) (fun _ _=>rfl)
  exact hK m' _ _ h1 t2 (zq.trans (dy.trans (vg.trans ((g5.sub aa).trans (b1.trans b2)))))
theorem QD (gt:cm=true->G.yy=false) (hM:Fns P sg M) (hF:Free F) (hI:∀ il,CP F n P (inl il)) (mc:∀ s o,rt s=some o->∃ l,o=.ret l):∀ (c:Code) (ht:HT) (lk:Lk) (env:List (Nat×Hint)) (s:SS) (K:SS->Option Ou) (r:Ou) (m:Emb) (st:St) (Q:Exit->St->Prop),
  Em m s st->evB P sg M cm inl rt c ht lk env s K=some r ->
  (∀ m' s' st',K s'=some r->Em m' s' st'->Adv lk m s st m' s' st'->Q .normal st') ->
  (∀ id h vs m' s' st',xK id env=some h->kI h s'=some vs->r=.br id vs->Em m' s' st'->Adv lk m s st m' s' st'->Q (.exit id) st') ->
  (∀ m' s' st',rt s'=some r->Em m' s' st'->Adv lk m s st m' s' st'->Q .ret st') ->
  W F n P c st Q:=by
 intro c
 induction c with
 | seq a b iha ihb =>
  intro ht lk env s K r m st Q hE h hK hX hR;cases ht with
  | two x y =>
   refine aDx (iha x lk env s _ r m st _ hE h ?_ ?_ ?_)
   ·intro m' s' st' h1 h2 h3
    exact ihb y lk env s' K r m' st' Q h2 h1 (fun m'' s'' st'' g1 g2 g3=>hK m'' s'' st'' g1 g2 (h3.trans g3))
     (fun id h vs m'' s'' st'' g0 g1 g2 g3 g4=>hX id h vs m'' s'' st'' g0 g1 g2 g3 (h3.trans g4)) (fun m'' s'' st'' g1 g2 g3=>hR m'' s'' st'' g1 g2 (h3.trans g3))
   ·exact hX
   omega
  | mr as il h0 il2 y =>
   simp [evB] at h;split at h
   case h_2=>cases h
   rename_i q hq;obtain ⟨rfl,rfl,aa⟩:=TD hq;exact aAe gt hM hF hI mc aa hE h hK
  | _=>simp only [evB] at h;exact nU hM hF hI mc _ _ lk env s K r m st Q hE h hK hX hR
 | _=>intro ht lk env s K r m st Q hE h hK hX hR;simp only [evB] at h;exact nU hM hF hI mc _ _ lk env s K r m st Q hE h hK hX hR
end
section
variable {F:Fence} {n:Nat} {P:Program}
theorem aBj {ops:Array Oper} {l:List Oper} {st s1:St} {Q:St->Prop} (hw:Wk st s1) (h:dQ F n P ops l s1 Q):dQ F n P ops l st Q:=by
 intro n0 w0 e a w Qr hr hk;have oc:=hw.weak hr;have hx:dW e st w e s1.B s1.V w:=(Ext.refl e w st.B.length (vers st.V) (kss st.V)).weak oc (by rw [hw.Bl];omega) (by rw [hw.V];simp)
 exact h n0 w0 e a w Qr (hr.weak oc) fun e' st' a' w' hq ah ac bw=>hk e' st' a' w' hq ah ac (hx.trans bw)
theorem WH {N:Nat} {l l1:List (Nat×AV)} {B:List Box} {V:List Vec} (bq:∀ d,d<N->LeS (lk l d) (lk l1 d)):Wk ⟨mkT N l,B,V⟩ ⟨mkT N l1,B,V⟩:=by
 refine ⟨?_,rfl,fun i b1 hb=>⟨b1,hb,fun hl=>⟨hl,rfl,AV.les_refl _⟩⟩,rfl,?_,fun _ _ i b b1 h1 h2 h3=>by grind⟩
 ·have:∀ (ls:List Nat),(∀ d∈ls,d<N)->AV.les (ls.map (lk l)) (ls.map (lk l1)):=by
   intro ls
   induction ls with
   | nil=>intro _;exact .nil
   | cons d ls ih =>
    intro hl;exact .cons (bq d (hl d (by simp))).1 (ih fun d hd=>hl d (by grind))
  exact this _ fun d hd=>by grind
 ·intro nB ws hs
  rw [AV.scos_iff] at hs ⊢;intro y hy;simp [mkT] at hy;obtain ⟨d,hd,rfl⟩:=hy;refine (bq d hd).2 nB ws (hs _ ?_);grind [mkT]
end
def aEo (P:Program) (s:SS):ResultVar->Option AV
 | .tmp t=>some (s.get t)
 | .cell t T=>match s.get t with
  | .ptr i off=>jT P ⟨[],s.B,s.V⟩ T (.ptr i off)
  | _=>none
def rR (P:Program) (s:SS):List ResultVar->Option (List AV)
 | []=>some []
 | r::rs=>match aEo P s r,rR P s rs with
  | some x,some xs=>some (x::xs)
  | _,_=>none
def mJ:List AV->AV
 | [x]=>x
 | ys=>.tup ys
def gQ (x:Option Ou) (k:List CV->Option Ou):Option Ou:=match x with
 | some (.ret vs)=>k vs
 | _=>none
theorem QE {x:Option Ou} {k:List CV->Option Ou} {r:Ou} (h:gQ x k=some r):∃ vs,x=some (.ret vs)/\k vs=some r:=by
 have _:=G;unfold gQ at h;grind
def aCB (P:Program) (h:Hint) (ks:List Nat) (s:SS) (d:Option Nat) (rs:List ResultVar) (s':SS):Option Ou:=
 match rR P s' rs with
 | some ys=>(kI h ((s.kept ks).put d (mJ ys) s'.B s'.V)).map .ret
 | none=>none
abbrev EV:=(SS->Option Ou)->Code->HT->Lk->SS->(SS->Option Ou)->Option Ou
def fT (h:Hint) (lk:Lk) (s:SS):Lk:=⟨[],(cW h lk s).b,(cW h lk s).v,(List.range s.V.length).filter fun i=>!h.vxu.contains i⟩
def aLQ (n:Nat):List AV->Bool
 | .own j _::_=>j == n
 | _=>false
def QF (P:Program) (h h2:Hint) (nv:Nat) (lk:Lk) (s:SS) (d:Option Nat) (rs:List ResultVar) (s':SS):Option Ou:=
 match rR P s' rs with
 | some ys=>(match aLQ nv ys with
  | true=>(kI h ((s.kept (h.keep++lk.t)).put d (mJ ys) s'.B s'.V)).map fun l=>.ret (.val (.bool true)::l)
  | false=>(kI h2 ((s.kept (h2.keep++lk.t)).put d (mJ ys) s'.B s'.V)).map fun l=>.ret (.val (.bool false)::l))
 | none=>none
def JD (h h2:Hint) (lk:Lk) (s:SS):Lk:=⟨[],(cW h lk s).b++(cW h2 lk s).b,(cW h lk s).v++(cW h2 lk s).v,(List.range s.V.length).filter fun i=>!(h.vxu.contains i&&h2.vxu.contains i)⟩
def aEp (k:Nat) (et:TypeId) (by_:Nat):List CV->Bool
 | [.row k' [],.fn T [],.fn b []]=>k' == k&&(T == et&&b == by_)
 | _=>false
def aIW (P:Program) (sg:FuncId->Option Sig) (M:Den) (lk:Lk) (s:SS) (f:FuncId) (xs:List AV) (ty:TypeId) (K:Nat->Vec->Option Ou):Option Ou:=match sg f,cG P ty with
 | none,some ⟨_,_,.slc et k by_⟩=>match xs with
  | [.own i u,.cv (.val (.int .i64 n)),.cv (.row k' [x])]=>match s.V[i]? with
   | some v=>if (v.sl&&(v.ver == u&&(v.k == k&&(v.T == et&&(k' == k&&(x.length == k&&!lk.v.contains i))))))=true then
     aB (M f []) fun out=>chk (aEp k et by_ out) (chk (decide (0<=n)&&(decide (n<=v.es.length)&&cJ v.es.length 1 by_)) (K i ⟨v.live,v.T,v.k,v.ver+1,v.es.take n.toNat++x::v.es.drop n.toNat⟩))
    else none
   | none=>none
  | _=>none
 | _,_=>none
def FH (T:TypeId) (ts:List (Option (TypeId×Nat))):List CV->Bool
 | [.ref _,.fn T' l]=>T' == T&&SM ts l
 | _=>false
def nbO (sg:FuncId->Option Sig) (M:Den) (s:SS) (f:FuncId) (xs:List AV) (T:TypeId) (ts:List (Option (TypeId×Nat))) (K:AV->List Box->List Vec->Option Ou):Option Ou:=match sg f,sg (f+KK) with
 | some g,none=>(match iB s.B s.V g.ps xs with
  | some (l,false)=>aB (M (f+KK) l) fun out=>chk (FH T ts out) (K (.ptr s.B.length 0) (s.B++[⟨true,T,nbC (cF (out.getD 0 dC)) ts 0 s.V.length⟩]) (s.V++IA (cF (out.getD 0 dC)) ts 0))
  | _=>none)
 | _,_=>none
def aIX (sg:FuncId->Option Sig) (M:Den) (lk:Lk) (s:SS) (hdr:Bool) (f:FuncId) (xs:List AV) (K:AV->Nat->Vec->Option Ou):Option Ou:=match sg f with
 | none=>match xs with
  | .own i u::ys=>match s.V[i]?,gC ys with
   | some v,some cs=>if (v.sl&&(v.ver == u&&!lk.v.contains i))=true then
     aB (M f (.row v.k v.es::.fn v.T []::cs)) fun out=>chk (pG v.k hdr out) (K (if hdr=true then .own i (v.ver+1) else .tup []) i ⟨v.live,v.T,v.k,if hdr=true then v.ver+1 else v.ver,cR (out.getD 0 dC)⟩)
    else none
   | _,_=>none
  | _=>none
 | some _=>none
def kJ:AV->Option (FuncId×List AV×List AV)
 | .cv (.fn f caps)=>some (f,[],caps.map .cv)
 | .cv (.val (.func (.func f) ⟨[]⟩ ⟨[]⟩))=>some (f,[],[])
 | .fn f [.gd [false] .any,x]=>some (f,[x],[])
 | .fn f caps=>if vU caps=true then none else some (f,[],caps)
 | _=>none
def aEq (s:SS) (sh:YSh) (xs:List AV):Option (Bool×List CV):=match sh with
 | .clo cs=>match iB s.B s.V cs xs with
  | some (l,false)=>some (true,l)
  | _=>none
 | .lent T k=>match xs with
  | [.own i g]=>match s.V[i]? with
   | some v=>if (v.sl&&(v.ver == g&&(v.T == T&&v.k == k)))=true then some (GU v.es,[.row k v.es]) else none
   | none=>none
  | _=>none
def lfC:Lf->CV
 | .int k=>.val (.int k 0)
 | .bool=>.val (.bool true)
 | .row k=>.row k []
 | .ref=>.ref []
 | .raw=>.fn 0 []
 | .mp k=>.mp k []
def scC:Sc->List CV
 | .one l=>[lfC l]
 | .agg ls=>dC::ls.map lfC
def shC:YSh->CV
 | .lent T k=>.fn T [.row k []]
 | .clo cs=>.row 0 (cs.map scC)
def aIY (M:Den) (lk:Lk) (s:SS) (sh:YSh) (x:AV) (xs:List AV) (K:Bool->Vec->Option Ou):Option Ou:=match x with
 | .cv (.val (.func (.yield l) ⟨[]⟩ ⟨[]⟩))=>match s.V[0]?,aEq s sh xs with
  | some gv,some (b,cs)=>if (gv.T == ghT&&!lk.v.contains 0)=true then
    chk b (aB (M ghT (.val (.func (.yield l) #[] #[])::shC sh::.row 0 gv.es::cs)) fun out=>K (cB (out.getD 0 dC)) ⟨gv.live,gv.T,gv.k,gv.ver,cR (out.getD 1 dC)⟩)
   else none
  | _,_=>none
 | _=>none
noncomputable def LB (P:Program) (sg:FuncId->Option Sig) (M:Den) (ev:EV) (il:List (Option Nat×Hint×HT)):IN:=fun lk s o next =>
 match aBh o.dst il with
 | none=>none
 | some (_,.rt as)=>some (match o.guard,rQ as lk s with
  | none,some s1=>evO P sg M lk false 0 s1 o fun x B V=>next (s1.put o.dst x B V)
  | _,_=>none)
 | some (_,.ins)=>some (match o.guard,o.op with
  | none,.call { callee:=.value (.func f),args,.. }=>aIW P sg M lk s f (args.toList.map s.ev) o.type fun i v=>next (s.put o.dst (.own i v.ver) s.B (s.V.set i v))
  | _,_=>none)
 | some (_,.mt hdr)=>some (match o.guard,o.op with
  | none,.call { callee:=.value (.func f),args,.. }=>aIX sg M lk s hdr f (args.toList.map s.ev) fun x i v=>next (s.put o.dst x s.B (s.V.set i v))
  | _,_=>none)
 | some (_,.nb T ts)=>some (match o.guard,o.op with
  | none,.call { callee:=.value (.func f),args,.. }=>nbO sg M s f (args.toList.map s.ev) T ts fun x B V=>next (s.put o.dst x B V)
  | _,_=>none)
 | some (_,.rf none)=>some (match o.guard with
  | none=>evO P sg M lk false 0 s o fun x B V=>(match x with
   | .cv c=>chk (qN c) (next (s.put o.dst (.cv (.ref (cF c))) B V))
   | _=>none)
  | some _=>none)
 | some (_,.rf (some d))=>some (match o.guard,s.get d with
  | none,.cv c=>chk (qN c) (if d<s.n then evO P sg M lk false 0 (s.set d (.cv (.ref (cF c)))) o fun x B V=>next ((s.set d (.cv (.ref (cF c)))).put o.dst x B V) else none)
  | _,_=>none)
 | some (_,.yl sh)=>some (match o.op with
  | .call { callee:=.value x,args,.. }=>aIY M lk s sh (s.ev x) (args.toList.map s.ev) fun b gv=>next (s.put o.dst (.cv (.val (.bool b))) s.B (s.V.set 0 gv))
  | _=>none)
 | some (h,ht)=>some (
  match o.op with
  | .call { callee:=.value x,args,argTypes:=_ } =>
   match kJ (s.ev x) with
   | some (f,pre,caps) =>
    match P.funcs[f]? with
    | some fn=>match fn.body with
     | some c =>
      if (iI P f&&(gF h lk s&&(bX (cW h lk s) o.dst&&decide ((pre++(args.toList.map s.ev++caps)).length<=fn.ntmps))))=true then
       gQ (ev (aCB P h (h.keep++lk.t) s o.dst fn.results.toList) c (aIU f ht) (fT h lk s) ⟨fn.ntmps,gW 0 (pre++(args.toList.map s.ev++caps)),s.B,s.V⟩ (aCB P h (h.keep++lk.t) s o.dst fn.results.toList)) fun vs=>next (bF h lk s vs)
      else none
     | none=>none
    | none=>none
   | none=>none
  | _=>none)
noncomputable def aEr (P:Program) (ev:EV) (h h2:Hint) (nv:Nat) (ht:HT) (lk:Lk) (s:SS) (o:Oper) (next:SS->Option Ou):Option Ou:=
  match o.op with
  | .call { callee:=.value x,args,argTypes:=_ } =>
   match kJ (s.ev x) with
   | some (f,pre,caps) =>
    match P.funcs[f]? with
    | some fn=>match fn.body with
     | some c =>
      if (iI P f&&((gF h lk s&&gF h2 lk s)&&((bX (cW h lk s) o.dst&&bX (cW h2 lk s) o.dst)&&decide ((pre++(args.toList.map s.ev++caps)).length<=fn.ntmps))))=true then
       gQ (ev (QF P h h2 nv lk s o.dst fn.results.toList) c (aIU f ht) (JD h h2 lk s) ⟨fn.ntmps,gW 0 (pre++(args.toList.map s.ev++caps)),s.B,s.V⟩ (QF P h h2 nv lk s o.dst fn.results.toList)) fun vs =>
        aA (cB (vs.getD 0 dC)) (next (bF h lk s (vs.drop 1))) (next (bF h2 lk s (vs.drop 1)))
      else none
     | none=>none
    | none=>none
   | none=>none
  | _=>none
def sS (f:FuncId):CV->Bool
 | .val (.func (.func g) ⟨[]⟩ ⟨[]⟩)=>g == f
 | _=>false
theorem aCC {f:FuncId} {c:CV} (h:sS f c=true):c=fvC f:=by
 have _:=G;unfold sS at h;split at h
 ·rw [beq_iff_eq] at h;subst h;rfl
 grind
noncomputable def fvO (P:Program) (sg:FuncId->Option Sig) (M:Den) (ev:EV) (h:Hint) (ht:HT) (lk:Lk) (s:SS) (o:Oper) (next:SS->Option Ou) (d:Nat) (c:CV):List FuncId->Option Ou
 | []=>none
 | f::fs=>aA (sS f c) (match LB P sg M ev [(o.dst,h,ht)] lk (s.set d (.cv (fvC f))) o next with
   | some r=>r
   | none=>none) (fvO P sg M ev h ht lk s o next d c fs)
noncomputable def aEs (P:Program) (sg:FuncId->Option Sig) (M:Den) (ev:EV) (il:List (Option Nat×Hint×HT)):IN:=fun lk s o next =>
 match aBh o.dst il with
 | some (h,.pre as ht)=>some (match o.guard,rQ as lk s with
  | none,some s1=>(match LB P sg M ev [(o.dst,h,ht)] lk s1 o next with
   | some r=>r
   | none=>none)
  | _,_=>none)
 | some (h,.fv fs ht)=>some (match o.guard,o.op with
  | none,.call { callee:=.value (.tmp d),.. }=>(match s.get d with
   | .cv c=>if d<s.n then fvO P sg M ev h ht lk s o next d c fs else none
   | _=>none)
  | _,_=>none)
 | some (h,.in2 h2 nv ht)=>some (aEr P ev h h2 nv ht lk s o next)
 | _=>LB P sg M ev il lk s o next
structure FE where
 n:Nat
 rs:List ResultVar
 ht:HT
 g:Sig
section
variable (P:Program) (sg:FuncId->Option Sig) (M:Den)
def Sc.lvs:List Sc->List Lf
 | []=>[]
 | .one l::cs=>l::Sc.lvs cs
 | .agg ls::cs=>ls++Sc.lvs cs
def IB:List Lf->List CV->List CV
 | .row k::ls,.val (.slice none 0 0)::cs=>.row k []::IB ls cs
 | _::ls,c::cs=>c::IB ls cs
 | _,cs=>cs
def rtF (rs:List ResultVar) (gr:List Sc) (s:SS):Option Ou:=
 match rR P s rs with
 | some xs=>match iB s.B s.V gr xs with
  | some (l,_)=>some (.ret (IB (Sc.lvs gr) l))
  | none=>none
 | none=>none
def aV:Option Ou->Option (List CV)
 | some (.ret l)=>some l
 | _=>none
noncomputable def inN (cm:Bool):Nat->List (Option Nat×Hint×HT)->IN
 | 0=>fun _=>aIE
 | k+1=>aEs P sg M fun rt c ht lk s K=>evB P sg M cm (inN cm k) rt c ht lk [] s K
end
section
variable {P:Program} {sg:FuncId->Option Sig} {M:Den}
theorem TF:∀ (ls:List Lf) (cs:List CV) (k:Nat) (l:Lf),ls[k]? = some l->l.av ((IB ls cs).getD k dC)=l.av (cs.getD k dC)
 | [],cs,k,l,h=>by have _:=G;rfl
 | a::ls,[],k,l,h=>by grind [IB]
 | a::ls,c::cs,0,l,h=>by
  simp at h;unfold IB;grind [Lf.av,cR]
 | a::ls,c::cs,k+1,l,h=>by
  have ih:=TF ls cs k l h;unfold IB;grind
theorem WI {ls:List Lf} {cs:List CV}:∀ (sub:List Lf) (o:Nat),(∀ i l,sub[i]? = some l->ls[o+i]? = some l)->avs sub (IB ls cs) o=avs sub cs o
 | [],o,_=>rfl
 | l::sub,o,h=>by
  simp only [avs];rw [TF ls cs o l (by simpa using h 0 l rfl),WI sub (o+1) fun i x hx=>by rw [show o+1+i=o+(i+1) by omega];simp_all]
theorem LC {ls:List Lf} {cs:List CV}:∀ (gs:List Sc) (o:Nat),(∀ i l,(Sc.lvs gs)[i]? = some l->ls[o+i]? = some l)->Sc.avs gs (IB ls cs) o=Sc.avs gs cs o
 | [],o,_=>rfl
 | .one l::gs,o,h=>by
  simp only [Sc.avs,Sc.av,Sc.n];rw [TF ls cs o l (by simpa using h 0 l rfl),LC gs (o+1) fun i x hx=>by rw [show o+1+i=o+(i+1) by omega];simp_all [Sc.lvs]]
 | .agg sub::gs,o,h=>by
  simp only [Sc.avs,Sc.av,Sc.n]
  rw [WI sub o fun i l hl=>h i l (by grind [Sc.lvs]),
   LC gs (o+sub.length) fun i x hx=>by
    rw [show o+sub.length+i=o+(sub.length+i) by omega]
    simp_all [Sc.lvs,List.getElem?_append_right]]
theorem aEt (gs:List Sc) (cs:List CV):Sc.res gs (IB (Sc.lvs gs) cs)=Sc.res gs cs:=by
 have key:=LC (ls:=Sc.lvs gs) (cs:=cs) gs 0 fun i l h=>by grind
 unfold Sc.res;grind [Sc.avs]
variable {f:FuncId}
theorem CallP.res {args:List AV} {B:List Box} {V:List Vec} {K K':AV->List Box->List Vec->Prop} (h:CallP P f args B V K) (hk:∀ r B V,K r B V->∃ r',LeS r r'/\K' r' B V):CallP P f args B V K':=
 fun F n h1 h2 n0 w0 e w vs h3 h4 h5=>CallsIn.mono (h F n h1 h2 n0 w0 e w vs h3 h4 h5) fun en w' ⟨e',B',V',r,v,a1,a2,a3,a4,a5,a6⟩=>by
  obtain ⟨r',q1,q2⟩:=hk _ _ _ a2;exact ⟨e',B',V',r',v,a1,q2,a3,a4,q1.1 _ _ _ _ a5,q1.2 _ _ a6⟩
variable {m:Emb} {s:SS} {st:St} {x:AV}
theorem aCD (hE:Em m s st) {r:ResultVar} (h:aEo P s r=some x):EL P st r=some (x.cz m):=by
 unfold aEo at h;split at h
 ·cases h
  simp only [EL,hE.get]
 ·rename_i t T
  split at h
  ·rename_i i off hx
   unfold jT at h;simp only [EL,hE.get,hx,AV.cz];cases ar:cG P T with
   | none=>grind
   | some ti =>
    simp only [ar] at h;split at h
    ·rename_i b hb
     obtain ⟨bv,jb⟩:=hE.m.b i b hb;split at h
     ·simp only [jT,bv,Box.cz,AV.czs_eq]
      split at h
      ·split at h
       ·injection h with h;subst h
        simp_all [AV.cz,AV.czs_eq]
       grind
      grind
     grind
    grind
  grind
theorem uW {m:Emb} {s:SS} {st:St} (hE:Em m s st):∀ {rs:List ResultVar} {xs:List AV},rR P s rs=some xs->qI P st rs=some (AV.czs m xs)
 | [],xs,h=>by grind [rR,qI,AV.czs]
 | r::rs,xs,h=>by
  simp only [rR] at h;split at h
  ·rename_i x xs' h1 h2
   cases h;simp only [qI,aCD hE h1,uW hE h2,AV.czs]
  ·cases h
theorem qP (f:AV->AV):∀ (xs:List AV) (k:Nat),(gW k xs).map (fun p=>(p.1,f p.2))=gW k (xs.map f)
 | [],k=>by have _:=G;rfl
 | x::xs,k=>by simp [gW,qP f xs (k+1)]
theorem qQ {nb nv:Nat}:∀ (xs:List AV) (k:Nat),AV.inns nb nv xs=true->∀ p∈gW k xs,AV.inn nb nv p.2=true
 | [],k,_,p,h=>by have _:=G;simp_all
 | x::xs,k,hx,p,h=>by
  simp [AV.inns] at hx;simp at h;rcases h with rfl | h
  ·grind
  ·exact qQ xs (k+1) hx.2 p h
variable {rs:List ResultVar}
theorem aG4 {gr:List Sc} (s:SS) (o:Ou) (h:rtF P rs gr s=some o):∃ l,o=.ret l:=by
 have _:=G;unfold rtF at h;grind
theorem aEu {B:List Box} {V:List Vec}:∀ {ys:List AV} {cs:List Sc} {out:List CV},AV.les (AV.lends B V ys) (Sc.avs cs out 0)->AV.le (AV.lend B V (mJ ys)) (Sc.res cs out)
 | [],cs,out,h=>by
  cases cs with
  | nil=>exact AV.le_refl _
  | cons c cs=>cases h
 | [y],cs,out,h=>by
  cases cs with
  | nil=>cases h
  | cons c cs =>
   cases cs with
   | nil =>
    cases h with
    | cons h1 _=>exact h1
   | cons d cs =>
    cases h with
    | cons _ h2=>cases h2
 | y::z::ys,cs,out,h=>by
  cases cs with
  | nil=>cases h
  | cons c cs =>
   cases cs with
   | nil =>
    cases h with
    | cons _ h2=>cases h2
   | cons d cs =>
    intro e w ks v hv;obtain ⟨vs',h1,h2⟩:=hv;exact ⟨vs',h1,h.all h2⟩
variable {xs:List AV}
theorem FI (h:qI P st rs=some xs):rM P st rs=some (mJ xs):=by
 have _:=G;unfold rM;rw [h];cases xs with
 | nil=>rfl
 | cons x xs=>cases xs <;> rfl
theorem aEv (hE:Em m s st) {r:ResultVar} (h:aEo P s r=some x):AV.inn s.B.length s.V.length x=true:=by
 unfold aEo at h;split at h
 ·cases h;exact hE.inn _
 ·split at h
  ·rename_i t T _ i off hx
   unfold jT at h;cases ar:cG P T with
   | none=>grind
   | some ti =>
    simp [ar] at h;split at h
    ·rename_i b hb
     obtain ⟨_,jb⟩:=hE.m.b i b hb;grind [AV.inns_eq,AV.inn]
    grind
  grind
theorem QG {m:Emb} {s:SS} {st:St} (hE:Em m s st):∀ {rs:List ResultVar} {xs:List AV},rR P s rs=some xs->AV.inns s.B.length s.V.length xs=true
 | [],xs,h=>by simp [rR] at h;subst h;rfl
 | r::rs,xs,h=>by
  simp only [rR] at h;split at h
  ·rename_i x xs' h1 h2
   cases h;simp only [AV.inns,aEv hE h1,QG hE h2,Bool.and_self]
  ·cases h
theorem aEw (m:Emb) (ys:List AV):(mJ ys).cz m=mJ (AV.czs m ys):=by
 have _:=G;cases ys with
 | nil=>rfl
 | cons y ys=>cases ys <;> simp [mJ,AV.cz,AV.czs]
variable {nv:Nat}
theorem aCE {nb:Nat} {ys:List AV} (h:AV.inns nb nv ys=true):AV.inn nb nv (mJ ys)=true:=by
 have _:=G;cases ys with
 | nil=>rfl
 | cons y ys =>
  cases ys with
  | nil=>grind [mJ,AV.inns]
  | cons z ys=>grind [mJ,AV.inn]
variable {o:Oper} {rest:List Oper} {Q:St->Prop} {args:Array Operand} {ts:Array TypeId} {pre caps:List AV}
theorem BM {F:Fence} {n:Nat} {ops:Array Oper} (hF:Free F) {x:Operand}
  (ae:o.op=.call { callee:=.value x,args,argTypes:=ts }) (hx:kJ (st.ev x)=some (f,pre,caps))
  (dv:∀ (as:Array Value) (w:World),(callFunc f as).run P w=.ok (.enter f as) w)
  (h:CallP P f (pre++(args.toList.map st.ev++caps)) st.B st.V fun r B' V'=>dQ F n P ops rest (st.put o.dst r B' V') Q):YO F n P ops o rest st Q:=by
 unfold kJ at hx;split at hx
 ·rename_i g cs hg
  cases hx;exact tF hF ae (by rw [hg];rfl) dv (by grind)
 ·rename_i g hg
  intro n0 w0 e a w Qr hr hk;have ce:=(hr.ev x).1;rw [hg] at ce;have h1:=ce.1;have cn:=hr.evs args.toList;refine ⟨fun f _=>hF.fn f,?_⟩
  rw [Oper.semAt_plain F _ _ (by grind)]
  have ai:(execOp a.eval o).run P w=.ok (.enter f (args.map a.eval)) w:=by
   grind [execOp,resolve,Deferred.ofValue,invoke]
  rw [ai];refine ⟨fun hd=>by rw [hF.depth] at hd;grind,?_⟩
  refine CallsIn.anyRound (CallsIn.mono (h F.plain (n - 1) hF.plain rfl n0 w0 e w (args.map a.eval) hr.mem (by simp_all) (by
   grind)) ?_)
  rintro en w' ⟨e',B',V',r,v,rfl,hK,hm,ly,t6,dz⟩;have bo:=hr.put hm ly t6 dz o.dst;exact hK n0 w0 e' _ w' Qr bo fun e'' st' a' w'' hq ah ac hx=>hk e'' st' a' w'' hq ah (by rw [ac];cases o.dst <;> rfl) (ly.trans hx)
 ·rename_i g y hg
  cases hx;intro n0 w0 e a w Qr hr hk;have ce:=hr.ev x;rw [hg] at ce;obtain ⟨⟨vs,h1,h2⟩,h3⟩:=ce
  obtain ⟨us,uv,rfl⟩:∃ us:Array Value,us.size=1/\vs=#[undef]++us:=by
   match hv:vs.toList with
   | []=>grind [AV.all]
   | u::us =>
    rw [hv] at h2;have hl:=h2.length;have hu:u=undef:=h2.1.2 (by simp)
    exact ⟨us.toArray,by grind,by grind⟩
  rw [show sN [.gd [false] .any,y]=true from rfl,UU _ uv] at h1;simp at h2;have cn:=hr.evs args.toList;refine ⟨fun f _=>hF.fn f,?_⟩
  rw [Oper.semAt_plain F _ _ (by grind)]
  have ai:(execOp a.eval o).run P w=.ok (.enter f (us++args.map a.eval)) w:=by
   grind [execOp,resolve,Deferred.ofValue,invoke]
  rw [ai];refine ⟨fun hd=>by rw [hF.depth] at hd;grind,?_⟩
  refine CallsIn.anyRound (CallsIn.mono (h F.plain (n - 1) hF.plain rfl n0 w0 e w (us++args.map a.eval) hr.mem (by simpa using h2.2.append cn.1) (by
   simp_all)) ?_)
  rintro en w' ⟨e',B',V',r,v,rfl,hK,hm,ly,t6,dz⟩;have bo:=hr.put hm ly t6 dz o.dst;exact hK n0 w0 e' _ w' Qr bo fun e'' st' a' w'' hq ah ac hx=>hk e'' st' a' w'' hq ah (by rw [ac];cases o.dst <;> rfl) (ly.trans hx)
 ·split at hx
  ·cases hx
  ·cases hx
   refine tF hF ae ?_ dv (by simpa using h)
   have:sN caps=false:=by
    match caps with
    | []=>rfl
    | .gd _ _::_=>grind [vU]
    | .any::_=>rfl
    | .cv _::_=>rfl
    | .ptr _ _::_=>rfl
    | .own _ _::_=>rfl
    | .opt _ _ _ _::_=>rfl
    | .agg _::_=>rfl
    | .tup _::_=>rfl
    | .fn _ _::_=>rfl
   simp_all
 grind
theorem aCF (m:Emb) (h:vU xs=false):vU (AV.czs m xs)=false:=by
 have _:=G
 match xs with
 | []=>rfl
 | .gd _ _::_=>grind [vU]
 | .any::_=>rfl
 | .cv _::_=>rfl
 | .ptr _ _::_=>rfl
 | .own _ _::_=>rfl
 | .opt _ _ _ _::_=>rfl
 | .agg _::_=>rfl
 | .tup _::_=>rfl
 | .fn _ _::_=>rfl
theorem aAf (h:vU caps=false):kJ (.fn f caps)=some (f,[],caps):=by
 have _:=G
 match caps with
 | []=>rfl
 | .gd _ _::_=>grind [vU]
 | .any::_=>rfl
 | .cv _::_=>rfl
 | .ptr _ _::_=>rfl
 | .own _ _::_=>rfl
 | .opt _ _ _ _::_=>rfl
 | .agg _::_=>rfl
 | .tup _::_=>rfl
 | .fn _ _::_=>rfl
theorem LD (m:Emb) (h:kJ x=some (f,pre,caps)):kJ (x.cz m)=some (f,AV.czs m pre,AV.czs m caps):=by
 unfold kJ at h;split at h
 ·cases h
  simp [AV.czs_eq,AV.cz,kJ]
 ·grind [AV.cz,AV.czs,kJ]
 ·grind [AV.cz,AV.czs,kJ]
 ·split at h
  ·cases h
  ·rename_i jq
   cases h;simp [AV.cz];rw [aAf (aCF m (eq_false_of_ne_true jq))];rfl
 grind
theorem GY {nb:Nat} (hx:AV.inn nb nv x=true) (h:kJ x=some (f,pre,caps)):AV.inns nb nv pre=true/\AV.inns nb nv caps=true:=by
 unfold kJ at h;grind [AV.inns_eq,AV.inn]
variable {out:List CV}
theorem aCG {k:Nat} {et:TypeId} {b:Nat} (h:aEp k et b out=true):out=[.row k [],.fn et [],.fn b []]:=by
 have _:=G;unfold aEp at h;grind
variable {lk:Lk} {ops:List Oper} {r:Ou} {next:SS->Option Ou}
theorem aG5 (hM:Fns P sg M) {F:Fence} {n:Nat} (hF:Free F) (hE:Em m s st) (hw:Wants ops o st true) (hd:bX lk o.dst=true)
  (ae:o.op=.call { callee:=.value (.func f),args:=args,argTypes:=ts }) (h:(aIW P sg M lk s f (args.toList.map s.ev) o.type fun i v=>next (s.put o.dst (.own i v.ver) s.B (s.V.set i v)))=some r)
  (hk:∀ m' s' st',next s'=some r->Em m' s' st'->Adv lk m s st m' s' st'->dQ F n P ops.toArray rest st' Q):dQ F n P ops.toArray (o::rest) st Q:=by
 unfold aIW at h;split at h
 case h_2=>cases h
 rename_i et k by_ qy _;split at h
 case h_2=>cases h
 rename_i i u c k' x dO;split at h
 case h_2=>cases h
 rename_i v hv;split at h
 case isFalse=>cases h
 rename_i hc;simp at hc;obtain ⟨cu,rfl,rfl,rfl,rfl,iy,cw⟩:=hc;obtain ⟨out,h1,h2⟩:=eA h;obtain ⟨h3,h4⟩:=aO h2;obtain ⟨h5,h6⟩:=aO h4;rw [aCG h3] at h1;simp at h5;obtain ⟨dv,hI⟩:=hM.ins f v.k v.T by_ qy h1;have aq:=(List.getElem?_eq_some_iff.1 hv).1;have bt:=hE.m.v i v hv (.inl (Vec.sl_live cu))
 have af:args.toList.map st.ev=[.own (m.fv i) ((v.cz m i).ver),.cv (.val (.int .i64 c)),.cv (.row v.k [x])]:=by
  have:=cC hE args.toList;grind [AV.czs,AV.cz,Vec.cz]
 have ef:=hI st.B st.V (m.fv i) (v.cz m i) c x bt cu rfl rfl h5.1 h5.2.1 h5.2.2 iy;refine dM hw (tF hF ae (f:=f) (caps:=[]) (by simp) (enters dv) ?_)
 rw [List.append_nil,af];refine CallP.mono ef ?_;rintro r' B' V' ⟨rfl,rfl,rfl⟩;have gx:¬lk.v.contains i=true:=by grind
 refine hk m _ _ h6 (hE.put (hE.m.setV aq) (Emb.Up.refl _) (fun _ _=>rfl) (Nat.le_refl _) (by simp) (by grind [AV.inn]) o.dst)
  (Adv.put hd (Stp.setV hE.m aq _) (Nat.le_refl _) (by simp) (fun _ _ _=>rfl) (kS gx) (fun _ _=>rfl))
theorem WJ {T:TypeId} {ts:List (Option (TypeId×Nat))} (h:FH T ts out=true):∃ cs,out=[.ref cs,BF T ts]:=by
 unfold FH at h;grind [BF,FD]
theorem aIZ (hM:Fns P sg M) {F:Fence} {n:Nat} (hF:Free F) {ats:Array TypeId} {T:TypeId} {ts:List (Option (TypeId×Nat))} (hE:Em m s st) (hw:Wants ops o st true) (hd:bX lk o.dst=true)
  (ae:o.op=.call { callee:=.value (.func f),args,argTypes:=ats }) (hh:(nbO sg M s f (args.toList.map s.ev) T ts fun x B V=>next (s.put o.dst x B V))=some r)
  (hk:∀ m' s' st',next s'=some r->Em m' s' st'->Adv lk m s st m' s' st'->dQ F n P ops.toArray rest st' Q):dQ F n P ops.toArray (o::rest) st Q:=by
 unfold nbO at hh;split at hh
 case h_2=>cases hh
 rename_i g hg ew;split at hh
 case h_2=>cases hh
 rename_i l hl;obtain ⟨out,h1,h2⟩:=eA hh;obtain ⟨h3,h4⟩:=aO h2;obtain ⟨cs,rfl⟩:=WJ h3;have Gm:=hM.box f g T ts l cs hg ew h1;obtain ⟨_,p2⟩:=fS hE.m hl;have bz:=Sc.avs_closed g.ps l 0;have ef:=CallP.box Gm (AV.scos_closed _ _ _ bz) st.B st.V;have af:args.toList.map st.ev=AV.czs m (args.toList.map s.ev):=cC hE args.toList;refine dM hw (BM (x:=.func f) (pre:=[]) (caps:=[]) hF ae (by rfl) (enters (hM.ent f g hg)) ?_)
 rw [List.nil_append,List.append_nil,af];refine CallP.mono (CallP.args ef (p2 rfl).1 (AV.scos_closed _ _ _ bz)) ?_;rintro r' B' V' ⟨xs,V0,rfl,rfl,rfl,od,qx,df⟩
 obtain ⟨m',q1,q2,q3,q4,q5,q6,q7⟩:=aCh (B:=s.B) (B1:=st.B) (W:=st.V) (V0:=V0) cs ts xs cs 0 (hE.m.wk V0) qx od (fun p _=>by simp) df (fun j _ hc=>by
  have:=hE.m.mem_lt_v _ hc;omega)
 have O7:cF (([CV.ref cs,BF T ts]:List CV).getD 0 dC)=cs:=by rfl
 have q8:=q1.pushB (b:=⟨true,T,nbC cs ts 0 s.V.length⟩) q7;have ss:=Emb.pushB_up m' st.B.length
 have O8:(⟨true,T,nbC cs ts 0 s.V.length⟩:Box).cz (m'.pushB st.B.length)=⟨true,T,xs.map (shA st.V.length)⟩:=by
  rw [q1.up_b' ss (fun _ _=>rfl) q7]
  grind [Box.cz]
 have Dv:m'.bm.length=s.B.length:=q1.bl;have am:(m'.pushB st.B.length).fb s.B.length=st.B.length:=by grind [Emb.pushB_new]
 have Bc:m.Up (m'.pushB st.B.length):=q2.trans ss;have B5:∀ i,i<m.vm.length->(m'.pushB st.B.length).fo i=m.fo i:=fun i hi=>q4 i hi
 have Mn:(AV.ptr s.B.length 0).cz (m'.pushB st.B.length)=.ptr st.B.length 0:=by grind [AV.cz]
 have Gn:Stp m st.B st.V (m'.pushB st.B.length) (st.B++[⟨true,T,xs.map (shA st.V.length)⟩]) (st.V++V0):=by
  refine ⟨Bc,by simp,by simp,fun j hj=>?_,q5,fun j hj _=>by grind,fun j hj _=>by grind⟩
  grind [Emb.pushB]
 have e1:=hE.put q8 Bc B5 (by simp) (by simp) (x:=.ptr s.B.length 0) (by simp [AV.inn]) o.dst
 have a1:=Adv.put (lk:=lk) (s:=s) (st:=st) (x:=.ptr s.B.length 0) (y:=.ptr st.B.length 0) hd Gn (B:=s.B++[⟨true,T,nbC cs ts 0 s.V.length⟩]) (V:=s.V++IA cs ts 0) (by simp) (by simp) (fun i _ hi=>by grind) (fun i _ hi=>by grind) fun i hi=>B5 i (by rw [hE.m.vl];exact hi)
 grind
theorem aCH {k:Nat} {hdr:Bool} (h:pG k hdr out=true):∃ es',out=[.row k es',.val (.bool hdr)]:=by
 have _:=G;unfold pG at h;grind
theorem aG6 (hM:Fns P sg M) {F:Fence} {n:Nat} (hF:Free F) {hdr:Bool} (hE:Em m s st) (hw:Wants ops o st true) (hd:bX lk o.dst=true)
  (ae:o.op=.call { callee:=.value (.func f),args:=args,argTypes:=ts }) (h:(aIX sg M lk s hdr f (args.toList.map s.ev) fun x i v=>next (s.put o.dst x s.B (s.V.set i v)))=some r)
  (hk:∀ m' s' st',next s'=some r->Em m' s' st'->Adv lk m s st m' s' st'->dQ F n P ops.toArray rest st' Q):dQ F n P ops.toArray (o::rest) st Q:=by
 unfold aIX at h;split at h
 case h_2=>cases h
 rename_i qy;split at h
 case h_2=>cases h
 rename_i i u ys dO;split at h
 case h_2=>cases h
 rename_i v cs hv aT;split at h
 case isFalse=>cases h
 rename_i hc;simp at hc;obtain ⟨cu,rfl,cw⟩:=hc;obtain ⟨out,h1,h2⟩:=eA h;obtain ⟨h3,h6⟩:=aO h2;obtain ⟨es',rfl⟩:=aCH h3;obtain ⟨dv,hI⟩:=hM.mtt f v.T v.k cs v.es es' hdr qy h1;have aq:=(List.getElem?_eq_some_iff.1 hv).1;have bt:=hE.m.v i v hv (.inl (Vec.sl_live cu))
 have af:args.toList.map st.ev=.own (m.fv i) ((v.cz m i).ver)::cs.map .cv:=by
  have:=cC hE args.toList;grind [AV.czs_eq,fC,AV.cz,Vec.cz]
 have ef:=hI st.B st.V (m.fv i) (v.cz m i) bt cu rfl rfl rfl;refine dM hw (tF hF ae (f:=f) (caps:=[]) (by simp) (enters dv) ?_)
 rw [List.append_nil,af];refine CallP.mono ef ?_;rintro r' B' V' ⟨rfl,rfl,rfl⟩;have gx:¬lk.v.contains i=true:=by grind
 have hA:(if hdr=true then AV.own i (v.ver+1) else AV.tup []).cz m=(if hdr=true then AV.own (m.fv i) ((v.cz m i).ver+1) else AV.tup []):=by
  grind [AV.cz,AV.czs,Vec.cz]
 have hV:(⟨(v.cz m i).live,(v.cz m i).T,(v.cz m i).k,if hdr=true then (v.cz m i).ver+1 else (v.cz m i).ver,es'⟩:Vec)=(⟨v.live,v.T,v.k,if hdr=true then v.ver+1 else v.ver,es'⟩:Vec).cz m i:=by
  grind [Vec.cz]
 rw [hV,<- hA]
 have dc:AV.inn s.B.length (s.V.set i (⟨v.live,v.T,v.k,if hdr=true then v.ver+1 else v.ver,es'⟩:Vec)).length (if hdr=true then AV.own i (v.ver+1) else AV.tup [])=true:=by
  cases hdr
  ·rfl
  grind [AV.inn]
 refine hk m _ _ h6 (hE.put (hE.m.setV aq) (Emb.Up.refl _) (fun _ _=>rfl) (Nat.le_refl _) (by simp) dc o.dst)
  (Adv.put hd (Stp.setV hE.m aq _) (Nat.le_refl _) (by simp) (fun _ _ _=>rfl) (kS gx) (fun _ _=>rfl))
def Yls (P:Program) (M:Den):Prop:=∀ (l:Nat) (sh:YSh) (es:List (List CV)) (x out:List CV),M ghT (.val (.func (.yield l) #[] #[])::shC sh::.row 0 es::x)=some out->zB P l sh es x (cB (out.getD 0 dC)) (cR (out.getD 1 dC))
theorem aG7 (hY:Yls P M) {F:Fence} {n:Nat} (hF:Free F) {x:Operand} {sh:YSh} (hE:Em m s st) (hw:Wants ops o st true) (hd:bX lk o.dst=true)
  (ae:o.op=.call { callee:=.value x,args:=args,argTypes:=ts }) (h:(aIY M lk s sh (s.ev x) (args.toList.map s.ev) fun b gv=>next (s.put o.dst (.cv (.val (.bool b))) s.B (s.V.set 0 gv)))=some r)
  (hk:∀ m' s' st',next s'=some r->Em m' s' st'->Adv lk m s st m' s' st'->dQ F n P ops.toArray rest st' Q):dQ F n P ops.toArray (o::rest) st Q:=by
 unfold aIY at h;split at h
 case h_2=>cases h
 rename_i l hx;split at h
 case h_2=>cases h
 rename_i gv b cs hg aT;split at h
 case isFalse=>cases h
 rename_i hc;simp at hc;obtain ⟨su,cw⟩:=hc;obtain ⟨hb,h1⟩:=aO h;obtain ⟨out,h2,h3⟩:=eA h1;subst hb;have aq:=(List.getElem?_eq_some_iff.1 hg).1;have bt:=hE.m.v 0 gv hg (.inr su);have ce:st.ev x=.cv (.val (.func (.yield l) #[] #[])):=by rw [hE.ev,hx];rfl
 have yn:args.toList.map st.ev=AV.czs m (args.toList.map s.ev):=cC hE args.toList
 have af:aIe st sh (args.toList.map st.ev) cs:=by
  rw [yn];unfold aEq at aT;split at aT
  ·split at aT
   ·rename_i l' hl
    cases aT;exact ((fS hE.m hl).2 rfl).1
   grind
  ·split at aT
   ·rename_i i g dO
    split at aT
    ·rename_i v hv
     split at aT
     ·rename_i n7
      simp at n7;obtain ⟨c1,c2,c3,c4⟩:=n7;simp at aT;obtain ⟨c5,rfl⟩:=aT;have Dx:=hE.m.v i v hv (.inl (Vec.sl_live c1));refine ⟨m.fv i,v.cz m i,?_,Dx,c1,c3,c4,rfl,c5⟩;grind [AV.czs,AV.cz,Vec.cz]
     grind
    grind
   grind
 have mo:=hY l sh gv.es cs out h2;intro n0 w0 e a w Qr hr cq;have h0:m.fv 0=0:=(hr.mem.hid.gh _ _ bt su).1;have hA:(AV.cv (.val (.bool (cB (out.getD 0 dC))))).cz m=.cv (.val (.bool (cB (out.getD 0 dC)))):=by rfl
 have gx:¬lk.v.contains 0=true:=by grind
 have l7:dQ F n P ops.toArray (o::rest) st Q:=by
  have ig:st.V[0]? = some (gv.cz m 0):=by grind
  refine dM hw (ZH hF ae ce ig (show (gv.cz m 0).T=ghT from su) af mo ?_);have hV:st.V.set 0 ⟨(gv.cz m 0).live,(gv.cz m 0).T,(gv.cz m 0).k,(gv.cz m 0).ver,cR (out.getD 1 dC)⟩=st.V.set (m.fv 0) ((⟨gv.live,gv.T,gv.k,gv.ver,cR (out.getD 1 dC)⟩:Vec).cz m 0):=by rw [h0];rfl
  rw [hV,<- hA]
  exact hk m _ _ h3 (hE.put (hE.m.setV aq) (Emb.Up.refl _) (fun _ _=>rfl) (Nat.le_refl _) (by simp) (by rfl) o.dst)
   (Adv.put hd (Stp.setV hE.m aq _) (Nat.le_refl _) (by simp) (fun _ _ _=>rfl) (kS gx) (fun _ _=>rfl))
 exact l7 n0 w0 e a w Qr hr cq
def aG8 (P:Program) (ev:EV):Prop:=
 ∀ (F:Fence) (n:Nat),Free F->∀ (rt:SS->Option Ou),(∀ s o,rt s=some o->∃ l,o=.ret l)->∀ (c:Code) (ht:HT) (lk:Lk) (s:SS) (K:SS->Option Ou) (r:Ou) (m:Emb) (st:St) (Q:Exit->St->Prop),
  Em m s st->ev rt c ht lk s K=some r->(∀ m' s' st',K s'=some r->Em m' s' st'->Adv lk m s st m' s' st'->Q .normal st')->(∀ m' s' st',rt s'=some r->Em m' s' st'->Adv lk m s st m' s' st'->Q .ret st')->W F n P c st Q
variable {h:Hint} {d:Option Nat}
theorem aEx {ks:List Nat} {s0:SS} (s:SS) (o:Ou) (hh:aCB P h ks s0 d rs s=some o):∃ l,o=.ret l:=by
 have _:=G;unfold aCB at hh;grind [Option.map_eq_some_iff]
theorem Adv.lkle {lk':Lk} {m':Emb} {s':SS} {st':St} (h:Adv lk m s st m' s' st') (ht:∀ d∈lk'.t,d∈lk.t) (hb:∀ d∈lk'.b,d∈lk.b) (hv:∀ d∈lk'.v,d∈lk.v) (ho:∀ d∈lk'.o,d∈lk.o):Adv lk' m s st m' s' st':=have _:=G;
 ⟨h.stp,h.n,h.bl,h.vl,fun d hd=>h.t d (ht d hd),fun d hd=>h.b d (hb d hd),fun d hd=>h.v d (hv d hd),fun d hd=>h.o d (ho d hd)⟩
theorem aAg {F:Fence} {n:Nat} {nt:Nat} {vs:List CV} {ys:List AV} (hE:Em m s st) (aa:gF h lk s=true) (sr:bX (cW h lk s) o.dst=true)
  (hk:∀ m' st',Em m' (bF h lk s vs) st'->Adv lk m s st m' (bF h lk s vs) st'->dQ F n P ops.toArray rest st' Q)
  {m':Emb} {s':SS} {st':St} (mo:rR P s' rs=some ys) (g1:kI h ((s.kept (h.keep++lk.t)).put o.dst (mJ ys) s'.B s'.V)=some vs) (jl:Em m' s' st')
  (ha:Adv (fT h lk s) m ⟨nt,gW 0 xs,s.B,s.V⟩ ⟨mkT nt (gW 0 (AV.czs m xs)),st.B,st.V⟩ m' s' st'):∃ r',rM P st' rs=some r'/\dQ F n P ops.toArray rest (st.put o.dst r' st'.B st'.V) Q:=by
 obtain ⟨o1,o2,o3,o4,o5,o6,o7,o8,o9,o10⟩:=rP aa;refine ⟨_,FI (uW jl mo),?_⟩;rw [<- aEw]
 have cu:∀ d,d<s.n->LeS (Go.Sx.lk (s.t.map fun p=>(p.1,p.2.cz m)) d) (Go.Sx.lk ((s.kept (h.keep++lk.t)).t.map fun p=>(p.1,p.2.cz m')) d):=by
  intro d dh;rw [qJ (AV.cz m) (by rfl),qJ (AV.cz m') (by rfl)]
  simp only [SS.kept];rw [yX s.get];split
  ·have an:d∈h.keep++lk.t:=by grind
   have:(s.get d).cz m'=(s.get d).cz m:=AV.cz_noV (nb:=s.B.length) (nv:=s.V.length) (fun j hj=>ha.stp.up.b j (by rw [hE.m.bl];exact hj)) (fun j hj=>ha.stp.up.v j (by rw [hE.m.vl];exact hj))
    (fun j hj Dn=>ha.o j (by grind [fT]) hj) _ (hE.inn d) (o1 d an)
   rw [this];simp [SS.get,dh];exact LeS.refl _
  ·exact LeS.any _
 let s2:SS:=⟨s.n,(s.kept (h.keep++lk.t)).t,s'.B,s'.V⟩
 let st2:St:=⟨mkT s.n ((s.kept (h.keep++lk.t)).t.map fun p=>(p.1,p.2.cz m')),st'.B,st'.V⟩
 have i7:Em m' s2 st2:=by
  refine ⟨rfl,fun p hp=>?_,jl.m⟩
  simp only [s2,SS.kept,List.mem_map] at hp;obtain ⟨d,_,rfl⟩:=hp;exact AV.inn_mono ha.bl ha.vl _ (hE.inn d)
 have Gl:=i7.put jl.m (Emb.Up.refl _) (fun _ _=>rfl) (Nat.le_refl _) (Nat.le_refl _) (aCE (QG jl mo)) o.dst
 have DO:Wk (st.put o.dst ((mJ ys).cz m') st'.B st'.V) (st2.put o.dst ((mJ ys).cz m') st'.B st'.V):=by
  cases hdd:o.dst with
  | none =>
   simp [hE.t];exact WH cu
  | some d =>
   simp [st2,hE.t];refine WH fun k hk=>?_
   simp;split
   ·exact LeS.refl _
   grind
 refine aBj DO ?_
 have Dz:Adv (cW h lk s) m s st m' (s2.put o.dst (mJ ys) s'.B s'.V) (st2.put o.dst ((mJ ys).cz m') st'.B st'.V):=by
  refine ⟨ha.stp,rfl,ha.bl,ha.vl,fun d d8=>?_,ha.b,ha.v,fun i hi aq=>ha.o i ?_ aq⟩
  ·rw [SS.put_get sr d d8]
   exact SS.kept_get d8
  ·simp only [fT,List.mem_filter,List.mem_range,Bool.not_eq_true']
   exact ⟨aq,o10 i hi⟩
 obtain ⟨m1,st1,q1,q2,q3⟩:=oF hE Gl Dz g1 aa;exact aBj q1 (hk m1 st1 q2 (q3.sub aa))
variable {ev:EV}
theorem FJ (hM:Fns P sg M) (hY:Yls P M) {F:Fence} {n:Nat} (hF:Free F) (aw:aG8 P ev) (il:List (Option Nat×Hint×HT)):CP F n P (LB P sg M ev il):=by
 intro lk m s st ops o rest r Q next hE hw hd hh hk
 unfold LB at hh;split at hh
 ·cases hh
 ·injection hh with hh
  split at hh
  ·rename_i s1 hg iz
   exact SQ hE iz fun m1 st1 bY dy=>zC hM hF bY (Wants.none hg) hd hh fun x B V m' B' V' hx he ha=>hk _ _ _ hx he (dy.trans ha)
  grind
 ·injection hh with hh
  split at hh
  ·rename_i f args ts hg ae
   exact aG5 hM hF hE hw hd ae hh hk
  grind
 ·injection hh with hh
  split at hh
  ·rename_i f args ts hg ae
   exact aG6 hM hF hE hw hd ae hh hk
  grind
 ·injection hh with hh
  split at hh
  ·rename_i f args ats hg ae
   exact aIZ hM hF hE hw hd ae hh hk
  grind
 ·injection hh with hh
  split at hh
  ·rename_i hg
   refine zC hM hF hE (Wants.none hg) hd hh fun x B V m' B' V' hx he ha=>?_
   split at hx
   ·obtain ⟨h1,h2⟩:=aO hx
    have hc:=xI h1;grind
   grind
  grind
 ·rename_i d lj
  injection hh with hh
  split at hh
  ·rename_i c hg ag
   obtain ⟨h1,h2⟩:=aO hh;have hc:=xI h1;split at h2
   ·rename_i dh
    have dm:s.get d=.cv (.ref (cF c)):=by grind
    exact zC hM hF (hE.set dm dh) (Wants.none hg) hd h2 fun x B V m' B' V' hx he ha=>hk _ _ _ hx he ((Adv.set dm).trans ha)
   grind
  grind
 ·injection hh with hh
  split at hh
  ·rename_i x args ts ae
   exact aG7 hY hF hE hw hd ae hh hk
  grind
 rename_i h ht _ _ _ _ _ _ _ lj;injection hh with hh
 split at hh
 case h_2=>cases hh
 rename_i x args ats ae;split at hh
 case h_2=>cases hh
 rename_i f pre caps rj;split at hh
 case h_2=>cases hh
 rename_i fn wd;split at hh
 case h_2=>cases hh
 rename_i c gf;split at hh
 case isFalse=>cases hh
 rename_i hc;simp at hc;obtain ⟨dv,aa,sr,aj⟩:=hc;obtain ⟨vs,h1,h2⟩:=QE hh;generalize dO:pre++(args.toList.map s.ev++caps)=xs at *;have af:AV.czs m pre++(args.toList.map st.ev++AV.czs m caps)=AV.czs m xs:=by grind [CN,cC]
 refine dM hw (BM hF ae (by rw [hE.ev];exact LD m rj) (enters dv) ?_)
 rw [af];refine GO wd gf fun F' n' py=>?_
 have rk:(AV.czs m xs).length<=fn.ntmps:=by grind [AV.czs_eq]
 rw [start_eq _ _ rk]
 have yp:AV.inns s.B.length s.V.length xs=true:=by
  rw [AV.inns_eq,List.all_eq_true,<- dO];intro y hy;have iF:=GY (hE.innEv x) rj;rcases List.mem_append.1 hy with hy | hy
  ·grind [AV.inns_eq]
  rcases List.mem_append.1 hy with hy | hy
  ·obtain ⟨a,_,rfl⟩:=List.mem_map.1 hy
   exact hE.innEv a
  grind [AV.inns_eq]
 have bY:Em m ⟨fn.ntmps,gW 0 xs,s.B,s.V⟩ ⟨mkT fn.ntmps (gW 0 (AV.czs m xs)),st.B,st.V⟩:=by
  refine ⟨?_,qQ _ _ yp,hE.m⟩;rw [qP,<- AV.czs_eq]
 have fin:∀ (m':Emb) (s':SS) (st':St),aCB P h (h.keep++lk.t) s o.dst fn.results.toList s'=some (.ret vs)->Em m' s' st'->Adv (fT h lk s) m ⟨fn.ntmps,gW 0 xs,s.B,s.V⟩ ⟨mkT fn.ntmps (gW 0 (AV.czs m xs)),st.B,st.V⟩ m' s' st' ->
   ∃ r',rM P st' fn.results.toList=some r'/\dQ F n P ops.toArray rest (st.put o.dst r' st'.B st'.V) Q:=by
  intro m' s' st' g1 jl ha;unfold aCB at g1;split at g1
  case h_2=>cases g1
  rename_i ys mo;simp at g1;exact aAg hE aa sr (fun m1 st1 q2 q3=>hk m1 _ st1 h2 q2 q3) mo g1 jl ha
 refine aw F' n' py _ (aEx) c _ _ _ _ _ _ _ _ bY h1 (fun m' s' st' g1 g2 g3=>⟨.inl rfl,fin m' s' st' g1 g2 g3⟩) (fun m' s' st' g1 g2 g3=>⟨.inr rfl,fin m' s' st' g1 g2 g3⟩)
theorem aCI {h2:Hint} {s0:SS} (s:SS) (o:Ou) (hh:QF P h h2 nv lk s0 d rs s=some o):∃ l,o=.ret l:=by
 have _:=G;unfold QF at hh;grind [Option.map_eq_some_iff]
theorem aEy {F:Fence} {n:Nat} (hF:Free F) (aw:aG8 P ev) {qn:Hint} {ht:HT} (hE:Em m s st) (hw:Wants ops o st true)
  (hh:aEr P ev h qn nv ht lk s o next=some r) (hk:∀ m' s' st',next s'=some r->Em m' s' st'->Adv lk m s st m' s' st'->dQ F n P ops.toArray rest st' Q):dQ F n P ops.toArray (o::rest) st Q:=by
 unfold aEr at hh;split at hh
 case h_2=>cases hh
 rename_i x args ats ae;split at hh
 case h_2=>cases hh
 rename_i f pre caps rj;split at hh
 case h_2=>cases hh
 rename_i fn wd;split at hh
 case h_2=>cases hh
 rename_i c gf;split at hh
 case isFalse=>cases hh
 rename_i hc;simp at hc;obtain ⟨dv,⟨aa,iq⟩,⟨sr,Gp⟩,aj⟩:=hc;obtain ⟨vs,h1,h2⟩:=QE hh;generalize dO:pre++(args.toList.map s.ev++caps)=xs at *;have af:AV.czs m pre++(args.toList.map st.ev++AV.czs m caps)=AV.czs m xs:=by grind [CN,cC]
 refine dM hw (BM hF ae (by rw [hE.ev];exact LD m rj) (enters dv) ?_)
 rw [af];refine GO wd gf fun F' n' py=>?_
 have rk:(AV.czs m xs).length<=fn.ntmps:=by grind [AV.czs_eq]
 rw [start_eq _ _ rk]
 have yp:AV.inns s.B.length s.V.length xs=true:=by
  rw [AV.inns_eq,List.all_eq_true,<- dO];intro y hy;have iF:=GY (hE.innEv x) rj;rcases List.mem_append.1 hy with hy | hy
  ·grind [AV.inns_eq]
  rcases List.mem_append.1 hy with hy | hy
  ·obtain ⟨a,_,rfl⟩:=List.mem_map.1 hy
   exact hE.innEv a
  grind [AV.inns_eq]
 have bY:Em m ⟨fn.ntmps,gW 0 xs,s.B,s.V⟩ ⟨mkT fn.ntmps (gW 0 (AV.czs m xs)),st.B,st.V⟩:=by
  refine ⟨?_,qQ _ _ yp,hE.m⟩;rw [qP,<- AV.czs_eq]
 have fin:∀ (m':Emb) (s':SS) (st':St),QF P h qn nv lk s o.dst fn.results.toList s'=some (.ret vs)->Em m' s' st'->Adv (JD h qn lk s) m ⟨fn.ntmps,gW 0 xs,s.B,s.V⟩ ⟨mkT fn.ntmps (gW 0 (AV.czs m xs)),st.B,st.V⟩ m' s' st' ->
   ∃ r',rM P st' fn.results.toList=some r'/\dQ F n P ops.toArray rest (st.put o.dst r' st'.B st'.V) Q:=by
  intro m' s' st' g1 jl ha;unfold QF at g1;split at g1
  case h_2=>cases g1
  rename_i ys mo;split at g1
  ·simp at g1
   obtain ⟨l,g1,rfl⟩:=g1;refine aAg hE aa sr (fun m1 st1 q2 q3=>hk m1 _ st1 ?_ q2 q3) mo g1 jl (ha.lkle (fun d hd=>hd) (fun d hd=>List.mem_append_left _ hd) (fun d hd=>List.mem_append_left _ hd) fun d hd=>?_)
   ·grind [aA,cB]
   grind [fT,JD]
  ·simp at g1
   obtain ⟨l,g1,rfl⟩:=g1;refine aAg hE iq Gp (fun m1 st1 q2 q3=>hk m1 _ st1 ?_ q2 q3) mo g1 jl (ha.lkle (fun d hd=>hd) (fun d hd=>List.mem_append_right _ hd) (fun d hd=>List.mem_append_right _ hd) fun d hd=>?_)
   ·grind [aA,cB]
   grind [fT,JD]
 refine aw F' n' py _ (aCI) c _ _ _ _ _ _ _ _ bY h1 (fun m' s' st' g1 g2 g3=>⟨.inl rfl,fin m' s' st' g1 g2 g3⟩) (fun m' s' st' g1 g2 g3=>⟨.inr rfl,fin m' s' st' g1 g2 g3⟩)
theorem aEz (hM:Fns P sg M) (hY:Yls P M) {F:Fence} {n:Nat} (hF:Free F) {ev:EV} (aw:aG8 P ev) {h:Hint} {ht:HT} {lk:Lk} {m:Emb} {s:SS} {st:St} {ops:List Oper} {o:Oper} {rest:List Oper} {r:Ou} {Q:St->Prop} {next:SS->Option Ou} {d:Nat} {c:CV}
  (hE:Em m s st) (hg:o.guard=none) (hd:bX lk o.dst=true) (ag:s.get d=.cv c) (dh:d<s.n) (hk:∀ m' s' st',next s'=some r->Em m' s' st'->Adv lk m s st m' s' st'->dQ F n P ops.toArray rest st' Q) :
  ∀ fs,fvO P sg M ev h ht lk s o next d c fs=some r->dQ F n P ops.toArray (o::rest) st Q
 | [],hh=>by grind [fvO]
 | f::fs,hh=>by
  simp [fvO] at hh;cases hb:sS f c with
  | false =>
   rw [hb] at hh;exact aEz hM hY hF aw hE hg hd ag dh hk fs hh
  | true =>
   rw [hb] at hh;split at hh
   ·rename_i r' bo
    subst hh;have dm:s.get d=.cv (fvC f):=by grind [aCC]
    exact FJ hM hY hF aw [(o.dst,h,ht)] (hE.set dm dh) (Wants.none hg) hd bo fun m' s' st' h1 h2 h3=>hk m' s' st' h1 h2 ((Adv.set dm).trans h3)
   ·cases hh
theorem aEA (hM:Fns P sg M) (hY:Yls P M) {F:Fence} {n:Nat} (hF:Free F) (aw:aG8 P ev) (il:List (Option Nat×Hint×HT)):CP F n P (aEs P sg M ev il):=by
 intro lk m s st ops o rest r Q next hE hw hd hh hk
 unfold aEs at hh;split at hh
 ·rename_i h as ht lj
  injection hh with hh
  split at hh
  ·rename_i s1 hg iz
   split at hh
   ·rename_i r' bo
    subst hh;exact SQ hE iz fun m1 st1 bY dy=>FJ hM hY hF aw [(o.dst,h,ht)] bY (Wants.none hg) hd bo fun m' s' st' h1 h2 h3=>hk m' s' st' h1 h2 (dy.trans h3)
   grind
  grind
 ·rename_i h fs ht lj
  injection hh with hh
  split at hh
  ·rename_i d args ts hg ae
   split at hh
   ·rename_i c ag
    split at hh
    ·rename_i dh
     exact aEz hM hY hF aw hE hg hd ag dh hk fs hh
    grind
   grind
  grind
 ·injection hh with hh
  exact aEy hF aw hE hw hh hk
 ·exact FJ hM hY hF aw il hE hw hd hh hk
theorem LF {cm:Bool} (gt:cm=true->G.yy=false) (hM:Fns P sg M) (hY:Yls P M):∀ (k:Nat) {F:Fence} {n:Nat},Free F->∀ il,CP F n P (inN P sg M cm k il)
 | 0,F,n,hF,il=>aGL
 | k+1,F,n,hF,il=>by
  refine aEA hM hY hF ?_ il;intro F n hF rt mc c ht lk s K r m st Q hE h hK hR;exact QD gt hM hF (LF gt hM hY k hF) mc c ht lk [] s K r m st Q hE h hK (fun id h vs m' s' st' h0=>by grind [xK]) hR
end
structure ROw (w:World) (S:Nat->Prop) (w':World) (S':Nat->Prop):Prop where
 sub:∀ b,S b->S' b
 cell:∀ b o x,S b->w.cell? ⟨b,o,none⟩=some x->w'.cell? ⟨b,o,none⟩=some x
 map:∀ b arr c,S b->w.heap[b]? = some (.map arr c)->w'.heap[b]? = some (.map arr c)
mutual
theorem CV.holds.monoW {w w':World} {S S':Nat->Prop} (h:ROw w S w' S'):∀ (c:CV) (v:Value),CV.holds w S c v->CV.holds w' S' c v
 | .val _,_,hv=>by have _:=G;grind [CV.holds]
 | .row k es,v,hv=>by
  obtain ⟨a,cap,h1,h2,h3,h4⟩:=hv;refine ⟨a,cap,h1,h2,h3,?_⟩;rcases h4 with h4 | ⟨b,o,h4,h5,h6⟩
  ·grind
  ·exact .inr ⟨b,o,h4,h.sub b h5,CV.rows.monoW h k es b o h5 h6⟩
 | .ref cs,v,hv=>by
  obtain ⟨b,o,h1,h2,h3⟩:=hv;exact ⟨b,o,h1,h.sub b h2,CV.cells.monoW h cs b o h2 h3⟩
 | .fn f caps,v,hv=>by
  obtain ⟨vs,h1,h2⟩:=hv;exact ⟨vs,h1,CV.vals.monoW h caps _ h2⟩
 | .mp kn es,v,hv=>by
  obtain ⟨b,arr,c,ps,h1,h2,h3,h4,h5,h6⟩:=hv;exact ⟨b,arr,c,ps,h1,h.sub b h2,h.map b arr c h2 h3,h4,h5,CV.ents.monoW h kn es ps h6⟩
theorem CV.cells.monoW {w w':World} {S S':Nat->Prop} (h:ROw w S w' S'):∀ (cs:List CV) (b o:Nat),S b->CV.cells w S cs b o->CV.cells w' S' cs b o
 | [],_,_,_,_=>by have _:=G;simp [CV.cells]
 | c::cs,b,o,hb,hv=>by
  obtain ⟨⟨x,h1,h2⟩,h3⟩:=hv;exact ⟨⟨x,h.cell b o x hb h1,CV.holds.monoW h c x h2⟩,CV.cells.monoW h cs b (o+1) hb h3⟩
theorem CV.rows.monoW {w w':World} {S S':Nat->Prop} (h:ROw w S w' S') (k:Nat):∀ (es:List (List CV)) (b o:Nat),S b->CV.rows w S k es b o->CV.rows w' S' k es b o
 | [],_,_,_,_=>by have _:=G;simp [CV.rows]
 | e::es,b,o,hb,hv=>by
  obtain ⟨h1,h2,h3⟩:=hv;exact ⟨h1,CV.cells.monoW h e b o hb h2,CV.rows.monoW h k es b (o+k) hb h3⟩
theorem CV.vals.monoW {w w':World} {S S':Nat->Prop} (h:ROw w S w' S'):∀ (cs:List CV) (vs:List Value),CV.vals w S cs vs->CV.vals w' S' cs vs
 | [],[],_=>by have _:=G;simp [CV.vals]
 | c::cs,v::vs,hv=>by
  exact ⟨CV.holds.monoW h c v hv.1,CV.vals.monoW h cs vs hv.2⟩
 | [],_::_,hv=>by grind [CV.vals]
 | _::_,[],hv=>by grind [CV.vals]
theorem CV.ents.monoW {w w':World} {S S':Nat->Prop} (h:ROw w S w' S') (kn:Nat):∀ (es:List (List CV)) (ps:List (Value×Value)),CV.ents w S kn es ps->CV.ents w' S' kn es ps
 | [],[],_=>by have _:=G;simp [CV.ents]
 | e::es,p::ps,hv=>by
  obtain ⟨⟨vs,h1,h2⟩,h3⟩:=hv;exact ⟨⟨vs,CV.vals.monoW h e vs h1,h2⟩,CV.ents.monoW h kn es ps h3⟩
 | [],_::_,hv=>by grind [CV.ents]
 | _::_,[],hv=>by grind [CV.ents]
end
def Env.withS (e:Env) (S':Nat->Prop):Env:={ e with S:=S' }
@[simp] theorem Env.withS_ρ (e:Env) (S':Nat->Prop):(e.withS S').ρ=e.ρ:=have _:=G;rfl
@[simp] theorem Env.withS_hdr (e:Env) (S':Nat->Prop):(e.withS S').hdr=e.hdr:=have _:=G;rfl
@[simp] theorem Env.withS_S (e:Env) (S':Nat->Prop):(e.withS S').S=S':=have _:=G;rfl
@[simp] theorem Env.withS_base (e:Env) (S':Nat->Prop):(e.withS S').base=e.base:=have _:=G;rfl
mutual
theorem AV.holds.monoW {e:Env} {w w':World} {S':Nat->Prop} {ks:List Nat} (h:ROw w e.S w' S'):∀ (x:AV) (v:Value),AV.holds e w ks x v->AV.holds (e.withS S') w' ks x v
 | .any,_,hv=>by simp [AV.holds]
 | .cv c,v,hv=>by exact CV.holds.monoW h c v hv
 | .ptr i off,v,hv=>by simp_all [AV.holds]
 | .own i u,v,hv=>by grind [AV.holds,Env.withS_hdr]
 | .opt i u el o,v,hv=>by grind [AV.holds,Env.withS_hdr]
 | .agg cs,v,hv=>by
  obtain ⟨vs,h1,h2⟩:=hv;exact ⟨vs,h1,AV.all.monoW h cs _ h2⟩
 | .tup cs,v,hv=>by
  obtain ⟨vs,h1,h2⟩:=hv;exact ⟨vs,h1,AV.all.monoW h cs _ h2⟩
 | .fn f cs,v,hv=>by
  obtain ⟨vs,h1,h2⟩:=hv;exact ⟨vs,h1,AV.all.monoW h cs _ h2⟩
 | .gd L x,v,hv=>by
  exact ⟨fun hb=>AV.holds.monoW h x v (hv.1 hb),hv.2⟩
theorem AV.all.monoW {e:Env} {w w':World} {S':Nat->Prop} {ks:List Nat} (h:ROw w e.S w' S'):∀ (xs:List AV) (vs:List Value),AV.all e w ks xs vs->AV.all (e.withS S') w' ks xs vs
 | [],[],_=>by have _:=G;simp [AV.all]
 | x::xs,v::vs,hv=>by
  exact ⟨AV.holds.monoW h x v hv.1,AV.all.monoW h xs vs hv.2⟩
 | [],_::_,hv=>by grind [AV.all]
 | _::_,[],hv=>by grind [AV.all]
end
theorem OwnsS.isCells {w:World} {n0:Nat} {T:TypeId} {k:Nat} {v:Value} {n:Nat} {xs:List Value} (h:OwnsS w n0 T k v n xs) {g:Nat} (hg:bM v=some g):∃ o,w.heap[g]? = some o/\o.isCells=true:=by
 have _:=G;rcases h with ⟨a,rfl,_⟩ | ⟨⟨_,h1⟩,g',h3,h4⟩
 ·simp_all [bM]
 ·rw [hg] at h3;cases h3
  rcases h1 with ⟨rfl,_⟩ | ⟨g2,cap,cur,a1,a2,a3,a4⟩
  ·grind [bM]
  ·rw [a1] at h4
   simp [Value.ownBlock] at h4;subst h4;exact ⟨_,a3,rfl⟩
variable {n0:Nat} {w0 w w':World} {e:Env} {st:St} {a:Act} {row:Option Nat} {S':Nat->Prop}
theorem Rel.turn {a':Act} (h:Rel n0 w0 e st a w) (hg:w.grownBy w' row) (hr:∀ r,row=some r->n0<=r/\∃ o:Obj,w.heap[r]? = some o/\o.isCells=false/\∀ arr c,o≠.map arr c) (hH:∀ r,row=some r->e.H r=none) (Mo:∀ b,S' b->e.S b\/e.H b=none)
  (ip:∀ b,e.S b->S' b) (am:∀ b,S' b->e.S b\/(b<w.heap.size/\∃ o:Obj,w.heap[b]? = some o/\o.isCells=false)) (ha:a'.tmps=a.tmps)
  (tv:∀ (i:Nat) (x:Vec),st.V[i]? = some x->x.live=true->x.T<bQ\/∀ g,bM (e.hdr i x.ver)=some g->row≠some g/\(S' g->e.S g)):Rel n0 w0 (e.withS S') st a' w':=by
 have hm:=h.mem
 have same:∀ (b:Nat) (o:Obj),w.heap[b]? = some o->o.isCells=true->w'.heap[b]? = some o:=by
  intro b o hb hc;refine (hg.block b (Array.getElem?_eq_some_iff.1 hb).1 fun he=>?_).trans hb
  grind
 have ba:ROw w e.S w' S':=by
  refine ⟨ip,fun b o x _ hc=>?_,fun b arr c _ hb=>(hg.block b (Array.getElem?_eq_some_iff.1 hb).1 fun he=>?_).trans hb⟩
  case refine_2 =>
   grind
  unfold World.cell? at hc;cases hb:w.heap[b]? with
  | none=>grind
  | some ob =>
   have lm:ob.isCells=true:=by grind [Obj.isCells]
   unfold World.cell?;grind
 have nS:∀ (b:Nat) (o:Obj),w.heap[b]? = some o->o.isCells=true->¬e.S b->¬S' b:=by
  grind
 refine ⟨?_,h.sc,?_⟩
 ·rw [ha];exact AV.all.monoW ba _ _ h.tm
 ·refine ⟨fun i b hi hl=>?_,hm.boxsc,fun i b hi hl=>?_,hm.boxinj,fun i x hi hl=>?_,fun i x g hi hl pz=>?_,hm.vecbox,hm.vecinj,fun b hb=>?_,?_,?_,hm.bl,hm.hid.of rfl ⟨rfl,rfl⟩ Mo (SameG.refl _) (fun b hb hn=>hg.block b hb fun he=>hn (hH b he.symm)) (fun i b hb hl=>.inl ⟨i,b,hb,hl,rfl⟩) (fun i x g hx hl hg=>.inl ⟨i,x,hx,hl,hg⟩)⟩
  ·obtain ⟨vs,h1,h2⟩:=hm.box i b hi hl
   exact ⟨vs,same _ _ h1 rfl,AV.all.monoW ba _ _ h2⟩
  ·obtain ⟨vs,h1,_⟩:=hm.box i b hi hl
   obtain ⟨h2,h3⟩:=hm.boxlo i b hi hl;exact ⟨h2,nS _ _ h1 rfl h3⟩
  ·obtain ⟨xs,h1,h2,h3⟩:=hm.vec i x hi hl
   refine ⟨xs,h1.keep fun g pz=>?_,CV.vals.monoW ba _ _ h2,h3⟩
   rcases tv i x hi hl with hT | hT
   ·obtain ⟨o,q1,q2⟩:=(h1.s hT).isCells pz
    grind
   ·exact hg.block g (h1.lt g pz).2 fun he=>(hT g pz).1 he.symm
  ·obtain ⟨xs,h1,h2,h3⟩:=hm.vec i x hi hl
   rcases tv i x hi hl with hT | hT
   ·obtain ⟨o,q1,q2⟩:=(h1.s hT).isCells pz
    exact nS _ _ q1 q2 (hm.vecS i x g hi hl pz)
   ·exact fun hs=>hm.vecS i x g hi hl pz ((hT g pz).2 hs)
  ·rcases am b hb with h' | ⟨h1,_⟩
   ·exact Nat.lt_of_lt_of_le (hm.ro b h') hg.size
   ·exact Nat.lt_of_lt_of_le h1 hg.size
  ·exact hm.below.grown hg hm.nbase fun k hk=>Nat.le_trans (e.nb_le n0) (hr k hk).1
  ·exact Nat.le_trans hm.base hg.size
theorem Rel.act {a':Act} (h:Rel n0 w0 e st a w) (ha:a'.tmps=a.tmps):Rel n0 w0 e st a' w:=⟨by rw [ha];exact h.tm,h.sc,h.mem⟩
variable {ks:List Nat} {e':Env}
theorem Ext.turn {nB:Nat} {vs:List Nat} {nB':Nat} {vs' ks':List Nat} {w'':World} (h:Ext e w nB vs ks e' w' nB' vs' ks') (hg:w'.grownBy w'' row) (hr:∀ r,row=some r->¬e.S r) (hlt:∀ b,e.S b->b<w'.heap.size)
  (ip:∀ b,e.S b->S' b) (am:∀ b,S' b->e'.S b\/e.base<=b):Ext e w nB vs ks (e'.withS S') w'' nB' vs' ks':=have _:=G;
 ⟨⟨ip,fun b hb=>(hg.block b (hlt b hb) fun he=>hr b he.symm hb).trans (h.ro.same b hb)⟩,h.ρ,h.hdr,h.nB,h.nV,h.verle,h.kseq,Nat.le_trans h.sz hg.size,
  fun b hb=>(am b hb).elim (fun h'=>h.snew b h') .inr,h.be,h.he,h.ye⟩
def LG (D:Nat):Deferred:={ target:=.collected D,args:=#[] }
def Mk (m0:Nat) (e:Env) (w:World) (ds:List Deferred):Prop:=∃ Ds:List Nat,ds=Ds.map LG/\Ds.Nodup/\∀ D∈Ds,m0<=D/\e.S D/\w.heap[D]? = some (.deferred (some []))
theorem Mk.mono {m0:Nat} {ds:List Deferred} (h:Mk m0 e w ds) (hx:RO w e.S w' e'.S):Mk m0 e' w' ds:=by
 have _:=G;obtain ⟨Ds,h1,h2,h3⟩:=h;exact ⟨Ds,h1,h2,fun D hD=>by obtain ⟨q1,q2,q3⟩:=h3 D hD;exact ⟨q1,hx.sub D q2,(hx.same D q2).trans q3⟩⟩
theorem aEB {F:Fence} {n n':Nat} {P:Program} {c:Code} {Q:Exit->Act->World->Prop} (hF:F.depth=none) (h:c.wpIn F n' P Q a w):c.wpIn F n P Q a w:=have _:=G;
 fun b k cs h1 h2 _=>h b k cs h1 h2 fun d hd=>by grind
def W2 (F:Fence) (n:Nat) (P:Program) (c:Code) (st:St) (Q:Exit->St->Prop):Prop:=
 ∀ n0 w0 m0 e a w (Qr:Exit->Act->World->Prop),Rel n0 w0 e st a w->Mk m0 e w a.defers->m0<=w.heap.size/\e.y=false/\e.H=(fun _=>none) ->
  (∀ x e' st' a' w',Q x st'->Rel n0 w0 e' st' a' w'->Mk m0 e' w' a'.defers->dW e st w e' st'.B st'.V w'->Qr x a' w')->c.wpIn F n P Qr a w
section
variable {F:Fence} {n:Nat} {P:Program}
variable {c:Code} {st:St} {Q:Exit->St->Prop}
theorem W.w2 (h:W F n P c st Q):W2 F n P c st Q:=
 fun n0 w0 m0 e a w Qr hr hm kj hk=>h n0 w0 e a w Qr hr fun x e' st' a' w' hq ah ac hx=>hk x e' st' a' w' hq ah (by rw [ac];exact hm.mono hx.ro) hx
theorem aI0 {x y:Code} (h:W2 F n P x st fun ex st'=>match ex with | .normal=>W2 F n P y st' Q | ex=>Q ex st'):W2 F n P (.seq x y) st Q:=by
 intro n0 w0 m0 e a w Qr hr hm kj hk;refine wpIn_seq (h n0 w0 m0 e a w _ hr hm kj ?_);intro ex e' st' a' w' hq ah ct hx;cases ex with
 | normal=>exact hq n0 w0 m0 e' a' w' Qr ah ct ⟨Nat.le_trans kj.1 hx.sz,hx.ye.trans kj.2.1,(hx.he kj.2.1).trans kj.2.2⟩ fun x e'' st'' a'' w'' bp cy Gq bw=>hk x e'' st'' a'' w'' bp cy Gq (hx.trans bw)
 | _=>exact hk _ e' st' a' w' hq ah ct hx
theorem aG9 {c:Operand} {x y:Code} {b:Bool} (hc:st.ev c=.cv (.val (.bool b))) (ht:b=true->W2 F n P x st Q) (hf:b=false->W2 F n P y st Q):W2 F n P (.cond c x y) st Q:=by
 intro n0 w0 m0 e a w Qr hr hm kj hk;have h1:=(hr.ev c).1;rw [hc] at h1;exact wpIn_cond_split h1.1 (fun hb=>ht hb n0 w0 m0 e a w Qr hr hm kj hk) (fun hb=>hf hb n0 w0 m0 e a w Qr hr hm kj hk)
theorem WK {id:Nat} (h:W2 F n P c st fun ex st'=>match ex with | .exit i=>if i=id then Q .normal st' else Q (.exit i) st' | ex=>Q ex st'):W2 F n P (.block id c) st Q:=by
 intro n0 w0 m0 e a w Qr hr hm kj hk;refine wpIn_block (h n0 w0 m0 e a w _ hr hm kj ?_);grind [Exit.inBlock]
theorem aI1 {s1:St} (hw:Wk st s1) (h:W2 F n P c s1 Q):W2 F n P c st Q:=by
 intro n0 w0 m0 e a w Qr hr hm kj hk;have oc:=hw.weak hr;have hx:dW e st w e s1.B s1.V w:=(Ext.refl e w st.B.length (vers st.V) (kss st.V)).weak oc (by rw [hw.Bl];omega) (by rw [hw.V];simp)
 exact h n0 w0 m0 e a w Qr (hr.weak oc) hm kj fun ex e' st' a' w' hq ah ac bw=>hk ex e' st' a' w' hq ah ac (hx.trans bw)
end
section
variable {F:Fence} {n:Nat} {P:Program}
theorem WL (W:World) (l:Nat) (o:Obj):W.grownBy (W.putObj l o) (some l):=have _:=G;grownBy_putObj' W l o
theorem CS {fn:Func} {tmps:Array Value} {R:Ending->World->Prop} {m0 n0:Nat} {w0:World} {e0 e:Env} {st0 st:St} {a:Act} {wA:World} (Aw:n0<=m0) (hS:∀ b,e0.S b->b<m0) (hH:∀ b,m0<=b->e0.H b=none) (hy:e0.y=false) :
  ∀ (Ds:List Nat) (w:World),Ds.Nodup->(∀ D∈Ds,m0<=D/\e.S D/\w.heap[D]? = some (.deferred (some [])))->Rel n0 w0 e st a w->dW e0 st0 wA e st.B st.V w->m0<=w.heap.size ->
   (∀ w',Rel n0 w0 e st a w'->dW e0 st0 wA e st.B st.V w'->LeavesIn F n P fn tmps R [] .returning w')->LeavesInM F n P fn tmps R (Ds.map LG) .returning w
 | [],w,_,_,hr,hx,_,hk=>by grind [LeavesInM]
 | D::Ds,w,df,hD,hr,hx,di,hk=>by
  obtain ⟨h1,Mp,h2⟩:=hD D (by simp)
  refine ⟨by simp,.inl ⟨D,_,rfl,run_takeDeferred h2,?_⟩⟩
  have hg:=WL w D (.deferred none)
  have fm:∀ r,(some D:Option Nat)=some r->n0<=r/\∃ o:Obj,w.heap[r]? = some o/\o.isCells=false/\∀ arr c,o≠.map arr c:=by
   intro r he;cases he;exact ⟨Nat.le_trans Aw h1,_,h2,rfl,fun _ _ h=>by cases h⟩
  have bo:Rel n0 w0 (e.withS e.S) st a (w.putObj D (.deferred none)):=hr.turn hg fm (by intro r he;rw [hx.he hy];grind) (fun _ h=>.inl h) (fun _ h=>h) (fun _ h=>.inl h) rfl (fun i x hi hl=>.inr fun g pz=>⟨fun he=>by cases he;exact hr.mem.vecS i x D hi hl pz Mp,fun h=>h⟩)
  have bw:Ext e0 wA st0.B.length (vers st0.V) (kss st0.V) (e.withS e.S) (w.putObj D (.deferred none)) st.B.length (vers st.V) (kss st.V):=
   hx.turn hg (by grind) (fun b hb=>by grind) (fun b hb=>hx.ro.sub b hb) (fun b hb=>.inl hb)
  rw [List.nodup_cons] at df;refine CS Aw hS hH hy Ds _ df.2 (fun D' D0=>?_) bo bw (Nat.le_trans di hg.size) hk
  obtain ⟨q1,q0,q2⟩:=hD D' (by grind)
  refine ⟨q1,q0,?_⟩;have ax:D'≠D:=by grind
  exact (World.putObj_heap_other ax).trans q2
theorem GZ {f:FuncId} {fn:Func} {c:Code} {args:List AV} {K:AV->List Box->List Vec->Prop} (hf:P.funcs[f]? = some fn) (hb:fn.body=some c)
  (h:∀ (F:Fence) (n:Nat),Free F->F.round=none->W2 F n P c ⟨args++List.replicate (fn.ntmps - args.length) .any,[],[]⟩ fun ex st'=>(ex=.normal\/ex=.ret)/\∃ r,rM P st' fn.results.toList=some r/\K r st'.B st'.V) :
  CallPc P f args K:=by
 intro F n hF ba n0 w0 e w vs hy hm hv hs;refine callsIn_of_wp_marks hf hb (hF.fn f) ?_ ba
 have ah:Rel n0 w0 e ⟨args++List.replicate (fn.ntmps - args.length) .any,[],[]⟩ { tmps:=vs++Array.replicate (fn.ntmps - vs.size) undef,defers:=[] } w:=by
  have hl:vs.size=args.length:=by have:=hv.length;omega
  refine ⟨?_,?_,hm⟩
  ·simp [hl]
   refine hv.append ?_;generalize fn.ntmps - args.length=k
   induction k with
   | zero=>simp [AV.all]
   | succ k ih=>grind [AV.all,AV.holds]
  grind [AV.scos_iff,AV.sco]
 refine h F n hF ba n0 w0 w.heap.size e _ w _ ah ⟨[],rfl,List.nodup_nil,by simp⟩ ⟨Nat.le_refl _,hy⟩ ?_
 rintro ex e' st' a' w' ⟨iN,r,hr,hK⟩ cy ⟨Ds,E8,df,hD⟩ hx;rcases iN with rfl | rfl
 all_goals
  show LeavesInM F n P fn a'.tmps _ a'.defers .returning w';rw [E8];refine CS (n0:=n0) (w0:=w0) (e0:=e) (e:=e') (st0:=⟨args++List.replicate (fn.ntmps - args.length) .any,[],[]⟩) (st:=st') (a:=a') (wA:=w) hm.base (fun b hb=>hm.ro b hb) (fun b hb=>hm.hid.new hb) hy.1 Ds w' df (fun D hd=>hD D hd) cy hx hx.sz ?_
  intro w'' kz ku;obtain ⟨v,a1,a2,a3⟩:=wZ (fn:=fn) kz hr;exact ⟨v,a1,e',st'.B,st'.V,r,v,rfl,hK,kz.mem,ku,a2,a3⟩
end
mutual
theorem AV.holds.gen {e e':Env} {w:World} {ks:List Nat} (hρ:e'.ρ=e.ρ) (hh:e'.hdr=e.hdr) (hS:e'.S=e.S):∀ (x:AV) (v:Value),AV.holds e w ks x v->AV.holds e' w ks x v
 | .any,_,_=>by have _:=G;simp [AV.holds]
 | .cv c,v,h=>by grind [AV.holds]
 | .ptr i off,v,h=>by grind [AV.holds]
 | .own i u,v,h=>by grind [AV.holds]
 | .opt i u el o,v,h=>by grind [AV.holds]
 | .agg cs,v,h=>by obtain ⟨vs,h1,h2⟩:=h;exact ⟨vs,h1,AV.all.gen hρ hh hS cs _ h2⟩
 | .tup cs,v,h=>by obtain ⟨vs,h1,h2⟩:=h;exact ⟨vs,h1,AV.all.gen hρ hh hS cs _ h2⟩
 | .fn f cs,v,h=>by obtain ⟨vs,h1,h2⟩:=h;exact ⟨vs,h1,AV.all.gen hρ hh hS cs _ h2⟩
 | .gd L x,v,h=>by exact ⟨fun hb=>AV.holds.gen hρ hh hS x v (h.1 hb),h.2⟩
theorem AV.all.gen {e e':Env} {w:World} {ks:List Nat} (hρ:e'.ρ=e.ρ) (hh:e'.hdr=e.hdr) (hS:e'.S=e.S):∀ (xs:List AV) (vs:List Value),AV.all e w ks xs vs->AV.all e' w ks xs vs
 | [],[],_=>by have _:=G;simp [AV.all]
 | x::xs,v::vs,h=>by exact ⟨AV.holds.gen hρ hh hS x v h.1,AV.all.gen hρ hh hS xs vs h.2⟩
 | [],_::_,h=>by grind [AV.all]
 | _::_,[],h=>by grind [AV.all]
end
def Own (e:Env) (st:St) (b:Nat):Prop:=(∃ (i:Nat) (x:Box),st.B[i]? = some x/\x.live=true/\e.ρ i=b)\/(∃ (i:Nat) (x:Vec),st.V[i]? = some x/\x.live=true/\bM (e.hdr i x.ver)=some b)
theorem Own.lt {n0:Nat} {w0:World} {e:Env} {st:St} {w:World} (h:Mem n0 w0 e st.B st.V w) {b:Nat} (hb:Own e st b):b<w.heap.size/\¬e.S b/\e.H b=none/\n0<=b:=by
 rcases hb with ⟨i,x,h1,h2,rfl⟩ | ⟨i,x,h1,h2,h3⟩
 ·exact ⟨h.lt_box h1 h2,(h.boxlo i x h1 h2).2,h.hid.box i x h1 h2,(h.boxlo i x h1 h2).1⟩
 ·obtain ⟨xs,q1,_⟩:=h.vec i x h1 h2
  exact ⟨(q1.lt b h3).2,h.vecS i x b h1 h2 h3,h.hid.vec i x b h1 h2 h3,(q1.lt b h3).1⟩
theorem Rel.move (h:Rel n0 w0 e st a w) (hy:e.y=false) {H':Nat->Option (Obj×Bool)} (ip:∀ b,e.S b->S' b) (hlt:∀ b,S' b->b<w'.heap.size)
  (hO:∀ b,Own e st b->¬S' b/\H' b=none) (hk:∀ b,(b<n0\/e.S b\/Own e st b)->w'.heap[b]? = w.heap[b]?) (hb:n0<=w'.heap.size) (di:w0.heap.size<=w'.heap.size)
  (x9:w'.os=w.os/\w'.tape=w.tape/\w'.output=w.output) (z9:xH H' w') (ap:∀ b o,S' b->H' b≠some (o,true)):Rel n0 w0 { e with S:=S',H:=H' } st a w':=by
 have hm:=h.mem;have ba:ROw w e.S w' S':=⟨ip,fun b o x hs hc=>by grind [World.cell?],fun b arr c hs hc=>(hk b (.inr (.inl hs))).trans hc⟩
 have bh:∀ xs vs,AV.all e w (kss st.V) xs vs->AV.all { e with S:=S',H:=H' } w' (kss st.V) xs vs:=fun xs vs hv=>AV.all.gen (e:=e.withS S') (e':={ e with S:=S',H:=H' }) rfl rfl rfl _ _ (AV.all.monoW ba _ _ hv)
 refine ⟨bh _ _ h.tm,h.sc,⟨fun i b hi hl=>?_,hm.boxsc,fun i b hi hl=>⟨(hm.boxlo i b hi hl).1,(hO _ (.inl ⟨i,b,hi,hl,rfl⟩)).1⟩,hm.boxinj,fun i x hi hl=>?_,fun i x g hi hl hg=>(hO g (.inr ⟨i,x,hi,hl,hg⟩)).1,hm.vecbox,hm.vecinj,hlt,?_,hb,hm.bl,
  ⟨z9,fun i b hi hl=>(hO _ (.inl ⟨i,b,hi,hl,rfl⟩)).2,fun i x g hi hl hg=>(hO g (.inr ⟨i,x,hi,hl,hg⟩)).2,fun i x hi hT=>?_,ap⟩⟩⟩
 ·obtain ⟨vs,q1,q2⟩:=hm.box i b hi hl
  exact ⟨vs,(hk _ (.inr (.inr (.inl ⟨i,b,hi,hl,rfl⟩)))).trans q1,bh _ _ q2⟩
 ·obtain ⟨xs,q1,q2,q3⟩:=hm.vec i x hi hl
  exact ⟨xs,q1.keep fun g hg=>hk g (.inr (.inr (.inr ⟨i,x,hi,hl,hg⟩))),CV.vals.monoW ba _ _ q2,q3⟩
 ·have cd:=hm.below
  rw [Env.nb_false hy] at cd;rw [Env.nb_false (show ({ e with S:=S',H:=H' }:Env).y=false from hy)]
  exact ⟨x9.1.trans cd.os,x9.2.1.trans cd.tape,x9.2.2.trans cd.output,di,fun k zn=>(hk k (.inl zn)).trans (cd.block k zn)⟩
 ·have:=(hm.hid.gh i x hi hT).2.1
  grind
def Env.noH (e:Env):Env:={ e with H:=fun _=>none }
variable {vs:List Value}
theorem AV.all.no {xs:List AV} (h:AV.all e w ks xs vs):AV.all e.noH w ks xs vs:=AV.all.gen (e:=e) (e':=e.noH) rfl rfl rfl _ _ h
theorem AV.all.ofNo {xs:List AV} (h:AV.all e.noH w ks xs vs):AV.all e w ks xs vs:=AV.all.gen (e:=e.noH) (e':=e) rfl rfl rfl _ _ h
abbrev Ext0 (e:Env) (st:St) (w:World) (e':Env) (st':St) (w':World):Prop:=dW e.noH st w e'.noH st'.B st'.V w'
theorem Ext0.of {st':St} (h:dW e st w e' st'.B st'.V w'):Ext0 e st w e' st' w':=have _:=G;
 ⟨h.ro,h.ρ,h.hdr,h.nB,h.nV,h.verle,h.kseq,h.sz,h.snew,h.be,fun _=>rfl,h.ye⟩
theorem Ext0.same {H':Nat->Option (Obj×Bool)} (ip:∀ b,e.S b->S' b) (hk:∀ b,e.S b->w'.heap[b]? = w.heap[b]?) (hs:w.heap.size<=w'.heap.size) (hn:∀ b,S' b->e.S b\/e.base<=b) :
  Ext0 e st w { e with S:=S',H:=H' } st w':=have _:=G;
 ⟨⟨ip,hk⟩,fun _ _=>rfl,fun _ _ _ _=>rfl,Nat.le_refl _,Nat.le_refl _,fun _ _=>Nat.le_refl _,fun _ _=>rfl,hs,hn,rfl,fun _=>rfl,rfl⟩
theorem Rel.dead (hr:Rel n0 w0 e st a w) {ds:List Vec} (hd:∀ v∈ds,v.live=false) (Fs:∀ v∈ds,v.T≠ghT) :
  Rel n0 w0 e ⟨st.t,st.B,st.V++ds⟩ a w/\dW e st w e st.B (st.V++ds) w:=by
 have hx:Ext e w st.B.length (vers st.V) (kss st.V) e w st.B.length (vers (st.V++ds)) (kss (st.V++ds)):=by
  refine ⟨RO.refl _ _,fun _ _=>rfl,fun _ _ _ _=>rfl,Nat.le_refl _,by simp,fun i hi=>?_,fun i hi=>?_,Nat.le_refl _,fun _ h=>.inl h,rfl,fun _=>rfl,rfl⟩
  ·grind
  grind
 have ag:∀ (i:Nat) (x:Vec),(st.V++ds)[i]? = some x->x.live=true->st.V[i]? = some x:=by
  grind
 have hm:=hr.mem;refine ⟨⟨AV.all.mono hx _ _ hr.sc hr.tm,hx.scos hr.sc,?_⟩,hx⟩
 refine ⟨fun i b hb hl=>?_,fun i b hb=>hx.scos (hm.boxsc i b hb),hm.boxlo,hm.boxinj,fun i x hx hl=>hm.vec i x (ag i x hx hl) hl,fun i x g hx hl=>hm.vecS i x g (ag i x hx hl) hl,fun i x j b g hx hl=>hm.vecbox i x j b g (ag i x hx hl) hl,fun i x j y g hx hl hy ay=>hm.vecinj i x j y g (ag i x hx hl) hl (ag j y hy ay) ay,hm.ro,hm.below,hm.base,hm.bl,hm.hid.of rfl ⟨rfl,rfl⟩ (fun _ h=>.inl h) (SameG.app Fs) (fun _ _ _=>rfl) (fun i b hb hl=>.inl ⟨i,b,hb,hl,rfl⟩) (fun i x g hx hl hg=>.inl ⟨i,x,ag i x hx hl,hl,hg⟩)⟩
 obtain ⟨vs,h1,h2⟩:=hm.box i b hb hl;exact ⟨vs,h1,AV.all.mono hx _ _ (hm.boxsc i b hb) h2⟩
theorem Rel.adopt (hr:Rel n0 w0 e st a w) (hy:e.y=false) {T:TypeId} {k:Nat} {v:Value} {el:List (List CV)} {xs:List Value} (hT:T<bQ) (ap:OwnsV w n0 T k v el.length xs) (hv:CV.vals w e.S el.flatten xs) (hk:∀ l∈el,l.length=k)
  (hg:∀ g,bM v=some g->¬e.S g/\e.H g=none/\¬Own e st g) :
  ∃ e',Rel n0 w0 e' ⟨st.t,st.B,st.V++[⟨true,T,k,1,el⟩]⟩ a w/\dW e st w e' st.B (st.V++[⟨true,T,k,1,el⟩]) w/\e'.hdr st.V.length 1=v/\e'.ρ=e.ρ/\e'.S=e.S/\e'.H=e.H/\e'.base=e.base/\e'.y=e.y/\(∀ i u,i<st.V.length->u<=(vers st.V).getD i 0->e'.hdr i u=e.hdr i u):=by
 obtain ⟨l9,de⟩:=hr.dead (ds:=[⟨false,T,k,0,[]⟩]) (by simp) (by grind)
 have hi:(st.V++[(⟨false,T,k,0,[]⟩:Vec)])[st.V.length]? = some ⟨false,T,k,0,[]⟩:=by simp
 have zr:∀ g,bM v=some g->(∀ (j:Nat) (b:Box),st.B[j]? = some b->b.live=true->e.ρ j≠g)/\∀ (j:Nat) (y:Vec),(st.V++[(⟨false,T,k,0,[]⟩:Vec)])[j]? = some y->y.live=true->bM (e.hdr j y.ver)≠some g:=by
  intro g ez;have ue:=(hg g ez).2.2;refine ⟨fun j b hb bg hc=>ue (.inl ⟨j,b,hb,bg,hc⟩),fun j y hy ay hc=>?_⟩
  by_cases bu:j<st.V.length
  ·rw [List.getElem?_append_left bu] at hy
   exact ue (.inr ⟨j,y,hy,ay,hc⟩)
  grind
 obtain ⟨e',m1,m2,m3,m4,m5⟩:=l9.mem.fill2 hi rfl T v el xs ap hv hk (fun g ez=>(hg g ez).1) (fun g ez=>(zr g ez).1) (fun g ez=>(zr g ez).2) (fun g ez=>(hg g ez).2.1)
 have pf:(st.V++[(⟨false,T,k,0,[]⟩:Vec)]).set st.V.length (Vec.mk true T k (0+1) el)=st.V++[⟨true,T,k,1,el⟩]:=by simp
 simp only [pf] at m1 m2;have fw:dW e st w e' st.B (st.V++[⟨true,T,k,1,el⟩]) w:=de.trans m2;refine ⟨e',⟨AV.all.mono fw _ _ hr.sc hr.tm,fw.scos hr.sc,m1⟩,fw,m3,m4,m5,m2.he hy,m2.be,m2.ye,fun i u O9 hu=>fw.hdr i u (by grind) hu⟩
abbrev YF:=List (List CV)->List CV->Option (Bool×List (List CV))
def QH (P:Program) (f:FuncId) (caps:List CV) (sh:YSh) (R:YF->List (List CV)->Option (List (List CV))):Prop:=
 ∀ (G:Ghost) (l:Nat) (yf:YF) (es es':List (List CV)),(∀ es x b es',yf es x=some (b,es')->@zB G P l sh es x b es')->R yf es=some es' ->
  ∀ (F:Fence) (n:Nat),Free F->F.round=none->∀ (H:Nat->Option (Obj×Bool)) (S:Nat->Prop) (w:World) (lb:Array Value),
   CV.vals w S caps lb.toList->(∀ b,S b->b<w.heap.size)->xH H w->(∀ b o,S b->H b≠some (o,true))->G.J es H->G.lo<=w.heap.size->@GW G w ->
   CallsIn F n P f (#[.func (.yield l) #[] #[]]++lb) w fun en w'=>(∃ v,en=.returned v)/\w.heap.size<=w'.heap.size/\@GW G w'/\∃ H',G.J es' H'/\xH H' w'
def mK:List AV->List Nat->List AV->List AV
 | t,p::ps,x::xs=>mK (t.set p x) ps xs
 | t,_,_=>t
theorem BN {e:Env} {w:World} {ks:List Nat}:∀ {ps:List Nat} {xs t:List AV} {us:List Value} {tm:Array Value},AV.all e w ks t tm.toList->AV.all e w ks xs us ->
  AV.all e w ks (mK t ps xs) ((ps.zip us).foldl (fun t (p,v)=>t.setIfInBounds p v) tm).toList
 | [],_,_,us,_,h,_=>by have _:=G;simp_all [mK]
 | p::ps,[],_,[],_,h,_=>by simp_all [mK]
 | p::ps,[],_,_::_,_,_,h=>by grind [AV.all]
 | p::ps,x::xs,_,[],_,_,h=>by grind [AV.all]
 | p::ps,x::xs,t,u::us,tm,h,h'=>by
  simp;exact BN (by simpa using h.set p h'.1) h'.2
theorem sU {nB:Nat} {vs:List Nat}:∀ {ps:List Nat} {xs t:List AV},AV.scos nB vs t->AV.scos nB vs xs->AV.scos nB vs (mK t ps xs)
 | [],_,_,h,_=>by have _:=G;grind [mK]
 | p::ps,[],_,h,_=>by grind [mK]
 | p::ps,x::xs,t,h,h'=>by
  simp [mK];refine sU ?_ h'.2;grind [AV.scos_iff]
def stY (sh:YSh) (x:List CV) (ps:List Nat) (st:St):St:=match sh with
 | .clo cs=>⟨mK st.t ps (Sc.avs cs x 0),st.B,st.V⟩
 | .lent T k=>⟨mK st.t ps [.own st.V.length 1],st.B,st.V++[⟨true,T,k,1,cR (x.getD 0 dC)⟩]⟩
def YSh.np:YSh->Nat
 | .clo cs=>cs.length
 | .lent _ _=>1
structure Wkd (st st1:St):Prop where
 t:AV.les st.t st1.t
 Bl:st1.B.length=st.B.length
 B:∀ (i:Nat) (b1:Box),st1.B[i]? = some b1->∃ b,st.B[i]? = some b/\(b1.live=true->b.live=true/\b1.T=b.T/\AV.les b.cs b1.cs)
 Vl:st1.V.length=st.V.length
 V:∀ (i:Nat) (v1:Vec),st1.V[i]? = some v1->∃ v,st.V[i]? = some v/\v1.ver=v.ver/\v1.k=v.k/\(v1.live=true\/v1.T=ghT->v1=v)
 sct:∀ nb vs,AV.scos nb vs st.t->AV.scos nb vs st1.t
 scB:∀ nb vs (i:Nat) (b b1:Box),st.B[i]? = some b->st1.B[i]? = some b1->AV.scos nb vs b.cs->AV.scos nb vs b1.cs
theorem Wkd.vers {st st1:St} (h:Wkd st st1):vers st1.V=vers st.V:=by
 have _:=G;refine List.ext_getElem? fun i=>?_
 cases hi:st1.V[i]? with
 | none =>
  have:st.V[i]? = none:=by rw [List.getElem?_eq_none_iff] at hi ⊢;rw [<- h.Vl];exact hi
  grind
 | some v1 =>
  obtain ⟨v,h1,h2,_⟩:=h.V i v1 hi;grind
theorem Wkd.weak {st1:St} (h:Wkd st st1) (hr:Rel n0 w0 e st a w):Weak st st1:=by
 refine ⟨h.t,h.B,h.V,?_,?_⟩
 ·rw [h.Bl,h.vers];exact h.sct _ _ hr.sc
 ·intro i b1 bv
  obtain ⟨b,hb,_⟩:=h.B i b1 bv;rw [h.Bl,h.vers];exact h.scB _ _ i b b1 hb bv (hr.mem.boxsc i b hb)
theorem Wk.d {st1:St} (h:Wk st st1):Wkd st st1:=have _:=G;
 ⟨h.t,h.Bl,h.B,by rw [h.V],fun i v1 hv=>⟨v1,by rw [<- h.V];exact hv,rfl,rfl,fun _=>rfl⟩,h.sct,h.scB⟩
theorem FK:∀ {a b c:List AV},AV.les a b->AV.les b c->AV.les a c
 | _,_,_,.nil,.nil=>have _:=G;.nil
 | _,_,_,.cons h hs,.cons h' pi=>.cons (fun e w ks v hv=>h' e w ks v (h e w ks v hv)) (FK hs pi)
theorem Wkd.trans {a b c:St} (h:Wkd a b) (h':Wkd b c):Wkd a c:=by
 refine ⟨FK h.t h'.t,h'.Bl.trans h.Bl,fun i b1 hb=>?_,h'.Vl.trans h.Vl,fun i v1 hv=>?_,fun nb vs hs=>h'.sct nb vs (h.sct nb vs hs),fun nb vs i x y hx hy hs=>?_⟩
 ·obtain ⟨b2,h1,h2⟩:=h'.B i b1 hb
  obtain ⟨b3,h3,h4⟩:=h.B i b2 h1;exact ⟨b3,h3,fun hl=>⟨(h4 (h2 hl).1).1,(h2 hl).2.1.trans (h4 (h2 hl).1).2.1,FK (h4 (h2 hl).1).2.2 (h2 hl).2.2⟩⟩
 ·obtain ⟨v2,h1,h2,h3,h4⟩:=h'.V i v1 hv
  obtain ⟨v3,h5,h6,h7,h8⟩:=h.V i v2 h1;grind
 ·obtain ⟨z,h1,_⟩:=h'.B i y hy
  exact h'.scB nb vs i z y h1 hy (h.scB nb vs i x z hx h1 hs)
def rS (j:Nat) (V:List Vec):List Vec:=V.mapIdx fun i v=>if i=j then ⟨false,v.T,v.k,v.ver,v.es⟩ else v
theorem mL (j:Nat) (V:List Vec):(rS j V).length=V.length:=by have _:=G;simp [rS]
theorem nW (j:Nat) (V:List Vec) (i:Nat):(rS j V)[i]? = (V[i]?).map fun v=>if i=j then ⟨false,v.T,v.k,v.ver,v.es⟩ else v:=by have _:=G;simp [rS]
theorem Wkd.kill (st:St) (j:Nat) (hT:∀ v,st.V[j]? = some v->v.T≠ghT):Wkd st ⟨st.t,st.B,rS j st.V⟩:=by
 refine ⟨AV.les_refl _,rfl,fun i b1 hb=>⟨b1,hb,fun hl=>⟨hl,rfl,AV.les_refl _⟩⟩,mL _ _,fun i v1 hv=>?_,fun _ _ h=>h,fun _ _ i b b1 h1 h2 h3=>by grind⟩
 grind [nW,Option.map_eq_some_iff]
def aI2 (sh:YSh) (x:List CV) (st':St) (I:St->Prop) (b:Bool) (pe:Option Code) (ex:Exit) (s2:St):Prop:=
 ∃ s3,Wkd ⟨st'.t,s2.B,s2.V⟩ s3/\st'.B.length<=s3.B.length/\st'.V.length<=s3.V.length/\I s3 /\
  ((ex=.normal/\pe=none/\b=true)\/(ex=.ret/\pe=some .ret/\b=false)\/(∃ id,ex=.exit id/\pe=some (.exit id)/\b=false)) /\
  (match sh with
   | .clo _=>True
   | .lent T k=>s2.V[st'.V.length]? = some ⟨true,T,k,1,cR (x.getD 0 dC)⟩/\∀ v,s3.V[st'.V.length]? = some v->v.live=false)
theorem Env.eqH (h:e.H=fun _=>none):({ e with S:=e.S,H:=fun _=>none }:Env)=e:=by
 have _:=G;obtain ⟨a,b,c,d,H,y⟩:=e;grind
theorem QI {A:Type} (f:A->Nat×Value->A) (ps:Array Tmp) (args:Array Value) (t:A):(ps.zip args).foldl f t=(ps.toList.zip args.toList).foldl f t:=by
 have _:=G;rw [<- Array.foldl_toList];simp
def YIn (n0:Nat) (e:Env) (st:St) (w:World) (S:Nat->Prop) (X:Nat->Option (Obj×Bool)) (sh:YSh) (x:List CV) (args:Array Value):Prop:=match sh with
 | .clo cs=>∀ (e1:Env) (ks:List Nat),e1.S=S->AV.all e1 w ks (Sc.avs cs x 0) args.toList
 | .lent T k=>∃ (v:Value) (el:List (List CV)) (xs:List Value),x=[.row k el]/\args=#[v]/\T<bQ/\OwnsV w n0 T k v el.length xs/\GU el=true/\CV.vals w S el.flatten xs/\(∀ l∈el,l.length=k)/\(∀ g,bM v=some g->¬e.S g/\¬S g/\X g=none/\¬Own e st g)
def aLR (sh:YSh) (args:Array Value) (e:Env) (j:Nat):Prop:=match sh with
 | .clo _=>True
 | .lent _ _=>∃ v,args=#[v]/\e.hdr j 1=v
theorem Rel.inY (hr:Rel n0 w0 e st a w) (hy:e.y=false) (Jc:w0.heap.size<=w.heap.size) {S:Nat->Prop} {X:Nat->Option (Obj×Bool)} (hS:∀ b,S b->b<w.heap.size) (hX:xH X w) (Gr:∀ b o,e.S b\/S b->X b≠some (o,true)) (hO:∀ b,Own e st b->¬S b/\X b=none)
  (hn:∀ b,S b->e.S b\/e.base<=b) {sh:YSh} {x:List CV} {ps:Array Tmp} {args:Array Value}
  (af:YIn n0 e st w S X sh x args) :
  ∃ e1,Rel n0 w0 e1 (stY sh x ps.toList st) { tmps:=(ps.zip args).foldl (fun t (p,v)=>t.setIfInBounds p v) a.tmps,defers:=[] } w/\Ext0 e st w e1 (stY sh x ps.toList st) w/\e1.H=X/\e1.S=(fun b=>e.S b\/S b)/\e1.y=false/\e1.base=e.base/\aLR sh args e1 st.V.length:=by
 have hm:=hr.mem
 have h1:Rel n0 w0 { e with S:=fun b=>e.S b\/S b,H:=X } st a w:=
  hr.move hy (fun _ h=>.inl h) (fun b hb=>hb.elim (hm.ro b) (hS b)) (fun b hb=>⟨fun h=>h.elim (Own.lt hm hb).2.1 (hO b hb).1,(hO b hb).2⟩) (fun _ _=>rfl) hm.base Jc ⟨rfl,rfl,rfl⟩ hX Gr
 have de:Ext0 e st w { e with S:=fun b=>e.S b\/S b,H:=X } st w:=Ext0.same (fun _ h=>.inl h) (fun _ _=>rfl) (Nat.le_refl _) (fun b hb=>hb.elim .inl (hn b))
 cases sh with
 | clo cs =>
  refine ⟨_,⟨?_,?_,h1.mem⟩,de,rfl,rfl,hy,rfl,trivial⟩
  ·rw [QI]
   refine BN h1.tm ?_;have h2:=af ⟨e.ρ,e.hdr,S,e.base,X,e.y⟩ (kss st.V) rfl;exact AV.closeds_holds (e:=⟨e.ρ,e.hdr,S,e.base,X,e.y⟩) (fun b hb=>(Or.inr hb:e.S b\/S b)) _ _ (Sc.avs_closed cs x 0) h2
  ·exact sU h1.sc (AV.scos_closed _ _ _ (Sc.avs_closed cs x 0))
 | lent T k =>
  obtain ⟨v,el,xs,rfl,rfl,hT,ap,pq,hv,hk,hg⟩:=af;obtain ⟨e',g1,g2,g3,g4,g5,g6,g7,g8,g9⟩:=h1.adopt hy hT ap (CV.flat_vals (EU pq) hv) hk (fun g ez=>⟨fun h=>h.elim (hg g ez).1 (hg g ez).2.1,(hg g ez).2.2.1,(hg g ez).2.2.2⟩)
  refine ⟨e',⟨?_,?_,g1.mem⟩,de.trans (Ext0.of (st':=⟨st.t,st.B,st.V++[⟨true,T,k,1,el⟩]⟩) g2),g6,g5,g8.trans hy,g7,v,rfl,g3⟩
  ·rw [QI]
   refine BN g1.tm ?_;simp [AV.all];exact ⟨g3.symm,ap.one⟩
  ·show AV.scos st.B.length (vers (st.V++[⟨true,T,k,1,el⟩])) (mK st.t ps.toList [.own st.V.length 1])
   refine sU g1.sc ?_;simp
section
variable {F:Fence} {n:Nat} {P:Program}
theorem CT {w w':World} {S S':Nat->Prop}:∀ {cs:List CV} {vs us:List Value},cs.all CV.flat=true->CV.vals w S cs vs->CV.vals w' S' cs us->vs=us
 | [],[],[],_,_,_=>have _:=G;rfl
 | [],[],_::_,_,_,h=>by grind [CV.vals]
 | [],_::_,_,_,h,_=>by grind [CV.vals]
 | _::_,[],_,_,h,_=>by grind [CV.vals]
 | _::_,_::_,[],_,_,h=>by grind [CV.vals]
 | c::cs,v::vs,u::us,hf,h,h'=>by
  simp only [List.all_cons,Bool.and_eq_true] at hf;obtain ⟨h1,h2⟩:=h;obtain ⟨h3,h4⟩:=h';have:=CT hf.2 h2 h4;cases c with
  | val x=>grind [CV.holds]
  | _=>simp [CV.flat] at hf
def aIj (n0:Nat) (u:World) (S L:Nat->Prop) (H:Nat->Option (Obj×Bool)) (sh:YSh) (x:List CV) (args:Array Value):Prop:=match sh with
 | .clo cs=>(∀ b,¬L b)/\∀ (e1:Env) (ks:List Nat),e1.S=S->AV.all e1 u ks (Sc.avs cs x 0) args.toList
 | .lent T k=>∃ (v:Value) (el:List (List CV)) (xs:List Value),x=[.row k el]/\args=#[v]/\T<bQ/\OwnsV u n0 T k v el.length xs/\GU el=true/\CV.vals u S el.flatten xs/\(∀ l∈el,l.length=k)/\(∀ g,bM v=some g->H g=none/\¬S g)/\(∀ g,L g↔bM v=some g)
def aIk (n0:Nat) (u u5:World) (S:Nat->Prop) (sh:YSh) (x:List CV) (args:Array Value):Prop:=match sh with
 | .clo _=>True
 | .lent T k=>∀ v el xs,x=[.row k el]->args=#[v]->GU el=true->CV.vals u S el.flatten xs->OwnsV u5 n0 T k v el.length xs
structure Rest (n0:Nat) (w0:World) (e:Env) (st:St) (a:Act) (w:World) (l D lim:Nat) (R:Obj) (e':Env) (st':St) (H:Nat->Option (Obj×Bool)):Prop where
 y:e'.y=false
 h:e'.H=fun _=>none
 b:e'.base<=lim
 j1:∀ b,b<lim->H b≠none
 j2:∀ b,e'.S b↔∃ o,H b=some (o,false)
 j3:∀ b,Own e' st' b->H b≠none
 j5:¬e'.S l/\¬e'.S D
 j6:∀ b,Own e' st' b->b≠l/\b≠D
 j7:∀ W4,xH H W4->(W4.os=w.os/\W4.tape=w.tape/\W4.output=w.output)->Rel n0 w0 e' st' a W4/\dW e st w e' st'.B st'.V W4/\W4.heap[l]? = some R/\W4.heap[D]? = some (.deferred (some []))
def aBk (n0:Nat) (w0:World) (e:Env) (st:St) (a:Act) (w u:World) (l D lim:Nat) (R:Obj) (I:St->Prop) (H:Nat->Option (Obj×Bool)) (S L:Nat->Prop) (sh:YSh) (x:List CV) (args:Array Value) (b:Bool) (en:Ending) (u5:World):Prop:=
 en=.returned (.bool b)/\∃ (e3:Env) (s3:St) (H3:Nat->Option (Obj×Bool)),I s3/\Rest n0 w0 e st a w l D lim R e3 s3 H3 /\
  xH H3 u5/\(∀ b,H3 b≠none->H b≠none\/S b\/u.heap.size<=b)/\(∀ b o,S b->H3 b≠some (o,true))/\u.heap.size<=u5.heap.size/\(u5.os=u.os/\u5.tape=u.tape/\u5.output=u.output) /\
  (∀ b,b<u.heap.size->H b=none->¬L b->u5.heap[b]? = u.heap[b]?)/\(∀ b,S b->u5.heap[b]? = u.heap[b]?)/\aIk n0 u u5 S sh x args
open Classical in
theorem aHa {n0:Nat} {w0:World} {e e':Env} {st st':St} {a:Act} {w u:World} (_:Free F)
  {l D lim:Nat} {rec:LoopState->Option Code->Loop} {fn:FuncId} {ps:Array Tmp} {assign body:Code}
  (rm:rec=fun s pe=>{ state:=s,pending:=pe,fn,tmps:=a.tmps,params:=ps,assign,body,defers:=D }) 
  (yq:n0<=lim/\lim<=u.heap.size/\l<lim/\D<lim/\n0<=l/\l≠D/\w0.heap.size<=l/\w.heap.size<=l) (yr:u.os=w.os/\u.tape=w.tape/\u.output=w.output) {H:Nat->Option (Obj×Bool)} {S:Nat->Prop} (D1:xH H u) (hS:∀ b,S b->b<u.heap.size) (D2:∀ b o,S b->H b≠some (o,true))
  (hJ:Rest n0 w0 e st a w l D lim (.loop (rec .ready none)) e' st' H)
  {sh:YSh} {x:List CV} {args:Array Value} {b:Bool} {pe:Option Code} {I:St->Prop} (wd:F.fn fn)
  (gf:W (F.inRound l) n P assign (stY sh x ps.toList st') fun ex s1=>ex=.normal/\W (F.inRound l) n P body s1 (aI2 sh x st' I b pe))
  (L:Nat->Prop) (af:aIj n0 u S L H sh x args) :
  RoundIn F n P l fn ((ps.zip args).foldl (fun t (p,v)=>t.setIfInBounds p v) a.tmps) assign body u
   (aBk n0 w0 e st a w u l D lim (.loop (rec (if pe.isNone then .ready else .done) pe)) I H S L sh x args b):=by
 obtain ⟨hy,Mq,fg,j1,j2,j3,j5,j6,j7⟩:=hJ;obtain ⟨ah,f9,hl,hD⟩:=j7 u D1 yr;obtain ⟨k1,k2,k3,k4,k5,k6,k7,k8⟩:=yq;have hm:=ah.mem
 have noS:∀ c,c<lim->¬e'.S c->¬S c:=by
  intro c hc hn hs;cases hh:H c with
  | none=>grind
  | some o =>
   obtain ⟨o,f⟩:=o;simp_all
 let priv:Nat->Prop:=fun b=>b<u.heap.size/\H b=none/\¬S b/\¬L b
 let X:Nat->Option (Obj×Bool):=fun b=>if priv b\/b=l\/b=D then (u.heap[b]?).map (·,true) else none
 have Pb:∀ c,X c≠none->priv c\/c=l\/c=D:=by
  grind
 have D3:∀ c o f,X c=some (o,f)->u.heap[c]? = some o/\f=true:=by
  grind
 have zt:∀ c,priv c\/c=l\/c=D->∃ o,X c=some (o,true)/\u.heap[c]? = some o:=by
  grind
 have hX:xH X u:=fun c o f hc=>(D3 c o f hc).1
 have Gr:∀ b o,e'.S b\/S b->X b≠some (o,true):=by
  grind
 have hO:∀ b,Own e' st' b->¬S b/\X b=none:=by
  intro c hc;have h1:=(Own.lt hm hc).2.1;refine ⟨fun hs=>?_,?_⟩
  ·cases hh:H c with
   | none=>grind
   | some o =>
    obtain ⟨o,f⟩:=o;simp_all
  grind
 have hn:∀ b,S b->e'.S b\/e'.base<=b:=by
  grind
 have Jd:∀ g,H g=none->¬e'.S g/\¬Own e' st' g/\g≠l/\g≠D:=fun g hg =>
  ⟨fun hs=>by grind,fun ho=>j3 g ho hg,fun he=>j1 g (by omega) hg,fun he=>j1 g (by omega) hg⟩
 obtain ⟨e1,r1,x1,eH,eS,ey,eb,elent⟩:=ah.inY hy (by omega) (S:=S) (X:=X) hS hX Gr hO hn (sh:=sh) (x:=x) (ps:=ps) (args:=args) (by
  cases sh with
  | clo cs=>exact af.2
  | lent T k =>
   obtain ⟨v,el,xs,q1,q2,q3,q4,q5,q6,q7,q8,q9⟩:=af;refine ⟨v,el,xs,q1,q2,q3,q4,q5,q6,q7,fun g hg=>?_⟩
   grind)
 refine roundIn_of_wpIn wd (gf n0 w0 e1 _ u _ r1 ?_);rintro x2 e2 s1 a1 u1 ⟨rfl,hB⟩ r2 ac ku;have Je:e2.H=X:=(ku.he ey).trans eH;have qf:e2.y=false:=ku.ye.trans ey;obtain ⟨ol,Es,B6⟩:=zt l (.inr (.inl rfl));rw [hl] at B6;cases B6;obtain ⟨oD,Gs,B7⟩:=zt D (.inr (.inr rfl));rw [hD] at B7;cases B7;have gn:u1.heap[l]? = some (.loop (rec .ready none)):=r2.mem.hid.obj l _ true (by grind)
 have Gt:=(Array.getElem?_eq_some_iff.1 gn).1;show ∃ w₂,(Instr.beginRound l).run P u1=.ok () w₂/\body.wpIn (F.inRound l) n P (roundPost P l _) a1 w₂;refine ⟨_,run_beginRound (P:=P) gn (by grind),?_⟩
 obtain ⟨busy,B8⟩:∃ busy:Loop,busy={ rec .ready none with state:=.busy }:=⟨_,rfl⟩
 rw [<- B8]
 let X2:Nat->Option (Obj×Bool):=fun c=>if c=l then some (.loop busy,true) else X c
 have Gu:X2 l=some (.loop busy,true):=if_pos rfl;have Gv:∀ c,c≠l->X2 c=X c:=fun c hc=>if_neg hc
 have nS2:∀ c,X c≠none->¬e2.S c:=by
  intro c hc hs;cases hx:X c with
  | none=>grind
  | some o =>
   obtain ⟨o,f⟩:=o;have:=(D3 c o f hx).2;subst this;exact r2.mem.hid.own c o hs (by grind)
 have nO2:∀ c,Own e2 s1 c->X c=none:=fun c hc=>by have:=(Own.lt r2.mem hc).2.2.1;grind
 have Gw:X l≠none:=by grind
 have r3:Rel n0 w0 { e2 with S:=e2.S,H:=X2 } s1 a1 (u1.putObj l (.loop busy)):=by
  refine r2.move qf (fun _ h=>h) (fun c hc=>by have:=r2.mem.ro c hc;simp_all) (fun c hc=>⟨(Own.lt r2.mem hc).2.1,?_⟩) (fun c hc=>World.putObj_heap_other ?_) (by grind [World.putObj]) (by grind [World.putObj]) ⟨rfl,rfl,rfl⟩ (fun c o f hc=>?_) (fun c o hs hc=>?_)
  ·grind
  ·grind
  ·by_cases bz:c=l
   ·subst bz;rw [Gu] at hc;cases hc
    exact World.putObj_heap_same Gt
   ·rw [Gv c bz] at hc
    rw [World.putObj_heap_other bz];exact r2.mem.hid.obj c o f (by grind)
  grind
 have x3:Ext0 e2 s1 u1 { e2 with S:=e2.S,H:=X2 } s1 (u1.putObj l (.loop busy)):=
  Ext0.same (fun _ h=>h) (fun c hc=>World.putObj_heap_other fun he=>nS2 l Gw (by grind)) (by simp) (fun _ h=>.inl h)
 refine hB n0 w0 _ a1 _ _ r3 ?_;rintro ex e3 s2 a2 u3 ⟨s3,yt,Gx,Pc,hI,iN,gk⟩ r4 Mr tf;have Ms:e3.H=X2:=tf.he qf;have vw:e3.y=false:=tf.ye.trans qf;have D4:u3.heap[l]? = some (.loop busy):=r4.mem.hid.obj l _ true (by grind)
 have Gy:=(Array.getElem?_eq_some_iff.1 D4).1;have nk:=run_endRound (P:=P) pe D4;have B9:({ busy with state:=if pe.isNone=true then LoopState.ready else LoopState.done,pending:=pe }:Loop)=rec (if pe.isNone then .ready else .done) pe:=by grind
 rw [B9] at nk;generalize Gz:u3.putObj l (.loop (rec (if pe.isNone then .ready else .done) pe))=u5 at nk
 have xB:Ext0 e1 (stY sh x ps.toList st') u e3 s2 u3:=((Ext0.of ku).trans x3).trans (Ext0.of tf);have xA:Ext0 e' st' u e3 s2 u3:=x1.trans xB;have rn:∀ c,c≠l->u5.heap[c]? = u3.heap[c]?:=fun c hc=>by rw [<- Gz];exact World.putObj_heap_other hc
 have Jf:u5.heap[l]? = some (.loop (rec (if pe.isNone then .ready else .done) pe)):=by rw [<- Gz];exact World.putObj_heap_same Gy
 have D5:u5.heap.size=u3.heap.size:=by grind [World.putObj]
 have nX3:∀ c,X c≠none->¬e3.S c:=by
  intro c hc hs
  by_cases bz:c=l
  ·subst bz;exact r4.mem.hid.own _ _ hs (by rw [Ms];omega)
  ·cases hx:X c with
   | none=>grind
   | some o =>
    obtain ⟨o,f⟩:=o;have:=(D3 c o f hx).2;subst this;exact r4.mem.hid.own c o hs (by grind)
 have nO3:∀ c,Own e3 s2 c->X c=none/\c≠l:=by
  intro c hc;have h1:=(Own.lt r4.mem hc).2.2.1;grind
 have keepX:∀ c,c≠l->X c≠none->u3.heap[c]? = u.heap[c]?:=by
  intro c bz hc;cases hx:X c with
  | none=>grind
  | some o =>
   obtain ⟨o,f⟩:=o;rw [(D3 c o f hx).1];exact r4.mem.hid.obj c o f (by grind)
 have Ex:∀ c,S c->e3.S c:=fun c hs=>xB.ro.sub c (show e1.S c by grind)
 have Mt:∀ c,S c->c≠l:=fun c hs he=>noS l k3 j5.1 (by grind)
 have Jg:∀ c,S c->u5.heap[c]? = u.heap[c]?:=fun c hs=>(rn c (Mt c hs)).trans (xB.ro.same c (show e1.S c by grind))
 have zr:∀ c,Own e3 s3 c->Own e3 s2 c/\¬L c:=by
  intro c hc;rcases hc with ⟨i,y,q1,q2,q3⟩ | ⟨i,y,q1,q2,q3⟩
  ·obtain ⟨y0,z1,z2⟩:=yt.B i y q1
   have ho:Own e3 s2 c:=.inl ⟨i,y0,z1,(z2 q2).1,q3⟩;refine ⟨ho,fun hL=>?_⟩
   cases sh with
   | clo cs=>exact af.1 c hL
   | lent T k =>
    obtain ⟨v,el,xs,p1,p2,p3,p4,p5,p6,p7,p8,p9⟩:=af;obtain ⟨v',t1,t2⟩:=elent;rw [p2] at t1;cases t1;have hh:e3.hdr st'.V.length 1=v:=(xB.hdr st'.V.length 1 (by simp [stY,vers]) (by simp [stY,vers,List.getD])).trans t2
    exact r4.mem.vecbox _ _ i y0 c gk.1 rfl z1 (z2 q2).1 (by rw [hh];exact (p9 c).1 hL) q3
  ·obtain ⟨y0,z1,z2,z3,z4⟩:=yt.V i y q1
   obtain rfl:=z4 (.inl q2);have ho:Own e3 s2 c:=.inr ⟨i,y,z1,q2,q3⟩;refine ⟨ho,fun hL=>?_⟩
   cases sh with
   | clo cs=>exact af.1 c hL
   | lent T k =>
    obtain ⟨v,el,xs,p1,p2,p3,p4,p5,p6,p7,p8,p9⟩:=af;obtain ⟨v',t1,t2⟩:=elent;rw [p2] at t1;cases t1;have hh:e3.hdr st'.V.length 1=v:=(xB.hdr st'.V.length 1 (by simp [stY,vers]) (by simp [stY,vers,List.getD])).trans t2
    have:=r4.mem.vecinj _ _ i y c gk.1 rfl z1 q2 (by rw [hh];exact (p9 c).1 hL) q3
    subst this;rw [gk.2 _ q1] at q2;cases q2
 let H3:Nat->Option (Obj×Bool):=fun c=>if c<u.heap.size/\H c=none/\¬S c then none else (u5.heap[c]?).map fun o=>(o,decide (¬e3.S c))
 have Ca:∀ c,¬(c<u.heap.size/\H c=none/\¬S c)->H3 c=(u5.heap[c]?).map fun o=>(o,decide (¬e3.S c)):=fun c hc=>if_neg hc
 have Cb:∀ c,H3 c≠none->¬(c<u.heap.size/\H c=none/\¬S c):=fun c hc h=>hc (if_pos h)
 have uj:∀ c o f,H3 c=some (o,f)->u5.heap[c]? = some o/\f=decide (¬e3.S c):=by
  intro c o f hc;rw [Ca c (Cb c (by rw [hc];simp)),Option.map_eq_some_iff] at hc
  obtain ⟨o',h1,h2⟩:=hc;cases h2;exact ⟨h1,rfl⟩
 have some5:∀ c,c<u3.heap.size->¬(c<u.heap.size/\H c=none/\¬S c)->∃ o,H3 c=some (o,decide (¬e3.S c)):=by
  intro c hc zu;have:c<u5.heap.size:=by rw [D5];exact hc
  exact ⟨u5.heap[c],by rw [Ca c zu];simp [this]⟩
 have di:u.heap.size<=u3.heap.size:=xA.sz
 have g1:∀ c,c<lim->H3 c≠none:=by
  intro c hc;obtain ⟨o,ho⟩:=some5 c (by omega) fun h=>j1 c hc h.2.1
  rw [ho];simp
 have g2:∀ c,e3.S c↔∃ o,H3 c=some (o,false):=by
  intro c;constructor
  ·intro hs
   have hlt:=r4.mem.ro c hs
   have D6:¬(c<u.heap.size/\H c=none/\¬S c):=by
    rintro ⟨z1,z2,z3⟩
    by_cases hL:L c
    ·cases sh with
     | clo cs=>exact af.1 c hL
     | lent T k =>
      obtain ⟨v,el,xs,p1,p2,p3,p4,p5,p6,p7,p8,p9⟩:=af;obtain ⟨v',t1,t2⟩:=elent;rw [p2] at t1;cases t1;have hh:e3.hdr st'.V.length 1=v:=(xB.hdr st'.V.length 1 (by simp [stY,vers]) (by simp [stY,vers,List.getD])).trans t2
      exact r4.mem.vecS _ _ c gk.1 rfl (by rw [hh];exact (p9 c).1 hL) hs
    ·obtain ⟨o,ho,_⟩:=zt c (.inl ⟨z1,z2,z3,hL⟩)
     exact nX3 c (by rw [ho];simp) hs
   obtain ⟨o,ho⟩:=some5 c hlt D6;exact ⟨o,by rw [ho];simp [hs]⟩
  ·rintro ⟨o,ho⟩
   have:=(uj c o false ho).2;simpa using this.symm
 have g3:∀ c,Own e3 s3 c->H3 c≠none:=by
  intro c hc;obtain ⟨ho,hL⟩:=zr c hc;have hlt:=(Own.lt r4.mem ho).1
  obtain ⟨o,hh⟩:=some5 c hlt (by
   rintro ⟨z1,z2,z3⟩;obtain ⟨o,hx,_⟩:=zt c (.inl ⟨z1,z2,z3,hL⟩);rw [(nO3 c ho).1] at hx;cases hx)
  rw [hh];simp
 have we:Rel n0 w0 e3 ⟨st'.t,s2.B,s2.V⟩ a u3:=⟨AV.all.ofNo (AV.all.mono xA _ _ ah.sc (AV.all.no ah.tm)),xA.scos ah.sc,r4.mem⟩;have DO:=yt.weak we;have px:Rel n0 w0 e3 s3 a u3:=we.weak DO;have pj:u3.os=u.os/\u3.tape=u.tape/\u3.output=u.output:=⟨r4.mem.below.os.trans hm.below.os.symm,r4.mem.below.tape.trans hm.below.tape.symm,r4.mem.below.output.trans hm.below.output.symm⟩;have yu:u5.os=u3.os/\u5.tape=u3.tape/\u5.output=u3.output:=by rw [<- Gz];exact ⟨rfl,rfl,rfl⟩
 have fin:aBk n0 w0 e st a w u l D lim (.loop (rec (if pe.isNone then .ready else .done) pe)) I H S L sh x args b (.returned (.bool pe.isNone)) u5:=by
  refine ⟨?_,{ e3 with S:=e3.S,H:=fun _=>none },s3,H3,hI,⟨vw,rfl,by have:=xA.be;show e3.base<=lim;have h2:e3.base=e'.base:=this;omega,g1,g2,g3,⟨nX3 l Gw,nX3 D (by rw [Gs];simp)⟩,fun c hc=>?_,fun W4 GE rr=>?_⟩,fun c o f hc=>(uj c o f hc).1,fun c hc=>?_,fun c o hs hc=>?_,by rw [D5];exact di,
   ⟨yu.1.trans pj.1,yu.2.1.trans pj.2.1,yu.2.2.trans pj.2.2⟩,fun c hc zu hL=>?_,Jg,?_⟩
  ·rcases iN with ⟨_,q2,q3⟩ | ⟨_,q2,q3⟩ | ⟨id,_,q2,q3⟩ <;> rw [q2,q3] <;> rfl
  ·have ho:=(zr c hc).1
   refine ⟨(nO3 c ho).2,fun he=>?_⟩
   have:=(nO3 c ho).1;rw [he,Gs] at this;cases this
  ·have agree:∀ c,H3 c≠none->W4.heap[c]? = u5.heap[c]?:=by
    intro c hc;cases hh:H3 c with
    | none=>exact absurd hh hc
    | some o =>
     obtain ⟨o,f⟩:=o;rw [GE c o f hh,(uj c o f hh).1]
   have Pd:l<W4.heap.size:=by
    have:=agree l (g1 l k3);rw [Jf] at this;exact (Array.getElem?_eq_some_iff.1 this).1
   have agS:∀ c,e3.S c->W4.heap[c]? = u3.heap[c]?:=by
    intro c hs;obtain ⟨o,ho⟩:=(g2 c).1 hs;exact (agree c (by rw [ho];simp)).trans (rn c fun he=>nX3 l Gw (by rw [<- he];exact hs))
   have tg:=px.move vw (S':=e3.S) (H':=fun _=>none) (fun _ h=>h) (fun c hs=>by
     have h1:=agS c hs;have h2:=r4.mem.ro c hs;have h3:u3.heap[c]? = some u3.heap[c]:=by simp [h2]
     rw [h3] at h1;exact (Array.getElem?_eq_some_iff.1 h1).1) (fun c hc=>⟨(Own.lt px.mem hc).2.1,rfl⟩) (fun c hc=>by
     rcases hc with hc | hc | hc
     ·exact (agree c (g1 c (by omega))).trans (rn c (by omega))
     ·exact agS c hc
     ·exact (agree c (g3 c hc)).trans (rn c (nO3 c (zr c hc).1).2)) (by omega) (by omega) ⟨(rr.1.trans yr.1.symm).trans pj.1.symm,(rr.2.1.trans yr.2.1.symm).trans pj.2.1.symm,(rr.2.2.trans yr.2.2.symm).trans pj.2.2.symm⟩ (fun c o f hc=>by cases hc) (fun c o _ hc=>by cases hc)
   refine ⟨tg,?_,(agree l (g1 l k3)).trans Jf,?_⟩
   ·have y1:Ext e.noH w st.B.length (vers st.V) (kss st.V) e3.noH u3 s2.B.length (vers s2.V) (kss s2.V):=(Ext0.of f9).trans xA
    have y2:=y1.weak (s:=⟨st'.t,s2.B,s2.V⟩) DO (Nat.le_trans f9.nB Gx) (by have:=f9.nV;simp only [vers,List.length_map] at this ⊢;omega)
    have GT:e3.noH={ e3 with S:=e3.S,H:=fun _=>none }:=rfl
    rw [<- GT]
    exact ⟨⟨y2.ro.sub,fun c hs=>(agS c (y2.ro.sub c hs)).trans (y2.ro.same c hs)⟩,y2.ρ,y2.hdr,y2.nB,y2.nV,y2.verle,y2.kseq,by omega,y2.snew,y2.be,fun Mu=>by
     have:=f9.he Mu;rw [Mq] at this;show (fun _=>none)=e.H
     exact this,y2.ye⟩
   ·exact (agree D (g1 D k4)).trans ((rn D (Ne.symm k6)).trans ((keepX D (Ne.symm k6) (by rw [Gs];simp)).trans hD))
  ·have:=Cb c hc
   by_cases z1:H c=none
   ·by_cases z2:S c
    ·exact .inr (.inl z2)
    ·exact .inr (.inr (Nat.le_of_not_lt fun hlt=>this ⟨hlt,z1,z2⟩))
   ·exact .inl z1
  ·have:=(uj c o true hc).2
   simp [Ex c hs] at this
  ·by_cases hs:S c
   ·exact Jg c hs
   ·obtain ⟨o,ho,_⟩:=zt c (.inl ⟨hc,zu,hs,hL⟩)
    have bz:c≠l:=(Jd c zu).2.2.1;exact (rn c bz).trans (keepX c bz (by rw [ho];simp))
  ·cases sh with
   | clo cs=>trivial
   | lent T k =>
    intro v el xs p1 p2 p5 p6;obtain ⟨v',el',xs',q1,q2,q3,q4,q5,q6,q7,q8,q9⟩:=af;rw [p1] at q1;simp only [List.cons.injEq,CV.row.injEq,true_and,and_true] at q1;subst q1;rw [p2] at q2;simp only [Array.mk.injEq,List.cons.injEq,and_true] at q2;subst q2;obtain ⟨v',t1,t2⟩:=elent;rw [p2] at t1;cases t1;have hh:e3.hdr st'.V.length 1=v:=(xB.hdr st'.V.length 1 (by simp [stY,vers]) (by simp [stY,vers,List.getD])).trans t2
    obtain ⟨ys,y1,y2,y3⟩:=r4.mem.vec _ _ gk.1 rfl;have G0:cR (x.getD 0 dC)=el:=by rw [p1];rfl
    simp only [G0,hh] at y1 y2;have:=CT (EU p5) y2 p6;subst this;refine y1.keep fun g hg=>rn g ?_
    exact (Jd g (q8 g hg).1).2.2.1
 rcases iN with ⟨rfl,q2,q3⟩ | ⟨rfl,q2,q3⟩ | ⟨id,rfl,q2,q3⟩
 all_goals
  subst q2;exact ⟨_,_,nk,fin⟩
end
abbrev TG (J:List (List CV)->(Nat->Option (Obj×Bool))->Prop) (lo:Nat) (w:World):Ghost:=⟨J,lo,w,true⟩
section
variable {F:Fence} {n:Nat} {P:Program}
theorem Sc.avs_length:∀ (cs:List Sc) (vs:List CV) (k:Nat),(Sc.avs cs vs k).length=cs.length
 | [],_,_=>have _:=G;rfl
 | c::cs,vs,k=>by simp [Sc.avs,Sc.avs_length cs vs]
open Classical in
theorem aCJ (hF:Free F) (ba:F.round=none) {g:Operand} {ps:Array Tmp} {assign body:Code} {st:St} {f:FuncId} {caps:List CV} {sh:YSh} {R:YF->List (List CV)->Option (List (List CV))} {yf:YF} {es0 es1:List (List CV)}
  (I:List (List CV)->St->Prop) (pend:List (List CV)->Option Code) {Q:Exit->St->Prop} (D6:sh.np=ps.size) (hg:st.ev g=.cv (.fn f caps)) (dv:iI P f=true) (Cc:QH P f caps sh R) (hR:R yf es0=some es1) (h0:I es0 st) (Pe:pend es0=none)
  (gf:∀ (F:Fence) (n:Nat),Free F->∀ es x b es' st',yf es x=some (b,es')->I es st'->pend es=none/\W F n P assign (stY sh x ps.toList st') fun ex s1=>ex=.normal/\W F n P body s1 (aI2 sh x st' (I es') b (pend es')))
  (nk:∀ st',I es1 st'->(pend es1=none->Q .normal st')/\(pend es1=some .ret->Q .ret st')/\(∀ id,pend es1=some (.exit id)->Q (.exit id) st')/\(pend es1=none\/pend es1=some .ret\/∃ id,pend es1=some (.exit id))) :
  W2 F n P (.rangeFunc g ps assign body) st Q:=by
 intro n0 w0 m0 e a w Qr hr hm kj hk;obtain ⟨kj,hy,G3⟩:=kj;have ic:=hr.mem;refine aEB hF.depth (n':=n+3) ?_;have Jh:=(hr.ev g).1;rw [hg] at Jh;obtain ⟨lb,Mv,ko⟩:=Jh;refine wpIn_rangeFunc ?_;intro fn wd;rw [ba];obtain ⟨rec,rm⟩:∃ rec:LoopState->Option Code->Loop,rec=fun s pe=>{ state:=s,pending:=pe,fn,tmps:=a.tmps,params:=ps,assign,body,defers:=w.heap.size }:=⟨_,rfl⟩
 obtain ⟨W1,pk⟩:∃ W1,(w.alloc (.deferred (some []))).alloc (.loop (rec .ready none))=W1:=⟨_,rfl⟩
 have Mw:W1.heap[w.heap.size+1]? = some (.loop (rec .ready none)):=by
  have:=World.alloc_heap_new (w.alloc (.deferred (some []))) (.loop (rec .ready none));simp_all
 have Gk:W1.heap[w.heap.size]? = some (.deferred (some [])):=by
  rw [<- pk];exact (Below.heap_alloc _ _ _ (by simp)).trans (World.alloc_heap_new w _)
 have Mx:W1.heap.size=w.heap.size+2:=by rw [<- pk];simp
 have hold:∀ c,c<w.heap.size->W1.heap[c]? = w.heap[c]?:=fun c hc=>by
  rw [<- pk];exact (Below.heap_alloc _ _ _ (by simp;omega)).trans (Below.heap_alloc _ _ _ hc)
 have yv:W1.os=w.os/\W1.tape=w.tape/\W1.output=w.output:=by rw [<- pk];exact ⟨rfl,rfl,rfl⟩
 have Jc:w0.heap.size<=w.heap.size:=ic.below.size
 let Rec:List (List CV)->Obj:=fun es=>.loop (rec (if (pend es).isNone then .ready else .done) (pend es))
 let J:List (List CV)->(Nat->Option (Obj×Bool))->Prop:=fun es H=>∃ e' st',I es st'/\Rest n0 w0 e st a w (w.heap.size+1) w.heap.size (w.heap.size+2) (Rec es) e' st' H
 have yw:∀ es x b es',yf es x=some (b,es')->@zB (TG J n0 w) P (w.heap.size+1) sh es x b es':=by
  intro es x b es' Cd F' n' py H S u args hJ D1 uk hS D2 fl;obtain ⟨e',st',hI,d9⟩:=hJ;obtain ⟨Pf,zj⟩:=gf (F'.inRound (w.heap.size+1)) n' (py.inRound _) es x b es' st' Cd hI;have yr:u.os=w.os/\u.tape=w.tape/\u.output=w.output:=⟨uk.1,uk.2.1,uk.2.2.1⟩;have G4:Rec es=.loop (rec .ready none):=by grind
  rw [G4] at d9;have Au:u.heap[w.heap.size+1]? = some (.loop (rec .ready none)):=(d9.j7 u D1 yr).2.2.1;have My:=(Array.getElem?_eq_some_iff.1 Au).1
  have yq:n0<=w.heap.size+2/\w.heap.size+2<=u.heap.size/\w.heap.size+1<w.heap.size+2/\w.heap.size<w.heap.size+2/\n0<=w.heap.size+1/\w.heap.size+1≠w.heap.size/\w0.heap.size<=w.heap.size+1/\w.heap.size<=w.heap.size+1:=by
   have:=ic.base;omega
  have ru:∀ (L:Nat->Prop),aIj n0 u S L H sh x args->RoundIn F' n' P (w.heap.size+1) fn ((ps.zip args).foldl (fun t (p,v)=>t.setIfInBounds p v) a.tmps) assign body u (aBk n0 w0 e st a w u (w.heap.size+1) w.heap.size (w.heap.size+2) (Rec es') (I es') H S L sh x args b):=
   fun L hL=>aHa py rm yq yr D1 hS D2 d9 (py.fn fn) zj L hL
  have post:∀ (L:Nat->Prop) (en:Ending) (u5:World),aBk n0 w0 e st a w u (w.heap.size+1) w.heap.size (w.heap.size+2) (Rec es') (I es') H S L sh x args b en u5->en=.returned (.bool b)/\@aA9 (TG J n0 w) H S L es' u u5/\aIk n0 u u5 S sh x args:=by
   rintro L en u5 ⟨rfl,e3,s3,H3,q1,q2,q3,q4,q5,q6,q7,q8,q9,q10⟩;exact ⟨rfl,⟨H3,⟨e3,s3,q1,q2⟩,q3,q4,q5,q6,q7.1,q7.2.1,q7.2.2,q8,q9⟩,q10⟩
  cases sh with
  | clo cs =>
   intro af
   have di:args.size=ps.size:=by
    have h1:=(af ⟨e.ρ,e.hdr,S,e.base,e.H,e.y⟩ [] rfl).length;rw [Sc.avs_length] at h1;have:(YSh.clo cs).np=cs.length:=rfl;grind
   have oa:=run_yield (P:=P) (args:=args) Au (by grind)
   rw [rm] at oa;refine ⟨fn,_,assign,body,oa,(ru (fun _=>False) ⟨fun _ h=>h,af⟩).mono fun en u5 hp=>?_⟩
   grind
  | lent T k =>
   intro v el xs hx pq af hT ap hv jp ew;have di:args.size=ps.size:=by rw [<- D6,af];rfl
   have oa:=run_yield (P:=P) (args:=args) Au (by grind)
   rw [rm] at oa;refine ⟨fn,_,assign,body,oa,(ru (fun g=>bM v=some g) ⟨v,el,xs,hx,af,hT,ap,pq,hv,jp,ew,fun _=>Iff.rfl⟩).mono fun en u5 hp=>?_⟩
   obtain ⟨p1,p2,p3⟩:=post _ en u5 hp;exact ⟨p1,p2,p3 v el xs hx af pq hv⟩
 let H0:Nat->Option (Obj×Bool):=fun c=>(W1.heap[c]?).map fun o=>(o,decide (¬e.S c))
 have Ce:∀ c o f,H0 c=some (o,f)->W1.heap[c]? = some o/\f=decide (¬e.S c):=by
  grind
 have yx:∀ c,c<w.heap.size+2->∃ o,H0 c=some (o,decide (¬e.S c)):=by
  intro c hc;exact ⟨W1.heap[c],by grind⟩
 have yz:Rest n0 w0 e st a w (w.heap.size+1) w.heap.size (w.heap.size+2) (Rec es0) e st H0:=by
  refine ⟨hy,G3,by have:=ic.bl.1;have:=ic.base;omega,fun c hc=>?_,fun c=>⟨fun hs=>?_,fun ⟨o,ho⟩=>?_⟩,fun c hc=>?_,⟨fun hs=>?_,fun hs=>?_⟩,fun c hc=>?_,fun W4 GE rr=>?_⟩
  ·grind
  ·obtain ⟨o,ho⟩:=yx c (by have:=ic.ro c hs;omega)
   grind
  ·grind
  ·obtain ⟨o,ho⟩:=yx c (by have:=(Own.lt ic hc).1;omega)
   grind
  ·have:=ic.ro _ hs;omega
  ·have:=ic.ro _ hs;omega
  ·have:=(Own.lt ic hc).1;omega
  ·have agree:∀ c,c<w.heap.size+2->W4.heap[c]? = W1.heap[c]?:=by
    intro c hc;obtain ⟨o,ho⟩:=yx c hc;rw [GE c o _ ho,(Ce c o _ ho).1]
   have Mz:W4.heap[w.heap.size+1]? = some (.loop (rec .ready none)):=(agree _ (by omega)).trans Mw
   have M0:=(Array.getElem?_eq_some_iff.1 Mz).1;have agw:∀ c,c<w.heap.size->W4.heap[c]? = w.heap[c]?:=fun c hc=>(agree c (by omega)).trans (hold c hc)
   have tg:=hr.move hy (S':=e.S) (H':=fun _=>none) (w':=W4) (fun _ h=>h) (fun c hs=>by have:=ic.ro c hs;omega) (fun c hc=>⟨(Own.lt ic hc).2.1,rfl⟩) (fun c hc=>agw c (by
     rcases hc with hc | hc | hc
     ·have:=ic.base;omega
     ·exact ic.ro c hc
     ·exact (Own.lt ic hc).1)) (by have:=ic.base;omega) (by omega) rr (fun c o f hc=>by cases hc) (fun c o _ hc=>by cases hc)
   rw [Env.eqH G3] at tg;refine ⟨tg,?_,?_,(agree _ (by omega)).trans Gk⟩
   ·exact ⟨⟨fun _ h=>h,fun c hs=>agw c (ic.ro c hs)⟩,fun _ _=>rfl,fun _ _ _ _=>rfl,Nat.le_refl _,Nat.le_refl _,fun _ _=>Nat.le_refl _,fun _ _=>rfl,by omega,fun _ h=>.inl h,rfl,fun _=>rfl,rfl⟩
   grind
 have ef:=Cc (TG J n0 w) (w.heap.size+1) yf es0 es1 yw hR F (n+2) hF ba H0 e.S W1 lb (by
   have G5:RO w e.S W1 e.S:=⟨fun _ h=>h,fun c hs=>hold c (ic.ro c hs)⟩
   exact CV.vals.mono G5 _ _ ko) (fun c hs=>by have:=ic.ro c hs;omega) (fun c o f hc=>(Ce c o f hc).1) (fun c o hs hc=>by grind) ⟨e,st,h0,yz⟩
  (by show n0<=_;have:=ic.base;omega) ⟨yv.1,yv.2.1,yv.2.2,rfl⟩
 refine ⟨w.heap.size+1,[{ target:=.collected w.heap.size,args:=#[] }],W1,{ target:=.fn (.func f) lb,args:=#[.func (.yield (w.heap.size+1)) #[] #[]] },W1,f,
  #[.func (.yield (w.heap.size+1)) #[] #[]]++lb,W1,?_,?_,?_,?_,fun _=>by omega,?_⟩
 ·rw [<- pk,rm];exact run_enterLoop_outer _ _ _ _ _
 ·simp [resolve,Mv]
  rfl
 ·intro f' pr;simp [Target.leads] at pr;exact hF.fn _
 ·grind [invoke,enters]
 ·refine ef.mono ?_
  rintro en W2 ⟨⟨v,rfl⟩,M1,y4,H2,⟨e',st',hI,d9⟩,Je⟩;have G6:W2.os=w.os/\W2.tape=w.tape/\W2.output=w.output:=⟨y4.1,y4.2.1,y4.2.2.1⟩;obtain ⟨r1,x1,po,M2⟩:=d9.j7 W2 Je G6;have Fx:(rec (if (pend es1).isNone then .ready else .done) (pend es1)).pending=pend es1:=by grind
  have ak:(rec (if (pend es1).isNone then .ready else .done) (pend es1)).state≠.busy:=by
   grind
  have bq:=run_endLoop (P:=P) po ak;generalize Ji:W2.putObj (w.heap.size+1) _=W5 at bq;rw [Fx] at bq;have rn:∀ c,c≠w.heap.size+1->W5.heap[c]? = W2.heap[c]?:=fun c hc=>by rw [<- Ji];exact World.putObj_heap_other hc
  have D5:W5.heap.size=W2.heap.size:=by grind [World.putObj]
  have Pg:W5.heap[w.heap.size]? = some (.deferred (some [])):=(rn _ (by omega)).trans M2
  have M3:=r1.move d9.y (S':=fun b=>e'.S b\/b=w.heap.size) (H':=fun _=>none) (w':=W5) (fun _ h=>.inl h) (fun c hs=>by
    rw [D5];rcases hs with hs | rfl
    ·exact r1.mem.ro c hs
    ·omega) (fun c hc=>⟨fun hs=>hs.elim (Own.lt r1.mem hc).2.1 (d9.j6 c hc).2,rfl⟩) (fun c hc=>rn c (by
     rcases hc with hc | hc | hc
     ·have:=ic.base;omega
     ·exact fun he=>d9.j5.1 (by grind)
     ·exact (d9.j6 c hc).1)) (by have:=ic.base;omega) (by omega) (by rw [<- Ji];exact ⟨rfl,rfl,rfl⟩) (fun c o f hc=>by cases hc) (fun c o _ hc=>by cases hc)
  have ui:dW e st w { e' with S:=fun b=>e'.S b\/b=w.heap.size,H:=fun _=>none } st'.B st'.V W5:=by
   refine ⟨⟨fun c hs=>.inl (x1.ro.sub c hs),fun c hs=>(rn c (by have:=ic.ro c hs;omega)).trans (x1.ro.same c hs)⟩,x1.ρ,x1.hdr,x1.nB,x1.nV,x1.verle,x1.kseq,by omega,fun c hs=>?_,x1.be,fun _=>G3.symm,x1.ye⟩
   rcases hs with hs | hs
   ·exact x1.snew c hs
   ·have:=ic.bl.1;have:=ic.base;omega
  obtain ⟨z1,z2,z3,z4⟩:=nk st' hI
  have jq:Mk m0 { e' with S:=fun b=>e'.S b\/b=w.heap.size,H:=fun _=>none } W5 (LG w.heap.size::a.defers):=by
   obtain ⟨Ds,E8,df,M4⟩:=hm;refine ⟨w.heap.size::Ds,by grind,?_,?_⟩
   ·grind
   ·intro D' D0
    rcases List.mem_cons.1 D0 with rfl | D0
    ·grind
    ·obtain ⟨q1,q2,q3⟩:=M4 D' D0
     exact ⟨q1,ui.ro.sub D' q2,(ui.ro.same D' q2).trans q3⟩
  have go:∀ ex,Q ex st'->Qr ex { a with defers:=LG w.heap.size::a.defers } W5:=fun ex hq =>
   hk ex _ st' { a with defers:=LG w.heap.size::a.defers } W5 hq (M3.act rfl) jq ui
  refine ⟨pend es1,W5,bq,?_⟩;rcases z4 with z4 | z4 | ⟨id,z4⟩
  ·rw [z4];exact go .normal (z1 z4)
  ·rw [z4];exact wpIn_ret (go .ret (z2 z4))
  ·rw [z4];exact wpIn_exit (go (.exit id) (z3 id z4))
end
end Go.Sx
