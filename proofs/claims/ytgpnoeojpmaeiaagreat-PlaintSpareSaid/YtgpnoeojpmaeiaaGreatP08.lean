/-
 The laws of a pinder's court (plaints) hold at every input, without any condition.
-/
import Derived.Conc.CrowdTrace
import Derived.Conc.DeferLaws
import Derived.Conc.EventLaws
import Derived.Conc.Own2
import Derived.Test.YtgpnoeojpmaeiaaGreatP07
set_option linter.unusedSectionVars false
set_option linter.unusedVariables false
set_option linter.unusedSimpArgs false
namespace Go
open Go.Conc
open Go.ConcN (sumTo upd sumTo_upd upd_ne upd_same)
section
variable {P:Program} {c k:Nat} {tot:List Value} {w0:World} {Old:Nat->Prop} {K:Frame->List Frame->Value->World->Prop} {gF gM:Goroutine} {vF vM:World} {n:Nat} {Mn:Nat->Prop} {gs:Array Goroutine} {w:World} {sl:Option (Nat×Nat)} {t:Trace} {q:Nat->Nat} {a b:Goroutine}
theorem zH (g:Nat) (fn:FuncId) (pos:String) (u:Trace):MemOp.ofEvents g fn pos #[]++u=u:=by
 rw [show MemOp.ofEvents g fn pos #[]=#[] from rfl,Array.empty_append]
theorem CfgA.others (hc:CfgA P c k tot w0 Old gF vF gM vM n Mn gs w t q a b) {j:Nat} {x:Goroutine} (h0:j≠0) (hk:j≠k) (hx:gs[j]? = some x) (r:Nat) (sd:Bool):offersAt x r sd=[]:=
 offersAt_of_not_blocked (by rcases (hc.old j x (by omega) hk hx).status with h | h <;> rw [h] <;> simp) _ _
theorem uM {x:Goroutine} (h:x.status=.running) (r:Nat) (sd:Bool):offersAt x r sd=[]:=offersAt_of_not_blocked (by grind) _ _
theorem CfgA.met (hc:CfgA P c k tot w0 Old gF vF gM vM n Mn gs w t q a b) {gF' gM':Goroutine} {vf vm:World} (xr:Vw (HdF Mn Old) c n w vf) (xt:Vw (HdM Mn c w) c n w vm) (hF:gF'.status=.running) (hM:gM'.status=.running)
  {gs':Array Goroutine} (Ct:gs'[0]? = some gM') (Kw:gs'[k]? = some gF') (vj:∀ j,j≠0->j≠k->gs'[j]? = gs[j]?) (cn:gs'.size=gs.size) {u:Trace} (hu:∀ op∈u,op.act.touch? = none) (hd:∀ op∈u,op.act≠.mark .disable/\op.act≠.mark .enable) (hl:∀ op∈u,op.act.low w.heap.size) :
  CfgA P c k tot w0 Old gF' (vf.putObj c (eW (n+1))) gM' (vm.putObj c (eW (n+1))) (n+1) Mn gs' (w.setChan c 0 #[] false (n+1) (n+1) false) (t++u) q gM' gF':=by
 have mz:c<w.heap.size:=(Array.getElem?_eq_some_iff.1 hc.chan).1;refine ⟨hc.k0,Ct,.inl ⟨hM,Same.refl _⟩,Kw,.inl ⟨hF,Same.refl _⟩,.inl hM,fun i g hi eo hx=>?_,fun j hj=>?_,by grind [World.setChan],⟨_,xr.meet _,Co.aJX _⟩,⟨_,(xt.meet _).congr fun b=>by simp [HdM,World.setChan],Co.aJX _⟩,?_,fun b hb=>?_,fun b hb=>?_,?_⟩
 ·rw [vj i (by omega) eo] at hx
  rw [Deaf_quiet _ _ _ hd];exact hc.old i g hi eo hx
 ·rw [Deaf_quiet _ _ _ hd]
  exact hc.above j (by omega)
 ·have:=hc.tr.mute hu (Deaf_quiet _ _ _ hd) (Deaf_quiet _ _ _ hd) hl
  grind [World.setChan]
 ·have:=hc.mn b hb
  grind [World.setChan]
 ·obtain ⟨h1,h2,h3⟩:=hc.oldv b hb
  simp_all [World.setChan,Ne.symm]
 ·obtain ⟨z1,z2,z3,z4⟩:=hc.w0
  grind [World.setChan]
variable {fr:Frame} {cs cs2:List Frame} {z x:Value}
theorem aG3 {fr2:Frame} (hc:CfgA P c k tot w0 Old (Conc.G fr2 cs2) vF (Conc.G fr cs) vM n Mn gs w t q a b) (d6:a.status=.running) (hb:b=parked (Conc.G fr2 cs2) #[scase c x (.tuple #[])] .send)
  (hz:AtRecv P c z (Conc.G fr cs)) (h:∀ vf vm,Rely vF vf->Rely vM vm->PA P c k tot w0 Old K (Conc.G (fr2.finish undef) cs2) (vf.putObj c (eW (n+1))) (Conc.G (fr.finish (.tuple #[x,.bool true])) cs) (vm.putObj c (eW (n+1)))) :
  ∃ m' ops,runT P (crowd gs w sl) 0=(.next m',ops)/\PhaseEnd P c w0 K m' (t++ops):=by
 subst hb;obtain ⟨vm,hm,l7⟩:=hc.vm;obtain ⟨vf,hf,kj⟩:=hc.vf
 have bz:Same a (Conc.G fr cs):=by
  rcases hc.sitM with h | ⟨z,rfl,_⟩
  ·grind
  ·cases d6
 have cy:=hc.k0;have mz:c<w.heap.size:=(Array.getElem?_eq_some_iff.1 hc.chan).1
 have hp:partners (gs.setIfInBounds 0 ph) c true=[(k,0)]:=by
  rw [partners_one (j:=k) (stand_get cy hc.feed) fun j x hj hx=>?_]
  ·simp [offersAt_parked_send]
  ·rcases getElem?_stand gs 0 j x hx with ⟨rfl,rfl⟩ | ⟨xm,hx⟩
   ·rfl
   ·exact hc.others xm hj hx _ _
 have ag:=crowd_recv_meets (P:=P) (w:=w) (sl:=sl) (i:=0) (j:=k) hc.main (show stepG P (0 == 0) a w=.comm (Conc.G fr cs) #[rcase c z] true (.recv true) w #[] from (bz.step w).trans (hz w)) hc.chan cy hc.feed hp;rw [zH,finishComm_recv,finishComm_send] at ag;have tg:k<gs.size:=(Array.getElem?_eq_some_iff.1 hc.feed).1;refine ⟨_,_,ag,h vf vm kj l7 (n+1) Mn _ _ _ _ q _ _ (hc.met hf hm rfl rfl ?_ ?_ (fun j hj ik=>?_) (by simp) ?_ ?_ ?_)⟩
 ·rw [Array.getElem?_setIfInBounds_self_of_lt (by grind)];rfl
 ·rw [Array.getElem?_setIfInBounds_ne (Ne.symm cy),Array.getElem?_setIfInBounds_self_of_lt tg];rfl
 ·grind
 ·simp [MemAct.touch?]
 ·simp
 grind [MemAct.low]
theorem aG4 {fr2:Frame} (hc:CfgA P c k tot w0 Old (Conc.G fr2 cs2) vF (Conc.G fr cs) vM n Mn gs w t q a b) (du:b.status=.running) (ha:a=parked (Conc.G fr cs) #[rcase c z] (.recv true))
  (hx:AtSend P c x (Conc.G fr2 cs2)) (h:∀ vf vm,Rely vF vf->Rely vM vm->PA P c k tot w0 Old K (Conc.G (fr2.finish undef) cs2) (vf.putObj c (eW (n+1))) (Conc.G (fr.finish (.tuple #[x,.bool true])) cs) (vm.putObj c (eW (n+1)))) :
  ∃ m' ops,runT P (crowd gs w sl) k=(.next m',ops)/\PhaseEnd P c w0 K m' (t++ops):=by
 subst ha;obtain ⟨vm,hm,l7⟩:=hc.vm;obtain ⟨vf,hf,kj⟩:=hc.vf
 have bz:Same b (Conc.G fr2 cs2):=by
  rcases hc.sitF with h | ⟨z,rfl,_⟩
  ·grind
  ·cases du
 have cy:=hc.k0;have wn:(k == 0)=false:=by grind
 have mz:c<w.heap.size:=(Array.getElem?_eq_some_iff.1 hc.chan).1
 have hp:partners (gs.setIfInBounds k ph) c false=[(0,0)]:=by
  rw [partners_one (j:=0) (stand_get (Ne.symm cy) hc.main) fun j x hj hx=>?_]
  ·simp [offersAt_parked_recv]
  ·rcases getElem?_stand gs k j x hx with ⟨rfl,rfl⟩ | ⟨ik,hx⟩
   ·rfl
   ·exact hc.others hj ik hx _ _
 have ag:=crowd_send_meets (P:=P) (w:=w) (sl:=sl) (i:=k) (j:=0) hc.feed (show stepG P (k == 0) b w=.comm (Conc.G fr2 cs2) #[scase c x (.tuple #[])] true .send w #[] from by rw [wn];exact (bz.step w).trans (hx w)) hc.chan (Ne.symm cy) hc.main hp
 rw [zH,finishComm_recv,finishComm_send] at ag;have h0:0<gs.size:=(Array.getElem?_eq_some_iff.1 hc.main).1;have tg:k<gs.size:=(Array.getElem?_eq_some_iff.1 hc.feed).1;refine ⟨_,_,ag,h vf vm kj l7 (n+1) Mn _ _ _ _ q _ _ (hc.met hf hm rfl rfl ?_ ?_ (fun j hj ik=>?_) (by simp) ?_ ?_ ?_)⟩
 ·rw [Array.getElem?_setIfInBounds_ne cy,Array.getElem?_setIfInBounds_self_of_lt h0];rfl
 ·rw [Array.getElem?_setIfInBounds_self_of_lt (by grind)];rfl
 ·grind
 ·simp [MemAct.touch?]
 ·simp
 grind [MemAct.low]
theorem QK (hc:CfgA P c k tot w0 Old gF vF (Conc.G fr cs) vM n Mn gs w t q a b) (d6:a.status=.running) (du:b.status=.running) (hz:AtRecv P c z (Conc.G fr cs)) :
  ∃ gs' a',runT P (crowd gs w sl) 0=(.next (crowd gs' w sl),#[])/\gs'.size=gs.size/\CfgA P c k tot w0 Old gF vF (Conc.G fr cs) vM n Mn gs' w t q a' b/\a'.status≠.running:=by
 have bz:Same a (Conc.G fr cs):=by
  rcases hc.sitM with h | ⟨z,rfl,_⟩
  ·grind
  ·cases d6
 have cy:=hc.k0
 have hp:partners (gs.setIfInBounds 0 ph) c true=[]:=partners_nil fun j x hx=>by
  rcases getElem?_stand gs 0 j x hx with ⟨rfl,rfl⟩ | ⟨hj,hx⟩
  ·rfl
  ·by_cases ik:j=k
   ·subst ik
    rw [hc.feed] at hx;rw [<- Option.some.inj hx];exact uM du _ _
   ·exact hc.others hj ik hx _ _
 have ag:=crowd_waits (P:=P) (w:=w) (sl:=sl) (i:=0) hc.main (show stepG P (0 == 0) a w=.comm (Conc.G fr cs) #[rcase c z] true (.recv true) w #[] from (bz.step w).trans (hz w)) (fun cc l4=>by
  simp at l4;subst l4;exact ways_recv_none hc.chan hp)
 have h0:0<gs.size:=(Array.getElem?_eq_some_iff.1 hc.main).1;refine ⟨_,_,ag,by simp,⟨cy,by grind,.inr ⟨z,rfl,hz⟩,by rw [Array.getElem?_setIfInBounds_ne (Ne.symm cy)];exact hc.feed,hc.sitF,.inr du,fun i g hi eo hx=>?_,fun j hj=>hc.above j (by grind),hc.chan,hc.vf,hc.vm,hc.tr,hc.mn,hc.oldv,hc.w0⟩,by simp [parked]⟩
 rw [Array.getElem?_setIfInBounds_ne (by omega)] at hx
 exact hc.old i g hi eo hx
theorem aG5 (hc:CfgA P c k tot w0 Old (Conc.G fr cs) vF gM vM n Mn gs w t q a b) (d6:a.status=.running) (du:b.status=.running) (hz:AtSend P c x (Conc.G fr cs)) :
  ∃ gs' b',runT P (crowd gs w sl) k=(.next (crowd gs' w sl),#[])/\gs'.size=gs.size/\CfgA P c k tot w0 Old (Conc.G fr cs) vF gM vM n Mn gs' w t q a b'/\b'.status≠.running:=by
 have bz:Same b (Conc.G fr cs):=by
  rcases hc.sitF with h | ⟨z,rfl,_⟩
  ·grind
  ·cases du
 have cy:=hc.k0;have wn:(k == 0)=false:=by grind
 have hp:partners (gs.setIfInBounds k ph) c false=[]:=partners_nil fun j x hx=>by
  rcases getElem?_stand gs k j x hx with ⟨rfl,rfl⟩ | ⟨ik,hx⟩
  ·rfl
  ·by_cases hj:j=0
   ·subst hj
    rw [hc.main] at hx;rw [<- Option.some.inj hx];exact uM d6 _ _
   ·exact hc.others hj ik hx _ _
 have ag:=crowd_waits (P:=P) (w:=w) (sl:=sl) (i:=k) hc.feed (show stepG P (k == 0) b w=.comm (Conc.G fr cs) #[scase c x (.tuple #[])] true .send w #[] from by rw [wn];exact (bz.step w).trans (hz w)) (fun cc l4=>by
  simp at l4;subst l4;exact ways_send_none hc.chan (Nat.zero_le _) hp)
 have tg:k<gs.size:=(Array.getElem?_eq_some_iff.1 hc.feed).1;refine ⟨_,_,ag,by simp,⟨cy,by rw [Array.getElem?_setIfInBounds_ne cy];exact hc.main,hc.sitM,by grind,.inr ⟨x,rfl,hz⟩,.inl d6,fun i g hi eo hx=>?_,fun j hj=>hc.above j (by grind),hc.chan,hc.vf,hc.vm,hc.tr,hc.mn,hc.oldv,hc.w0⟩,by simp [parked]⟩
 rw [Array.getElem?_setIfInBounds_ne (Ne.symm eo)] at hx;exact hc.old i g hi eo hx
theorem aBH (hM:Tree P true c tot (AtShut P c tot K) gM vM) (hF:∀ v,Rely vF v->AtClose P c tot w0 Old gF v) (hc:CfgA P c k tot w0 Old gF vF gM vM n Mn gs w t q a b) (du:b.status=.running) :
  ∃ m' ops,runT P (crowd gs w sl) k=(.next m',ops)/\PhaseEnd P c w0 K m' (t++ops):=by
 obtain ⟨vm,hm,l7⟩:=hc.vm;obtain ⟨vf,hf,kj⟩:=hc.vf;obtain ⟨c1,c2,c3,c4,c5⟩:=hF vf kj
 have hn:n=tot.length:=by
  have:=hf.ch;grind
 subst hn;obtain ⟨g',m,aw,hq⟩:=c4 w hc.chan
 have bz:Same b gF:=by
  rcases hc.sitF with h | ⟨z,rfl,_⟩
  ·grind
  ·cases du
 have cy:=hc.k0;have wn:(k == 0)=false:=by grind
 have mz:c<w.heap.size:=(Array.getElem?_eq_some_iff.1 hc.chan).1;have dh:=runT_crowd_go (P:=P) (sl:=sl) (i:=k) hc.feed (show stepG P (k == 0) b w=_ from by rw [wn];exact (bz.step w).trans aw)
 have Kx:¬Mn c:=fun h=>(hc.mn c h).2.1 rfl
 have hT:=hc.tr.shut cy mz Kx (fn:=b.frame.fn) (pos:=b.frame.place);have tg:k<gs.size:=(Array.getElem?_eq_some_iff.1 hc.feed).1;have gz:({ w with heap:=w.heap.setIfInBounds c (.chan 0 #[] true tot.length tot.length false) }:World).heap[c]? = some (.chan 0 #[] true tot.length tot.length false):=by grind
 have hw:mayWake P b=true:=by
  have:mayWake P b=mayWake P gF:=by unfold mayWake;rw [bz.1]
  grind
 have N5:g'.status≠.blocked/\g'.status≠.waiting:=by
  rcases hq.status with h | h <;> rw [h] <;> simp
 refine ⟨_,_,dh,aFP hM (t.size+1) Mn _ _ _ _ (upd q k m) ⟨?_,⟨fun i g hi hx=>?_,fun j hj=>?_⟩,gz,⟨_,((hm.meet (m:=tot.length) _).congr fun b=>by simp [HdM]),Co.aIL l7 (aBG hm.ch)⟩,by grind,fun b hb=>by have:=hc.mn b hb;simpa using ⟨this.1,this.2.1⟩,fun b hb dz=>?_,?_⟩⟩
 ·rw [Array.getElem?_setIfInBounds_ne cy,Array.getElem?_map,hc.main]
  rcases hc.sitM with ⟨h1,h2⟩ | ⟨z,rfl,h2⟩
  ·grind [woken_run]
  ·refine ⟨{ parked gM #[rcase c z] (.recv true) with status:=.running },?_,rfl,⟨rfl,rfl,rfl⟩⟩
   simp;unfold woken;rw [if_pos (by grind)]
   exact again_recv_closed gz
 ·by_cases eo:k=i
  ·subst eo
   rw [Array.getElem?_setIfInBounds_self_of_lt (by grind)] at hx
   obtain rfl:=Option.some.inj hx;rw [upd_same,Deaf_quiet _ _ _ (by simp [MemOp.ofEvents,MemAct.ofEvent]),hc.tr.hk]
   exact hq
  ·rw [Array.getElem?_setIfInBounds_ne eo,Array.getElem?_map] at hx
   obtain ⟨y,hy,rfl⟩:=Option.map_eq_some_iff.1 hx;have qt:=hc.old i y hi (Ne.symm eo) hy;rw [woken_quitsD qt,upd_ne q m (Ne.symm eo),Deaf_other t eo _ (fun op aa=>pX aa)]
   omega
 ·rw [Deaf_other t (g':=k) (by grind) _ (fun op aa=>pX aa)]
  exact hc.above j (by grind)
 ·have Hw:¬Mn b:=fun h=>by have:=hc.mn b h;omega
  refine ⟨Hw,?_⟩;simp [Array.getElem?_setIfInBounds_ne (Ne.symm dz)]
  by_cases ho:Old b
  ·exact (hc.oldv b ho).2.2
  ·rw [<- hf.eq b (fun h=>h.elim Hw ho) dz]
   grind
 ·obtain ⟨z1,z2,z3,z4⟩:=hc.w0
  grind
end
end Go
namespace Go
open Go.Conc
open Go.ConcN (sumTo upd sumTo_upd upd_ne upd_same)
def rc (a:Goroutine):Nat:=match a.status with
 | .running=>1
 | _=>0
variable {a:Goroutine}
theorem BG (h:a.status=.running):rc a=1:=by unfold rc;rw [h]
theorem BH (h:a.status≠.running):rc a=0:=by
 unfold rc;simp
section
variable {P:Program} {c k:Nat} {tot:List Value} {w0:World} {Old:Nat->Prop} {K:Frame->List Frame->Value->World->Prop}
theorem CfgA.at {gF gM:Goroutine} {vF vM:World} {n:Nat} {Mn:Nat->Prop} {gs:Array Goroutine} {w:World} {t:Trace} {q:Nat->Nat} {a b:Goroutine} (hc:CfgA P c k tot w0 Old gF vF gM vM n Mn gs w t q a b) (d:Nat):CfgA P c k tot w0 Old gF vF gM vM n Mn gs (w.at d) t q a b:=by
 obtain ⟨vf,hf,kj⟩:=hc.vf;obtain ⟨vm,hm,l7⟩:=hc.vm;exact ⟨hc.k0,hc.main,hc.sitM,hc.feed,hc.sitF,hc.one,hc.old,hc.above,hc.chan,⟨_,hf.at d,Co.aIL kj (vY _ _)⟩,⟨_,hm.at d,Co.aIL l7 (vY _ _)⟩,hc.tr,hc.mn,hc.oldv,hc.w0⟩
def zI (P:Program) (c k:Nat) (tot:List Value) (w0:World) (Old:Nat->Prop) (K:Frame->List Frame->Value->World->Prop) (gF:Goroutine) (vF:World) (gM:Goroutine) (vM:World) (n:Nat) (Mn:Nat->Prop) (gs:Array Goroutine) (w:World) (sl:Option (Nat×Nat)) (t:Trace) (q:Nat->Nat) (a b:Goroutine) (i:Nat):Prop:=
 (∃ m' ops,runT P (crowd gs w sl) i=(.next m',ops)/\PhaseEnd P c w0 K m' (t++ops)) \/
 ∃ gs' a' b',runT P (crowd gs w sl) i=(.next (crowd gs' w sl),#[])/\gs'.size=gs.size/\CfgA P c k tot w0 Old gF vF gM vM n Mn gs' w t q a' b'/\rc a'+rc b'<rc a+rc b
variable {gF:Goroutine}
theorem zJ {gM:Goroutine} {vF vM:World}
  (hm:∀ (n:Nat) (Mn:Nat->Prop) (gs:Array Goroutine) (w:World) (sl:Option (Nat×Nat)) (t:Trace) (q:Nat->Nat) (a b:Goroutine),CfgA P c k tot w0 Old gF vF gM vM n Mn gs w t q a b->a.status=.running->zI P c k tot w0 Old K gF vF gM vM n Mn gs w sl t q a b 0)
  (hf:∀ (n:Nat) (Mn:Nat->Prop) (gs:Array Goroutine) (w:World) (sl:Option (Nat×Nat)) (t:Trace) (q:Nat->Nat) (a b:Goroutine),CfgA P c k tot w0 Old gF vF gM vM n Mn gs w t q a b->b.status=.running->zI P c k tot w0 Old K gF vF gM vM n Mn gs w sl t q a b k) :
  PA P c k tot w0 Old K gF vF gM vM:=by
 intro n Mn gs w sl t q a b hc;generalize hN:sumTo gs.size q+(rc a+rc b)=N
 induction N using Nat.strongRecOn generalizing gs w sl t q a b with
 | _ N ih =>
  have cy:=hc.k0;have Aa:∃ (i:Nat) (g:Goroutine),gs[i]? = some g/\g.status=.running:=hc.one.elim (fun h=>⟨0,a,hc.main,h⟩) fun h=>⟨k,b,hc.feed,h⟩
  obtain ⟨i,g1,d,sl',hi,xd,ax⟩:=crowd_pick (P:=P) (w:=w) (sl:=sl) hc.awakes Aa;have rn:=hc.at d
  have fin:∀ i,zI P c k tot w0 Old K gF vF gM vM n Mn gs (w.at d) sl' t q a b i->stepT P (crowd gs w sl)=runT P (crowd gs (w.at d) sl') i->PhaseEnd P c w0 K (crowd gs w sl) t:=by
   rintro i (⟨m',ops,h1,h2⟩ | ⟨gs',a',b',h1,h2,h3,h4⟩) ax
   ·exact h2.step (ax.trans h1)
   ·refine PhaseEnd.step (ax.trans h1) ?_
    grind
  by_cases qr:i=0
  ·subst qr
   rw [hc.main] at hi;grind
  ·by_cases eo:i=k
   ·subst eo
    rw [hc.feed] at hi;grind
   ·have dy:0<i:=by omega
    have hq:=hc.old i g1 dy eo hi;have td:(i == 0)=false:=by grind
    have an:i<gs.size:=(Array.getElem?_eq_some_iff.1 hi).1;cases tn:q i with
    | zero=>rw [tn] at hq;rw [hq.1] at xd;grind
    | succ j =>
     rw [tn] at hq;rcases hq with ⟨yb,_⟩ | ⟨_,g',es,Hx,oy,nk⟩
     ·grind
     have dh:=runT_crowd_go (P:=P) (sl:=sl') (i:=i) hi (by rw [td];exact oy (w.at d))
     have cn:((gs.map (woken P g1 g' (w.at d))).setIfInBounds i g').size=gs.size:=by simp
     have lq:sumTo gs.size (upd q i j)+(j+1)=sumTo gs.size q+j:=by
      have:=sumTo_upd q j id an;simp_all
     refine PhaseEnd.step (ax.trans dh) (ih (sumTo gs.size (upd q i j)+(rc a+rc b)) (by omega) _ _ _ _ (upd q i j) a b ?_ (by rw [cn]))
     refine ⟨cy,?_,hc.sitM,?_,hc.sitF,hc.one,fun m x dl ia hx=>?_,fun m dl=>?_,rn.chan,rn.vf,rn.vm,rn.tr.mute (fun op aa=>?_) ?_ ?_ fun op aa=>?_,rn.mn,rn.oldv,rn.w0⟩
     ·rw [Array.getElem?_setIfInBounds_ne qr,Array.getElem?_map,hc.main]
      simp;rw [FW hc.sitM rn.chan]
     ·rw [Array.getElem?_setIfInBounds_ne eo,Array.getElem?_map,hc.feed]
      simp;rw [FX hc.sitF rn.chan]
     ·by_cases i7:i=m
      ·grind [upd_same,Deaf_own]
      ·rw [Array.getElem?_setIfInBounds_ne i7,Array.getElem?_map] at hx
       obtain ⟨y,hy,rfl⟩:=Option.map_eq_some_iff.1 hx;have qt:=hc.old m y dl ia hy;rw [woken_quitsD qt,upd_ne q j (Ne.symm i7),Deaf_other t i7 _ (fun op aa=>pX aa)]
       omega
     ·rw [Deaf_other t (g':=i) (by omega) _ (fun op aa=>pX aa)]
      exact hc.above m (by omega)
     ·obtain ⟨e,he,rfl⟩:=Conc.mem_ofEvents aa
      exact touch_mute (Hx e he)
     ·exact Deaf_other t qr _ (fun op aa=>pX aa)
     ·exact Deaf_other t eo _ (fun op aa=>pX aa)
     ·obtain ⟨e,he,rfl⟩:=Conc.mem_ofEvents aa
      exact low_mute (Hx e he) _
theorem aBI {α:Type} {main:Bool} {s:Sem α} {kk:α->Option Goroutine} {fr:Frame} {cs:List Frame} {v:World} {T:Goroutine->World->Prop}
  (hs:∀ w₁ x w' g',kk x=some g'->s.run P w₁=.ok x w'->∃ es,stepG P main (Conc.G fr cs) w₁=.go g' w' es/\∀ e∈es,e∈s.events P w₁ #[])
  (h:∀ v₁,Rely v v₁->∃ x v' g',s.run P v₁=.ok x v'/\kk x=some g'/\T g' v') {g2:Goroutine} {cases:Array CommCase} {bl:Bool} {sh:CommShape} {w2:World} {e2:Array Event} (hc:stepG P main (Conc.G fr cs) v=.comm g2 cases bl sh w2 e2):False:=by
 obtain ⟨x,v',g',h1,h2,_⟩:=h v (Co.aJX v);grind
theorem aBJ {g:Goroutine} {v:World} (h:AtClose P c tot w0 Old g v) {x:Value} (hx:AtSend P c x g):False:=by
 obtain ⟨c1,_,_,c4,_⟩:=h;obtain ⟨g',m,h1,_⟩:=c4 { v with heap:=v.heap.setIfInBounds c (.chan 0 #[] false tot.length tot.length false) } (by grind)
 rw [hx _] at h1;cases h1
theorem aFQ {vF:World} (hF:Tree P false c tot (AtClose P c tot w0 Old) gF vF):∀ (gM:Goroutine) (vM:World),Tree P true c tot (AtShut P c tot K) gM vM->PA P c k tot w0 Old K gF vF gM vM:=by
 have closeRun:∀ {g:Goroutine} {v:World},Tree P false c tot (AtClose P c tot w0 Old) g v->g.status=.running:=by
  intro g v h;cases h with
  | stop h=>exact (h v (Co.aJX v)).2.1
  | _=>rfl
 have cnt:∀ {Hd:Nat->Prop} {m n:Nat} {w v v0:World},Vw Hd c n w v->Rely v0 v->v0.heap[c]? = some (eW m)->m=n:=by
  intro Hd m n w v v0 hv hr h0;have:=Rely.chan hr h0;rw [hv.ch] at this;grind
 induction hF with
 | @stop gF vF hF =>
  intro gM vM hM;have noF:∀ {x:Value},¬AtSend P c x gF:=fun {x} hx=>aBJ (hF vF (Co.aJX _)) hx
  induction hM with
  | @stop gM vM hM =>
   refine zJ (fun n Mn gs w sl t q a b hc d6=>?_) fun n Mn gs w sl t q a b hc du=>.inl (aBH (.stop hM) hF hc du)
   obtain ⟨fr,cs,z,rfl,h1,_,_⟩:=hM vM (Co.aJX _)
   have du:b.status=.running:=by
    rcases hc.sitF with h | ⟨x,rfl,hx⟩
    ·grind
    grind
   obtain ⟨gs',a',h2,h3,h4,h5⟩:=QK (sl:=sl) hc d6 du h1;exact .inr ⟨gs',a',b,h2,h3,h4,by grind [BH,BG]⟩
  | @sem α s kk T fr cs v cj hs h ht ih =>
   refine zJ (fun n Mn gs w sl t q a b hc d6=>?_) fun n Mn gs w sl t q a b hc du=>.inl (aBH (.sem s kk T cj hs h ht) hF hc du)
   exact .inl (stepM cj hs (fun v₁ hv=>by obtain ⟨x,v',g',h1,h2,h3⟩:=h v₁ hv;exact ⟨x,v',g',h1,h2,(ht g' v' h3).runs,ih g' v' h3⟩) hc d6)
  | send x n hm=>cases hm
  | @recv x z m fr cs v hm hn hx hs h ih =>
   refine zJ (fun n Mn gs w sl t q a b hc d6=>?_) fun n Mn gs w sl t q a b hc du=>.inl (aBH (.recv x z m hm hn hx hs h) hF hc du)
   have du:b.status=.running:=by
    rcases hc.sitF with h | ⟨x,rfl,hx⟩
    ·grind
    grind
   obtain ⟨gs',a',h2,h3,h4,h5⟩:=QK (sl:=sl) hc d6 du hs;exact .inr ⟨gs',a',b,h2,h3,h4,by grind [BH,BG]⟩
 | @sem α s kk T fr cs vF cj hs h ht ihF =>
  intro gM vM hM
  have goF:∀ (gM:Goroutine) (vM:World),Tree P true c tot (AtShut P c tot K) gM vM->∀ (n:Nat) (Mn:Nat->Prop) (gs:Array Goroutine) (w:World) (sl:Option (Nat×Nat)) (t:Trace) (q:Nat->Nat) (a b:Goroutine),CfgA P c k tot w0 Old (Conc.G fr cs) vF gM vM n Mn gs w t q a b->b.status=.running->zI P c k tot w0 Old K (Conc.G fr cs) vF gM vM n Mn gs w sl t q a b k:=fun gM vM hM n Mn gs w sl t q a b hc du =>
   .inl (aG2 cj hs (fun v₁ hv=>by grind) hc du)
  have noF:∀ {x:Value},¬AtSend P c x (Conc.G fr cs):=fun {x} hx=>aBI hs h (hx vF)
  induction hM with
  | @stop gM vM hM =>
   refine zJ (fun n Mn gs w sl t q a b hc d6=>?_) (goF _ _ (.stop hM))
   obtain ⟨fr,cs,z,rfl,h1,_,_⟩:=hM vM (Co.aJX _)
   have du:b.status=.running:=by
    rcases hc.sitF with h | ⟨x,rfl,hx⟩
    ·grind
    grind
   obtain ⟨gs',a',h2,h3,h4,h5⟩:=QK (sl:=sl) hc d6 du h1;exact .inr ⟨gs',a',b,h2,h3,h4,by grind [BH,BG]⟩
  | @sem α s' kk' T' fr' cs' v f8 j9 h' xu ih =>
   refine zJ (fun n Mn gs w sl t q a b hc d6=>?_) (goF _ _ (.sem s' kk' T' f8 j9 h' xu))
   exact .inl (stepM f8 j9 (fun v₁ hv=>by obtain ⟨x,v',g',h1,h2,h3⟩:=h' v₁ hv;exact ⟨x,v',g',h1,h2,(xu g' v' h3).runs,ih g' v' h3⟩) hc d6)
  | send x n hm=>cases hm
  | @recv x z m fr' cs' v hm hn hx j9 h' ih =>
   refine zJ (fun n Mn gs w sl t q a b hc d6=>?_) (goF _ _ (.recv x z m hm hn hx j9 h'))
   have du:b.status=.running:=by
    rcases hc.sitF with h | ⟨x,rfl,hx⟩
    ·grind
    grind
   obtain ⟨gs',a',h2,h3,h4,h5⟩:=QK (sl:=sl) hc d6 du j9;exact .inr ⟨gs',a',b,h2,h3,h4,by grind [BH,BG]⟩
 | @send x m fr cs vF hm hn hx hs h ihF =>
  intro gM vM hM
  have goF:∀ (gM:Goroutine) (vM:World),Tree P true c tot (AtShut P c tot K) gM vM->∀ (n:Nat) (Mn:Nat->Prop) (gs:Array Goroutine) (w:World) (sl:Option (Nat×Nat)) (t:Trace) (q:Nat->Nat) (a b:Goroutine),CfgA P c k tot w0 Old (Conc.G fr cs) vF gM vM n Mn gs w t q a b->b.status=.running->zI P c k tot w0 Old K (Conc.G fr cs) vF gM vM n Mn gs w sl t q a b k:=by
   intro gM vM hM n Mn gs w sl t q a b hc du
   by_cases d6:a.status=.running
   ·obtain ⟨gs',b',h2,h3,h4,h5⟩:=aG5 (sl:=sl) hc d6 du hs
    exact .inr ⟨gs',a,b',h2,h3,h4,by grind [BH,BG]⟩
   ·rcases hc.sitM with h1 | ⟨z,ha,hz⟩
    ·grind
    obtain ⟨vf,xr,kj⟩:=hc.vf;obtain ⟨vm,xt,l7⟩:=hc.vm;have e1:=cnt xr kj hn;subst e1;cases hM with
    | stop hM =>
     obtain ⟨_,_,_,_,_,h3,_⟩:=hM vM (Co.aJX _);grind
    | sem s' kk' T' f8 j9 h' xu=>exact (aBI j9 h' (hz vM)).elim
    | send _ _ dl=>grind
    | @recv x' z' m' fr' cs' _ dl re ap j9 h' =>
     have e2:=cnt xt l7 re;subst e2;rw [hx] at ap;cases ap;exact .inl (aG4 hc du ha hs fun vf vm h1 h2=>ihF vf h1 _ _ (h' vm h2))
  induction hM with
  | @stop gM vM hM =>
   refine zJ (fun n Mn gs w sl t q a b hc d6=>?_) (goF _ _ (.stop hM))
   obtain ⟨fr,cs,z,rfl,h1,h3,_⟩:=hM vM (Co.aJX _);obtain ⟨vf,xr,kj⟩:=hc.vf;obtain ⟨vm,xt,l7⟩:=hc.vm;grind
  | @sem α s' kk' T' fr' cs' v f8 j9 h' xu ih =>
   refine zJ (fun n Mn gs w sl t q a b hc d6=>?_) (goF _ _ (.sem s' kk' T' f8 j9 h' xu))
   exact .inl (stepM f8 j9 (fun v₁ hv=>by obtain ⟨x,v',g',h1,h2,h3⟩:=h' v₁ hv;exact ⟨x,v',g',h1,h2,(xu g' v' h3).runs,ih g' v' h3⟩) hc d6)
  | send x n hm=>cases hm
  | @recv x' z m' fr' cs' v dl re ap j9 h' ih =>
   refine zJ (fun n Mn gs w sl t q a b hc d6=>?_) (goF _ _ (.recv x' z m' dl re ap j9 h'))
   by_cases du:b.status=.running
   ·obtain ⟨gs',a',h2,h3,h4,h5⟩:=QK (sl:=sl) hc d6 du j9
    exact .inr ⟨gs',a',b,h2,h3,h4,by grind [BH,BG]⟩
   ·rcases hc.sitF with h1 | ⟨y,hb,hy⟩
    ·grind
    obtain ⟨vf,xr,kj⟩:=hc.vf;obtain ⟨vm,xt,l7⟩:=hc.vm;have e1:=cnt xr kj hn;have e2:=cnt xt l7 re;subst e1;subst e2;rw [hx] at ap;cases ap
    have e3:x=y:=by
     have h1:=hs vF;rw [hy vF] at h1;cases h1;rfl
    subst e3;exact .inl (aG3 hc d6 hb j9 fun vf vm h1 h2=>ihF vf h1 _ _ (h' vm h2))
 | recv x z n hm=>cases hm
end
end Go
namespace Go
open Go.Conc
open RowKit
open Go.ConcN (sumTo upd sumTo_upd upd_ne upd_same)
def closeD (c:Nat) (ats:Array TypeId) (ty:TypeId) (consts:Array Bool):Deferred:={ target:=.builtin .close ats ty consts,args:=#[.chan (some c)] }
def zK (P:Program):Frame:={ (default:Frame) with fn:=P.funcs.size,defers:=[],mode:=.panicking [goexitEntry] }
section
variable {P:Program} {c:Nat} {tot:List Value} {w0:World} {Old:Nat->Prop}
variable {fn:Func} {args:Array Value}
theorem born_step {f:FuncId} {body:Code} (hf:P.funcs[f]? = some fn) (hn:(fn.name == "runtime.NumGoroutine")=false) (hb:fn.body=some body) (w:World) :
  stepG P false (born P (dcall f args)) w=.go (G (Frame.enter P f args .deferred) [zK P]) w #[]:=by
 have h1:¬fn.name = "runtime.NumGoroutine" := by grind
 simp [G,stepG,unwind,callDeferred,born,zK,dcall,invoke,callFunc,hf,h1,hb,GStep.after,seen_none]
variable {todo:List Item} {ats:Array TypeId} {consts:Array Bool}
theorem TN {b:Frame} {a:Act} {cs:List Frame} {ty:TypeId} {n:Nat} {main:Bool} (hf:P.funcs[b.fn]? = some fn) (hq:fn.norace=false) (hd:a.defers=[closeD c ats ty consts]) {w:World} (hw:w.heap[c]? = some (.chan 0 #[] false n n false)) :
  stepG P main (G { b.atR a todo with mode:=.returning } cs) w=.go (G { b.atR { a with defers:=[] } todo with mode:=.returning } cs) { w with heap:=w.heap.setIfInBounds c (.chan 0 #[] true n n false) } #[⟨.obj c,false,true⟩,⟨.obj c,true,true⟩]:=by
 have h1:(invoke (closeD c ats ty consts).target (closeD c ats ty consts).args).run P w=.ok (.value (.tuple #[])) { w with heap:=w.heap.setIfInBounds c (.chan 0 #[] true n n false) }:=by
  show (do pure (Next.value (<- Builtin.close_ ats ty #[.chan (some c)])):Sem Next).run P w=_
  rw [Sem.run_bind,run_close_open ats ty hw];rfl
 have h2:(invoke (closeD c ats ty consts).target (closeD c ats ty consts).args).events P w #[]=#[⟨.obj c,false,true⟩,⟨.obj c,true,true⟩]:=by
  show (do pure (Next.value (<- Builtin.close_ ats ty #[.chan (some c)])):Sem Next).events P w #[]=_
  rw [Sem.events_bind,run_close_open ats ty hw,events_close_open ats ty hw];rfl
 have h3:seen P b.fn #[⟨.obj c,false,true⟩,⟨.obj c,true,true⟩]=#[⟨.obj c,false,true⟩,⟨.obj c,true,true⟩]:=seen_eq (by grind) (by
  simp)
 have h4:(closeD c ats ty consts).target=.builtin .close ats ty consts:=rfl;simp [Frame.atR,hd]
 have h5:∀ (fr:Frame),fr.fn=b.fn->fr.mode=.returning->callDeferred P fr cs none (closeD c ats ty consts) w=.go { frame:=fr,callers:=cs,status:=.running,dying:=none } { w with heap:=w.heap.setIfInBounds c (.chan 0 #[] true n n false) } #[⟨.obj c,false,true⟩,⟨.obj c,true,true⟩]:=by
  grind [callDeferred,Sem.runT_eq,GStep.after]
 exact h5 _ rfl rfl
theorem TO {b:Frame} {a:Act} (hk:b.kind=.deferred) (hf:P.funcs[b.fn]? = some fn) (hr:fn.results.toList=[]) (ha:a.defers=[]):QuitsD P 2 0 (G { b.atR a todo with mode:=.returning } [zK P]):=by
 have iu:fn.results=#[]:=by grind
 refine .inr ⟨rfl,G (zK P) [],#[],by simp,fun w=>?_,.inr ⟨rfl,{ frame:=zK P,callers:=[],status:=.finished,dying:=none },#[],by simp,fun w=>?_,⟨rfl,rfl⟩⟩⟩
 ·simp [G,stepG,unwind,doReturn,Frame.atR,ha,hk,hf,results,iu,zK,GStep.after,seen_none,goexitEntry]
 ·simp [G,stepG,unwind,zK,Frame.catches]
  rfl
theorem ZH {f:FuncId} {body:Code} {ty:TypeId} {vF:World} (hf:P.funcs[f]? = some fn) (hn:(fn.name == "runtime.NumGoroutine")=false) (hb:fn.body=some body) (hr:fn.results.toList=[]) (hq:fn.norace=false)
  (F:Fence) (n:Nat) (hF:F.round=none) (h:@Code.wpCo F n P (jH P false c tot) body (fun e a' v'=>(e=.normal\/e=.ret)/\a'.defers=[closeD c ats ty consts]/\v'.heap[c]? = some (eW tot.length)/\w0.heap.size<=v'.heap.size/\∀ b,b<w0.heap.size->b≠c->¬Old b->v'.heap[b]? = w0.heap[b]?)
   { tmps:=args++Array.replicate (fn.ntmps - args.size) undef,defers:=[] } vF):Tree P false c tot (AtClose P c tot w0 Old) (born P (dcall f args)) vF:=by
 refine @Co.wI P (jH P false c tot) _ [] vF _ _ (fun w=>born_step hf hn hb w) ?_
 let b:Frame:={ (default:Frame) with fn:=f,kind:=.deferred,roundOf:=none }
 have kq:Frame.enter P f args .deferred=b.atR { tmps:=args++Array.replicate (fn.ntmps - args.size) undef,defers:=[] } [.code body]:=by
  grind [Frame.enter,Frame.atR]
 rw [kq]
 have fin:∀ (a':Act) (v':World) (todo:List Item),a'.defers=[closeD c ats ty consts]/\v'.heap[c]? = some (eW tot.length)/\w0.heap.size<=v'.heap.size/\(∀ b,b<w0.heap.size->b≠c->¬Old b->v'.heap[b]? = w0.heap[b]?)->Tree P false c tot (AtClose P c tot w0 Old) (G { b.atR a' todo with mode:=.returning } [zK P]) v':=by
  intro a' v' todo ⟨h1,h2,h0,h3⟩;refine .stop fun v₁ hv=>⟨Rely.chan hv h2,rfl,rfl,fun w hw=>⟨_,2,TN (b:=b) hf hq h1 hw,TO rfl hf hr rfl⟩,fun bb co lz yc=>?_⟩
  rw [<- h3 bb co lz yc];exact hv.block bb (by omega)
 letI:Co P:=jH P false c tot
 refine h b [] [zK P] _ hF.symm (by simp [b]) fun e a' v' q=>?_
 obtain ⟨ja,q1⟩:=q;rcases ja with rfl | rfl
 ·exact Co.aGI rfl (fin a' v' [] q1)
 ·exact .inl ⟨rfl,fun todo=>fin a' v' todo q1⟩
end
end Go
namespace Go
open Go.Conc
open Go.ConcN (sumTo upd sumTo_upd upd_ne upd_same)
def NB (c:Nat) (w:World):Nat->Prop:=fun b=>b≠c/\∃ o,w.heap[b]? = some o/\o.isView=true
section
variable {P:Program} {c:Nat} {tot:List Value} {S:Goroutine->World->Prop} {K:World->Frame->List Frame->Value->World->Prop}
theorem GoM.fork {fr fr':Frame} {cs:List Frame} {d:Deferred} {w:World} (aw:∀ w,stepG P true (Conc.G fr cs) w=.spawn (Conc.G fr' cs) (born P d) w #[]) (hc:w.heap[c]? = some (.chan 0 #[] false 0 0 false))
  (hF:∀ w₁ vF,Rely w w₁->Vw (NB c w₁) c 0 w₁ vF->Tree P false c tot (AtClose P c tot w₁ (NB c w₁)) (born P d) vF)
  (hM:∀ w₁ vM,Rely w w₁->Vw (HdM (fun _=>False) c w₁) c 0 w₁ vM->Tree P true c tot (AtShut P c tot (K w₁)) (Conc.G fr' cs) vM)
  (hK:∀ w₁ fr cs z v w',Rely w w₁->K w₁ fr cs z v->(∀ (b:Nat) (o:Obj),v.heap[b]? = some o->(∀ k,o≠eW k)->w'.heap[b]? = some o)->(∀ b,b<w₁.heap.size->b≠c->w'.heap[b]? = w₁.heap[b]?) ->
   (w'.os=w₁.os/\w'.tape=w₁.tape/\w'.output=w₁.output/\w₁.heap.size<=w'.heap.size/\v.heap.size<=w'.heap.size)->GoM P S (Conc.G (fr.finish (.tuple #[z,.bool false])) cs) w'):GoM P S (Conc.G fr cs) w:=by
 refine step0 rfl fun gs w₁ sl t q hw h0 hL hP=>?_
 have um:=Rely.chan hw hc;have bw:c<w₁.heap.size:=(Array.getElem?_eq_some_iff.1 um).1;have an:0<gs.size:=(Array.getElem?_eq_some_iff.1 h0).1;have ag:=runT_crowd_spawn (P:=P) (sl:=sl) (i:=0) h0 (show stepG P (0 == 0) (Conc.G fr cs) w₁=_ from aw w₁);rw [show MemOp.ofEvents 0 (Conc.G fr cs).frame.fn (Conc.G fr cs).frame.place #[]=#[] from rfl] at ag
 obtain ⟨vF,rp⟩:=Vw.make (Hd:=NB c w₁) (c:=c) 0 (w:=w₁) bw (fun b ⟨_,o,ho,_⟩=>(Array.getElem?_eq_some_iff.1 ho).1) (fun h=>h.1 rfl) fun b o hb dz ho=>by
  cases hv:o.isView with
  | false=>rfl
  | true=>exact absurd ⟨dz,o,ho,hv⟩ hb
 obtain ⟨vM,By⟩:=Vw.make (Hd:=HdM (fun _=>False) c w₁) (c:=c) 0 (w:=w₁) bw (fun b h=>h.1) (fun h=>h.2.2 rfl) fun b o hb dz ho=>absurd ⟨(Array.getElem?_eq_some_iff.1 ho).1,fun h=>h,dz⟩ hb
 have E0:Vw (HdF (fun _=>False) (NB c w₁)) c 0 w₁ vF:=rp.congr fun b=>by simp [HdF]
 generalize hx:({ g:=0,fn:=(Conc.G fr cs).frame.fn,pos:=(Conc.G fr cs).frame.place,act:=.go gs.size }:MemOp)=x at ag;generalize hy:({ g:=gs.size,fn:=(born P d).frame.fn,pos:=(Conc.G fr cs).frame.place,act:=.start }:MemOp)=y at ag;have ap:x.g=0/\x.act=.go gs.size:=by grind
 have jy:y.g=gs.size/\y.act=.start:=by grind
 have hu:((#[]:Trace).push x).push y=#[x,y]:=rfl;rw [hu] at ag
 have Bz:∀ g,Deaf (t++#[x,y]) g=Deaf t g:=fun g=>Deaf_quiet _ _ _ (by
  grind)
 have hk:Deaf t gs.size=0:=hL.above _ (Nat.le_refl _)
 have hT:TrA (fun _=>False) gs.size w₁.heap.size (t++#[x,y]):=by
  have Ab:∀ op∈(#[x,y]:Trace),op.act.touch? = none:=by
   intro op aa;simp at aa;rcases aa with rfl | rfl
   ·rw [ap.2];rfl
   ·rw [jy.2];rfl
  refine ⟨fun said=>lW (hP.clean said) Ab,fun i a b ha hb=>⟨fun h=>h.elim,fun _=>?_⟩,(Bz 0).trans hP.hears,(Bz _).trans hk,seen_app hP.seen fun op aa=>?_⟩
  ·obtain ⟨z,hz,Ky⟩:=touch_of ha
   rcases getElem?_append_cases hz with ⟨hi,py⟩ | ⟨_,N6⟩
   ·have hm:a.loc.isMemory=true:=by
     cases hl:a.loc <;> simp_all [Loc.blk,Loc.isMemory]
    have vo:=(hP.known i a (by rw [touchAt_of py];exact Ky) hm).resolve_right fun h=>h.1
    exact Go.ConcN.fork_knows ap jy hP.hears hk vo
   grind
  ·simp at aa
   rcases aa with rfl | rfl
   ·rw [ap.2];trivial
   ·rw [jy.2];trivial
 have E1:CfgA P c gs.size tot w₁ (NB c w₁) (born P d) vF (Conc.G fr' cs) vM 0 (fun _=>False) ((gs.setIfInBounds 0 (Conc.G fr' cs)).push (born P d)) w₁ (t++#[x,y]) (upd q gs.size 0) (Conc.G fr' cs) (born P d):=by
  refine ⟨by omega,?_,.inl ⟨rfl,Same.refl _⟩,?_,.inl ⟨rfl,Same.refl _⟩,.inl rfl,fun i g hi eo B2=>?_,fun j hj=>?_,um,⟨vF,E0,Co.aJX _⟩,⟨vM,By,Co.aJX _⟩,hT,fun b hb=>hb.elim,fun b hb=>?_,⟨rfl,rfl,rfl,Nat.le_refl _⟩⟩
  ·rw [Array.getElem?_push,if_neg (by simp;omega),Array.getElem?_setIfInBounds_self_of_lt an]
  ·rw [Array.getElem?_push,if_pos (by simp)]
  ·rw [Array.getElem?_push] at B2
   split at B2
   ·rename_i h;simp at h;exact absurd h eo
   ·rw [Array.getElem?_setIfInBounds_ne (by omega)] at B2
    rw [Bz,upd_ne q 0 eo];exact hL.old i g hi B2
  ·rw [Bz]
   exact hL.above j (by simp at hj;omega)
  ·obtain ⟨h1,o,h2,h3⟩:=hb
   exact ⟨(Array.getElem?_eq_some_iff.1 h2).1,h1,rfl⟩
 obtain ⟨N,gs',w',sl',t',fr2,cs2,z,v,Mn,r1,r2,r3,r4,r5,r6,r7⟩:=aFQ (hF w₁ vF hw rp) _ _ (hM w₁ vM hw By) 0 _ _ w₁ sl _ _ _ _ E1;obtain ⟨N2,gs3,g3,w3,sl3,t3,p1,p2,p3,p4⟩:=hK w₁ fr2 cs2 z v w' hw r3 r4 r5 r6 gs' w' sl' t' (Co.aJX _) r2 r7;exact ⟨N+N2,gs3,g3,w3,sl3,t3,by rw [ag];exact FT r1 p1,p2,p3,p4⟩
end
end Go
namespace Go.Sx
open Go Go.RowKit
mutual
def CV.solid:CV->Bool
 | .val _=>true
 | .row k es=>decide (1<=k)&&CV.solidss es
 | .ref cs=>!cs.isEmpty&&CV.solids cs
 | .fn _ cs=>CV.solids cs
 | .mp _ es=>CV.solidss es
def CV.solids:List CV->Bool
 | []=>true
 | c::cs=>CV.solid c&&CV.solids cs
def CV.solidss:List (List CV)->Bool
 | []=>true
 | e::es=>CV.solids e&&CV.solidss es
end
section
variable {w v:World} {S S':Nat->Prop}
theorem BI (hv:∀ b o,S b->w.heap[b]? = some o->o.isView=false->v.heap[b]? = some o/\S' b) {b o:Nat} {x:Value} (hb:S b) (h:w.cell? ⟨b,o,none⟩=some x):v.cell? ⟨b,o,none⟩=some x/\S' b:=by
 unfold World.cell? at h ⊢;split at h
 ·rename_i c e fz hc
  obtain ⟨h1,h2⟩:=hv b _ hb hc rfl;grind
 grind
mutual
theorem CV.holds.seen (hv:∀ b o,S b->w.heap[b]? = some o->o.isView=false->v.heap[b]? = some o/\S' b):∀ (c:CV) (x:Value),c.solid=true->CV.holds w S c x->CV.holds v S' c x
 | .val u,x,_,h=>by grind [CV.holds]
 | .row k es,x,hs,h=>by
  obtain ⟨a,cap,h1,h2,h3,h4⟩:=h;simp [CV.solid] at hs;refine ⟨a,cap,h1,h2,h3,?_⟩;rcases h4 with h4 | ⟨b,o,h4,h5,h6⟩
  ·grind
  ·match es,hs,h6 with
   | [],_,_=>simp
   | []::es,hs,h6=>exact absurd h6.1 (by grind)
   | (c::cs)::es,hs,h6 =>
    obtain ⟨y,hy,_⟩:=h6.2.1.1;exact .inr ⟨b,o,h4,(BI hv h5 hy).2,CV.rows.seen hv k _ b o hs.2 h5 h6⟩
 | .ref cs,x,hs,h=>by
  obtain ⟨b,o,h1,h2,h3⟩:=h;simp [CV.solid] at hs
  match cs,hs,h3 with
  | [],hs,_=>grind
  | c::cs,hs,h3 =>
   obtain ⟨y,hy,_⟩:=h3.1;exact ⟨b,o,h1,(BI hv h2 hy).2,CV.cells.seen hv _ b o hs.2 h2 h3⟩
 | .fn f caps,x,hs,h=>by
  obtain ⟨vs,h1,h2⟩:=h;exact ⟨vs,h1,CV.vals.seen hv _ _ hs h2⟩
 | .mp kn es,x,hs,h=>by
  obtain ⟨b,arr,c,ps,h1,h2,h3,h4,h5,h6⟩:=h;obtain ⟨q1,q2⟩:=hv b _ h2 h3 rfl;exact ⟨b,arr,c,ps,h1,q2,q1,h4,h5,CV.ents.seen hv kn _ _ hs h6⟩
theorem CV.cells.seen (hv:∀ b o,S b->w.heap[b]? = some o->o.isView=false->v.heap[b]? = some o/\S' b):∀ (cs:List CV) (b o:Nat),CV.solids cs=true->S b->CV.cells w S cs b o->CV.cells v S' cs b o
 | [],_,_,_,_,_=>trivial
 | c::cs,b,o,hs,hb,h=>by
  simp [CV.solids] at hs;obtain ⟨⟨x,h1,h2⟩,h3⟩:=h;exact ⟨⟨x,(BI hv hb h1).1,CV.holds.seen hv c x hs.1 h2⟩,CV.cells.seen hv cs b (o+1) hs.2 hb h3⟩
theorem CV.rows.seen (hv:∀ b o,S b->w.heap[b]? = some o->o.isView=false->v.heap[b]? = some o/\S' b) (k:Nat):∀ (es:List (List CV)) (b o:Nat),CV.solidss es=true->S b->CV.rows w S k es b o->CV.rows v S' k es b o
 | [],_,_,_,_,_=>trivial
 | e::es,b,o,hs,hb,h=>by
  simp [CV.solidss] at hs;obtain ⟨h1,h2,h3⟩:=h;exact ⟨h1,CV.cells.seen hv e b o hs.1 hb h2,CV.rows.seen hv k es b (o+k) hs.2 hb h3⟩
theorem CV.vals.seen (hv:∀ b o,S b->w.heap[b]? = some o->o.isView=false->v.heap[b]? = some o/\S' b):∀ (cs:List CV) (vs:List Value),CV.solids cs=true->CV.vals w S cs vs->CV.vals v S' cs vs
 | [],[],_,_=>trivial
 | c::cs,x::vs,hs,h=>by
  simp [CV.solids] at hs;exact ⟨CV.holds.seen hv c x hs.1 h.1,CV.vals.seen hv cs vs hs.2 h.2⟩
 | [],_::_,_,h=>h.elim
 | _::_,[],_,h=>h.elim
theorem CV.ents.seen (hv:∀ b o,S b->w.heap[b]? = some o->o.isView=false->v.heap[b]? = some o/\S' b) (kn:Nat):∀ (es:List (List CV)) (ps:List (Value×Value)),CV.solidss es=true->CV.ents w S kn es ps->CV.ents v S' kn es ps
 | [],[],_,_=>trivial
 | e::es,p::ps,hs,h=>by
  simp [CV.solidss] at hs;obtain ⟨⟨vs,h1,h2,h3⟩,h4⟩:=h;exact ⟨⟨vs,CV.vals.seen hv e vs hs.1 h1,h2,h3⟩,CV.ents.seen hv kn es ps hs.2 h4⟩
 | [],_::_,_,h=>h.elim
 | _::_,[],_,h=>h.elim
end
end
open Classical in
noncomputable def withS (M:Den) (c:Nat) (sh:YSh) (yf:YF):Den:=fun f vs =>
 if f=ghT then
  match vs with
  | .val (.chan (some c'))::d::.row _ es::x=>if c'=c/\d=shC sh then (match yf es x with
   | some (b,es')=>some [.val (.bool b),.row 0 es']
   | none=>none) else none
  | _=>none
 else M f vs
def HX (_:SS):Option Ou:=none
open Classical in
noncomputable def FY (P:Program) (sg:FuncId->Option Sig) (M:Den) (dp n:Nat) (r0 REST:Code) (rr ru:HT) (p d1 c:Nat) (as:List AV) (es:List (List CV)):Option (List CV):=
 if as.length<=n then
  aJ (evC P sg M (inN P sg M false dp) HX r0 rr ⟨[],[],[],[]⟩ [] ⟨n,dB 0 as,[],[⟨false,ghT,0,0,es⟩]⟩ fun s1 =>
   if s1.get p=.cv (.val (.chan (some c)))/\d1<s1.n then
    evC P sg M (inN P sg M false dp) rtY REST ru ⟨[],[],[],[]⟩ [] (s1.put (some d1) (.cv (.val (.chan (some c)))) s1.B s1.V) rtY
   else none)
 else none
section
variable {P:Program} [C:Co P] {sg:FuncId->Option Sig} {M:Den}
theorem Fns.withS [G:Ghost] (h:Fns P sg M) (hg:sg ghT=none) (c:Nat) (sh:YSh) (yf:YF):Fns P sg (Go.Sx.withS M c sh yf):=by
 have key:∀ f vs out,f≠ghT->Go.Sx.withS M c sh yf f vs=some out->M f vs=some out:=fun f vs out hf h=>by
  unfold Go.Sx.withS at h;grind
 have gh:∀ vs out,Go.Sx.withS M c sh yf ghT vs=some out->∃ b es',out=[.val (.bool b),.row 0 es']:=by
  intro vs out h;unfold Go.Sx.withS at h;grind
 refine ⟨fun f vs k es T hs hm=>?_,fun f T k cs es es' hdr hs hm=>?_,fun f T fs hs hm=>?_,h.ent,fun f g vs out hs hm=>?_⟩
 ·by_cases hf:f=ghT
  ·grind
  ·exact h.own f vs k es T hs (key _ _ _ hf hm)
 ·by_cases hf:f=ghT
  ·grind
  ·exact h.mtt f T k cs es es' hdr hs (key _ _ _ hf hm)
 ·by_cases hf:f=ghT
  ·grind
  ·exact h.way f T fs hs (key _ _ _ hf hm)
 ·by_cases hf:f=ghT
  ·grind
  ·exact h.spec f g vs out hs (key _ _ _ hf hm)
open Classical in
theorem aDT (hM:∀ [Ghost],Fns P sg M) (hg:sg ghT=none) {F:Fence} {n:Nat} (hF:Free F) (am:F.round=none) {r0 REST:Code} {rr ru:HT} {id1 dp nt p d1 c:Nat} {mv df:Oper} {ats:Array TypeId} {as:List AV} {es1:List (List CV)}
  (mj:mv.op=.move (.tmp p)/\mv.dst=some d1/\mv.guard=none) (bq:df.op=.defer { callee:=.builtin .close,args:=#[.tmp d1],argTypes:=ats }/\df.dst=none/\df.guard=none)
  {sh:YSh} {yf:YF} (ay:FY P sg (withS M c sh yf) dp nt r0 REST rr ru p d1 c as []=some [.row 0 es1])
  (G:Ghost) (N7:G.yy=true) (hy:∀ es x b es',yf es x=some (b,es')->@zD G P C c sh es x es')
  {H:Nat->Option (Obj×Bool)} {S:Nat->Prop} {v:World} {lb:Array Value} (Hy:∀ ks (e:Env),e.S=S->AV.all e v ks as lb.toList) (im:∀ (m:Emb) nb nv,as.map (·.cz m)=as/\AV.inns nb nv as=true) (wo:∀ vs,AV.scos 0 vs as)
  (hS:∀ b,S b->b<v.heap.size) (hH:iG H v) (mf:∀ b o,S b->H b≠some (o,true)) (hJ:G.J [] H) (ek:G.lo<=v.heap.size) (kp:@GW G v) :
  (Code.seq r0 (.seq (.region id1 #[mv,df] false) REST)).wpCo F n P (fun e a' v'=>(e=.normal\/e=.ret)/\a'.defers=[closeD c ats df.type #[false]]/\(∃ H',G.J es1 H'/\iG H' v')/\(∀ b,S b->v'.heap[b]? = v.heap[b]?)/\v.heap.size<=v'.heap.size)
   { tmps:=lb++Array.replicate (nt - lb.size) undef,defers:=[] } v:=by
 have rj:=Fns.withS (G:=G) hM hg c sh yf
 have El:Yls P (withS M c sh yf):=by
  refine ⟨fun l sh' es x out h=>by simp [withS] at h,fun c' sh' es x out h=>?_⟩
  simp only [withS,if_true] at h;split at h
  ·rename_i hc
   obtain ⟨rfl,hc⟩:=hc;have:=DV hc;subst this;split at h
   ·rename_i b es2 h1
    cases h;exact hy _ _ _ _ h1
   ·cases h
  ·cases h
 unfold FY at ay;split at ay
 case isFalse=>cases ay
 rename_i ak
 let e0:Env:=⟨fun _=>0,fun _ _=>undef,S,v.heap.size,H,true⟩
 have bv:Mem v.heap.size v e0 [] [⟨false,ghT,0,0,[]⟩] v:=by
  refine ⟨by simp,by simp,by simp,by simp,?_,?_,by simp,?_,hS,Below.refl _ _,Nat.le_refl _,⟨Nat.le_refl _,fun _=>kp⟩,⟨hH,by simp,?_,?_,mf⟩⟩
  ·grind
  ·grind
  ·grind
  ·grind
  grind
 have cn:lb.size=as.length:=by
  have:=(Hy [] e0 rfl).length;simpa using this
 have hE:Em ⟨[],[0],[0]⟩ ⟨nt,dB 0 as,[],[⟨false,ghT,0,0,[]⟩]⟩ ⟨mkT nt (dB 0 as),[],[⟨false,ghT,0,0,[]⟩]⟩:=by
  refine ⟨?_,kA _ _ (im ⟨[],[],[]⟩ 0 1).2,⟨rfl,rfl,rfl,by simp,?_,?_,by simp,?_⟩⟩
  ·rw [lV,(im _ 0 0).1]
  ·grind [Emb.fv,Vec.cz,Emb.fo]
  ·grind [Emb.fv]
  simp
 have af:Rel v.heap.size v e0 ⟨mkT nt (dB 0 as),[],[⟨false,ghT,0,0,[]⟩]⟩ { tmps:=lb++Array.replicate (nt - lb.size) undef,defers:=[] } v:=by
  rw [<- start_eq _ _ ak];refine ⟨?_,?_,bv⟩
  ·rw [Array.toList_append,Array.toList_replicate,cn]
   refine (Hy _ e0 rfl).append ?_;generalize nt - _=k
   induction k with
   | zero=>simp [AV.all]
   | succ k ih=>grind [AV.all,AV.holds]
  ·have:=wo (vers [(⟨false,ghT,0,0,[]⟩:Vec)])
   grind [AV.scos_iff,AV.sco]
 generalize Kz:(fun s1:SS=>if s1.get p=.cv (.val (.chan (some c)))/\d1<s1.n then evC P sg (withS M c sh yf) (inN P sg (withS M c sh yf) false dp) rtY REST ru ⟨[],[],[],[]⟩ [] (s1.put (some d1) (.cv (.val (.chan (some c)))) s1.B s1.V) rtY else none)=K0 at ay
 have wm:evC P sg (withS M c sh yf) (inN P sg (withS M c sh yf) false dp) HX r0 rr ⟨[],[],[],[]⟩ [] ⟨nt,dB 0 as,[],[⟨false,ghT,0,0,[]⟩]⟩ K0=some (.ret [.row 0 es1]):=by
  unfold aJ at ay;grind
 have hI:∀ il,zB F n P (inN P sg (withS M c sh yf) false dp il):=fun il=>rY (cm:=false) (fun h=>by cases h) rj El dp hF il
 have K1:=iB (F:=F) (n:=n) (rt:=HX) rj hF hI (fun s o h=>by cases h) r0 rr ⟨[],[],[],[]⟩ [] _ _ _ _ _ (fun ex st'=>ex=.normal/\∃ m' s',K0 s'=some (.ret [.row 0 es1])/\Em m' s' st') hE wm
  (fun m' s' st' h1 h2 _=>⟨rfl,m',s',h1,h2⟩) (fun id h vs m' s' st' h0=>by simp [kU] at h0) (fun m' s' st' h1 h2 _=>by cases h1)
 refine tW (K1 v.heap.size v e0 _ v _ af ?_);rintro ex e1 st1 a1 v1 ⟨rfl,m1,s1,vy,cg⟩ cf xn ar;show (Code.seq (.region id1 #[mv,df] false) REST).wpCo F n P _ a1 v1;rw [<- Kz] at vy;dsimp only at vy;split at vy
 case isFalse=>cases vy
 rename_i hp;obtain ⟨hp,E2⟩:=hp;refine tW (lD ?_);simp only [bP,Region.wanted,mj.2.2,bq.2.2,if_true]
 have gz:∀ {v2:World} {e:Env} {a:Act},Rel v.heap.size v e st1 a v2->a.eval (.tmp p)=.chan (some c):=by
  intro v2 e a hr;have h1:=(hr.ev (.tmp p)).1;rw [cg.ev] at h1;have h2:s1.ev (.tmp p)=.cv (.val (.chan (some c))):=hp;rw [h2] at h1;simp [AV.cz,AV.holds,CV.holds] at h1
  first | exact h1 | exact h1.1
 have tu:mv.semAt F.round a1.eval=execOp a1.eval mv:=Oper.semAt_plain F _ _ (by rw [mj.1];intro c hc;cases hc)
 refine .inl ⟨by rw [tu];simp only [execOp,mj.1];trivial,fun v2 jm=>?_⟩
 obtain ⟨fa,dw⟩:=cf.rely jm;rw [tu];refine ⟨.value (.chan (some c)),v2,by simp only [execOp,mj.1,gz fa];rfl,?_⟩
 simp only [Oper.uponCo,mj.2.1];have xp:=fa.put fa.mem (Ext.refl _ _ _ _ _) (x:=.cv (.val (.chan (some c)))) (v:=.chan (some c)) (by simp [AV.holds,CV.holds,Value.oneCell']) (by simp) (some d1)
 have ig:=cg.put cg.m (Emb.Up.refl _) (fun _ _=>rfl) (Nat.le_refl _) (Nat.le_refl _) (x:=.cv (.val (.chan (some c)))) (by rfl) (some d1)
 have tv:∀ a:Act,df.semAt F.round a.eval=execOp a.eval df:=fun a=>by rw [am];rfl
 refine .inl ⟨by rw [tv];simp only [execOp,bq.1,resolve];trivial,fun v3 K2=>?_⟩
 obtain ⟨Hz,zg⟩:=xp.rely K2
 have E3:(a1.put (some d1) (.chan (some c))).eval (.tmp d1)=.chan (some c):=by
  have h1:=(Hz.ev (.tmp d1)).1;have h0:(st1.put (some d1) (.cv (.val (.chan (some c)))) st1.B st1.V).ev (.tmp d1)=_:=ig.ev (.tmp d1);rw [h0] at h1
  have h2:(s1.put (some d1) (.cv (.val (.chan (some c)))) s1.B s1.V).ev (.tmp d1)=.cv (.val (.chan (some c))):=by
   simp [SS.ev,SS.get,SS.put,E2,lk]
  rw [h2] at h1;simp [AV.cz,AV.holds,CV.holds] at h1
  first | exact h1 | exact h1.1
 rw [tv];refine ⟨.defer (closeD c ats df.type #[false]),v3,by simp only [execOp,bq.1,resolve];simp [E3,closeD],?_⟩
 simp only [Oper.uponCo,bq.2.1]
 have vw:=iB (F:=F) (n:=n) (rt:=rtY) rj hF hI VX REST ru ⟨[],[],[],[]⟩ [] _ _ _ _ _ (fun ex st'=>(ex=.normal\/ex=.ret)/\∃ m' s',rtY s'=some (.ret [.row 0 es1])/\Em m' s' st') ig vy
  (fun m' s' st' h1 h2 _=>⟨.inl rfl,m',s',h1,h2⟩) (fun id h vs m' s' st' h0=>by simp [kU] at h0) (fun m' s' st' h1 h2 _=>⟨.inr rfl,m',s',h1,h2⟩)
 refine vw v.heap.size v e1 _ v3 _ (Hz.act rfl) ?_;rintro ex e2 st2 a2 v4 ⟨ja,m',s',h1,h2⟩ H4 K3 wi;have E4:a1.defers=[]:=xn;have hx:cL e0 ⟨mkT nt (dB 0 as),[],[⟨false,ghT,0,0,[]⟩]⟩ v e2 st2.B st2.V v4:=((ar.trans dw).trans zg).trans wi;refine ⟨ja,?_,?_,fun b hb=>hx.ro.same b hb,hx.sz⟩
 ·rw [K3]
  show closeD c ats df.type #[false]::a1.defers=_;rw [E4]
 ·unfold rtY at h1
  split at h1
  case h_2=>cases h1
  rename_i x hv;split at h1
  case isFalse=>cases h1
  rename_i hT;simp at h1;subst h1;simp at hT;have cx:=h2.m.v 0 x hv (.inr hT);obtain ⟨g1,g2,g3,g4⟩:=H4.mem.hid.gh _ _ cx hT;exact ⟨e2.H,g3,H4.mem.hid.obj⟩
end
abbrev aBK (c:Nat) (rows:List (List CV)) (v:World):Ghost:=⟨fun es H=>H c=some (eW es.length,true)/\es <+: rows,0,v,true⟩
open Classical in
noncomputable def KB (rows:List (List CV)):YF:=fun es x=>if es++[x] <+: rows then some (true,es++[x]) else none
theorem ZI {P:Program} {c:Nat} {rows:List (List CV)} {enc:List CV->Value} {cs:List Sc} {v0:World}
  (lr:∀ (e:Env) (w:World) (ks:List Nat) (x:List CV) (v:Value),AV.all e w ks (Sc.avs cs x 0) [v]->v=enc x) :
  ∀ es x b es',KB rows es x=some (b,es')->@zD (aBK c rows v0) P (jH P false c (rows.map enc)) c (.clo cs) es x es':=by
 intro es x b es' hy cs' bc H S w v hJ hH kp hS mf ek hv;cases bc;unfold KB at hy;split at hy
 case isFalse=>cases hy
 rename_i hp;cases hy;obtain ⟨hc,un⟩:=hJ;have mz:w.heap[c]? = some (eW es.length):=hH c _ _ hc;have bw:c<w.heap.size:=(Array.getElem?_eq_some_iff.1 mz).1;have Hf:v=enc x:=lr ⟨fun _=>0,fun _ _=>undef,S,0,fun _=>none,false⟩ w [] x v (hv _ [] rfl)
 subst Hf;refine .inl ⟨enc x,es.length,rfl,rfl,rfl,rfl,mz,?_,fun v₁ hv₁=>?_⟩
 ·obtain ⟨r,hr⟩:=hp
  rw [<- hr];simp
 ·have hb:∀ b,b<w.heap.size->b≠c->(v₁.putObj c (eW (es.length+1))).heap[b]? = w.heap[b]?:=fun b hb dz=>by
   rw [World.putObj_heap_other dz];exact hv₁.block b hb
  obtain ⟨H',vr⟩:∃ H':Nat->Option (Obj×Bool),H'=fun b=>if b=c then some (eW (es++[x]).length,true) else H b:=⟨_,rfl⟩
  have um:H' c=some (eW (es++[x]).length,true):=by rw [vr];exact if_pos rfl
  have jt:∀ b,b≠c->H' b=H b:=fun b h=>by rw [vr];exact if_neg h
  refine ⟨H',⟨um,hp⟩,fun b o f ho=>?_,fun b cd=>?_,fun b o hs ho=>?_,by simp [World.putObj];exact hv₁.size,hv₁.os,hv₁.tape,hv₁.output,fun b an hn _=>?_,fun b hs=>?_⟩
  ·by_cases e:b=c
   ·subst e
    rw [um] at ho;simp only [Option.some.injEq,Prod.mk.injEq] at ho;rw [World.putObj_heap_same (Nat.lt_of_lt_of_le bw hv₁.size),<- ho.1];simp
   ·rw [jt b e] at ho
    have h1:=hH b o f ho;rw [hb b (Array.getElem?_eq_some_iff.1 h1).1 e];exact h1
  ·by_cases e:b=c
   ·subst e;exact .inl (by rw [hc];simp)
   ·rw [jt b e] at cd
    exact .inl cd
  ·by_cases e:b=c
   ·subst e;exact mf b _ hs hc
   ·rw [jt b e] at ho
    exact mf b o hs ho
  ·exact hb b an fun e=>by rw [e,hc] at hn;cases hn
  ·exact hb b (hS b hs) fun e=>mf c _ (e▸hs) hc
end Go.Sx
namespace Go.Sx
open Go Go.RowKit
open Go.Conc (G)
variable {P:Program} {ops:Array Oper} {i:Nat} {rest:List Nat} {o:Oper} {b:Frame} {a:Act} {cs:List Frame}
theorem ZJ {main:Bool} {k:List Item} {cases:Array CommCase} {bl:Bool} {sh:CommShape} (ho:ops[i]? = some o) (hg:o.guard=none) (am:b.roundOf=none) (hk:b.kind≠.early)
  (h1:∀ w,(execOp a.eval o).run P w=.ok (.comm cases bl sh) w/\(execOp a.eval o).events P w #[]=#[]) (w:World) :
  stepG P main (G (b.atR a (.inRegion ops (i::rest)::k)) cs) w=.comm (G (b.atR a (.inRegion ops (i::rest)::k)) cs) cases bl sh w #[]:=by
 have hw:Region.wanted o (yielded ops a.tmps)=true:=by simp [Region.wanted,hg]
 have aw:stepG P main (G (b.atR a (.inRegion ops (i::rest)::k)) cs) w=stepG.apply P true (b.atR a (.inRegion ops (i::rest)::k)) cs none (execOp a.eval o) w:=by
  simp [G,stepG,stepG.exec,stepG.oper,Frame.oper?,Frame.atR,ho,hw,am];rfl
 rw [aw];simp [stepG.apply,Frame.atR,GStep.after,G,h1,show seen P b.fn #[]=#[] from by rfl]
variable {w:World} {ks:List Nat} {N:Nat}
theorem NC {e:Env} {l:List (Nat×AV)} {tm:Array Value} (hs:tm.size=N) (h:∀ d,d<N->AV.holds e w ks (lk l d) (tm.getD d undef)):AV.all e w ks (mkT N l) tm.toList:=by
 have key:∀ (xs:List AV) (vs:List Value),xs.length=vs.length->(∀ (i:Nat) (h:i<xs.length) (h':i<vs.length),AV.holds e w ks xs[i] vs[i])->AV.all e w ks xs vs:=by
  intro xs
  induction xs with
  | nil=>grind [AV.all]
  | cons x xs ih =>
   intro vs hl h;cases vs with
   | nil=>grind
   | cons v vs=>exact ⟨h 0 (by simp) (by simp),ih vs (by grind) fun i h1 h2=>h (i+1) (by grind) (by grind)⟩
 simp_all [mkT]
structure LI (rows:List (List CV)) (lo c T k N t9 t24:Nat) (ds:List Deferred) (n:Nat) (a:Act) (v:World):Prop where
 sz:a.tmps.size=N
 df:a.defers=ds
 ch:a.eval (.tmp t24)=.chan (some c)
 own:∃ xs,OwnsV v lo T k (a.eval (.tmp t9)) n xs/\CV.vals v (fun _=>False) (rows.take n).flatten xs
 lo:c<lo/\lo<=v.heap.size
 cnt:v.heap[c]? = some (eW n)
variable {rows:List (List CV)} {lo c T k t9 t24 n:Nat} {ds:List Deferred} {v:World}
theorem LI.rely {v₁:World} (h:LI rows lo c T k N t9 t24 ds n a v) (hv:Rely v v₁):LI rows lo c T k N t9 t24 ds n a v₁:=by
 obtain ⟨xs,h1,h2⟩:=h.own;exact ⟨h.sz,h.df,h.ch,⟨xs,h1.keep fun g hg=>hv.block g (h1.lt g hg).2,CV.vals.mono (S':=fun _=>False) ⟨fun _ h=>h,fun _ h=>h.elim⟩ _ _ h2⟩,⟨h.lo.1,Nat.le_trans h.lo.2 hv.size⟩,Rely.chan hv h.cnt⟩
def QL (c T k N t9 t24:Nat) (s:SS) (es:List (List CV)):Prop:=s.n=N/\∃ i u,s.get t9=.own i u/\s.V[i]? = some ⟨true,T,k,u,es⟩/\s.get t24=.cv (.val (.chan (some c)))
def stL (c T k N t9 t24 t25:Nat) (cs:List Sc) (es:List (List CV)) (x:List CV):SS:=⟨N,[(t9,.own 0 1),(t24,.cv (.val (.chan (some c)))),(t25,.tup (Sc.avs cs x 0++[.cv (.val (.bool true))]))],[],[⟨true,T,k,1,es⟩]⟩
variable {sg:FuncId->Option Sig} {M:Den} {F:Fence} {APP:Code} {htA:HT} {dp t25:Nat} {enc:List CV->Value}
open Classical in
theorem aFR [C:Co P] (hM:∀ [Ghost],Fns P sg M) (ow:∀ vs,M ghT vs=none) {nn:Nat} (hF:Free F) {cs:List Sc}
  (hT:T<bE) (ak:∀ l∈rows,l.length=k) (dx:gQ rows=true) (hd:t9<N/\t24<N/\t25<N/\t9≠t24/\t9≠t25/\t24≠t25)
  (pd:∀ (e:Env) (w:World) (ks:List Nat) (x:List CV),x∈rows->AV.all e w ks (Sc.avs cs x 0) [enc x])
  (pf:∀ es x,x∈rows->es.length<=rows.length->evC P sg M (inN P sg M false dp) HX APP htA ⟨[],[],[],[]⟩ [] (stL c T k N t9 t24 t25 cs es x) (fun s'=>if QL c T k N t9 t24 s' (es++[x]) then some (.ret []) else none)=some (.ret [])) {x:List CV} (hx:rows[n]? = some x) (cn:a.tmps.size=N) (bq:a.defers=ds) (gz:a.eval (.tmp t24)=.chan (some c))
  (au:∃ xs,OwnsV v lo T k (a.eval (.tmp t9)) n xs/\CV.vals v (fun _=>False) (rows.take n).flatten xs) (ek:c<lo/\lo<=v.heap.size) (ri:v.heap[c]? = some (eW (n+1))) (E5:a.eval (.tmp t25)=.tuple #[enc x,.bool true]) :
  APP.wpCo F nn P (fun e a' v'=>e=.normal/\LI rows lo c T k N t9 t24 ds (n+1) a' v') a v:=by
 obtain ⟨xs,h1,h2⟩:=au;have h3:∀ g,aY (a.eval (.tmp t9))=some g->g≠c:=fun g hg=>by have:=(h1.lt g hg).1;omega
 have xh:x∈rows:=List.mem_of_getElem? hx;have hn:n<rows.length:=(List.getElem?_eq_some_iff.1 hx).1;have xf:(rows.take n).length=n:=by grind
 have N8:T≠ghT:=by grind
 letI:Ghost:=calm
 let e:Env:=⟨fun _=>0,fun _ _=>a.eval (.tmp t9),fun _=>False,lo,fun b=>if b=c then some (eW (n+1),true) else none,false⟩
 have bv:Mem lo v e [] [⟨true,T,k,1,rows.take n⟩] v:=by
  refine ⟨by simp,by simp,by simp,by simp,fun i y hi hl=>?_,fun i y g hi hl hg=>fun h=>h,by simp,fun i y j z g hi hl hj gl _ _=>?_,fun b h=>h.elim,Below.refl _ _,by omega,⟨Nat.le_refl _,fun h=>by cases h⟩,⟨fun b o f ho=>?_,by simp,fun i y g hi hl hg=>?_,fun i y hi hy=>?_,fun b o h=>h.elim⟩⟩
  ·grind
  ·grind
  ·grind
  ·grind
  grind
 have lr:=pd e v [k] x xh
 have af:Rel lo v e ⟨mkT N [(t9,.own 0 1),(t24,.cv (.val (.chan (some c)))),(t25,.tup (Sc.avs cs x 0++[.cv (.val (.bool true))]))],[],[⟨true,T,k,1,rows.take n⟩]⟩ a v:=by
  refine ⟨NC cn fun d jw=>?_,?_,bv⟩
  ·simp only [vQ]
   have ay:a.tmps.getD d undef=a.eval (.tmp d):=by rfl
   rw [ay];split
   ·rename_i h;subst h;exact ⟨rfl,h1.one⟩
   ·split
    ·grind [AV.holds,CV.holds,Value.oneCell']
    ·split
     ·rename_i h;subst h;rw [E5]
      refine ⟨_,rfl,?_⟩;have:(#[enc x,Value.bool true]:Array Value).toList=[enc x]++[.bool true]:=rfl;exact lr.append (by simp [AV.all,AV.holds,CV.holds])
     ·trivial
  ·rw [AV.scos_iff]
   intro y hy;simp [mkT] at hy;obtain ⟨d,_,rfl⟩:=hy;split
   ·simp
   ·split
    ·simp
    ·split
     ·simp
      have bw:=Sc.avs_closed cs x 0;rw [AV.scos_iff];intro z hz;rcases List.mem_append.1 hz with hz | hz
      ·have:=AV.scos_closed 0 (vers [(⟨true,T,k,1,rows.take n⟩:Vec)]) _ bw
       grind [AV.scos_iff]
      simp_all
     simp
 have hE:Em ⟨[],[0],[0]⟩ (stL c T k N t9 t24 t25 cs (rows.take n) x) ⟨mkT N [(t9,.own 0 1),(t24,.cv (.val (.chan (some c)))),(t25,.tup (Sc.avs cs x 0++[.cv (.val (.bool true))]))],[],[⟨true,T,k,1,rows.take n⟩]⟩:=by
  obtain ⟨p1,p2⟩:=Sc.avs_pl cs x 0 ⟨[],[0],[0]⟩ 0 1
  have p3:AV.czs ⟨[],[0],[0]⟩ (Sc.avs cs x 0++[.cv (.val (.bool true))])=Sc.avs cs x 0++[.cv (.val (.bool true))]:=by
   rw [AV.czs_eq] at p1 ⊢;rw [List.map_append,p1];rfl
  have p4:AV.inns 0 1 (Sc.avs cs x 0++[.cv (.val (.bool true))])=true:=by
   simp_all [AV.inns_eq,List.all_append,Bool.and_eq_true,AV.inn]
  refine ⟨?_,?_,⟨rfl,rfl,rfl,by simp [stL],?_,?_,by simp [stL],?_⟩⟩
  ·simp [stL,AV.cz,p3]
   rfl
  ·simp_all [stL,List.mem_cons,List.not_mem_nil,or_false,AV.inn]
  ·grind [Emb.fv,Vec.cz,Emb.fo,stL]
  ·grind [Emb.fv]
  simp [stL]
 have rj:Fns P sg M:=hM;have hI:∀ il,zB F nn P (inN P sg M false dp il):=fun il=>rY (cm:=false) (fun h=>by cases h) rj (Yls.none ow) dp hF il
 have hW:=iB (F:=F) (n:=nn) (rt:=HX) rj hF hI (fun s o h=>by cases h) APP htA ⟨[],[],[],[]⟩ [] _ _ _ _ _ (fun ex st'=>ex=.normal/\∃ m' s',QL c T k N t9 t24 s' (rows.take n++[x])/\Em m' s' st') hE (pf (rows.take n) x xh (by omega))
  (fun m' s' st' h1 h2 _=>⟨rfl,m',s',Classical.byContradiction (fun hn=>by grind),h2⟩) (fun id h vs m' s' st' h0=>by simp) (fun m' s' st' h1 h2 _=>by cases h1)
 refine hW lo v e a v _ af ?_;rintro ex e' st' a' v' ⟨rfl,m',s',⟨g0,i,u,g1,g2,g3⟩,iq⟩ ba jw ap;have K4:rows.take n++[x]=rows.take (n+1):=by grind [List.take_add_one]
 rw [K4] at g2;have hH:e'.H=e.H:=ap.he rfl;have hv:=iq.m.v i _ g2 (.inl rfl);obtain ⟨ys,y1,y2,y3⟩:=ba.mem.vec _ _ hv rfl
 have h9:a'.eval (.tmp t9)=e'.hdr (m'.fv i) (m'.fo i+u):=by
  have h1:=(ba.ev (.tmp t9)).1;rw [iq.ev] at h1;have h2:s'.ev (.tmp t9)=.own i u:=g1;rw [h2] at h1;exact h1.1
 have K5:a'.eval (.tmp t24)=.chan (some c):=by
  have h1:=(ba.ev (.tmp t24)).1;rw [iq.ev] at h1;have h2:s'.ev (.tmp t24)=.cv (.val (.chan (some c))):=g3;rw [h2] at h1;exact h1.1
 have E6:(rows.take (n+1)).length=n+1:=by simp;omega
 have uv:gQ (rows.take (n+1))=true:=by
  unfold gQ at dx ⊢;rw [List.all_eq_true] at dx ⊢;exact fun l hl=>dx l (List.mem_of_mem_take hl)
 refine ⟨rfl,⟨?_,jw.trans bq,K5,⟨ys,?_,CV.flat_vals (vX uv) y2⟩,⟨ek.1,Nat.le_trans ek.2 ap.sz⟩,?_⟩⟩
 ·have:=ba.tm.length
  rw [iq.t,EY,g0] at this;simpa using this
 ·rw [h9]
  simpa [Vec.cz,E6] using y1
 ·exact ba.mem.hid.obj c _ true (by rw [hH];simp [e])
theorem cJ (a:Act) (d k:Nat) (v:Value) (hd:d<a.tmps.size):(a.put (some d) v).eval (.tmp k)=if d=k then v else a.eval (.tmp k):=by
 simp [Act.eval,Act.put];grind
theorem cK (a:Act) (d:Nat) (v:Value):(a.put (some d) v).tmps.size=a.tmps.size:=by simp [Act.put]
variable {csx:List Sc} {rcv ext:Oper} {z:Value} {k0:List Item}
open Classical in
theorem ZK {t26:Nat} (hM:∀ [Ghost],@Fns _ P (jH P true c (rows.map enc)) sg M) (ow:∀ vs,M ghT vs=none) (hF:Free F) (am:F.round=none) {id8 xid:Nat}
  (hT:T<bE) (ak:∀ l∈rows,l.length=k) (dx:gQ rows=true) (hd:t9<N/\t24<N/\t25<N/\t9≠t24/\t9≠t25/\t24≠t25) (pg:t26<N/\t9≠t26/\t24≠t26/\t25≠t26)
  (pd:∀ (e:Env) (w:World) (ks:List Nat) (x:List CV),x∈rows->AV.all e w ks (Sc.avs csx x 0) [enc x])
  (pf:∀ es x,x∈rows->es.length<=rows.length->evC P sg M (inN P sg M false dp) HX APP htA ⟨[],[],[],[]⟩ [] (stL c T k N t9 t24 t25 csx es x) (fun s'=>if QL c T k N t9 t24 s' (es++[x]) then some (.ret []) else none)=some (.ret []))
  (gq:rcv.dst=some t25/\rcv.guard=none) (wp:∀ ρ:Operand->Value,ρ (.tmp t24)=.chan (some c)->∀ w,(execOp ρ rcv).run P w=.ok (.comm #[Conc.rcase c z] true (.recv true)) w/\(execOp ρ rcv).events P w #[]=#[])
  (ei:ext.op=.extract (.tmp t25) 1/\ext.dst=some t26/\ext.guard=none) (hb:b.roundOf=none) (hk:b.kind≠.early) :
  ∀ m n,n+m=rows.length->∀ a v,LI rows lo c T k N t9 t24 ds n a v ->
   Tree P true c (rows.map enc) (AtShut P c (rows.map enc) fun fr cs' z' v'=>cs'=cs/\z'=z/\∃ a',fr=b.atR a' (.inRegion #[rcv,ext] [0,1]::.code (.seq (.cond (.tmp t26) .skip (.exit xid)) APP)::.inLoop (.seq (.region id8 #[rcv,ext] false) (.seq (.cond (.tmp t26) .skip (.exit xid)) APP))::k0)/\LI rows lo c T k N t9 t24 ds rows.length a' v')
    (G (b.atR a (.code (.seq (.region id8 #[rcv,ext] false) (.seq (.cond (.tmp t26) .skip (.exit xid)) APP))::.inLoop (.seq (.region id8 #[rcv,ext] false) (.seq (.cond (.tmp t26) .skip (.exit xid)) APP))::k0)) cs) v:=by
 letI C:Co P:=jH P true c (rows.map enc)
 have aw:∀ (a:Act) (k:List Item),a.eval (.tmp t24)=.chan (some c)->∀ w,stepG P true (G (b.atR a (.inRegion #[rcv,ext] [0,1]::k)) cs) w=.comm (G (b.atR a (.inRegion #[rcv,ext] [0,1]::k)) cs) #[Conc.rcase c z] true (.recv true) w #[]:=
  fun a k ha w=>ZJ (o:=rcv) rfl gq.2 hb hk (wp a.eval ha) w
 intro m
 induction m with
 | zero =>
  intro n hn a v hI;obtain rfl:n=rows.length:=by omega
  refine @Co.aGG P C _ b a _ cs v _ _ (@Co.aAq P C _ b a _ cs v id8 _ ?_);refine .stop fun v₁ hv=>?_
  have rx:=hI.rely hv;exact ⟨_,cs,z,rfl,aw a _ rx.ch,by simpa using rx.cnt,rfl,rfl,a,rfl,rx⟩
 | succ m ih =>
  intro n hn a v hI;obtain ⟨x,hx⟩:∃ x,rows[n]? = some x:=⟨rows[n],by simp⟩
  refine @Co.aGG P C _ b a _ cs v _ _ (@Co.aAq P C _ b a _ cs v id8 _ ?_);refine .recv (enc x) z n rfl hI.cnt (by grind) (aw a _ hI.ch) fun v₁ hv₁=>?_
  have rx:=hI.rely hv₁
  have dn:(b.atR a (.inRegion #[rcv,ext] [0,1]::.code (.seq (.cond (.tmp t26) .skip (.exit xid)) APP)::.inLoop (.seq (.region id8 #[rcv,ext] false) (.seq (.cond (.tmp t26) .skip (.exit xid)) APP))::k0)).finish (.tuple #[enc x,.bool true]) =
    b.atR (a.put (some t25) (.tuple #[enc x,.bool true])) (.inRegion #[rcv,ext] [1]::.code (.seq (.cond (.tmp t26) .skip (.exit xid)) APP)::.inLoop (.seq (.region id8 #[rcv,ext] false) (.seq (.cond (.tmp t26) .skip (.exit xid)) APP))::k0):=by
   grind [Frame.finish_atR]
  have bw:c<v₁.heap.size:=(Array.getElem?_eq_some_iff.1 rx.cnt).1;have jt:(v₁.putObj c (eW (n+1))).heap[c]? = some (eW (n+1)):=World.putObj_heap_same bw;have jg:(List.range (#[rcv,ext]:Array Oper).size)=[0,1]:=rfl;rw [jg,dn]
  have E5:(a.put (some t25) (.tuple #[enc x,.bool true])).eval (.tmp t25)=.tuple #[enc x,.bool true]:=by
   rw [cJ _ _ _ _ (by rw [hI.sz];omega),if_pos rfl]
  have ft:ext.semAt F.round (a.put (some t25) (.tuple #[enc x,.bool true])).eval=execOp (a.put (some t25) (.tuple #[enc x,.bool true])).eval ext:=Oper.semAt_plain F _ _ (by grind)
  refine EH (C:=C) (F:=F) (n:=0) (o:=ext) rfl (by grind [Region.wanted]) (by grind) hk (next:=fun a' w'=>a'=(a.put (some t25) (.tuple #[enc x,.bool true])).put (some t26) (.bool true)/\Rely (v₁.putObj c (eW (n+1))) w') (.inl ⟨?_,fun w₁ hw₁=>⟨.value (.bool true),w₁,?_,?_⟩⟩) ?_
  ·rw [ft]
   simp [execOp,ei.1];exact k_b (IZ _ _) fun _=>trivial
  ·rw [ft]
   simp [execOp,ei.1,E5];rfl
  ·grind [Oper.uponCo]
  rintro a2 v2 ⟨rfl,jm⟩
  have K6:∀ g,g<v₁.heap.size->g≠c->v2.heap[g]? = v₁.heap[g]?:=fun g hg K7=>by
   rw [jm.block g (by simp_all)]
   exact World.putObj_heap_other K7
  refine Co.LF (Co.aGG (Co.aFm (t:=true) ?_ (Co.aFl ?_)))
  ·rw [cJ _ _ _ _ (by rw [cK,hI.sz];omega),if_pos rfl]
  obtain ⟨xs,o1,o2⟩:=rx.own;have o3:∀ g,aY (a.eval (.tmp t9))=some g->g≠c:=fun g hg=>by have:=(o1.lt g hg).1;have:=rx.lo.1;omega
  have e9:((a.put (some t25) (.tuple #[enc x,.bool true])).put (some t26) (.bool true)).eval (.tmp t9)=a.eval (.tmp t9):=by
   rw [cJ _ _ _ _ (by rw [cK,hI.sz];omega),if_neg (Ne.symm pg.2.1),cJ _ _ _ _ (by rw [hI.sz];omega),if_neg (Ne.symm hd.2.2.2.2.1)]
  have e24:((a.put (some t25) (.tuple #[enc x,.bool true])).put (some t26) (.bool true)).eval (.tmp t24)=a.eval (.tmp t24):=by
   rw [cJ _ _ _ _ (by rw [cK,hI.sz];omega),if_neg (Ne.symm pg.2.2.1),cJ _ _ _ _ (by rw [hI.sz];omega),if_neg (Ne.symm hd.2.2.2.2.2)]
  have e25:((a.put (some t25) (.tuple #[enc x,.bool true])).put (some t26) (.bool true)).eval (.tmp t25)=.tuple #[enc x,.bool true]:=by
   rw [cJ _ _ _ _ (by rw [cK,hI.sz];omega),if_neg (Ne.symm pg.2.2.2)]
   omega
  have hw:=aFR (C:=C) (nn:=0) hM ow hF (rows:=rows) (lo:=lo) (c:=c) (T:=T) (k:=k) (N:=N) (t9:=t9) (t24:=t24) (t25:=t25) (ds:=ds) (cs:=csx) (enc:=enc) hT ak dx hd pd pf hx
   (a:=(a.put (some t25) (.tuple #[enc x,.bool true])).put (some t26) (.bool true)) (v:=v2) (by rw [cK,cK,hI.sz]) hI.df (by rw [e24];exact hI.ch)
   (by rw [e9];exact ⟨xs,o1.keep fun g hg=>K6 g (o1.lt g hg).2 (o3 g hg),CV.vals.mono (S':=fun _=>False) ⟨fun _ h=>h,fun _ h=>h.elim⟩ _ _ o2⟩) ⟨rx.lo.1,by have:=rx.lo.2;have:=jm.size;grind [World.putObj]⟩ (Rely.chan jm jt) e25
  refine hw b _ cs _ (by grind) hk fun e a' v' q=>?_
  obtain ⟨rfl,K8⟩:=q;exact Co.aAp (ih (n+1) (by omega) a' v' K8)
mutual
def AV.solid:AV->Bool
 | .any=>true
 | .cv c=>c.solid
 | .agg cs=>AV.solids cs
 | .tup cs=>AV.solids cs
 | .fn _ cs=>AV.solids cs
 | .gd _ x=>AV.solid x
 | _=>false
def AV.solids:List AV->Bool
 | []=>true
 | c::cs=>AV.solid c&&AV.solids cs
end
mutual
theorem AV.holds.seen {e e':Env} {w v:World} {ks ks':List Nat} (hv:∀ b o,e.S b->w.heap[b]? = some o->o.isView=false->v.heap[b]? = some o/\e'.S b):∀ (x:AV) (u:Value),x.solid=true->AV.holds e w ks x u->AV.holds e' v ks' x u
 | .any,_,_,_=>trivial
 | .cv c,u,hs,h=>CV.holds.seen hv c u (by grind [AV.solid]) h
 | .agg cs,u,hs,h=>by
  obtain ⟨vs,h1,h2⟩:=h;exact ⟨vs,h1,AV.all.seen hv cs _ (by grind [AV.solid]) h2⟩
 | .tup cs,u,hs,h=>by
  obtain ⟨vs,h1,h2⟩:=h;exact ⟨vs,h1,AV.all.seen hv cs _ (by grind [AV.solid]) h2⟩
 | .fn f cs,u,hs,h=>by
  obtain ⟨vs,h1,h2⟩:=h;exact ⟨vs,h1,AV.all.seen hv cs _ (by grind [AV.solid]) h2⟩
 | .gd L x,u,hs,h=>⟨fun hb=>AV.holds.seen hv x u (by grind [AV.solid]) (h.1 hb),h.2⟩
 | .ptr _ _,_,hs,_=>by grind [AV.solid]
 | .own _ _,_,hs,_=>by grind [AV.solid]
 | .opt _ _ _ _,_,hs,_=>by grind [AV.solid]
theorem AV.all.seen {e e':Env} {w v:World} {ks ks':List Nat} (hv:∀ b o,e.S b->w.heap[b]? = some o->o.isView=false->v.heap[b]? = some o/\e'.S b):∀ (xs:List AV) (us:List Value),AV.solids xs=true->AV.all e w ks xs us->AV.all e' v ks' xs us
 | [],[],_,_=>trivial
 | x::xs,u::us,hs,h=>by
  simp [AV.solids] at hs;exact ⟨AV.holds.seen hv x u hs.1 h.1,AV.all.seen hv xs us hs.2 h.2⟩
 | [],_::_,_,h=>by grind [AV.all]
 | _::_,[],_,h=>by grind [AV.all]
end
theorem ZL {cs:List Sc} (hM:∀ [Ghost],@Fns _ P (jH P false c (rows.map enc)) sg M) (hg:sg ghT=none)
  {r0 REST:Code} {rr ru:HT} {id1 p d1:Nat} {mv df:Oper} {ats:Array TypeId} {as0:List AV} {f:FuncId} {fn:Func}
  (hf:P.funcs[f]? = some fn) (hn:(fn.name == "runtime.NumGoroutine")=false) (hb:fn.body=some (.seq r0 (.seq (.region id1 #[mv,df] false) REST))) (hr:fn.results.toList=[]) (hq:fn.norace=false)
  (mj:mv.op=.move (.tmp p)/\mv.dst=some d1/\mv.guard=none) (bq:df.op=.defer { callee:=.builtin .close,args:=#[.tmp d1],argTypes:=ats }/\df.dst=none/\df.guard=none)
  (ay:FY P sg (withS M c (.clo cs) (KB rows)) dp fn.ntmps r0 REST rr ru p d1 c (as0++[.cv (.val (.chan (some c)))]) []=some [.row 0 rows])
  (lr:∀ (e:Env) (w:World) (ks:List Nat) (x:List CV) (v:Value),AV.all e w ks (Sc.avs cs x 0) [v]->v=enc x)
  (E7:AV.solids as0=true) (im:∀ (m:Emb) nb nv,as0.map (·.cz m)=as0/\AV.inns nb nv as0=true) (wo:∀ vs,AV.scos 0 vs as0)
  (Ac:∃ F:Fence,Free F/\F.round=none) {e:Env} {w₁ vF:World} {lb:Array Value} (hc:w₁.heap[c]? = some (.chan 0 #[] false 0 0 false)) (ku:AV.all e w₁ ks as0 lb.toList) (hS:∀ b,e.S b->b<w₁.heap.size/\b≠c) (rp:Vw (NB c w₁) c 0 w₁ vF) :
  Tree P false c (rows.map enc) (AtClose P c (rows.map enc) w₁ (NB c w₁)) (Conc.born P (Conc.dcall f (lb++#[Value.chan (some c)]))) vF:=by
 obtain ⟨F0,K9,Ad⟩:=Ac
 letI C:Co P:=jH P false c (rows.map enc)
 have cn:=rp.size;have i9:vF.heap[c]? = some (eW 0):=rp.ch
 let H:Nat->Option (Obj×Bool):=fun b=>if b=c then some (eW 0,true) else none
 let S:Nat->Prop:=fun b=>b<vF.heap.size/\b≠c
 have La:∀ b o,e.S b->w₁.heap[b]? = some o->o.isView=false->vF.heap[b]? = some o/\S b:=by
  intro b o hb ho jc;obtain ⟨h1,h2⟩:=hS b hb;refine ⟨?_,by omega,h2⟩
  rw [rp.eq b (fun hx=>?_) h2]
  ·exact ho
  ·obtain ⟨_,o',rm,lc⟩:=hx
   grind
 have ct:∀ ks (e':Env),e'.S=S->AV.all e' vF ks (as0++[.cv (.val (.chan (some c)))]) (lb++#[Value.chan (some c)]).toList:=by
  intro ks' e' ga;rw [Array.toList_append];refine AV.all.append (AV.all.seen (e':=e') (by grind) _ _ E7 ku) ?_
  simp [AV.all,AV.holds,CV.holds]
 have kp:@GW (aBK c rows vF) vF:=⟨rfl,rfl,rfl,rfl⟩;refine ZH (ats:=ats) (ty:=df.type) (consts:=#[false]) hf hn hb hr hq F0 0 Ad (wpCo_mono (@aDT P C sg M hM hg F0 0 K9 Ad r0 REST rr ru id1 dp fn.ntmps p d1 c mv df ats (as0++[.cv (.val (.chan (some c)))]) rows mj bq (.clo cs) (KB rows) ay (aBK c rows vF) rfl (ZI lr) H S vF (lb++#[Value.chan (some c)]) ct ?_ ?_ ?_ ?_ ?_ ?_ ?_ kp) ?_)
 ·intro m nb nv
  obtain ⟨h1,h2⟩:=im m nb nv;refine ⟨by rw [List.map_append,h1];rfl,?_⟩
  letI:Ghost:=calm
  simp_all [AV.inns_eq,AV.inn]
 ·intro vs
  have:=wo vs;grind [AV.scos_iff,AV.sco]
 ·omega
 ·intro b o f ho
  grind
 ·grind
 ·grind
 ·grind
 ·rintro ex a' v' ⟨h1,h2,⟨H',hJ,vr⟩,h4,h5⟩
  refine ⟨h1,h2,?_,by omega,fun b hb dz jc=>?_⟩
  ·have:=vr c _ true hJ.1
   grind
  ·rw [h4 b ⟨by omega,dz⟩]
   exact rp.eq b jc dz
variable {S:Goroutine->World->Prop}
theorem KC [C:Co P] {k:List Item} {u:Value} (ho:ops[i]? = some o) (hg:o.guard=none) (hb:b.roundOf=none) (hk:b.kind≠.early)
  (hv:execOp a.eval o=.pure (.value u)) (fc:∀ c,o.op≠.defer c) (h:C.Go S (G (b.atR (a.put o.dst u) (.inRegion ops rest::k)) cs) w):C.Go S (G (b.atR a (.inRegion ops (i::rest)::k)) cs) w:=by
 have hs:∀ F:Fence,o.semAt F.round a.eval=execOp a.eval o:=fun F=>Oper.semAt_plain F _ _ fc
 have key:∀ F:Fence,F.round=none->C.Go S (G (b.atR a (.inRegion ops (i::rest)::k)) cs) w:=by
  intro F am;refine EH (F:=F) (n:=0) ho (by simp [Region.wanted,hg]) (by grind) hk (next:=fun a' w'=>a'=a.put o.dst u/\Rely w w') (.inl ⟨?_,fun w₁ hw=>⟨.value u,w₁,?_,⟨rfl,hw⟩⟩⟩) ?_
  ·rw [hs,hv];trivial
  ·rw [hs,hv];rfl
  ·rintro a' w' ⟨rfl,hw⟩
   exact C.rely h hw
 exact key { fn:=fun _=>True } rfl
theorem TP {t26 t8:Nat} (hM:∀ [Ghost],@Fns _ P (jH P true c (rows.map enc)) sg M) (ow:∀ vs,M ghT vs=none) (hF:Free F) (am:F.round=none) {id8 xid id6 id7:Nat} {nl mvc:Oper}
  (hT:T<bE) (ak:∀ l∈rows,l.length=k) (dx:gQ rows=true) (hd:t9<N/\t24<N/\t25<N/\t9≠t24/\t9≠t25/\t24≠t25) (pg:t26<N/\t9≠t26/\t24≠t26/\t25≠t26)
  (pd:∀ (e:Env) (w:World) (ks:List Nat) (x:List CV),x∈rows->AV.all e w ks (Sc.avs csx x 0) [enc x])
  (pf:∀ es x,x∈rows->es.length<=rows.length->evC P sg M (inN P sg M false dp) HX APP htA ⟨[],[],[],[]⟩ [] (stL c T k N t9 t24 t25 csx es x) (fun s'=>open Classical in if QL c T k N t9 t24 s' (es++[x]) then some (.ret []) else none)=some (.ret []))
  (gq:rcv.dst=some t25/\rcv.guard=none) (wp:∀ ρ:Operand->Value,ρ (.tmp t24)=.chan (some c)->∀ w,(execOp ρ rcv).run P w=.ok (.comm #[Conc.rcase c z] true (.recv true)) w/\(execOp ρ rcv).events P w #[]=#[])
  (ei:ext.op=.extract (.tmp t25) 1/\ext.dst=some t26/\ext.guard=none) (uk:nl.op=.assign (.const (.slice none 0 0))/\nl.dst=some t9/\nl.guard=none) (wq:mvc.op=.move (.tmp t8)/\mvc.dst=some t24/\mvc.guard=none) (h8:t8≠t9) (hb:b.roundOf=none) (hk:b.kind≠.early) {R11:Code} (cn:a.tmps.size=N) (bq:a.defers=ds) (gz:a.eval (.tmp t8)=.chan (some c)) (ri:v.heap[c]? = some (eW 0)) :
  Tree P true c (rows.map enc) (AtShut P c (rows.map enc) fun fr cs' z' v'=>cs'=cs/\z'=z/\∃ a',fr=b.atR a' (.inRegion #[rcv,ext] [0,1]::.code (.seq (.cond (.tmp t26) .skip (.exit xid)) APP)::.inLoop (.seq (.region id8 #[rcv,ext] false) (.seq (.cond (.tmp t26) .skip (.exit xid)) APP))::.inBlock xid::.code R11::k0)/\LI rows v.heap.size c T k N t9 t24 ds rows.length a' v')
   (G (b.atR a (.code (.seq (.region id6 #[nl] false) (.seq (.seq (.region id7 #[mvc] false) (.block xid (.loop (.seq (.region id8 #[rcv,ext] false) (.seq (.cond (.tmp t26) .skip (.exit xid)) APP))))) R11))::k0)) cs) v:=by
 letI C:Co P:=jH P true c (rows.map enc)
 have e1:execOp a.eval nl=.pure (.value (.slice none 0 0)):=by simp [execOp,uk.1];rfl
 refine @Co.aGG P C _ b a _ cs v _ _ (@Co.aAq P C _ b a _ cs v id6 _ ?_);refine KC (o:=nl) (u:=.slice none 0 0) rfl uk.2.2 hb hk e1 (by grind) ?_
 refine Co.LF (Co.aGG (Co.aGG (Co.aAq ?_)));rw [uk.2.1];have e8:(a.put (some t9) (.slice none 0 0)).eval (.tmp t8)=.chan (some c):=by simp_all [cJ,Ne.symm]
 have e2:execOp (a.put (some t9) (.slice none 0 0)).eval mvc=.pure (.value (.chan (some c))):=by simp [execOp,wq.1,e8];rfl
 refine KC (o:=mvc) (u:=.chan (some c)) rfl wq.2.2 hb hk e2 (by grind) ?_
 refine Co.LF (Co.aCX (Co.aFn ?_));rw [wq.2.1];refine ZK hM ow hF am hT ak dx hd pg pd pf gq wp ei hb hk rows.length 0 (by omega) _ v ⟨by grind [cK],bq,?_,⟨[],?_,?_⟩,⟨(Array.getElem?_eq_some_iff.1 ri).1,Nat.le_refl _⟩,ri⟩
 ·rw [cJ _ _ _ _ (by grind [cK]),if_pos rfl]
 ·have e9:((a.put (some t9) (.slice none 0 0)).put (some t24) (.chan (some c))).eval (.tmp t9)=.slice none 0 0:=by
   rw [cJ _ _ _ _ (by grind [cK]),if_neg (Ne.symm hd.2.2.2.1),cJ _ _ _ _ (by omega),if_pos rfl]
  rw [e9];refine .inl ⟨hT,.inl ?_⟩;simp
 ·simp [CV.vals]
theorem TQ {main:Bool} {k:List Item} {d:Deferred} {f:Fn} {c:Array Value} (ho:ops[i]? = some o) (hg:o.guard=none) (am:b.roundOf=none) (hk:b.kind≠.early)
  (h1:∀ w,(execOp a.eval o).run P w=.ok (.spawn d) w/\(execOp a.eval o).events P w #[]=#[]) (hd:d.target=.fn f c) (w:World) :
  stepG P main (G (b.atR a (.inRegion ops (i::rest)::k)) cs) w=.spawn (G (b.atR (a.put o.dst undef) (.inRegion ops rest::k)) cs) (Conc.born P d) w #[]:=by
 have hw:Region.wanted o (yielded ops a.tmps)=true:=by simp [Region.wanted,hg]
 have dn:(b.atR a (.inRegion ops (i::rest)::k)).finish undef=b.atR (a.put o.dst undef) (.inRegion ops rest::k):=by grind [Frame.finish_atR]
 have aw:stepG P main (G (b.atR a (.inRegion ops (i::rest)::k)) cs) w=stepG.apply P true (b.atR a (.inRegion ops (i::rest)::k)) cs none (execOp a.eval o) w:=by
  simp [G,stepG,stepG.exec,stepG.oper,Frame.oper?,Frame.atR,ho,hw,am];rfl
 rw [aw,<- dn];simp [stepG.apply,Frame.atR,GStep.after,G,h1,hd,Conc.born,show seen P b.fn #[]=#[] from by rfl]
structure Done (rows:List (List CV)) (w₁:World) (c T k N t9 t25:Nat) (z:Value) (ds:List Deferred) (a:Act) (w:World):Prop where
 sz:a.tmps.size=N
 df:a.defers=ds
 own:∃ xs,OwnsV w w₁.heap.size T k (a.eval (.tmp t9)) rows.length xs/\CV.vals w (fun _=>False) rows.flatten xs
 got:a.eval (.tmp t25)=.tuple #[z,.bool false]
 old:∀ b,b<w₁.heap.size->b≠c->w.heap[b]? = w₁.heap[b]?
 os:w.os=w₁.os/\w.tape=w₁.tape/\w.output=w₁.output/\w₁.heap.size<=w.heap.size
theorem aBL {n0:Nat} {s:Value} {xs:List Value} (h:OwnsV v n0 T k s n xs) (hT:T<bE) (hk:1<=k) {g:Nat} (hg:aY s=some g):∃ o,v.heap[g]? = some o/\∀ m,o≠eW m:=by
 rcases h.s hT with ⟨a,rfl,_⟩ | ⟨h,_⟩
 ·simp [aY] at hg
 ·rcases h.2 with ⟨rfl,_⟩ | ⟨g',cap,cur,rfl,a1,a2,a3⟩
  ·grind [aY]
  ·cases cap with
   | zero=>simp [aY] at hg
   | succ cap =>
    grind [aY]
theorem aFS {fr fr':Frame} {d:Deferred} {items:List Item}
  (hT:T<bE) (yi:1<=k) (hN:t25<N) (h9:t9≠t25) (Lb:rcv.dst=some t25) (aw:∀ w,stepG P true (G fr cs) w=.spawn (G fr' cs) (Conc.born P d) w #[]) (hc:w.heap[c]? = some (.chan 0 #[] false 0 0 false))
  (hF:∀ w₁ vF,Rely w w₁->Vw (NB c w₁) c 0 w₁ vF->Tree P false c (rows.map enc) (AtClose P c (rows.map enc) w₁ (NB c w₁)) (Conc.born P d) vF)
  (hM:∀ w₁ vM,Rely w w₁->Vw (HdM (fun _=>False) c w₁) c 0 w₁ vM->Tree P true c (rows.map enc) (AtShut P c (rows.map enc) fun fr cs' z' v'=>cs'=cs/\z'=z/\∃ a',fr=b.atR a' (.inRegion #[rcv,ext] [0,1]::items)/\LI rows vM.heap.size c T k N t9 t24 ds rows.length a' v') (G fr' cs) vM)
  (hK:∀ w₁ a' w',Rely w w₁->Done rows w₁ c T k N t9 t25 z ds a' w'->GoM P S (G (b.atR a' (.inRegion #[rcv,ext] [1]::items)) cs) w'):GoM P S (G fr cs) w:=by
 refine GoM.fork (c:=c) (tot:=rows.map enc) (K:=fun w₁ fr cs' z' v'=>cs'=cs/\z'=z/\∃ a',fr=b.atR a' (.inRegion #[rcv,ext] [0,1]::items)/\LI rows w₁.heap.size c T k N t9 t24 ds rows.length a' v') aw hc hF (fun w₁ vM h1 h2=>?_) fun w₁ fr2 cs2 z2 v w' h1 h2 h3 h4 h5=>?_
 ·have:=hM w₁ vM h1 h2
  rw [h2.size] at this;omega
 ·obtain ⟨rfl,rfl,a',rfl,hI⟩:=h2
  obtain ⟨xs,o1,o2⟩:=hI.own;rw [Frame.finish_atR]
  have e9:(a'.put (some t25) (.tuple #[z2,.bool false])).eval (.tmp t9)=a'.eval (.tmp t9):=by
   rw [cJ _ _ _ _ (by rw [hI.sz];exact hN),if_neg (Ne.symm h9)]
  have hd:(#[rcv,ext][0]?).bind (·.dst)=some t25:=by grind
  rw [hd];refine hK w₁ _ w' h1 ⟨by rw [cK,hI.sz],hI.df,⟨xs,?_,?_⟩,?_,h4,⟨h5.1,h5.2.1,h5.2.2.1,h5.2.2.2.1⟩⟩
  ·rw [e9]
   refine o1.keep fun g hg=>?_
   obtain ⟨o,ho,bY⟩:=aBL o1 hT yi hg;grind
  ·rw [List.take_length] at o2
   exact CV.vals.mono (S':=fun _=>False) ⟨fun _ h=>h,fun _ h=>h.elim⟩ _ _ o2
  ·rw [cJ _ _ _ _ (by rw [hI.sz];exact hN),if_pos rfl]
end Go.Sx
