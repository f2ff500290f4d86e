/-
 What the beasts of a pound have lU by their pens is what they are charged for, and those who stand in the pens are those who are inside: at every input, without any condition.
-/
import Derived.KernelRfl
import Derived.Shelf.Slices.Delete
import Derived.Shelf.Sort.Plain
import Derived.Sort.OwnSortedInts
import Derived.Test.YtnnifohchhjkhaaProg
import Derived.Test.YtnnifohchhjkhaaP10
namespace Go.Proofs.Ytnnifohchhjkhaa.Fi
open Go Go.Sx Go.Fine
variable {its:ITS} [hD:ItsD its]
set_option maxRecDepth 10000
attribute [local simp] Bool.and_assoc Bool.or_assoc
theorem TC (M:Den) (s:Held) (a b c:List CV):bR sg M (.fn bW [.ref a,.ref b,.ref c]) [ci s.src,ci s.beast,ci s.sort,ci s.eats,ci s.worth,ci s.drv,ci s.day,ci s.known,ci s.til] [.agg [li,li,li,li,li,li,li,li,li]] [.one lb]=M bW [ci s.src,ci s.beast,ci s.sort,ci s.eats,ci s.worth,ci s.drv,ci s.day,ci s.known,ci s.til,.ref a,.ref b,.ref c]:=rfl
def IsQ (M:Den) (f:CV) (q:Held→Fine.Lot→Bool):Prop:=∀ (s:Held) (x:Fine.Lot),bR sg M f [ci s.src,ci s.beast,ci s.sort,ci s.eats,ci s.worth,ci s.drv,ci s.day,ci s.known,ci s.til,ci x.owner,ci x.stop,ci x.fin,ci x.day] [.agg (List.replicate 9 li),.agg (List.replicate 4 li)] [.one lb]=some [cb (q s x)]
theorem EE (n:Nat) (f:CV) (q:Held→Fine.Lot→Bool) (hf:IsQ (D its (n+5)) f q) (hraw:oks [.raw] [f] 0=true) (p:Acc) (s:Held) (k:Int) (hp:p.ok=true) (hs:s.ok=true) (hk:eO k=true):D its (n+6) bW [ci s.src,ci s.beast,ci s.sort,ci s.eats,ci s.worth,ci s.drv,ci s.day,ci s.known,ci s.til,.ref [f],.ref [.row 24 (p.ts.map Tariff.cv),.row 9 (p.ss.map Held.cv),.row 7 (p.ns.map Note.cv)],.ref [ci k]]=some [cb (!q s (lot p s k))]:=by
 rw [AP]
 have h1:=aD8 (its:=its) n p s k hp hs hk
 have h2:=hf s (lot p s k)
 have o3:∀ (a b c:List (List CV)),oks [.row 24,.row 9,.row 7] [.row 24 a,.row 9 b,.row 7 c] 0=true:=fun a b c=>rfl
 have e0:List.getD [f] 0 dC=f:=rfl
 simp only [pJ,hraw,o3,YA,HD,aFy,Bool.and_self,aE,aZ,dE,bN,dY,h1,aD,e0,aFt,aFs,aFv,aFu,List.cons_append,List.nil_append,h2,cY,DB]
theorem aDo (n:Nat) (f:CV) (q:Held→Fine.Lot→Bool) (hf:∀ m,IsQ (D its (m+1)) f q) (hraw:oks [.raw] [f] 0=true) (p:Acc) (k:Int) (hp:p.ok=true) (hk:eO k=true):D its (n+9) oS [.row 24 (p.ts.map Tariff.cv),.row 9 (p.ss.map Held.cv),.row 7 (p.ns.map Note.cv),ci k,f]=some [.row 1 (ints (((stays p k).filter fun s=>q s (lot p s k)).map Held.src))]:=by
 rw [KP]
 obtain ⟨_,l1,l2⟩:=p.ok_len hp
 have hlen:(stays p k).length≤60:=Nat.le_trans (lT _ _) l1
 have hso:∀ s∈stays p k,s.ok=true:=fun s hs=>p.ok_s hp (HF hs)
 have hix:=jK (its:=its) (n+7) p.ss (.fn aN [.ref [ci k]]) (fun s=>!counts s.known s.til k) (by omega) (fun s _=>by rw [EC];simp)
 have hd:=BH 9 Held.cv hz.cv rD rE rF (fun s=>!counts s.known s.til k) p.ss (by omega) hix (call:=fun c=>D its (n+8) aN (cat [c,[.ref [ci k]]])) (fun s _=>by simp [Held.cv])
 have hc:=rX 9 72 Held.cv p.ss (by omega) (by omega)
 have hst:(p.ss.filter fun s=>!!counts s.known s.til k)=stays p k:=by simp [stays]
 rw [hst] at hd
 have hix2:=jK (its:=its) (n+7) (stays p k) (.fn bW [.ref [f],.ref [.row 24 (p.ts.map Tariff.cv),.row 9 (p.ss.map Held.cv),.row 7 (p.ns.map Note.cv)],.ref [ci k]]) (fun s=>!q s (lot p s k)) (by omega) (fun s hs=>by rw [TC];exact EE (n+1) f q (hf _) hraw p s k hp (hso s hs) hk)
 have hd2:=BH 9 Held.cv hz.cv rD rE rF (fun s=>!q s (lot p s k)) (stays p k) (by omega) hix2 (call:=fun c=>D its (n+8) bW (cat [c,[.ref [f],.ref [.row 24 (p.ts.map Tariff.cv),.row 9 (p.ss.map Held.cv),.row 7 (p.ns.map Note.cv)],.ref [ci k]]])) (fun s hs=>EE (n+2) f q (hf _) hraw p s k hp (hso s hs) hk)
 unfold wK
 rw [hc]
 simp only [bL,bN]
 change aO (dD (dD (YB _ (fun c=>D its (n+8) aN (cat [c,[.ref [ci k]]])) 9 hz.cv (p.ss.map Held.cv)) _) _)=_
 rw [hd]
 simp only [bL,bN]
 change aO (dD (YB _ (fun c=>D its (n+8) bW (cat [c,[.ref [f],.ref [.row 24 (p.ts.map Tariff.cv),.row 9 (p.ss.map Held.cv),.row 7 (p.ns.map Note.cv)],.ref [ci k]]])) 9 hz.cv ((stays p k).map Held.cv)) _)=_
 rw [hd2]
 have hfl:=lT (fun s=>!!q s (lot p s k)) (stays p k)
 have hsrc:=ZB (its:=its) (n+7) ((stays p k).filter fun s=>!!q s (lot p s k)) (by omega)
 have hnn:((stays p k).filter fun s=>!!q s (lot p s k))=(stays p k).filter fun s=>q s (lot p s k):=by simp
 rw [hnn] at hsrc
 simp only [bL,bN,hnn,hsrc,aD,DB]
theorem TD (m:Nat) (k:Int):IsQ (D its (m+1)) (.fn fY [.ref [ci k]]) fun s x=>decide (s.day≤k)&&decide (x.fin=0):=by
 have _:=hD
 intro s x
 change D its (m+1) fY [ci s.src,ci s.beast,ci s.sort,ci s.eats,ci s.worth,ci s.drv,ci s.day,ci s.known,ci s.til,ci x.owner,ci x.stop,ci x.fin,ci x.day,.ref [ci k]]=_
 rw [yJ]
 by_cases h:s.day≤k <;> simp [oH,h]
def wQ (p:Acc) (k:Int):List Int×Int:=if asked p k≠0 then ([],asked p k) else (((stays p k).filter fun s=>decide (s.day≤k)&&decide ((lot p s k).fin=0)).map Held.src,0)
@[simp] theorem aGN (n:Nat) (p:Acc) (k:Int) (hp:p.fits):D its (n+10) jV [.row 24 (p.ts.map Tariff.cv),.row 9 (p.ss.map Held.cv),.row 7 (p.ns.map Note.cv),ci k]=some [.row 1 (ints (wQ p k).1),ci (wQ p k).2]:=by
  rw [FS]
  have hch:aS 1 1 [ci k]=[[ci k]]:=rfl
  simp only [tA,hch,wO _ _ _ hp,aD,aZ,vJ,kU]
  by_cases h0:asked p k=0
  ·obtain ⟨hok,hk⟩:=gN h0
   simp only [h0,decide_true,Bool.not_true,Bool.false_eq_true,if_false,aDo n _ _ (fun m=>TD m k) rfl p k hok hk,aD,bN,DB,wQ,ne_eq,not_true_eq_false]
  ·simp [wQ,h0,ints]
end Go.Proofs.Ytnnifohchhjkhaa.Fi
namespace Go.Proofs.Ytnnifohchhjkhaa
open Go Go.Sx
set_option maxRecDepth 100000
set_option maxHeartbeats 0
noncomputable section
def upA (e:List CV) (v0:List CV):List CV:=CV.row 1 (gr v0 1)::CV.row 4 (gr v0 2)::(List.range 50).map fun j=>ci (if decide (j+2=(((2+(Int.toNat (gi e 0)*4))+1)+1)+1)=true then gi e 3 else if decide (j+2=((2+(Int.toNat (gi e 0)*4))+1)+1)=true then gi e 2 else if decide (j+2=(2+(Int.toNat (gi e 0)*4))+1)=true then gi e 1 else if decide (j+2=2+(Int.toNat (gi e 0)*4))=true then gi e 0 else gi v0 (j+3))
def upB (e:List CV) (v2:List CV):List CV:=CV.row 1 (gr v2 1)::CV.row 4 (gr v2 2)::(List.range 50).map fun j=>ci (if decide (j+2=42+(Int.toNat (gi e 0)*1))=true then wr (Int.ofNat (bON (gi (cat [[CV.row 1 (gr v2 1),CV.row 4 (gr v2 2)],cis v2 3 50]) (42+(Int.toNat (gi e 0)*1))) (wr (1*((2:Int) ^ (min (Int.toNat (gi v2 0)) 64)))))) else gi v2 (j+3))
def upC (e:List CV) (v2 v3:List CV):List CV:=CV.row 1 (gr v3 0)::CV.row 4 (gr v3 1)::(List.range 50).map fun j=>ci (if decide (j+2=42+(Int.toNat (gi v2 0)*1))=true then wr (Int.ofNat (bON (gi (cat [[CV.row 1 (gr v3 0),CV.row 4 (gr v3 1)],cis v3 2 50]) (42+(Int.toNat (gi v2 0)*1))) (wr (1*((2:Int) ^ (min (Int.toNat (gi e 0)) 64)))))) else gi v3 (j+2))
def ZF (e:List CV):List CV→Option Ou:=fun v2=>aB (decide ((gi v2 0)<10)) (chk (decide (0≤(gi v2 0)))<|aJ (aB ((wr (Int.ofNat (bAN (Int.fdiv (gi e 3) ((2:Int) ^ (min (Int.toNat (gi v2 0)) 64))) 1))) == 1) (aJ (chk ((decide (0≤(gi e 0)))&&(decide ((gi e 0)<(Int.ofNat 10))))<|chk (oks [li] (cat [[CV.row 1 (gr v2 1),CV.row 4 (gr v2 2)],cis v2 3 50]) (42+((Int.toNat (gi e 0))*1)))<|chk (decide (0≤(gi v2 0)))<|chk ((decide (0≤(gi e 0)))&&(decide ((gi e 0)<(Int.ofNat 10))))<|chk (oks [li] (cat [[CV.row 1 (gr v2 1),CV.row 4 (gr v2 2)],cis v2 3 50]) (42+((Int.toNat (gi e 0))*1)))<|some (.nx ((upB e v2)))) fun v3=>aJ (chk ((decide (0≤(gi v2 0)))&&(decide ((gi v2 0)<(Int.ofNat 10))))<|chk (oks [li] (cat [[CV.row 1 (gr v3 0),CV.row 4 (gr v3 1)],cis v3 2 50]) (42+((Int.toNat (gi v2 0))*1)))<|chk (decide (0≤(gi e 0)))<|chk ((decide (0≤(gi v2 0)))&&(decide ((gi v2 0)<(Int.ofNat 10))))<|chk (oks [li] (cat [[CV.row 1 (gr v3 0),CV.row 4 (gr v3 1)],cis v3 2 50]) (42+((Int.toNat (gi v2 0))*1)))<|some (.nx ((upC e v2 v3)))) fun v4=>some (.nx (cat [[CV.row 1 (gr v4 0),CV.row 4 (gr v4 1)],cis v4 2 50]))) (some (.nx (cat [[CV.row 1 (gr v2 1),CV.row 4 (gr v2 2)],cis v2 3 50])))) fun v3=>some (.nx (cat [[ci (wr ((gi v2 0)+1)),CV.row 1 (gr v3 0),CV.row 4 (gr v3 1)],cis v3 2 50]))) (some (.br 2 (cat [[CV.row 1 (gr v2 1),CV.row 4 (gr v2 2)],cis v2 3 50])))
def PF (a0_1:List (List CV)):List CV→Option Ou:=fun v0=>aB (decide ((gi v0 0)<(il a0_1))) (chk (inb (gi v0 0) a0_1)<|chk (oks (List.replicate 4 li) (el a0_1 (gi v0 0)) 0)<|aJ (chk ((decide (0≤(gi (el a0_1 (gi v0 0)) 0)))&&(decide ((gi (el a0_1 (gi v0 0)) 0)<(Int.ofNat 10))))<|chk (oks (List.replicate 4 li) (cat [[CV.row 1 (gr v0 1),CV.row 4 (gr v0 2)],cis v0 3 50]) (2+((Int.toNat (gi (el a0_1 (gi v0 0)) 0))*4)))<|some (.nx (upA (el a0_1 (gi v0 0)) v0))) fun v1=>cA 2 (aG (ZF (el a0_1 (gi v0 0))) (cat [[ci 0,CV.row 1 (gr v1 0),CV.row 4 (gr v1 1)],cis v1 2 50])) fun v2=>some (.nx (cat [[ci (wr ((gi v0 0)+1)),CV.row 1 (gr v2 0),CV.row 4 (gr v2 1)],cis v2 2 50]))) (some (.br 0 (cat [[CV.row 1 (gr v0 1),CV.row 4 (gr v0 2)],cis v0 3 50])))
def npR (a0_0 a0_1:List (List CV)):Option Ou:=cA 0 (aG (PF a0_1) (ci 0::CV.row 1 a0_0::CV.row 4 a0_1::List.replicate 50 (ci 0))) fun v0=>some (.ret ([CV.ref (cat [[CV.row 1 (gr v0 0),CV.row 4 (gr v0 1)],cis v0 2 50])]))
theorem EF (its:ITS) (n:Nat) (a0_0 a0_1:List (List CV)):D its (n+1) iV [(.row 1 a0_0),(.row 4 a0_1)]=aO (npR a0_0 a0_1):=by kernel_rfl
end
end Go.Proofs.Ytnnifohchhjkhaa
namespace Go.Proofs.Ytnnifohchhjkhaa
open Go Go.Sx
set_option maxRecDepth 100000
set_option maxHeartbeats 0
noncomputable section
def aD9 (q:Int) (v6:List CV):List CV:=[ci (wr ((gi v6 0)+1)),ci (if (decide (0=(0+((Int.toNat q)*1))))=true then wr ((gi (cis v6 1 10) (0+((Int.toNat q)*1)))+1) else gi v6 1),ci (if (decide (1=(0+((Int.toNat q)*1))))=true then wr ((gi (cis v6 1 10) (0+((Int.toNat q)*1)))+1) else gi v6 2),ci (if (decide (2=(0+((Int.toNat q)*1))))=true then wr ((gi (cis v6 1 10) (0+((Int.toNat q)*1)))+1) else gi v6 3),ci (if (decide (3=(0+((Int.toNat q)*1))))=true then wr ((gi (cis v6 1 10) (0+((Int.toNat q)*1)))+1) else gi v6 4),ci (if (decide (4=(0+((Int.toNat q)*1))))=true then wr ((gi (cis v6 1 10) (0+((Int.toNat q)*1)))+1) else gi v6 5),ci (if (decide (5=(0+((Int.toNat q)*1))))=true then wr ((gi (cis v6 1 10) (0+((Int.toNat q)*1)))+1) else gi v6 6),ci (if (decide (6=(0+((Int.toNat q)*1))))=true then wr ((gi (cis v6 1 10) (0+((Int.toNat q)*1)))+1) else gi v6 7),ci (if (decide (7=(0+((Int.toNat q)*1))))=true then wr ((gi (cis v6 1 10) (0+((Int.toNat q)*1)))+1) else gi v6 8),ci (if (decide (8=(0+((Int.toNat q)*1))))=true then wr ((gi (cis v6 1 10) (0+((Int.toNat q)*1)))+1) else gi v6 9),ci (if (decide (9=(0+((Int.toNat q)*1))))=true then wr ((gi (cis v6 1 10) (0+((Int.toNat q)*1)))+1) else gi v6 10)]
def sB (es:List (List CV)):List CV→Option Ou:=fun v6=>aB (decide ((gi v6 0)<(il es))) (chk (inb (gi v6 0) es)<|chk (oks [li] (el es (gi v6 0)) 0)<|chk ((decide (0≤(gi (el es (gi v6 0)) 0)))&&(decide ((gi (el es (gi v6 0)) 0)<(Int.ofNat 10))))<|chk (oks [li] (cis v6 1 10) (0+((Int.toNat (gi (el es (gi v6 0)) 0))*1)))<|chk ((decide (0≤(gi (el es (gi v6 0)) 0)))&&(decide ((gi (el es (gi v6 0)) 0)<(Int.ofNat 10))))<|chk (oks [li] (cis v6 1 10) (0+((Int.toNat (gi (el es (gi v6 0)) 0))*1)))<|some (.nx (aD9 (gi (el es (gi v6 0)) 0) v6))) (some (.br 0 (cis v6 1 10)))
def VL (p:List CV) (a1 es:List (List CV)):List CV→Option Ou:=fun v4=>aB (decide ((gi v4 0)<(il (gr (List.drop 0 (List.drop 0 p)) 0)))) (chk (inb (gi v4 0) (gr (List.drop 0 (List.drop 0 p)) 0))<|chk (oks [li] (el (gr (List.drop 0 (List.drop 0 p)) 0) (gi v4 0)) 0)<|dD (chk (inb 0 es)<|chk (oks [li] (List.getD es 0 []) 0)<|chk (inb (gi (List.getD es 0 []) 0) a1)<|chk (oks [li] (el a1 (gi (List.getD es 0 []) 0)) 0)<|chk ((decide (0≤(gi (el a1 (gi (List.getD es 0 []) 0)) 0)))&&(decide ((gi (el a1 (gi (List.getD es 0 []) 0)) 0)<(Int.ofNat 10))))<|chk (oks [li] (List.drop 1 (List.drop ((Int.toNat (gi (el a1 (gi (List.getD es 0 []) 0)) 0))*4) (List.drop 2 p))) 0)<|some (.ret ([cb (decide ((gi (List.drop 1 (List.drop ((Int.toNat (gi (el a1 (gi (List.getD es 0 []) 0)) 0))*4) (List.drop 2 p))) 0)≤(gi (el (gr (List.drop 0 (List.drop 0 p)) 0) (gi v4 0)) 0)))]))) fun v5=>aB (gb v5 0) (some (.ret [ci (gi v4 0)])) (some (.nx [ci (wr ((gi v4 0)+1))]))) (some (.br 0 []))
def aDp (f:Bool→List CV) (p:List CV) (a1 es:List (List CV)):Option Ou:=aB ((il es) == 1) (chk (oks [.row 1] (List.drop 0 (List.drop 0 p)) 0)<|dD (dD (cA 0 (aG (VL p a1 es) [ci 0]) fun v4=>some (.ret [ci (-1)])) fun v4=>some (.ret [cb (decide ((gi v4 0)≥0))])) fun v4=>some (.ret (f (!(gb v4 0))))) (some (.ret (f false)))
abbrev aGO:=aDp fun b=>[cb b]
def zY (p:List CV) (a1:List (List CV)):List CV→List CV→Option Ou:=fun x3 v3=>dD (aGO p a1 (gr x3 0)) fun v4=>aB (gb v4 0) (some (.ret [ci 1,CV.row 1 (gr x3 0),ci 0])) (some (.nx [ci (gi v3 0),CV.row 1 (gr v3 1),ci (gi v3 2)]))
def VM (p:List CV):List CV→Option Ou:=fun v5=>aB (decide ((gi v5 1)<(il (gr (List.drop 0 (List.drop 0 p)) 0)))) (chk (inb (gi v5 1) (gr (List.drop 0 (List.drop 0 p)) 0))<|chk (oks [li] (el (gr (List.drop 0 (List.drop 0 p)) 0) (gi v5 1)) 0)<|some (.nx [ci (wr ((gi v5 0)+(gi (el (gr (List.drop 0 (List.drop 0 p)) 0) (gi v5 1)) 0))),ci (wr ((gi v5 1)+1))])) (some (.br 0 [ci (gi v5 0)]))
def VN (f:Bool→List CV) (M:Den) (p:List CV) (a1 es:List (List CV)):Option Ou:=chk (oks [.row 1] (List.drop 0 (List.drop 0 p)) 0)<|cA 0 (aG (VM p) [ci 0,ci 0]) fun v5=>MY (fun c6=>M 88 [CV.ref p,CV.row 1 a1,c6,CV.row 1 es]) fun v6=>aC (M 87 [CV.ref p,CV.row 1 (gr v6 0)]) fun v7=>some (.ret (f (decide ((gi v7 0) > (gi v5 0)))))
abbrev aBB:=VN fun b=>[cb b]
def PG (M:Den) (p:List CV) (a1:List (List CV)):List CV→Option Ou:=fun v6=>aB (decide ((gi v6 1)≥0)) (dD (tP (gr v6 0) (some (.ret ([CV.row 1 []]))) (chk (cX 0 (List.length (gr v6 0)) 8)<|some (.ret [CV.row 1 (gr v6 0)]))) fun v7=>aC (M 57 ([CV.row 1 (gr v7 0),CV.fn 3 [],ci (gi v6 1),ci (wr ((gi v6 1)+1))])) fun v8=>chk (xN 1 true v8)<|dD (aBB M p a1 (gr v8 0)) fun v9=>aJ (aB (gb v9 0) (some (.nx [CV.row 1 (gr v8 0)])) (some (.nx [CV.row 1 (gr v6 0)]))) fun v10=>some (.nx [CV.row 1 (gr v10 0),ci (wr ((gi v6 1) - 1))])) (some (.br 0 [CV.row 1 (gr v6 0)]))
def PH (f:Bool→List CV) (M:Den) (p:List CV) (a1 es:List (List CV)) (i:Int):List CV→Option Ou:=fun v9=>aB (decide ((gi v9 0)<(il (List.drop 0 (List.take (Int.toNat i) es))))) (chk (inb (gi v9 0) (List.drop 0 (List.take (Int.toNat i) es)))<|chk (oks [li] (el (List.drop 0 (List.take (Int.toNat i) es)) (gi v9 0)) 0)<|chk (inb (gi (el es i) 0) a1)<|chk (oks [li] (el a1 (gi (el es i) 0)) 0)<|chk (inb (gi (el (List.drop 0 (List.take (Int.toNat i) es)) (gi v9 0)) 0) a1)<|chk (oks [li] (el a1 (gi (el (List.drop 0 (List.take (Int.toNat i) es)) (gi v9 0)) 0)) 0)<|aC (M 89 [CV.ref p,ci (gi (el a1 (gi (el es i) 0)) 0),ci (gi (el a1 (gi (el (List.drop 0 (List.take (Int.toNat i) es)) (gi v9 0)) 0)) 0)]) fun v10=>aB (!(gb v10 0)) (some (.ret (f false))) (some (.nx [ci (wr ((gi v9 0)+1))]))) (some (.br 2 []))
def VO (f:Bool→List CV) (M:Den) (p:List CV) (a1 es:List (List CV)):List CV→Option Ou:=fun v8=>aB (decide ((gi v8 0)<(il es))) (chk (inb (gi v8 0) es)<|chk (oks [li] (el es (gi v8 0)) 0)<|chk (((decide (0≤0))&&(decide (0≤(gi v8 0))))&&(decide ((gi v8 0)≤(il es))))<|cA 2 (aG (PH f M p a1 es (gi v8 0)) [ci 0]) fun v9=>some (.nx [ci (wr ((gi v8 0)+1))])) (some (.br 0 []))
def VP (f:Bool→List CV) (M:Den) (p:List CV) (a1 es:List (List CV)):Option Ou:=cA 0 (aG (VO f M p a1 es) [ci 0]) fun v8=>chk (oks [.row 1] (List.drop 0 (List.drop 0 p)) 0)<|some (.ret (f ((il es) == (wr ((il (gr (List.drop 0 (List.drop 0 p)) 0))+1)))))
abbrev aEa:=VP fun b=>[cb b]
def rG (M:Den) (p:List CV) (a1:List (List CV)):List CV→List CV→Option Ou:=fun x7 v7=>dD (aEa M p a1 (gr x7 0)) fun v8=>aB (gb v8 0) (some (.ret [ci 3,CV.row 1 (gr x7 0),ci 0])) (some (.nx [ci (gi v7 0),CV.row 1 (gr v7 1),ci (gi v7 2)]))
def KT (M:Den) (p:List CV) (a1 es tr:List (List CV)):Option Ou:=MY (fun c11=>M 88 [CV.ref p,CV.row 1 a1,c11,CV.row 1 es]) fun v11=>dD (cA 0 (aG (sB (gr v11 0)) [ci 0,ci 0,ci 0,ci 0,ci 0,ci 0,ci 0,ci 0,ci 0,ci 0,ci 0]) fun v12=>chk (AH [(.int .i64),(.int .i64),(.int .i64),(.int .i64),(.int .i64),(.int .i64),(.int .i64),(.int .i64),(.int .i64),(.int .i64)] .bool tr)<|aJ (aB (!(decide ((bD 10 (cis v12 0 10) tr)<(List.length tr)))) (aC (M 47 [CV.ref p,CV.row 1 (gr v11 0),ci 0]) fun v13=>chk (AH [(.int .i64),(.int .i64),(.int .i64),(.int .i64),(.int .i64),(.int .i64),(.int .i64),(.int .i64),(.int .i64),(.int .i64)] .bool tr)<|some (.nx [cb (gb v13 1),CV.row 11 (mV 10 (cis v12 0 10) (cb (gb v13 1)) tr)])) (some (.nx [cb (cB (bO 10 (cis v12 0 10) (.bool false) tr)),CV.row 11 tr]))) fun v13=>some (.ret [cb (gb v13 0),CV.row 11 (gr v13 1)])) fun v12=>some (.ret [cb (!(gb v12 0)),CV.row 11 (gr v12 1)])
def EG (M:Den) (p:List CV) (a1:List (List CV)):List CV→Option Ou:=fun v8=>aB (decide ((gi v8 1)≥0)) (dD (tP (gr v8 0) (some (.ret ([CV.row 1 []]))) (chk (cX 0 (List.length (gr v8 0)) 8)<|some (.ret [CV.row 1 (gr v8 0)]))) fun v9=>aC (M 57 ([CV.row 1 (gr v9 0),CV.fn 3 [],ci (gi v8 1),ci (wr ((gi v8 1)+1))])) fun v10=>chk (xN 1 true v10)<|dD (KT M p a1 (gr v10 0) (gr v8 2)) fun v11=>aJ (aB (gb v11 0) (some (.nx [CV.row 1 (gr v10 0)])) (some (.nx [CV.row 1 (gr v8 0)]))) fun v12=>some (.nx [CV.row 1 (gr v12 0),ci (wr ((gi v8 1) - 1)),CV.row 11 (gr v11 1)])) (some (.br 0 [CV.row 1 (gr v8 0),CV.row 11 (gr v8 2)]))
def allIn (a1:List (List CV)):List CV→Option Ou:=fun v4=>aB (decide ((gi v4 0)<(il a1))) (chk (cX (List.length (gr v4 1)) 1 8)<|some (.nx ([ci (wr ((gi v4 0)+1)),CV.row 1 ((gr v4 1)++(aS 1 1 [ci (gi v4 0)]))]))) (some (.br 2 [CV.row 1 (gr v4 1)]))
def VQ (M:Den) (a0_0 a0_1 a1:List (List CV)):Option Ou:=aC (M 46 [CV.row 1 a0_0,CV.row 4 a0_1,CV.row 1 a1]) fun v0=>aB ((gi v0 1) != 0) (some (.ret ([ci 0,CV.row 1 [],ci (gi v0 1)]))) (chk (kK (List.getD v0 0 dC))<|dD (cA 0 (aG (sB a1) [ci 0,ci 0,ci 0,ci 0,ci 0,ci 0,ci 0,ci 0,ci 0,ci 0,ci 0]) fun v1=>aJ (aC (M 47 [CV.ref (cF (List.getD v0 0 dC)),CV.row 1 a1,ci 0]) fun v2=>some (.nx ([cb (gb v2 1),CV.row 11 (mV 10 (cis v1 0 10) (cb (gb v2 1)) [])]))) fun v2=>some (.ret [cb (gb v2 0),CV.row 11 (gr v2 1)])) fun v1=>aB (gb v1 0) (some (.ret ([ci 0,CV.row 1 [],ci 3]))) (aC (M 50 [ci (il a1),ci 1]) fun v2=>aJ (brO (jS (CY sg M (List.getD v2 0 dC) (.clo [.one (.row 1)])) (zY (cF (List.getD v0 0 dC)) a1) [ci 0,CV.val (Value.slice none 0 0),ci 0])) fun v3=>cA 2 (aG (allIn a1) ([ci 0,CV.row 1 []])) fun v4=>dD (aBB M (cF (List.getD v0 0 dC)) a1 (gr v4 0)) fun v5=>aB (gb v5 0) (dD (cA 0 (aG (PG M (cF (List.getD v0 0 dC)) a1) [CV.row 1 (gr v4 0),ci (wr ((il (gr v4 0)) - 1))]) fun v6=>some (.ret [CV.row 1 (gr v6 0)])) fun v6=>some (.ret [ci 2,CV.row 1 (gr v6 0),ci 0])) (chk (oks [.row 1] (List.drop 0 (List.drop 0 (cF (List.getD v0 0 dC)))) 0)<|aC (M 50 [ci (il a1),ci (wr ((il (gr (List.drop 0 (List.drop 0 (cF (List.getD v0 0 dC)))) 0))+1))]) fun v6=>aJ (brO (jS (CY sg M (List.getD v6 0 dC) (.clo [.one (.row 1)])) (rG M (cF (List.getD v0 0 dC)) a1) [ci (gi v3 0),CV.row 1 (gr v3 1),ci (gi v3 2)])) fun v7=>dD (cA 0 (aG (EG M (cF (List.getD v0 0 dC)) a1) [CV.row 1 (gr v4 0),ci (wr ((il (gr v4 0)) - 1)),CV.row 11 (gr v1 1)]) fun v8=>some (.ret [CV.row 1 (gr v8 0),CV.row 11 (gr v8 1)])) fun v8=>some (.ret [ci 4,CV.row 1 (gr v8 0),ci 0]))))
theorem KU (its:ITS) (n:Nat) (a b c:List (List CV)):D its (n+1) kX [(.row 1 a),(.row 4 b),(.row 1 c)]=aO (VQ (D its n) a b c):=by kernel_rfl
def aBC (M:Den) (p:List CV) (l:List (List CV)) (k:Int) (tr:List (List CV)) (K:(List (List CV)→Option Ou)→Option Ou):Option Ou:=aC (M 56 ([CV.fn 121 [],CV.fn 51 [],CV.fn 52 [],CV.fn 54 [],CV.fn 55 []])) fun v3=>chk (isW v3)<|chk ((decide (0≤(wr (k - 1))))&&(decide ((wr (k - 1))<4))) <|
 aB ((wr (k - 1)) == 0) (K fun es=>aDp (fun b=>[cb b,CV.row 11 tr]) p l es) (aB ((wr (k - 1)) == 1) (K fun es=>VN (fun b=>[cb b,CV.row 11 tr]) M p l es) (aB ((wr (k - 1)) == 2) (K fun es=>VP (fun b=>[cb b,CV.row 11 tr]) M p l es) (K fun es=>KT M p l es tr)))
def PI (M:Den) (l es:List (List CV)):List CV→Option Ou:=fun v1=>aB (decide ((gi v1 0)<(il es))) (chk (inb (gi v1 0) es)<|chk (oks [li] (el es (gi v1 0)) 0)<|aJ (aC (M 33 [ci (gi (el es (gi v1 0)) 0),ci 0,ci (wr ((il l) - 1))]) fun v2=>aB (!(gb v2 0)) (some (.nx [cb true])) (aB (decide ((gi v1 0) > 0)) (chk (inb (wr ((gi v1 0) - 1)) es)<|chk (oks [li] (el es (wr ((gi v1 0) - 1))) 0)<|some (.nx [cb (decide ((gi (el es (wr ((gi v1 0) - 1))) 0)≥(gi (el es (gi v1 0)) 0)))])) (some (.nx [cb false])))) fun v2=>aB (gb v2 0) (some (.ret [ci 54])) (some (.nx [ci (wr ((gi v1 0)+1))]))) (some (.br 0 []))
def zZ (M:Den) (p:List CV) (l es:List (List CV)) (k:Int):List CV→Option Ou:=fun v4=>aB (decide ((gi v4 0)<(il es))) (aBC M p l k (gr v4 1) fun F=>aC (M 58 [CV.row 1 es]) fun v6=>chk (JP 1 3 v6)<|aC (M 57 ([CV.row 1 (gr v6 0),CV.fn 3 [],ci (gi v4 0),ci (wr ((gi v4 0)+1))])) fun v7=>chk (xN 1 true v7)<|dD (F (gr v7 0)) fun v8=>aB (gb v8 0) (some (.ret [ci 54])) (some (.nx [ci (wr ((gi v4 0)+1)),CV.row 11 (gr v8 1)]))) (some (.br 2 [CV.row 11 (gr v4 1)]))
def aBD (M:Den) (a b l:List (List CV)) (k:Int) (es:List (List CV)):Option Ou:=aC (M 46 [CV.row 1 a,CV.row 4 b,CV.row 1 l]) fun v0 =>
 aB ((gi v0 1) != 0) (some (.ret [ci (gi v0 1)])) (chk (kK (List.getD v0 0 dC))<|cA 0 (aG (PI M l es) [ci 0]) fun v1 =>
  aJ (aC (M 33 [ci k,ci 1,ci 4]) fun v2=>aB (!(gb v2 0)) (some (.nx ([cb true,CV.row 11 []]))) (aB ((il es) == 0) (some (.nx ([cb true,CV.row 11 []])))
   (aBC M (cF (List.getD v0 0 dC)) l k [] fun F=>dD (F es) fun v4=>some (.nx [cb (!(gb v4 0)),CV.row 11 (gr v4 1)])))) fun v2 =>
  aB (gb v2 0) (some (.ret [ci 54])) (aJ (aB (k == 2) (some (.nx [cb true])) (some (.nx [cb (k == 4)]))) fun v3 =>
   aJ (aB (gb v3 0) (cA 2 (aG (zZ M (cF (List.getD v0 0 dC)) l es k) [ci 0,CV.row 11 (gr v2 1)]) fun v4=>some (.nx [CV.row 11 (gr v4 0)])) (some (.nx [CV.row 11 (gr v2 1)]))) fun v4=>some (.ret [ci 0])))
theorem uK (its:ITS) (n:Nat) (a b l:List (List CV)) (k:Int) (es:List (List CV)):D its (n+1) eW [(.row 1 a),(.row 4 b),(.row 1 l),(ci k),(.row 1 es)]=aO (aBD (D its n) a b l k es):=by kernel_rfl
end
end Go.Proofs.Ytnnifohchhjkhaa
namespace Go.Proofs.Ytnnifohchhjkhaa
open Go Go.Sx
set_option maxRecDepth 100000
set_option maxHeartbeats 0
def PJ:Nat→HT
 | 0=>.nil
 | k+1=>.two (.reg [] [0,1,2,3,4] none []) (.two (.two (.reg [] [0,1,2,3,4,14] none []) (.cond none (.two (.reg [] [5] none [(some 17,⟨[],[],[],[]⟩,.yl (.lent 3 1))]) (.nil)) (.nil))) (.two (.two (.reg [] [0,1,3,4,23,24] none []) (.blk ⟨[],[],[(1,22,[.own 1])],[(0,1048576,0,some 0),(1,3,1,none)]⟩ (.lp [] ⟨[0,1,3,4,23],[(24,.lf (Lf.int IntKind.i64))],[(1,22,[.own 1])],[(0,1048576,0,some 0),(1,3,1,none)]⟩ (.two (.reg [] [0,1,3,4,23,24,25] none []) (.two (.cond none (.nil) (.nil)) (.two (.thru (.two (.reg [] [0,1,3,4,6,23,24] none []) (.two (.reg [] [0,1,3,4,23,24] none []) (.two (.reg [] [0,1,3,4,7,23,24] none []) (.two (.two (.reg [] [0,1,3,4,7,9,23,24] none []) (.two (.reg [] [0,1,3,4,7,23,24,43] none []) (.cond (some ⟨[0,1,3,4,23,24],[(7,.lf Lf.bool)],[(1,22,[.own 1])],[(0,1048576,0,some 0),(1,3,1,none)]⟩) (.reg [] [0,1,3,4,7,23,24] none [(some 45,⟨[0,1,3,4,7,23,24],[(45,.lf Lf.bool)],[(1,22,[.own 1])],[(0,1048576,0,some 0),(1,3,1,none)]⟩,PJ k)]) (.nil)))) (.two (.reg [] [0,1,3,4,7,23,24] none []) (.two (.reg [] [0,1,3,4,23,24,52] none []) (.cond none (.two (.reg [] [5] none []) (.nil)) (.nil))))))))) (.reg [] [0,1,3,4,23,24] none []))))))) (.two (.reg [] [5] none []) (.nil))))
def aEb:FE:=⟨12,[],.two (.reg [] [1,2,3] none []) (.two (.reg [] [1,2,3,4] none []) (.two (.reg [] [1,2,3,4,5] none []) (.two (.reg [] [5] none []) (.reg [] [] none [(some 11,⟨[],[(11,.lf Lf.bool)],[(1,22,[.own 1])],[(0,1048576,0,some 0),(1,3,1,none)]⟩,PJ 9)])))),⟨[],[]⟩⟩
section
variable (M:Den) (l:Nat) (lrow:List (List CV)) (p:List CV)
noncomputable def PUT:Nat→List (List CV)→List (List CV)→Option Ou
 | 0,_,_=>none
 | k+1,es,pens=>aB ((il pens) == (il lrow)) (chk (pB pens)<|aC (M 1048576 ([CV.val (.func (.yield l) #[] #[]),CV.fn 3 ([CV.row 1 []]),CV.row 0 es,CV.row 1 pens])) fun v0=>some (.ret [cb (gb v0 0),CV.row 0 (gr v0 1),CV.row 1 pens])) (chk (oks [.row 1] (List.drop 0 (List.drop 0 p)) 0)<|cA 0 (aG (fun v0=>aB (decide ((gi v0 0)<(il (gr (List.drop 0 (List.drop 0 p)) 0)))) (chk (cX (List.length (gr v0 2)) 1 8)<|chk (decide ((il ((gr v0 2)++(aS 1 1 [ci (gi v0 0)])))=(il ((gr v0 2)++(aS 1 1 [ci (gi v0 0)])))))<|chk (((decide (0≤0))&&(decide (0≤(il ((gr v0 2)++(aS 1 1 [ci (gi v0 0)]))))))&&(decide ((il ((gr v0 2)++(aS 1 1 [ci (gi v0 0)])))≤(il lrow))))<|aC (M 48 ([CV.ref p,CV.row 1 (List.drop 0 (List.take (Int.toNat (il ((gr v0 2)++(aS 1 1 [ci (gi v0 0)])))) lrow)),CV.row 1 ((gr v0 2)++(aS 1 1 [ci (gi v0 0)]))])) fun v1=>aJ (aB (gb v1 1) (dD (PUT k (gr v0 1) ((gr v0 2)++(aS 1 1 [ci (gi v0 0)]))) fun v2=>some (.nx [cb (gb v2 0),CV.row 0 (gr v2 1),CV.row 1 (gr v2 2)])) (some (.nx ([cb true,CV.row 0 (gr v0 1),CV.row 1 ((gr v0 2)++(aS 1 1 [ci (gi v0 0)]))])))) fun v2=>chk ((decide (0≤(wr ((il (gr v2 2)) - 1))))&&(decide ((wr ((il (gr v2 2)) - 1))≤(il (gr v2 2)))))<|aB (!(gb v2 0)) (some (.ret [cb false,CV.row 0 (gr v2 1),CV.row 1 (List.take (Int.toNat (wr ((il (gr v2 2)) - 1))) (gr v2 2))])) (some (.nx [ci (wr ((gi v0 0)+1)),CV.row 0 (gr v2 1),CV.row 1 (List.take (Int.toNat (wr ((il (gr v2 2)) - 1))) (gr v2 2))]))) (some (.br 0 [CV.row 0 (gr v0 1),CV.row 1 (gr v0 2)]))) [ci 0,CV.row 0 es,CV.row 1 pens]) fun v0=>some (.ret [cb true,CV.row 0 (gr v0 0),CV.row 1 (gr v0 1)])) 
noncomputable def aEc (dp:Nat) (es:List (List CV)):Option Ou:=
 chk (decide ((0:Int)≤0)&&decide ((0:Int)≤il lrow)&&cX (Int.toNat (il lrow)) 0 8)<|dD (PUT M l lrow p dp es []) fun v=>some (.ret [CV.row 0 (gr v 1)])
end
theorem aGP (M:Den) (l:Nat) (lrow:List (List CV)) (p:List CV) (es:List (List CV)):evY Try.prog sg M 11 aEb (aA Try.f100) l [.ref [.row 1 lrow],.ref [.ref p]] es=aO (aEc M l lrow p 9 es):=by kernel_rfl
end Go.Proofs.Ytnnifohchhjkhaa
namespace Go.Proofs.Ytnnifohchhjkhaa
open Go Go.Sx
set_option maxRecDepth 100000
def plc (ok:List (List CV)→Bool) (n len:Nat):Nat→List (List CV)→List (List (List CV))
 | 0,_=>[]
 | k+1,pens=>if pens.length=len then [pens] else (List.range n).flatMap fun (i:Nat)=>if ok (pens++[[ci (i:Int)]])=true then plc ok n len k (pens++[[ci (i:Int)]]) else []
def iH:List (List CV)→YF→List (List CV)→Option (Bool×List (List CV))
 | [],_,es=>some (true,es)
 | x::r,yf,es=>match yf es x with
  | some (true,es')=>iH r yf es'
  | some (false,es')=>some (false,es')
  | none=>none
theorem yM {yf:YF}:∀ (r1 r2:List (List CV)) (es:List (List CV)),iH (r1++r2) yf es=match iH r1 yf es with
  | some (true,es1)=>iH r2 yf es1
  | o=>o
 | [],r2,es=>rfl
 | x::r1,r2,es=>by
  simp only [List.cons_append,iH]
  cases h:yf es x with
  | none=>rfl
  | some q =>
   obtain ⟨b,es1⟩:=q
   cases b with
   | false=>rfl
   | true=>exact yM r1 r2 es1
theorem KV {yf:YF}:∀ (r:List (List CV)) (es:List (List CV)),mM r yf es=(iH r yf es).map (·.2)
 | [],es=>rfl
 | x::r,es=>by
  simp only [mM,iH]
  cases h:yf es x with
  | none=>rfl
  | some q =>
   obtain ⟨b,es1⟩:=q
   cases b with
   | false=>rfl
   | true=>exact KV r es1
def Ip (pens:List (List CV)):Prop:=∃ l:List Int,pens=l.map fun x=>[ci x]
theorem Ip.nil:Ip []:=⟨[],rfl⟩
theorem Ip.snoc {pens:List (List CV)} (h:Ip pens) (i:Int):Ip (pens++[[ci i]]):=by
 obtain ⟨l,rfl⟩:=h
 exact ⟨l++[i],by simp⟩
theorem aBE {M:Den} {l:Nat} {lrow:List (List CV)} {p:List CV} {yf:YF} {ok:List (List CV)→Bool} {n len:Nat}
  (hy:∀ es x,M ghT (CV.val (.func (.yield l) #[] #[])::CV.fn 3 [.row 1 []]::.row 0 es::x)=match yf es x with
   | some (b,es')=>some [cb b,.row 0 es']
   | none=>none)
  (hf:∀ pens,Ip pens→pens.length≤len→∃ c,M 48 [.ref p,.row 1 (lrow.take pens.length),.row 1 pens]=some [c,cb (ok pens)])
  (hl:lrow.length=len) (hlen:len<1000) (hn:(gr p 0).length=n) (hn2:n<1000000) (hp:oks [.row 1] p 0=true) :
  ∀ (k:Nat) (pens es:List (List CV)) (b:Bool) (es':List (List CV)),pB pens=true→Ip pens→pens.length≤len→iH ((plc ok n len k pens).map fun x=>[.row 1 x]) yf es=some (b,es')→len - pens.length<k →
   PUT M l lrow p k es pens=some (.ret [cb b,.row 0 es',.row 1 pens]):=by
 intro k
 induction k with
 | zero=>intro pens es b es' _ _ _ _ h;omega
 | succ k ih =>
  intro pens es b es' hfl hip hpl hfold hk
  unfold PUT
  by_cases he:pens.length=len
  ·have h1:(il pens == il lrow)=true:=by simp [il,he,hl]
   simp only [plc,if_pos he,List.map_cons,List.map_nil,iH] at hfold
   rw [h1]
   have h2:=hy es [.row 1 pens]
   simp only [aB,hfl,aE]
   rw [show (1048576:Nat)=ghT from rfl,h2]
   cases hyf:yf es [.row 1 pens] with
   | none=>rw [hyf] at hfold;cases hfold
   | some q =>
    obtain ⟨b1,es1⟩:=q
    rw [hyf] at hfold
    cases b1
    ·simp only [Option.some.injEq,Prod.mk.injEq] at hfold
     obtain ⟨rfl,rfl⟩:=hfold
     simp
    ·simp only [Option.some.injEq,Prod.mk.injEq] at hfold
     obtain ⟨rfl,rfl⟩:=hfold
     simp
  ·have h1:(il pens == il lrow)=false:=by simp [il,hl];omega
   simp only [plc,if_neg he] at hfold
   rw [h1]
   dsimp only [aB]
   rw [show oks [.row 1] (List.drop 0 (List.drop 0 p)) 0=true from hp,aE]
   generalize hstep:(fun v0:List CV=>_)=step
   have e0:∀ (i:Nat) (es:List (List CV)),step [ci (i:Int),CV.row 0 es,CV.row 1 pens]=aB (decide ((i:Int)<il (gr p 0)))
     (chk (cX (List.length pens) 1 8)<|chk (decide (il (pens++[[ci (i:Int)]])=il (pens++[[ci (i:Int)]]))) <|
      chk (decide ((0:Int)≤0)&&decide ((0:Int)≤il (pens++[[ci (i:Int)]]))&&decide (il (pens++[[ci (i:Int)]])≤il lrow)) <|
      aC (M 48 [CV.ref p,CV.row 1 (lrow.take (Int.toNat (il (pens++[[ci (i:Int)]])))),CV.row 1 (pens++[[ci (i:Int)]])]) fun v1 =>
      aJ (aB (gb v1 1) (dD (PUT M l lrow p k es (pens++[[ci (i:Int)]])) fun v2=>some (.nx [cb (gb v2 0),CV.row 0 (gr v2 1),CV.row 1 (gr v2 2)])) (some (.nx [cb true,CV.row 0 es,CV.row 1 (pens++[[ci (i:Int)]])])))
       fun v2=>chk (decide (0≤wr (il (gr v2 2) - 1))&&decide (wr (il (gr v2 2) - 1)≤il (gr v2 2))) (aB (!(gb v2 0)) (some (.ret [cb false,CV.row 0 (gr v2 1),CV.row 1 (List.take (Int.toNat (wr (il (gr v2 2) - 1))) (gr v2 2))])) (some (.nx [ci (wr ((i:Int)+1)),CV.row 0 (gr v2 1),CV.row 1 (List.take (Int.toNat (wr (il (gr v2 2) - 1))) (gr v2 2))]))))
     (some (.br 0 [CV.row 0 es,CV.row 1 pens])):=by
    intro i es
    subst hstep
    rfl
   have key:∀ (m i:Nat) (es:List (List CV)) (b:Bool) (es':List (List CV)),i+m=n→iH (((List.range' i m).flatMap fun (i:Nat)=>if ok (pens++[[ci (i:Int)]])=true then plc ok n len k (pens++[[ci (i:Int)]]) else []).map fun x=>[CV.row 1 x]) yf es=some (b,es') →
     aG step [ci i,CV.row 0 es,CV.row 1 pens]=if b=true then some (.br 0 [CV.row 0 es',CV.row 1 pens]) else some (.ret [cb false,CV.row 0 es',CV.row 1 pens]):=by
    intro m
    induction m with
    | zero =>
     intro i es b es' hi hfo
     simp only [List.range'_zero,List.flatMap_nil,List.map_nil,iH,Option.some.injEq,Prod.mk.injEq] at hfo
     obtain ⟨rfl,rfl⟩:=hfo
     refine (bS (r:=some (.br 0 [CV.row 0 es,CV.row 1 pens])) ?_ (by simp)).trans (by simp)
     have:¬((i:Int)<il (gr p 0)):=by rw [xW,hn];omega
     rw [e0,decide_eq_false this]
     rfl
    | succ m ihm =>
     intro i es b es' hi hfo
     have hin:(i:Int)<il (gr p 0):=by rw [xW,hn];omega
     have hpl1:(pens++[[ci (i:Int)]]).length=pens.length+1:=by simp
     have hfl1:pB (pens++[[ci (i:Int)]])=true:=by
      simp only [pB,List.all_append,Bool.and_eq_true] at hfl ⊢
      exact ⟨hfl,by simp [CV.flat,ci]⟩
     obtain ⟨c75,h75⟩:=hf (pens++[[ci (i:Int)]]) (hip.snoc _) (by rw [hpl1];omega)
     rw [hpl1] at h75
     have hch:aS 1 1 [ci (i:Int)]=[[ci (i:Int)]]:=rfl
     have hil:il (pens++[[ci (i:Int)]])=((pens.length+1:Nat):Int):=by simp [il]
     have hwr:wr (il (pens++[[ci (i:Int)]]) - 1)=(pens.length:Int):=by rw [hil,bE] <;> omega
     have htk:List.take (Int.toNat (wr (il (pens++[[ci (i:Int)]]) - 1))) (pens++[[ci (i:Int)]])=pens:=by rw [hwr];simp
     have hwi:wr ((i:Int)+1)=((i+1:Nat):Int):=by rw [bE] <;> omega
     have hfit:cX (List.length pens) 1 8=true:=dZ (by omega) (by omega)
     have hlr:il lrow=(len:Int):=by simp [il,hl]
     simp only [List.range'_succ,List.flatMap_cons,List.map_append,yM] at hfo
     have hst:step [ci i,CV.row 0 es,CV.row 1 pens]=aJ (aB (ok (pens++[[ci (i:Int)]])) (dD (PUT M l lrow p k es (pens++[[ci (i:Int)]])) fun v2=>some (.nx [cb (gb v2 0),CV.row 0 (gr v2 1),CV.row 1 (gr v2 2)])) (some (.nx [cb true,CV.row 0 es,CV.row 1 (pens++[[ci (i:Int)]])])))
       fun v2=>chk (decide (0≤wr (il (gr v2 2) - 1))&&decide (wr (il (gr v2 2) - 1)≤il (gr v2 2))) (aB (!(gb v2 0)) (some (.ret [cb false,CV.row 0 (gr v2 1),CV.row 1 (List.take (Int.toNat (wr (il (gr v2 2) - 1))) (gr v2 2))])) (some (.nx [ci (wr ((i:Int)+1)),CV.row 0 (gr v2 1),CV.row 1 (List.take (Int.toNat (wr (il (gr v2 2) - 1))) (gr v2 2))]))):=by
      have e1:Int.toNat ((pens.length+1:Nat):Int)=pens.length+1:=by omega
      have e2:(decide ((0:Int)≤0)&&decide ((0:Int)≤((pens.length+1:Nat):Int))&&decide (((pens.length+1:Nat):Int)≤(len:Int)))=true:=by
       simp only [Bool.and_eq_true,decide_eq_true_eq];omega
      rw [e0,decide_eq_true hin,hfit,hil,hlr,e1,e2,h75,decide_eq_true (rfl:((pens.length+1:Nat):Int)=((pens.length+1:Nat):Int))]
      rfl
     have fin:∀ (b1:Bool) (es1:List (List CV)),(chk (decide (0≤wr (il (pens++[[ci (i:Int)]]) - 1))&&decide (wr (il (pens++[[ci (i:Int)]]) - 1)≤il (pens++[[ci (i:Int)]]))) (aB (!b1) (some (Ou.ret [cb false,CV.row 0 es1,CV.row 1 (List.take (Int.toNat (wr (il (pens++[[ci (i:Int)]]) - 1))) (pens++[[ci (i:Int)]]))])) (some (.nx [ci (wr ((i:Int)+1)),CV.row 0 es1,CV.row 1 (List.take (Int.toNat (wr (il (pens++[[ci (i:Int)]]) - 1))) (pens++[[ci (i:Int)]]))]))))
       = if b1=true then some (.nx [ci ((i+1:Nat):Int),CV.row 0 es1,CV.row 1 pens]) else some (.ret [cb false,CV.row 0 es1,CV.row 1 pens]):=by
      intro b1 es1
      rw [htk,hwr,hil,hwi]
      have:(decide ((0:Int)≤(pens.length:Int))&&decide ((pens.length:Int)≤((pens.length+1:Nat):Int)))=true:=by simp only [Bool.and_eq_true,decide_eq_true_eq];omega
      rw [this]
      cases b1 <;> simp [aB]
     by_cases hok:ok (pens++[[ci (i:Int)]])=true
     ·rw [if_pos hok] at hfo
      rw [hok] at hst
      cases hsub:iH ((plc ok n len k (pens++[[ci (i:Int)]])).map fun x=>[CV.row 1 x]) yf es with
      | none=>rw [hsub] at hfo;cases hfo
      | some q =>
       obtain ⟨b1,es1⟩:=q
       rw [hsub] at hfo
       have PJ:=ih (pens++[[ci (i:Int)]]) es b1 es1 hfl1 (hip.snoc _) (by rw [hpl1];omega) hsub (by rw [hpl1];omega)
       rw [PJ] at hst
       simp only [aB,bL,cY,dY,bN,cJ] at hst
       have hst2:=hst.trans (fin b1 es1)
       cases b1 with
       | false =>
        simp only [Option.some.injEq,Prod.mk.injEq] at hfo
        obtain ⟨rfl,rfl⟩:=hfo
        exact (bS hst2 (by simp)).trans (by simp)
       | true =>
        simp only at hfo
        rw [eA (by simpa using hst2)]
        exact ihm (i+1) es1 b es' (by omega) hfo
     ·rw [if_neg hok] at hfo
      simp only [List.map_nil,iH] at hfo
      rw [eq_false_of_ne_true hok] at hst
      simp only [aB,cY,dY,bN,cJ] at hst
      have hst2:=hst.trans (fin true es)
      rw [eA (by simpa using hst2)]
      exact ihm (i+1) es b es' (by omega) hfo
   have h0:=key n 0 es b es' (by omega) (by rw [← List.range_eq_range'];exact hfold)
   rw [show (ci 0:CV)=ci ((0:Nat):Int) from rfl,h0]
   cases b <;> simp
end Go.Proofs.Ytnnifohchhjkhaa
namespace Go.Proofs.Ytnnifohchhjkhaa
open Go Go.Sx
set_option maxRecDepth 100000
theorem aBF {M:Den} (hM:∀ [Ghost],Fns Try.prog sg M) (hg:sg ghT=none) (hMg:∀ vs,M ghT vs=none) {lrow:List (List CV)} {p:List CV} {ok:List (List CV)→Bool} {n len:Nat}
  (hf:∀ pens,Ip pens→pens.length≤len→∃ c,M 48 [.ref p,.row 1 (lrow.take pens.length),.row 1 pens]=some [c,cb (ok pens)])
  (hl:lrow.length=len) (hlen:len<9) (hn:(gr p 0).length=n) (hn2:n<1000000) (hp:oks [.row 1] p 0=true) :
  sQ Try.prog 100 [.ref [.row 1 lrow],.ref [.ref p]] (.lent 3 1) (mM ((plc ok n len 9 []).map fun x=>[.row 1 x])):=by
 refine NP (fn:=Try.f100) (c:=aA Try.f100) (fe:=aEb) (dp:=11) hM hg hMg (by kernel_rfl) (by kernel_rfl) (by kernel_rfl) (by kernel_rfl) ?_
 intro l yf es es' hR
 rw [aGP]
 rw [KV] at hR
 simp only [Option.map_eq_some_iff] at hR
 obtain ⟨⟨b,e1⟩,hR,rfl⟩:=hR
 have PJ:=aBE (M:=withY M l (.lent 3 1) yf) (l:=l) (lrow:=lrow) (p:=p) (yf:=yf) (ok:=ok) (n:=n) (len:=len)
  (fun es x=>by
   simp only [withY,if_true,shC,and_self]
   cases yf es x with
   | none=>rfl
   | some q=>obtain ⟨b,e⟩:=q;rfl)
  (fun pens hip hpl=>by
   obtain ⟨c,h⟩:=hf pens hip hpl
   exact ⟨c,by unfold withY;rw [if_neg (by decide)];exact h⟩) hl (by omega) hn hn2 hp 9 [] es b e1 rfl Ip.nil (Nat.zero_le _) hR (by simp;omega)
 have hfit:cX (Int.toNat (il lrow)) 0 8=true:=dZ (by rw [xW,hl];omega) (by rw [xW,hl];omega)
 have h0:(decide ((0:Int)≤0)&&decide ((0:Int)≤il lrow)&&cX (Int.toNat (il lrow)) 0 8)=true:=by
  rw [hfit];simp [xW]
 unfold aEc
 rw [h0,aE,PJ]
 simp
end Go.Proofs.Ytnnifohchhjkhaa
namespace Go.Proofs.Ytnnifohchhjkhaa
open Go Go.Sx
set_option maxRecDepth 100000
set_option maxHeartbeats 0
def AA:Nat→Nat→HT
 | 0,_=>.nil
 | k+1,j=>.two (.reg [] [0,1,2,3,4,5] none []) (.two (.two (.reg [] [0,1,3,4,5,13] none []) (.cond none (.two (.reg [] [8] none [(some 16,⟨[],[],[],[]⟩,.yl (.clo [.one (Lf.row 1)]))]) (.nil)) (.nil))) (.two (.two (.reg [] [0,4,5,9] none []) (.blk ⟨[],[],[],[(0,1048576,0,some 0)]⟩ (.lp [] ⟨[0,4,5],[(9,.lf (Lf.int IntKind.i64))],[],[(0,1048576,0,some 0)]⟩ (.two (.two (.reg [] [0,4,5,9,20] none []) (.cond none (.nil) (.nil))) (.two (.thru (.two (.reg [] [0,4,5,9,32] none [(some 31,⟨[0,4,5,9],[(31,.lf Lf.bool)],[],[(0,1048576,0,some 0)]⟩,(.pre [.fz j] (AA k (j+1))))]) (.cond none (.two (.reg [] [8] none []) (.nil)) (.nil)))) (.reg [] [0,4,5,9] none [])))))) (.two (.reg [] [8] none []) (.nil))))
def VR:FE:=⟨8,[],.two (.reg [] [1,2,3] none []) (.two (.reg [] [1,2,3,4] none []) (.two (.reg [] [4] none []) (.reg [] [] none [(some 7,⟨[],[(7,.lf Lf.bool)],[],[(0,1048576,0,some 0)]⟩,AA 10 1)]))),⟨[],[]⟩⟩
section
variable (M:Den) (l:Nat) (many n:Int)
noncomputable def IA (G:List (List CV)→List (List CV)→Int→Option Ou) (c:CV) (len:Int) (es:List (List CV)) (frm:Int):Option Ou:=
 aB (len == many)
     (aC (M ghT ([CV.val (.func (.yield l) #[] #[]),CV.row 0 [[CV.row 1 []]],CV.row 0 es,c])) fun v0 =>
     some (.ret [cb (gb v0 0),CV.row 0 (gr v0 1)]))
     (cA 0 (aG (fun v0 =>
       aB (decide ((gi v0 0)<n))
        (aC (M 58 [c]) fun v1 =>
        chk (JP 1 3 v1) <|
        chk (cX (List.length (gr v1 0)) 1 8) <|
        dD (G (gr v0 1) ((gr v1 0)++(aS 1 1 [ci (gi v0 0)])) (wr ((gi v0 0)+1))) fun v2 =>
        aB (!(gb v2 0))
         (some (.ret [cb false,CV.row 0 (gr v2 1)]))
         (some (.nx [ci (wr ((gi v0 0)+1)),CV.row 0 (gr v2 1)])))
        (some (.br 0 [CV.row 0 (gr v0 1)]))) [ci frm,CV.row 0 es]) fun v0 =>
     some (.ret [cb true,CV.row 0 (gr v0 0)]))
noncomputable def ZG:Nat→List (List CV)→List (List CV)→Int→Option Ou
 | 0,_,_,_=>none
 | k+1,es,lst,frm=>IA M l many n (ZG k) (.row 1 lst) (il lst) es frm
noncomputable def VS (es:List (List CV)):Option Ou:=
 dD (IA M l many n (ZG M l many n 9) (.val (.slice none 0 0)) 0 es 0) fun v=>some (.ret [CV.row 0 (gr v 1)])
end
theorem aDq (M:Den) (l:Nat) (many n:Int) (es:List (List CV)):evY Try.prog sg M 12 VR (aA Try.f84) l [.ref [ci many],.ref [ci n]] es=aO (VS M l many n es):=by kernel_rfl
end Go.Proofs.Ytnnifohchhjkhaa
namespace Go.Proofs.Ytnnifohchhjkhaa
open Go Go.Sx
set_option maxRecDepth 100000
def FV (n many:Nat):Nat→List (List CV)→Nat→List (List (List CV))
 | 0,_,_=>[]
 | k+1,lst,frm=>if lst.length=many then [lst] else (List.range' frm (n - frm)).flatMap fun (i:Nat)=>FV n many k (lst++[[ci (i:Int)]]) (i+1)
theorem EH {M:Den} {l:Nat} {n many:Nat} {yf:YF}
  (hy:∀ es x,M ghT (CV.val (.func (.yield l) #[] #[])::CV.row 0 [[CV.row 1 []]]::.row 0 es::x)=match yf es x with
   | some (b,es')=>some [cb b,.row 0 es']
   | none=>none)
  (hn:n<1000) {G:List (List CV)→List (List CV)→Int→Option Ou} {R:Nat→List (List CV)} {c:CV} {lst:List (List CV)} (hc:M 58 [c]=some [.row 1 lst,.fn 3 []]) (hlst:lst.length<1000) (hm:lst.length≤many)
  {frm:Nat} (hG:lst.length≠many→∀ (i:Nat) es b es',frm≤i→i<n→iH (R i) yf es=some (b,es')→G es (lst++[[ci (i:Int)]]) ((i+1:Nat):Int)=some (.ret [cb b,.row 0 es']))
  {es es':List (List CV)} {b:Bool} (hfold:iH (if lst.length=many then [[c]] else (List.range' frm (n - frm)).flatMap R) yf es=some (b,es')) :
  IA M l (many:Int) (n:Int) G c (lst.length:Int) es (frm:Int)=some (.ret [cb b,.row 0 es']):=by
 unfold IA
 by_cases he:lst.length=many
 ·rw [if_pos he] at hfold
  have h1:((lst.length:Int) == (many:Int))=true:=by simp [he]
  rw [h1]
  simp only [iH] at hfold
  simp only [aB,hy es [c]]
  cases hyf:yf es [c] with
  | none=>rw [hyf] at hfold;cases hfold
  | some q =>
   obtain ⟨b1,es1⟩:=q
   rw [hyf] at hfold
   cases b1 <;> (simp only [Option.some.injEq,Prod.mk.injEq] at hfold;obtain ⟨rfl,rfl⟩:=hfold;simp)
 ·rw [if_neg he] at hfold
  have h1:((lst.length:Int) == (many:Int))=false:=by simp;omega
  rw [h1]
  dsimp only [aB]
  generalize hstep:(fun v0:List CV=>_)=step
  have e0:∀ (i:Nat) (es:List (List CV)),step [ci (i:Int),CV.row 0 es]=aB (decide ((i:Int)<(n:Int)))
    (aC (M 58 [c]) fun v1=>chk (JP 1 3 v1)<|chk (cX (List.length (gr v1 0)) 1 8) <|
     dD (G es ((gr v1 0)++[[ci (i:Int)]]) (wr ((i:Int)+1))) fun v2=>aB (!(gb v2 0)) (some (.ret [cb false,CV.row 0 (gr v2 1)])) (some (.nx [ci (wr ((i:Int)+1)),CV.row 0 (gr v2 1)])))
    (some (.br 0 [CV.row 0 es])):=by
   intro i es
   subst hstep
   rfl
  have hfit:cX (List.length (gr [CV.row 1 lst,CV.fn 3 []] 0)) 1 8=true:=by rw [bN];exact dZ (by omega) (by omega)
  have key:∀ (m i:Nat) (es:List (List CV)) (b:Bool) (es':List (List CV)),frm≤i→n - i=m→iH ((List.range' i m).flatMap R) yf es=some (b,es') →
    aG step [ci (i:Int),CV.row 0 es]=if b=true then some (.br 0 [CV.row 0 es']) else some (.ret [cb false,CV.row 0 es']):=by
   intro m
   induction m with
   | zero =>
    intro i es b es' hfi hi hfo
    simp only [List.range'_zero,List.flatMap_nil,iH,Option.some.injEq,Prod.mk.injEq] at hfo
    obtain ⟨rfl,rfl⟩:=hfo
    refine (bS (r:=some (.br 0 [CV.row 0 es])) ?_ (by simp)).trans (by simp)
    have:¬((i:Int)<(n:Int)):=by omega
    rw [e0,decide_eq_false this]
    rfl
   | succ m ihm =>
    intro i es b es' hfi hi hfo
    have hin:(i:Int)<(n:Int):=by omega
    have hwi:wr ((i:Int)+1)=((i+1:Nat):Int):=by rw [bE] <;> omega
    simp only [List.range'_succ,List.flatMap_cons,yM] at hfo
    have hst:=e0 i es
    rw [decide_eq_true hin,hc] at hst
    dsimp only [aB] at hst
    rw [aD,show JP 1 3 [CV.row 1 lst,CV.fn 3 []]=true from rfl,aE,hfit,aE,bN,hwi] at hst
    cases hsub:iH (R i) yf es with
    | none=>rw [hsub] at hfo;cases hfo
    | some q =>
     obtain ⟨b1,es1⟩:=q
     rw [hsub] at hfo
     rw [hG he i es b1 es1 hfi (by omega) hsub,bL,cY,dY,bN] at hst
     cases b1 with
     | false =>
      simp only [Option.some.injEq,Prod.mk.injEq] at hfo
      obtain ⟨rfl,rfl⟩:=hfo
      exact (bS hst (by simp)).trans (by simp)
     | true =>
      rw [eA (by simpa using hst)]
      exact ihm (i+1) es1 b es' (by omega) (by omega) hfo
  rw [key (n - frm) frm es b es' (Nat.le_refl _) rfl hfold]
  cases b <;> simp
end Go.Proofs.Ytnnifohchhjkhaa
namespace Go.Proofs.Ytnnifohchhjkhaa
open Go Go.Sx
set_option maxRecDepth 100000
theorem PK (n many k:Nat) (lst:List (List CV)) (frm:Nat):FV n many (k+1) lst frm=if lst.length=many then [lst] else (List.range' frm (n - frm)).flatMap fun (i:Nat)=>FV n many k (lst++[[ci (i:Int)]]) (i+1):=rfl
theorem IB {M:Den} {l:Nat} {n many:Nat} {yf:YF}
  (hy:∀ es x,M ghT (CV.val (.func (.yield l) #[] #[])::CV.row 0 [[CV.row 1 []]]::.row 0 es::x)=match yf es x with
   | some (b,es')=>some [cb b,.row 0 es']
   | none=>none)
  (hn:n<1000) (hmany:many<1000) (hc:∀ lst:List (List CV),lst.length<1000→M 58 [.row 1 lst]=some [.row 1 lst,.fn 3 []]) :
  ∀ (k:Nat) (lst:List (List CV)) (frm:Nat) (es:List (List CV)) (b:Bool) (es':List (List CV)),lst.length≤many→n - frm<k→iH ((FV n many k lst frm).map fun x=>[CV.row 1 x]) yf es=some (b,es') →
   ZG M l (many:Int) (n:Int) k es lst (frm:Int)=some (.ret [cb b,.row 0 es'])
 | 0,_,_,_,_,_,_,h,_=>by omega
 | k+1,lst,frm,es,b,es',hm,hk,hfold=>by
  show IA M l many n (ZG M l many n k) (.row 1 lst) (il lst) es frm=_
  rw [xW]
  refine EH (R:=fun i=>(FV n many k (lst++[[ci (i:Int)]]) (i+1)).map fun x=>[CV.row 1 x]) hy hn (hc lst (by omega)) (by omega) hm ?_ ?_
  ·intro hne i es b es' hfi hi hf
   exact IB hy hn hmany hc k (lst++[[ci (i:Int)]]) (i+1) es b es' (by simp;omega) (by omega) hf
  ·simp only [FV] at hfold
   split at hfold
   ·rename_i he;rw [if_pos he];simpa using hfold
   ·rename_i he;rw [if_neg he];simpa [List.map_flatMap] using hfold
theorem TE {M:Den} (hM:∀ [Ghost],Fns Try.prog sg M) (hg:sg ghT=none) (hMg:∀ vs,M ghT vs=none) {n many:Nat} (hn:n<9) (hm0:0<many) (hmany:many<1000)
  (hc:∀ lst:List (List CV),lst.length<1000→M 58 [.row 1 lst]=some [.row 1 lst,.fn 3 []]) (hc0:M 58 [.val (.slice none 0 0)]=some [.row 1 [],.fn 3 []]) :
  sQ Try.prog 84 [.ref [ci (many:Int)],.ref [ci (n:Int)]] (.clo [.one (.row 1)]) (mM ((FV n many 10 [] 0).map fun x=>[.row 1 x])):=by
 refine NP (fn:=Try.f84) (c:=aA Try.f84) (fe:=VR) (dp:=12) hM hg hMg (by kernel_rfl) (by kernel_rfl) (by kernel_rfl) (by kernel_rfl) ?_
 intro l yf es es' hR
 rw [aDq]
 rw [KV] at hR
 simp only [Option.map_eq_some_iff] at hR
 obtain ⟨⟨b,e1⟩,hR,rfl⟩:=hR
 have hy:∀ es x,withY M l (.clo [.one (.row 1)]) yf ghT (CV.val (.func (.yield l) #[] #[])::CV.row 0 [[CV.row 1 []]]::.row 0 es::x)=match yf es x with
   | some (b,es')=>some [cb b,.row 0 es']
   | none=>none:=fun es x=>by
  simp only [withY,if_true,shC,scC,lfC,List.map_cons,List.map_nil,and_self]
  cases yf es x with
  | none=>rfl
  | some q=>obtain ⟨b,e⟩:=q;rfl
 have h58:∀ vs,withY M l (.clo [.one (.row 1)]) yf 58 vs=M 58 vs:=fun vs=>by unfold withY;rw [if_neg (by decide)]
 have hne:¬(([]:List (List CV)).length=many):=by simp;omega
 have hstep:=EH (M:=withY M l (.clo [.one (.row 1)]) yf) (l:=l) (n:=n) (many:=many) (yf:=yf) (G:=ZG (withY M l (.clo [.one (.row 1)]) yf) l many n 9) (c:=.val (.slice none 0 0)) (lst:=[]) (frm:=0) (es:=es) (es':=e1) (b:=b)
  (R:=fun i=>(FV n many 9 ([]++[[ci (i:Int)]]) (i+1)).map fun x=>[CV.row 1 x]) hy (by omega) (by rw [h58];exact hc0) (by simp) (by simp)
  (fun _ i es b es' _ hi hf=>IB hy (by omega) hmany (fun lst hl=>by rw [h58];exact hc lst hl) 9 ([]++[[ci (i:Int)]]) (i+1) es b es' (by simp;omega) (by omega) hf)
  (by rw [if_neg hne];rw [PK,if_neg hne,List.map_flatMap] at hR;exact hR)
 unfold VS
 rw [show IA (withY M l (.clo [.one (.row 1)]) yf) l (many:Int) (n:Int) (ZG (withY M l (.clo [.one (.row 1)]) yf) l many n 9) (.val (.slice none 0 0)) 0 es 0=some (.ret [cb b,.row 0 e1]) from hstep]
 simp
end Go.Proofs.Ytnnifohchhjkhaa
namespace Go.Proofs.Ytnnifohchhjkhaa
open Go Go.Sx
set_option maxRecDepth 100000
theorem aDr (M:Den) (lst:List (List CV)):aCX Try.prog (fun _=>none) M aEQ (aA Try.f58) [.row 1 lst]=aO (tP lst (some (.ret [.row 1 [],.fn 3 []])) (chk (cX 0 (List.length lst) 8)<|some (.ret [.row 1 lst,.fn 3 []]))):=by kernel_rfl
theorem TF (M:Den) {lst:List (List CV)} (h:lst.length<1000000):aCX Try.prog (fun _=>none) M aEQ (aA Try.f58) [.row 1 lst]=some [.row 1 lst,.fn 3 []]:=by
 rw [aDr,aEJ (dZ (by omega) (by omega)),UQ]
 ·rfl
 ·rintro rfl;rfl
end Go.Proofs.Ytnnifohchhjkhaa
namespace Go.Proofs.Ytnnifohchhjkhaa
open Go Go.Sx
set_option maxRecDepth 100000
noncomputable section
variable [G:Ghost]
def lB:List CV→Option (List CV)
 | [.row 1 lst]=>if lst.length<1000000 then some [.row 1 lst,.fn 3 []] else none
 | [.val (.slice none 0 0)]=>some [.row 1 [],.fn 3 []]
 | _=>none
theorem EI {lst:List (List CV)} (h:lst.length<1000000):sP Try.prog 58 [.cv (.row 1 lst)] 3 1 lst:=
 RW (fe:=aEQ) (c:=aA Try.f58) (fn:=Try.f58) (vs:=[.row 1 lst]) (Fns.none' _) (Yls.none (fun _=>rfl)) (Its.none' _) (by kernel_rfl) (by kernel_rfl) (by kernel_rfl) (by kernel_rfl) (TF (fun _ _=>none) h)
theorem PM:sP Try.prog 58 [.cv (.val (.slice none 0 0))] 3 1 []:=by
 have h:=EI (lst:=[]) (by decide)
 intro F n hF hro n0 w0 e w vs he hm hv hs
 refine h F n hF hro n0 w0 e w vs he hm ?_ hs
 match vs,hv with
 | vs,hv =>
  generalize vs.toList=us at hv ⊢
  match us,hv with
  | [u],hv =>
   simp only [AV.all,AV.holds,CV.holds,and_true] at hv ⊢
   exact ⟨none,0,hv.1,Nat.le_refl _,by decide,Or.inl trivial⟩
def PN:ITS:=[(58,lB)]
def KW (f:Nat) (it:List CV→Option (List CV)):Prop:=∀ caps out,it caps=some out →
 (∀ rows sh,out=[.row 0 rows,shC sh]→dM Try.prog f=true∧sQ Try.prog f caps sh (mM rows)) ∧
 (∀ xs,intsOf out=some xs→dM Try.prog f=true∧NN Try.prog f caps xs) ∧
 (∀ k es T,out=[.row k es,.fn T []]→dM Try.prog f=true∧sP Try.prog f (caps.map .cv) T k es) ∧
 (∀ T k cs es es' hdr,caps=.row k es::.fn T []::cs→out=[.row k es',.val (.bool hdr)]→dM Try.prog f=true∧QU Try.prog f T k cs es es' hdr) ∧
 (∀ k T by_,caps=[]→out=[.row k [],.fn T [],.fn by_ []]→dM Try.prog f=true∧aCy Try.prog f T k by_) ∧
 (∀ T fs,caps=.fn T []::fs.map (fun g=>.fn g [])→out=[.fn 0 []]→dM Try.prog f=true∧QV Try.prog f T fs)
theorem aBG {f:Nat} {it:List CV→Option (List CV)} (h:∀ caps out,it caps=some out→caps≠[]∧∃ es,out=[.row 1 es,.fn 3 []]∧dM Try.prog f=true∧sP Try.prog f (caps.map .cv) 3 1 es):KW f it:=by
 intro caps out ho
 obtain ⟨hc,es,rfl,he,hs⟩:=h caps out ho
 refine ⟨fun rows sh hr=>by simp at hr,fun xs hx=>by simp [intsOf] at hx,fun k es' T hr=>?_,fun T k cs e e' hdr h1 h2=>by simp at h2,fun k T b h1=>absurd h1 hc,fun T fs h1 h2=>by simp at h2⟩
 simp only [List.cons.injEq,CV.row.injEq,CV.fn.injEq,and_true] at hr
 obtain ⟨⟨rfl,rfl⟩,rfl⟩:=hr
 exact ⟨he,hs⟩
theorem IC:KW 58 lB:=aBG fun caps out h=>by
 unfold lB at h
 split at h
 ·split at h
  ·rename_i lst hl
   cases h
   exact ⟨by simp,lst,rfl,by kernel_rfl,EI hl⟩
  ·cases h
 ·cases h
  exact ⟨by simp,[],rfl,by kernel_rfl,PM⟩
 ·cases h
theorem aDs:UO Try.prog PN:=by
 intro e he
 simp only [PN,List.mem_singleton] at he
 subst he
 exact IC
theorem PO (n:Nat):Fns Try.prog sg (D PN n):=UP aDs (by constructor <;> kernel_rfl) aD4 n
end
noncomputable section
theorem aBH (n:Nat) {lst:List (List CV)} (h:lst.length<1000000):D PN (n+1) 58 [.row 1 lst]=some [.row 1 lst,.fn 3 []]:=by
 show lB [.row 1 lst]=_
 simp [lB,h]
theorem ZH (n:Nat):D PN (n+1) 58 [.val (.slice none 0 0)]=some [.row 1 [],.fn 3 []]:=rfl
theorem aEd (n:Nat) (vs:List CV):D PN n ghT vs=none:=aA6 (by constructor <;> kernel_rfl) n vs
end
end Go.Proofs.Ytnnifohchhjkhaa
namespace Go.Proofs.Ytnnifohchhjkhaa
open Go Go.Sx Go.Pen
set_option maxRecDepth 100000
theorem aE3 (i:Int) (a b:List (List CV)) (f:Nat→Int) (k:Kd):upA k.cv (ci i::.row 1 a::.row 4 b::st f)=.row 1 a::.row 4 b::st (SE f k.sort k.room k.eats k.apart):=by kernel_rfl
theorem aE4 (s:Int) (a b:List (List CV)) (f:Nat→Int) (k:Kd):upB k.cv (ci s::.row 1 a::.row 4 b::st f)=.row 1 a::.row 4 b::st (SF f k.sort.toNat (orI (gi (.row 1 a::.row 4 b::st f) (42+k.sort.toNat*1)) s.toNat)):=by kernel_rfl
theorem aE5 (s:Int) (x:List CV) (a b:List (List CV)) (f:Nat→Int) (k:Kd):upC k.cv (ci s::x) (.row 1 a::.row 4 b::st f)=.row 1 a::.row 4 b::st (SF f s.toNat (orI (gi (.row 1 a::.row 4 b::st f) (42+s.toNat*1)) k.sort.toNat)):=by kernel_rfl
theorem BM (s:Int) (a b:List (List CV)) (f:Nat→Int):cat [[CV.row 1 (gr (ci s::.row 1 a::.row 4 b::st f) 1),CV.row 4 (gr (ci s::.row 1 a::.row 4 b::st f) 2)],cis (ci s::.row 1 a::.row 4 b::st f) 3 50]=.row 1 a::.row 4 b::st f:=by kernel_rfl
theorem KX (a b:List (List CV)) (f:Nat→Int):cat [[CV.row 1 (gr (.row 1 a::.row 4 b::st f) 0),CV.row 4 (gr (.row 1 a::.row 4 b::st f) 1)],cis (.row 1 a::.row 4 b::st f) 2 50]=.row 1 a::.row 4 b::st f:=by kernel_rfl
theorem aBI (f:Nat→Int) {j:Nat} (h:j<50):(st f)[j]? = some (ci (f j)):=by simp [st,h]
theorem aEe (a b:List (List CV)) (f:Nat→Int) {m:Nat} (h:m<10):gi (.row 1 a::.row 4 b::st f) (42+m*1)=f (40+m):=by
 have e:42+m*1=(40+m)+1+1:=by omega
 rw [e,dE,dE,gi,List.getD_eq_getElem?_getD,aBI f (by omega)]
 rfl
theorem aDt (f:Nat→Int):kE (st f)=true:=by simp [kE,st,HD]
theorem TG (a b:List (List CV)) (f:Nat→Int) {m n:Nat} (h:m+n≤50):oks (List.replicate n li) (.row 1 a::.row 4 b::st f) (2+m)=true:=by
 rw [show 2+m=m+1+1 by omega,vM,vM]
 exact nM (aDt f) (by simp [st];omega)
theorem KY (a b:List (List CV)) (f:Nat→Int) {m:Nat} (h:m<10):oks [li] (.row 1 a::.row 4 b::st f) (42+m*1)=true:=by
 have:=TG a b f (m:=40+m) (n:=1) (by omega)
 rw [show 2+(40+m)=42+m*1 by omega] at this
 exact this
theorem ZI (k:Kd) (hk:k.ok=true) (a b:List (List CV)) (f:Nat→Int) {s:Nat} (hs:s<10) :
  ZF k.cv (ci (s:Int)::.row 1 a::.row 4 b::st f)=some (.nx (ci ((s+1:Nat):Int)::.row 1 a::.row 4 b::st (inner k f s))):=by
 unfold Kd.ok within at hk
 simp only [Bool.and_eq_true,decide_eq_true_eq] at hk
 obtain ⟨⟨⟨⟨⟨h1,h2⟩,h3,h4⟩,h5,h6⟩,h7,h8⟩,h9⟩:=hk
 have hm:k.sort.toNat<10:=by omega
 have e1:gi k.cv 0=k.sort:=rfl
 have e3:gi k.cv 3=k.apart:=rfl
 have hw:=aQ (show s<9223372036854775807 by omega)
 have hb:((wr (Int.ofNat (bAN (Int.fdiv k.apart ((2:Int) ^ (min s 64))) 1))) == 1)=bit k.apart s:=by
  have:k.apart=((k.apart.toNat:Nat):Int):=by omega
  rw [this,OA _ _ (by omega)]
  rfl
 have hc1:decide (k.sort<Int.ofNat 10)=true:=by simp only [decide_eq_true_eq];show k.sort<10;omega
 have hc2:decide ((s:Int)<Int.ofNat 10)=true:=by simp only [decide_eq_true_eq];show (s:Int)<10;omega
 have hc3:decide ((0:Int)≤(s:Int))=true:=by simp
 have hc4:decide ((0:Int)≤k.sort)=true:=by simp;omega
 have hlt:decide ((s:Int)<10)=true:=by simp;omega
 unfold ZF
 rw [aZ,hlt]
 simp only [BM,aE4,e1,e3,Int.toNat_natCast,hb,hc1,hc2,hc3,hc4,Bool.and_self,aE,KY a b _ hm,KY a b _ hs,hw,aEe a b _ hm]
 cases hbb:bit k.apart s with
 | false =>
  simp only [aB,cJ,KX,inner,hbb,Bool.false_eq_true,if_false]
  rfl
 | true =>
  simp only [aB,cJ,KX,aE5,inner,hbb,KY a b _ hs,aE,Int.toNat_natCast,aEe a b _ hs,if_true]
  rfl
end Go.Proofs.Ytnnifohchhjkhaa
namespace Go.Proofs.Ytnnifohchhjkhaa
open Go Go.Sx Go.Pen
set_option maxRecDepth 100000
theorem aDu (x:CV) (a b:List (List CV)) (f:Nat→Int):cat [[x,CV.row 1 (gr (.row 1 a::.row 4 b::st f) 0),CV.row 4 (gr (.row 1 a::.row 4 b::st f) 1)],cis (.row 1 a::.row 4 b::st f) 2 50]=x::.row 1 a::.row 4 b::st f:=by kernel_rfl
theorem aBJ (k:Kd) (a b:List (List CV)) (f:Nat→Int):ZF k.cv (ci ((10:Nat):Int)::.row 1 a::.row 4 b::st f)=some (.br 2 (.row 1 a::.row 4 b::st f)):=by
 unfold ZF
 rw [aZ,show decide (((10:Nat):Int)<10)=false by decide]
 simp only [aB,BM]
theorem ZJ (k:Kd) (hk:k.ok=true) (a b:List (List CV)) (f:Nat→Int) :
  aG (ZF k.cv) (ci 0::.row 1 a::.row 4 b::st f)=some (.br 2 (.row 1 a::.row 4 b::st ((List.range 10).foldl (inner k) f))):=by
 rw [jG (List.range 10) (fun i f=>ci (i:Int)::.row 1 a::.row 4 b::st f) (inner k) 2 (fun f=>.row 1 a::.row 4 b::st f) f ?hv ?hs ?he]
 case hv=>rfl
 case hs =>
  intro i h f
  rw [List.getElem_range]
  exact ZI k hk a b f (by simpa using h)
 case he =>
  intro f
  rw [List.length_range]
  exact aBJ k a b f
theorem TH (y:Yard) (hk:∀ k∈y.kinds,k.ok=true) (a b:List (List CV)) (f:Nat→Int) {i:Nat} (hi:i<y.kinds.length) (hl:y.kinds.length<1000) :
  PF y.ks (ci (i:Int)::.row 1 a::.row 4 b::st f)=some (.nx (ci ((i+1:Nat):Int)::.row 1 a::.row 4 b::st (HM f y.kinds[i]))):=by
 have hk1:=hk _ (List.getElem_mem hi)
 have hk2:=hk1
 unfold Kd.ok within at hk1
 simp only [Bool.and_eq_true,decide_eq_true_eq] at hk1
 obtain ⟨⟨⟨⟨⟨h1,h2⟩,h3,h4⟩,h5,h6⟩,h7,h8⟩,h9⟩:=hk1
 have hlt:decide ((i:Int)<(y.kinds.length:Int))=true:=by simp;omega
 have hc1:decide (y.kinds[i].sort<Int.ofNat 10)=true:=by simp only [decide_eq_true_eq];show y.kinds[i].sort<10;omega
 have hc2:decide ((0:Int)≤y.kinds[i].sort)=true:=by simp;omega
 have hw:=aQ (show i<9223372036854775807 by omega)
 have e0:gi y.kinds[i].cv 0=y.kinds[i].sort:=rfl
 have e1:oks (List.replicate 4 li) y.kinds[i].cv 0=true:=nM (by simp [kE,Kd.cv,HD]) (by simp [Kd.cv])
 unfold PF
 simp only [aZ,aD2,hlt,qP hi,zH hi,aE,e0,e1,hc1,hc2,Bool.and_self,BM]
 rw [TG a b f (m:=y.kinds[i].sort.toNat*4) (n:=4) (by omega)]
 simp only [aB,aE,aE3,cJ,aDu,ZJ _ hk2,cD,hw]
 rfl
theorem ZK (y:Yard) (a b:List (List CV)) (f:Nat→Int):PF y.ks (ci (y.kinds.length:Int)::.row 1 a::.row 4 b::st f)=some (.br 0 (.row 1 a::.row 4 b::st f)):=by
 unfold PF
 rw [aZ,aD2,show decide ((y.kinds.length:Int)<(y.kinds.length:Int))=false by simp]
 simp only [aB,BM]
theorem EJ (its:ITS) (n:Nat) {y:Yard} (hy:y.ok=true):D its (n+1) iV [.row 1 y.ps,.row 4 y.ks]=some [.ref (pc y)]:=by
 have hl:=(fU hy).2
 have hk:∀ k∈y.kinds,k.ok=true:=by
  unfold Yard.ok at hy
  simp only [Bool.and_eq_true,List.all_eq_true] at hy
  exact hy.1.2
 rw [EF]
 unfold npR
 rw [jG y.kinds (fun i f=>ci (i:Int)::.row 1 y.ps::.row 4 y.ks::st f) HM 0 (fun f=>.row 1 y.ps::.row 4 y.ks::st f) (fun _=>0) ?hv ?hs ?he]
 case hv=>kernel_rfl
 case hs=>exact fun i h f=>TH y hk _ _ f h (by omega)
 case he=>exact fun f=>ZK y _ _ f
 rw [cD,KX]
 rfl
end Go.Proofs.Ytnnifohchhjkhaa
namespace Go.Proofs.Ytnnifohchhjkhaa
open Go Go.Sx Go.Pen
set_option maxRecDepth 10000
attribute [local simp] Bool.and_assoc Bool.or_assoc
variable {its:ITS}
@[simp] theorem uL (x:List CV):kK (.ref x)=true:=rfl
@[simp] theorem EK (x:List CV):cF (.ref x)=x:=rfl
theorem EL (M:Den) (x:CV):bR sg M (.fn cO []) [x] [.one li] [.one lb]=M cO [x]:=rfl
theorem FW (M:Den) (p:List CV) (x:CV):bR sg M (.fn bB [.ref [.ref p]]) [x] [.one li] [.one lb]=M bB [x,.ref [.ref p]]:=rfl
@[simp] theorem TJ (n:Nat) (a b c:Int):D its (n+1) eE [ci a,ci b,ci c]=some [cb (within a b c)]:=by
  rw [aBw];simp [OP,within]
theorem aBK {a:Int} (h0:0≤a) (h1:a≤1023):decide (wr (Int.ofNat (bAN a 1))=0)=decide (a % 2=0):=by
 obtain ⟨m,rfl⟩:∃ m:Nat,a=m:=⟨a.toNat,by omega⟩
 rw [show bAN (m:Int) 1=m &&& 1 from KB m 1 (by omega) (by decide)]
 have h3:m &&& 1≤1:=Nat.and_le_right
 rw [Int.ofNat_eq_natCast,bE (by omega) (by omega),Nat.and_one_is_mod]
 by_cases h:m % 2=0
 ·rw [decide_eq_true (by omega),decide_eq_true (by omega)]
 ·rw [decide_eq_false (by omega),decide_eq_false (by omega)]
theorem ZL {a:Int} (h0:0≤a) (h1:a≤1023):wr (bAN a 1:Int)=0↔a % 2=0:=by
 have:=aBK h0 h1
 simpa using this
@[simp] theorem aGQ (n:Nat) (k:Kd):D its (n+2) oR [ci k.sort,ci k.room,ci k.eats,ci k.apart]=some [cb k.ok]:=by
  rw [KH]
  by_cases h:within k.apart 0 1023=true
  ·have h':=h
   simp only [within,Bool.and_eq_true,decide_eq_true_eq] at h'
   simp [oV,Kd.ok,h,ZL h'.1 h'.2,kD]
  ·simp [oV,Kd.ok,h,kD]
@[simp] theorem aBL (n:Nat) (a:Int):D its (n+2) cO [ci a]=some [cb (!within a 0 1000)]:=by
  rw [uF];simp [mD]
theorem wR {A:Type} {l:List A} {p:A→Bool}:l.findIdx? p=none↔l.any p=false:=by
 rw [List.findIdx?_eq_none_iff,Bool.eq_false_iff]
 simp [List.any_eq_true]
theorem kM (n:Nat) (l:List Int) (f:CV) (p:Int→Bool) (hl:l.length<9223372036854775807) (hf:∀ x∈l,bR sg (D its n) f [ci x] [.one li] [.one lb]=some [cb (p x)]) :
  D its (n+1) cZ [.row 1 (ints l),f]=some [ci (tW (l.findIdx? p))]:=by
 have hf':∀ i (h:i<l.length),bR sg (D its n) f [ci l[i]] [.one li] [.one lb]=some [cb (p l[i])]:=fun i h=>hf _ (List.getElem_mem h)
 rw [iW]
 unfold eZ
 rw [nN p l (fun i=>some (.ret [ci (i:Int)])) (some (.br 0 [])) (fun i=>[ci (i:Int)]) ?hv ?hR ?hX (fun i hi hp=>?h1) (fun i hi hp=>?h2) ?h3]
 case hv=>rfl
 case hR=>simp
 case hX=>simp
 case h3=>simp
 case h1=>simp [hi,hp,aW,bI,hf',aQ (show i<9223372036854775807 by omega)]
 case h2=>simp [hi,hp,aW,bI,hf']
 ·cases l.findIdx? p <;> simp [tW]
theorem dL (n:Nat) (l:List Int) (f:CV) (p:Int→Bool) (hl:l.length<9223372036854775807) (hf:∀ x∈l,bR sg (D its n) f [ci x] [.one li] [.one lb]=some [cb (p x)]) :
  D its (n+2) aU [.row 1 (ints l),f]=some [cb (l.any p)]:=by
 rw [gC]
 simp only [dP,kM n l f p hl hf]
 cases hh:l.findIdx? p with
 | some i =>
  have:l.any p=true:=by
   cases hc:l.any p with
   | true=>rfl
   | false=>rw [wR.2 hc] at hh;cases hh
  simp [tW,this]
 | none=>simp [tW,wR.1 hh]
theorem mF:∀ (l:List Int),rising l=true↔∀ i (h:i+1<l.length),l[i]<l[i+1]
 | []=>by simp [rising]
 | [a]=>by simp [rising]
 | a::b::l=>by
  simp only [rising,Bool.and_eq_true,decide_eq_true_eq]
  have ih:=mF (b::l)
  simp only [rising,Bool.and_eq_true] at ih
  rw [ih]
  constructor
  ·rintro ⟨h1,h2⟩ i hi
   cases i with
   | zero=>exact h1
   | succ i=>exact h2 i (by simpa using hi)
  ·intro h
   exact ⟨h 0 (by simp),fun i hi=>h (i+1) (by simpa using hi)⟩
def FX (ks:List Kd) (i:Nat):Bool:=match ks[i]? with
 | some k=>!k.ok || (decide (0<i)&&match ks[i - 1]? with | some j=>decide (k.sort≤j.sort) | none=>false)
 | none=>false
theorem ZM (ks:List Kd):(List.range ks.length).find? (FX ks)=none↔(ks.all Kd.ok&&rising (ks.map Kd.sort))=true:=by
 rw [List.find?_eq_none,Bool.and_eq_true,List.all_eq_true,mF]
 constructor
 ·intro h
  constructor
  ·intro k hk
   obtain ⟨i,hi,rfl⟩:=List.mem_iff_getElem.1 hk
   have:=h i (by simpa using hi)
   simp only [FX,List.getElem?_eq_getElem hi,Bool.not_eq_true,Bool.or_eq_false_iff,Bool.not_eq_false'] at this
   exact this.1
  ·intro i hi
   simp only [List.length_map] at hi
   have:=h (i+1) (by simpa using hi)
   simp only [FX,List.getElem?_eq_getElem hi,Bool.not_eq_true,Bool.or_eq_false_iff,Nat.add_sub_cancel,List.getElem?_eq_getElem (show i<ks.length by omega)] at this
   have:=this.2
   simp at this
   simpa using this
 ·rintro ⟨h1,h2⟩ i hi
  rw [List.mem_range] at hi
  simp only [FX,List.getElem?_eq_getElem hi,h1 _ (List.getElem_mem hi),Bool.not_true,Bool.false_or,Bool.not_eq_true,Bool.and_eq_false_iff]
  cases i with
  | zero=>simp
  | succ i =>
   right
   have:=h2 i (by simpa using hi)
   simp only [List.getElem_map] at this
   rw [Nat.add_sub_cancel,List.getElem?_eq_getElem (show i<ks.length by omega)]
   simp;omega
theorem BN (k:Kd):oks (List.replicate 4 li) k.cv 0=true:=nM (by simp [kE,Kd.cv,HD]) (by simp [Kd.cv])
theorem PP (k:Kd):oks [li] k.cv 0=true:=nM (n:=1) (by simp [kE,Kd.cv,HD]) (by simp [Kd.cv])
theorem BO (k:Kd):cis k.cv 0 4=k.cv:=rfl
@[simp] theorem aIA (k:Kd):gi k.cv 0=k.sort:=rfl
@[simp] theorem aIB (k:Kd):gi k.cv 1=k.room:=rfl
@[simp] theorem aIC (k:Kd):gi k.cv 2=k.eats:=rfl
@[simp] theorem aID (k:Kd):gi k.cv 3=k.apart:=rfl
theorem KZ (y:Yard):jI y=if y.pens.length > 5∨y.pens.any (fun x=>!within x 0 1000)=true then 50 else match (List.range y.kinds.length).find? (FX y.kinds) with | some _=>50 | none=>0:=by
 have e:(y.pens.any fun x=>!within x 0 1000)=!y.pens.all fun n=>within n 0 1000:=by
  rw [List.all_eq_not_any_not,Bool.not_not]
 unfold jI Yard.ok
 rw [e]
 have hb:=ZM y.kinds
 cases hf:(List.range y.kinds.length).find? (FX y.kinds) with
 | none =>
  have:=hb.1 hf
  simp only [Bool.and_eq_true] at this
  simp [this.1,this.2]
  grind
 | some i =>
  have:¬(y.kinds.all Kd.ok&&rising (y.kinds.map Kd.sort))=true:=fun h=>by rw [hb.2 h] at hf;cases hf
  simp only [Bool.and_eq_true] at this
  simp
  grind
theorem rH (n:Nat) (y:Yard) (h1:y.pens.length<9223372036854775807) (h2:y.kinds.length<9223372036854775807):D its (n+6) dQ [.row 1 y.ps,.row 4 y.ks]=some [ci (jI y)]:=by
 rw [AS]
 have hc:=dL (its:=its) (n+3) y.pens (.fn cO []) (fun x=>!within x 0 1000) h1 (fun x _=>by rw [EL];simp)
 unfold pM
 rw [hZ y.kinds.length (fun i=>[ci (i:Int)]) (FX y.kinds) (fun _=>some (.ret [ci 50])) (some (.br 0 [])) ?hv ?hR ?hX (fun i hi hp=>?s1) (fun i hi hp=>?s2) ?s3]
 case hv=>rfl
 case hR=>simp
 case hX=>simp
 case s3=>simp
 case s1 =>
  simp only [FX,List.getElem?_eq_getElem hi,Bool.or_eq_false_iff,Bool.not_eq_false'] at hp
  obtain ⟨hp1,hp2⟩:=hp
  have hwn:=aQ (show i<9223372036854775807 by omega)
  by_cases h0:0<i
  ·have hi':i - 1<y.kinds.length:=by omega
   have hw:=jT h0 (show i<9223372036854775807 by omega)
   simp only [h0,decide_true,Bool.true_and,List.getElem?_eq_getElem hi'] at hp2
   have hp3:¬y.kinds[i].sort≤y.kinds[i - 1].sort:=by simpa using hp2
   simp [hi,qP hi,zH hi,BN,BO,hp1,hwn,h0,hw,qP hi',zH hi',PP,hp3,-List.reduceReplicate]
  ·simp [hi,qP hi,zH hi,BN,BO,hp1,hwn,h0,-List.reduceReplicate]
 case s2 =>
  simp only [FX,List.getElem?_eq_getElem hi] at hp
  cases hok:y.kinds[i].ok with
  | false=>simp [hi,qP hi,zH hi,BN,BO,hok,-List.reduceReplicate]
  | true =>
   rw [hok] at hp
   by_cases h0:0<i
   ·have hi':i - 1<y.kinds.length:=by omega
    have hw:=jT h0 (show i<9223372036854775807 by omega)
    simp only [h0,decide_true,Bool.true_and,Bool.not_true,Bool.false_or,List.getElem?_eq_getElem hi'] at hp
    have hp3:y.kinds[i].sort≤y.kinds[i - 1].sort:=by simpa using hp
    simp [hi,qP hi,zH hi,BN,BO,hok,h0,hw,qP hi',zH hi',PP,hp3,-List.reduceReplicate]
   ·simp [h0] at hp
 ·rw [KZ]
  simp only [Yard.ps] at hc ⊢
  rw [hc]
  simp
  by_cases h5:5<y.pens.length
  ·have h5':5<(y.pens.length:Int):=by omega
   simp [h5,h5']
  ·have:¬(5<(y.pens.length:Int)):=by omega
   simp [h5,this]
   split
   ·rfl
   ·cases (List.range y.kinds.length).find? (FX y.kinds) <;> simp
end Go.Proofs.Ytnnifohchhjkhaa
namespace Go.Proofs.Ytnnifohchhjkhaa
open Go Go.Sx Go.Pen
set_option maxRecDepth 10000
attribute [local simp] Bool.and_assoc Bool.or_assoc
variable {its:ITS}
@[simp] theorem AB (y:Yard):gr (pc y) 0=y.ps:=rfl
@[simp] theorem PQ (y:Yard):oks [.row 1] (pc y) 0=true:=rfl
theorem BQ (l:List CV) (n:Nat):gi (l.drop n) 0=gi l n:=by simp [gi]
theorem wS (ls:List Lf) (l:List CV) (n:Nat):oks ls (l.drop n) 0=oks ls l n:=by
 induction ls generalizing n with
 | nil=>rfl
 | cons a ls ih =>
  simp only [oks,List.getElem?_drop,Nat.add_zero,Nat.zero_add]
  have h1:oks ls (l.drop n) 1=oks ls l (n+1):=by
   rw [← ih (n+1)]
   have:l.drop (n+1)=(l.drop n).drop 1:=by rw [List.drop_drop]
   rw [this]
   cases l.drop n with
   | nil=>cases ls <;> simp [oks]
   | cons c cs=>rw [List.drop_one,List.tail_cons,vM]
  rw [h1]
theorem aEf (y:Yard) {j:Nat} (h:j<50):gi (pc y) (2+j)=pf y j:=by
 rw [show 2+j=j+1+1 by omega]
 unfold pc
 rw [dE,dE,gi,List.getD_eq_getElem?_getD,aBI _ h]
 rfl
theorem aBM (y:Yard) {j:Nat} (h:j<50):oks [li] (pc y) (2+j)=true:=TG (n:=1) _ _ _ (by omega)
theorem sC {y:Yard} (hy:y.ok=true) {s:Int} (h0:0≤s) (h1:s≤9) {c:Nat} (hc:c<4) :
  gi (List.drop c (List.drop (s.toNat*4) (List.drop 2 (pc y)))) 0=[(kd y s).sort,(kd y s).room,(kd y s).eats,(kd y s).apart].getD c 0∧oks [li] (List.drop c (List.drop (s.toNat*4) (List.drop 2 (pc y)))) 0=true:=by
 rw [BQ,wS,List.drop_drop]
 have h2:gi (List.drop (2+s.toNat*4) (pc y)) c=gi (pc y) (2+(4*s.toNat+c)):=by
  rw [← BQ (List.drop _ _),List.drop_drop,BQ]
  congr 1;omega
 have h3:oks [li] (List.drop (2+s.toNat*4) (pc y)) c=oks [li] (pc y) (2+(4*s.toNat+c)):=by
  rw [← wS _ (List.drop _ _),List.drop_drop,wS]
  congr 1;omega
 rw [h2,h3]
 rw [aEf y (by omega),aBM y (by omega),aC6 hy (by omega) hc,show ((s.toNat:Nat):Int)=s by omega]
 exact ⟨rfl,rfl⟩
theorem LA {y:Yard} {s:Int} (h0:0≤s) (h1:s≤9):gi (List.drop (s.toNat*1) (List.drop 42 (pc y))) 0=pf y (40+s.toNat)∧oks [li] (List.drop (s.toNat*1) (List.drop 42 (pc y))) 0=true:=by
 rw [List.drop_drop,BQ,wS]
 rw [show 42+s.toNat*1=2+(40+s.toNat) by omega,aEf y (by omega),aBM y (by omega)]
 exact ⟨rfl,rfl⟩
theorem aGR {s:Int} (h0:0≤s) (h1:s≤9):(decide (0≤s)&&decide (s<Int.ofNat 10))=true:=by
 simp only [Bool.and_eq_true,decide_eq_true_eq]
 exact ⟨h0,by show s<10;omega⟩
theorem has_eq {y:Yard} (hy:y.ok=true) (s:Int):has y s=(within s 1 9&&decide ((kd y s).sort=s)):=by
 cases h:has y s with
 | true =>
  have h1:=nQ hy h
  have h2:=(vW h).2
  simp [within,h1.1,h1.2,h2]
 | false =>
  rw [BJ h]
  cases hw:within s 1 9 with
  | false=>rfl
  | true =>
   simp only [within,Bool.and_eq_true,decide_eq_true_eq] at hw
   have:¬(kz.sort=s):=by show ¬(0:Int)=s;omega
   simp [this]
@[simp] theorem aEg (n:Nat) {y:Yard} (hy:y.ok=true) (s:Int):D its (n+2) eY [.ref (pc y),ci s]=some [cb (has y s)]:=by
  rw [uE,has_eq hy]
  unfold mC
  rw [TJ,aD,cY]
  cases hw:within s 1 9 with
  | false=>rfl
  | true =>
   simp only [within,Bool.and_eq_true,decide_eq_true_eq] at hw
   obtain ⟨e1,e2⟩:=sC hy (s:=s) (by omega) (by omega) (c:=0) (by omega)
   rw [aGR (by omega) (by omega),e1,e2]
   rfl
theorem FY (n:Nat) {y:Yard} (hy:y.ok=true) (s:Int):D its (n+3) bB [ci s,.ref [.ref (pc y)]]=some [cb (!has y s)]:=by
 rw [mE]
 simp [fR,aEg _ hy,oks,Lf.ok]
theorem VT {A:Type} (l:List A) (p:A→Bool):(l.any fun x=>!p x)=!l.all p:=by
 rw [List.all_eq_not_any_not,Bool.not_not]
theorem TL (n:Nat) {y:Yard} (hy:y.ok=true) (l:List Int) (hl:l.length<9223372036854775807):D its (n+6) eG [.ref (pc y),.row 1 (ints l)]=some [cb (bF y l)]:=by
 rw [oG]
 have hc:=dL (its:=its) (n+3) l (.fn bB [.ref [.ref (pc y)]]) (fun s=>!has y s) hl (fun x _=>by rw [FW,FY n hy])
 rw [VT] at hc
 unfold iG
 rw [hc,aK]
 by_cases h:l.length≤8
 ·have h':((l.length:Int)≤8):=by omega
  simp [bF,h,h']
 ·have h':¬((l.length:Int)≤8):=by omega
  simp [bF,h,h']
def kI (b:Bool) (x:List CV):CV:=if b=true then .ref x else .val (Value.pointer none)
theorem BR (n:Nat) (y:Yard) (l:List Int) (h1:y.pens.length<9223372036854775807) (h2:y.kinds.length<9223372036854775807) (hl:l.length<9223372036854775807) :
  D its (n+7) mT [.row 1 y.ps,.row 4 y.ks,.row 1 (ints l)]=some [kI (asked y l == 0) (pc y),ci (asked y l)]:=by
 rw [OS]
 unfold zS
 rw [rH _ y h1 h2]
 unfold jI asked
 cases hy:y.ok with
 | false=>simp [kI]
 | true =>
  simp only [if_true,aD,aZ,EJ its _ hy,List.getD_cons_zero,EK,TL _ hy l hl,cY]
  cases hs:bF y l with
  | false=>simp [kI]
  | true=>simp [kI]
theorem gN {y:Yard} {l:List Int} (h:asked y l=0):y.ok=true∧bF y l=true:=by
 unfold asked at h
 cases hy:y.ok with
 | false=>rw [hy] at h;simp at h
 | true =>
  cases hs:bF y l with
  | false=>rw [hy,hs] at h;simp at h
  | true=>exact ⟨rfl,rfl⟩
theorem TM {y:Yard} {l:List Int} (hy:y.ok=true) (hs:bF y l=true):asked y l=0:=by simp [asked,hy,hs]
theorem jL {y:Yard} {l:List Int} (h:bF y l=true):l.length≤8:=by
 unfold bF at h
 simp only [Bool.and_eq_true,decide_eq_true_eq] at h
 exact h.1
theorem yN {y:Yard} {l:List Int} (h:bF y l=true):∀ s∈l,has y s=true:=by
 unfold bF at h
 simp only [Bool.and_eq_true,List.all_eq_true] at h
 exact h.2
end Go.Proofs.Ytnnifohchhjkhaa
namespace Go.Proofs.Ytnnifohchhjkhaa
open Go Go.Sx Go.Pen
set_option maxRecDepth 10000
attribute [local simp] Bool.and_assoc Bool.or_assoc
variable {its:ITS}
theorem aEh {y:Yard} (h:y.ok=true) (s:Int):rm y s≤1000:=by
 unfold rm
 cases hs:has y s with
 | false=>rw [BJ hs];show (0:Int)≤1000;omega
 | true =>
  have hm:=(vW hs).1
  unfold Yard.ok at h
  simp only [Bool.and_eq_true,List.all_eq_true,Kd.ok,within,decide_eq_true_eq] at h
  exact (h.1.2 _ hm).1.1.1.2.2
theorem aIv (a b:CV):spl [a] 0 [b]=[b]:=rfl
theorem li1 (x:Int):oks [li] [ci x] 0=true:=rfl
theorem aBN {y:Yard} {l p:List Int} (h:p.length=l.length):okP y l p=okZ y (l.zip p):=by
 unfold okP;simp [h]
theorem aBO {y:Yard} {z:BP}:(List.range z.length).find? (fun i=>!okZ y (z.take (i+1)))=none↔okZ y z=true:=by
 rw [List.find?_eq_none]
 constructor
 ·intro h
  cases hz:z.length with
  | zero=>rw [List.length_eq_zero_iff.1 hz];rfl
  | succ n =>
   have:=h n (by simp [hz])
   rw [← hz,List.take_length] at this
   simpa using this
 ·intro h i _
  simp [aBm h]
theorem aBP (n:Nat) {y:Yard} (hy:y.ok=true) (l p:List Int) (hl:∀ s∈l,1≤s∧s≤9) (hll:l.length<1000000) (hpl:p.length<9223372036854775807) :
  D its (n+2) gF [.ref (pc y),.row 1 (ints l),.row 1 (ints p)]=some [kI (p.length == l.length&&okZ y (l.zip p)) [.row 1 (ints (iR y (l.zip p))),.row 1 (ints (iS y (l.zip p)))],cb (p.length == l.length&&okZ y (l.zip p))]:=by
 have h5:=(fU hy).1
 rw [sF]
 unfold kP
 have hf:cX y.pens.length 0 8=true:=dZ (by omega) (by omega)
 have hf0:(decide ((0:Int)≤(y.pens.length:Int))&&decide ((y.pens.length:Int)≤(y.pens.length:Int))&&cX y.pens.length 0 8)=true:=by rw [hf];simp
 simp only [List.drop_zero,AB,PQ,aE,zG,Int.toNat_natCast,hf0]
 have e1:y.ps.length=y.pens.length:=by simp [Yard.ps]
 rw [e1,List.length_replicate,decide_eq_true (Nat.le_refl _),aE,bL]
 have e2:List.drop y.pens.length (List.replicate y.pens.length [ci 0])=[]:=by simp
 rw [e2,List.append_nil,bN,dY,bN,aK,aK]
 by_cases hlen:l.length=p.length
 case neg =>
  have:((l.length:Int) != (p.length:Int))=true:=by simp;omega
  rw [this]
  have h2:(p.length == l.length)=false:=by simp;omega
  rw [h2]
  rfl
 case pos =>
  have:((l.length:Int) != (p.length:Int))=false:=by simp;omega
  rw [this]
  have h2:(p.length == l.length)=true:=by simp;omega
  rw [h2,Bool.true_and]
  simp only [aB]
  have hzl:(l.zip p).length=p.length:=by simp [hlen]
  have hz9:∀ (i:Nat),∀ x∈(l.zip p).take i,1≤x.1∧x.1≤9:=fun i x hx=>hl _ (List.of_mem_zip (List.mem_of_mem_take hx)).1
  rw [SG p.length (fun i=>[ci (i:Int),.row 1 (ints (iR y ((l.zip p).take i))),.row 1 (ints (iS y ((l.zip p).take i)))]) (fun i=>!okZ y ((l.zip p).take (i+1))) (fun _=>some (.ret [.val (Value.pointer none),cb false]))
   (some (.br 0 [.row 1 (ints (iR y (l.zip p))),.row 1 (ints (iS y (l.zip p)))])) ?hv ?hR ?hX (fun i hi hj hp=>?s1) (fun i hi hj hp=>?s2) (fun hj=>?s3)]
  case hv=>simp [YM,YN,Yard.ps]
  case hR=>simp
  case hX=>simp
  case s3 =>
   rw [← hzl,List.take_length]
   simp [hzl]
  case s1 =>
   simp only [Bool.not_eq_false'] at hp
   have hzi:i<(l.zip p).length:=by omega
   have hli:i<l.length:=by omega
   rw [← List.take_append_getElem hzi,qN,Bool.and_eq_true] at hp
   have hzg:(l.zip p)[i]=(l[i],p[i]):=by simp
   rw [hzg] at hp
   obtain ⟨hp1,hp2⟩:=hp
   have hs9:=hl _ (List.getElem_mem hli)
   have hw:=hp2
   unfold zE at hw
   simp only [Bool.and_eq_true] at hw
   have hin:=hw.1.1
   have hin':=hin
   simp only [within,Bool.and_eq_true,decide_eq_true_eq] at hin'
   obtain ⟨q,hq⟩:∃ q:Nat,p[i]=q:=⟨p[i].toNat,by omega⟩
   have hqn:q<y.pens.length:=by omega
   rw [DK hy (hz9 i) hs9 hin (KD hy (a:=l[i].toNat) (by omega) |>.congr fun b _=>by rw [show ((l[i].toNat:Nat):Int)=l[i] by omega])] at hp2
   simp only [Bool.and_eq_true,decide_eq_true_eq] at hp2
   rw [hq] at hp2 hin
   simp only [Int.toNat_natCast] at hp2
   obtain ⟨k1,k2⟩:=sC hy (s:=l[i]) (by omega) (by omega) (c:=1) (by omega)
   obtain ⟨k3,k4⟩:=LA (y:=y) (s:=l[i]) (by omega) (by omega)
   have k5:((0:Int)≤l[i])=True:=eq_true (by omega)
   have k7:(l[i]<Int.ofNat 10)=True:=eq_true (by show l[i]<10;omega)
   have hd:y.pens.getD q 0=y.pens[q]:=by simp [hqn]
   have hpr:=DL hy hqn
   have hwi:=aQ (show i<9223372036854775807 by omega)
   have hwn:wr ((y.pens.length:Int) - 1)=(y.pens.length:Int) - 1:=by rw [bE] <;> omega
   have hld0:=OE hy ((l.zip p).take i) q
   have hrm0:=nP hy l[i]
   have hrm1:=aEh hy l[i]
   have e3:inb (q:Int) (ints (iR y ((l.zip p).take i)))=true:=aW (by simpa using hqn)
   have e4:el (ints (iR y ((l.zip p).take i))) (q:Int)=[ci (y.pens[q] - Pen.load y ((l.zip p).take i) q)]:=by rw [bI (by simpa using hqn),HN,hd]
   have e5:inb (q:Int) (ints (iS y ((l.zip p).take i)))=true:=aW (by simpa using hqn)
   have e6:el (ints (iS y ((l.zip p).take i))) (q:Int)=[ci (gB ((l.zip p).take i) q:Int)]:=by rw [bI (by simpa using hqn),HO]
   have hroom:([(kd y l[i]).sort,(kd y l[i]).room,(kd y l[i]).eats,(kd y l[i]).apart].getD 1 0)=rm y l[i]:=rfl
   rw [hd] at hp2
   have hwr:wr (y.pens[q] - Pen.load y ((l.zip p).take i) q - rm y l[i])=y.pens[q] - Pen.load y ((l.zip p).take i) q - rm y l[i]:=by rw [bE] <;> omega
   have horr:=(UZ (gB ((l.zip p).take i) q) l[i].toNat (OD (fun x hx=>(hz9 i x hx).2) q) (by omega)).1
   unfold orI at horr
   have hlt:((i:Int)<(p.length:Int))=True:=eq_true (by omega)
   have hql1:(q<y.pens.length)=True:=eq_true hqn
   have hrl:(rm y l[i]≤y.pens[q] - Pen.load y ((l.zip p).take i) q)=True:=eq_true hp2.1
   have hfin1:(ints (iR y ((l.zip p).take i))).set q [ci (y.pens[q] - Pen.load y ((l.zip p).take i) q - rm y l[i])]=ints (iR y ((l.zip p).take (i+1))):=by
    rw [ints_set,← List.take_append_getElem hzi,hzg,hq,SI y _ _ hqn]
   have hfin2:(ints (iS y ((l.zip p).take i))).set q [ci ((gB ((l.zip p).take i) q ||| 2 ^ l[i].toNat:Nat):Int)]=ints (iS y ((l.zip p).take (i+1))):=by
    rw [ints_set,← List.take_append_getElem hzi,hzg,hq,SJ y _ _ hqn]
   simp only [aZ,dE,bN,dY,aK,hlt,aW hi,bI hi,li1,aE,TJ,aD,cY,hwn,hq,hin,aW hli,bI hli,Bool.not_true,aB,k1,k2,k3,k4,k5,k7,e3,e4,e5,e6,Int.toNat_natCast,bJ,HP,HQ,hql1,hroom,hrl,hp2.2,bL,cJ,hwr,horr,hwi,decide_true,Bool.and_self,aIv,hfin1,hfin2,Nat.le_refl]
  case s2 =>
   simp only [Bool.not_eq_true'] at hp
   have hzi:i<(l.zip p).length:=by omega
   have hli:i<l.length:=by omega
   have hp0:okZ y ((l.zip p).take i)=true:=by
    cases i with
    | zero=>rfl
    | succ i=>have:=hj i (by omega);simpa using this
   have hzg:(l.zip p)[i]=(l[i],p[i]):=by simp
   rw [← List.take_append_getElem hzi,qN,hp0,Bool.true_and,hzg] at hp
   have hs9:=hl _ (List.getElem_mem hli)
   have hwn:wr ((y.pens.length:Int) - 1)=(y.pens.length:Int) - 1:=by rw [bE] <;> omega
   have hlt:((i:Int)<(p.length:Int))=True:=eq_true (by omega)
   cases hin:within p[i] 0 ((y.pens.length:Int) - 1) with
   | false =>
    simp only [aZ,dE,bN,dY,aK,hlt,aW hi,bI hi,li1,aE,TJ,aD,cY,hwn,hin,Bool.not_false,aB,cJ,decide_true]
   | true =>
    have hin':=hin
    simp only [within,Bool.and_eq_true,decide_eq_true_eq] at hin'
    obtain ⟨q,hq⟩:∃ q:Nat,p[i]=q:=⟨p[i].toNat,by omega⟩
    have hqn:q<y.pens.length:=by omega
    rw [DK hy (hz9 i) hs9 hin (KD hy (a:=l[i].toNat) (by omega) |>.congr fun b _=>by rw [show ((l[i].toNat:Nat):Int)=l[i] by omega])] at hp
    rw [hq] at hp hin
    simp only [Int.toNat_natCast] at hp
    obtain ⟨k1,k2⟩:=sC hy (s:=l[i]) (by omega) (by omega) (c:=1) (by omega)
    obtain ⟨k3,k4⟩:=LA (y:=y) (s:=l[i]) (by omega) (by omega)
    have k5:((0:Int)≤l[i])=True:=eq_true (by omega)
    have k7:(l[i]<Int.ofNat 10)=True:=eq_true (by show l[i]<10;omega)
    have hd:y.pens.getD q 0=y.pens[q]:=by simp [hqn]
    have e3:inb (q:Int) (ints (iR y ((l.zip p).take i)))=true:=aW (by simpa using hqn)
    have e4:el (ints (iR y ((l.zip p).take i))) (q:Int)=[ci (y.pens[q] - Pen.load y ((l.zip p).take i) q)]:=by rw [bI (by simpa using hqn),HN,hd]
    have e5:inb (q:Int) (ints (iS y ((l.zip p).take i)))=true:=aW (by simpa using hqn)
    have e6:el (ints (iS y ((l.zip p).take i))) (q:Int)=[ci (gB ((l.zip p).take i) q:Int)]:=by rw [bI (by simpa using hqn),HO]
    have hroom:([(kd y l[i]).sort,(kd y l[i]).room,(kd y l[i]).eats,(kd y l[i]).apart].getD 1 0)=rm y l[i]:=rfl
    simp only [hd] at hp
    have hql1:(q<y.pens.length)=True:=eq_true hqn
    simp only [aZ,dE,bN,dY,aK,hlt,aW hi,bI hi,li1,aE,TJ,aD,cY,hwn,hq,hin,aW hli,bI hli,Bool.not_true,aB,k1,k2,k3,k4,k5,k7,e3,e4,e5,e6,Int.toNat_natCast,bJ,HP,HQ,hql1,hroom,decide_true,Bool.and_self]
    cases hr:decide (rm y l[i]≤y.pens[q] - Pen.load y ((l.zip p).take i) q) with
    | false=>rfl
    | true =>
     rw [hr,Bool.true_and] at hp
     simp only [hp,bL,cY,Bool.not_false,cJ]
  ·have hfz:=aBO (y:=y) (z:=l.zip p)
   rw [hzl] at hfz
   cases hf:(List.range p.length).find? (fun i=>!okZ y ((l.zip p).take (i+1))) with
   | none=>rw [hfz.1 hf];simp [kI]
   | some i =>
    have:okZ y (l.zip p)=false:=by
     cases hc:okZ y (l.zip p) with
     | false=>rfl
     | true=>rw [hfz.2 hc] at hf;cases hf
    simp [this,kI]
end Go.Proofs.Ytnnifohchhjkhaa
namespace Go.Proofs.Ytnnifohchhjkhaa
open Go Go.Sx Go.Pen
set_option maxRecDepth 10000
attribute [local simp] Bool.and_assoc Bool.or_assoc
variable {its:ITS}
theorem aBQ (x:Int) {d:Decidable (0 > x)}:@ite Int (0 > x) d 0 x=max 0 x:=by split <;> omega
theorem aE6 (x z:Int) {d:Decidable (x<z)}:@ite Int (x<z) d x z=min z x:=by split <;> omega
theorem BS (s:Stay):oks [li,li,li] s.cv 0=true:=rfl
@[simp] theorem aGS (s:Stay):gi s.cv 0=s.sort:=rfl
@[simp] theorem aGT (s:Stay):gi s.cv 1=s.inn:=rfl
@[simp] theorem aGU (s:Stay):gi s.cv 2=s.out:=rfl
theorem LB (y:Yard) (s:Int):([(kd y s).sort,(kd y s).room,(kd y s).eats,(kd y s).apart].getD 1 0)=rm y s:=rfl
theorem aDv (y:Yard) (s:Int):([(kd y s).sort,(kd y s).room,(kd y s).eats,(kd y s).apart].getD 2 0)=(kd y s).eats:=rfl
theorem w_room (n:Nat) {y:Yard} (hy:y.ok=true) (l:List Int) (hl:∀ s∈l,1≤s∧s≤9) (hll:l.length<1000000) :
  D its (n+1) kO [.ref (pc y),.row 1 (ints l)]=some [ci (HJ y l)]:=by
 rw [sG]
 unfold kQ
 rw [(cE l (fun i (s:Int)=>[ci s,ci (i:Int)]) (fun n s=>n+rm y s) (fun i s=>0≤s∧s≤1000*(i:Int)) 0 (fun s=>[ci s]) 0 ?hv ?h0 ?hs ?he).1]
 case hv=>rfl
 case h0=>simp
 case hs =>
  intro i hi s hP
  have h9:=hl _ (List.getElem_mem hi)
  obtain ⟨k1,k2⟩:=sC hy (s:=l[i]) (by omega) (by omega) (c:=1) (by omega)
  have r0:=nP hy l[i]
  have r1:=aEh hy l[i]
  have hlt:((i:Int)<(l.length:Int))=True:=eq_true (by omega)
  have k5:((0:Int)≤l[i])=True:=eq_true (by omega)
  have k7:(l[i]<Int.ofNat 10)=True:=eq_true (by show l[i]<10;omega)
  have hw:wr (s+rm y l[i])=s+rm y l[i]:=by rw [bE] <;> omega
  refine ⟨?_,by omega,by omega⟩
  simp only [aZ,dE,aK,hlt,decide_true,aB,aW hi,bI hi,li1,aE,k5,k7,Bool.and_self,k1,k2,LB,hw,aQ (show i<9223372036854775807 by omega)]
 case he=>intro s _;simp
 ·simp [HJ]
theorem aDw (n:Nat) {y:Yard} (hy:y.ok=true) {a b:Int} (ha:1≤a∧a≤9) (hb:1≤b∧b≤9):D its (n+1) kF [.ref (pc y),ci a,ci b]=some [cb (apt y a b)]:=by
 rw [qY]
 unfold kG
 obtain ⟨k3,k4⟩:=LA (y:=y) (s:=a) (by omega) (by omega)
 obtain ⟨m,hm,hm2,ht⟩:=KD hy (a:=a.toNat) (by omega)
 have hbb:m.testBit b.toNat=apt y a b:=by
  have:m.testBit b.toNat=true↔apt y (a.toNat:Int) (b.toNat:Int)=true:=ht b.toNat (by omega)
  rw [show ((a.toNat:Nat):Int)=a by omega,show ((b.toNat:Nat):Int)=b by omega] at this
  rw [Bool.eq_iff_iff];exact this
 rw [aGR (by omega) (by omega),k3,k4,hm,OA m b.toNat (by omega),hbb,decide_eq_true (show (0:Int)≤b by omega)]
 rfl
theorem aBR (n:Nat) {y:Yard} (hy:y.ok=true) (s:Stay):D its (n+3) fH [.ref (pc y),ci s.sort,ci s.inn,ci s.out]=some [cb (mY y s)]:=by
 rw [pT]
 simp [jA,aEg _ hy,mY,kD]
theorem LC (n:Nat) {y:Yard} (hy:y.ok=true) (s:Stay):D its (n+4) dH [ci s.sort,ci s.inn,ci s.out,.ref [.ref (pc y)]]=some [cb (!mY y s)]:=by
 rw [yF]
 simp [nZ,aBR _ hy,oks,Lf.ok]
theorem LD (M:Den) (p:List CV) (a b c:CV):bR sg M (.fn dH [.ref [.ref p]]) [a,b,c] [.agg [li,li,li]] [.one lb]=M dH [a,b,c,.ref [.ref p]]:=rfl
theorem yO (n:Nat) (l:List Stay) (f:CV) (p:Stay→Bool) (hl:l.length<9223372036854775807) (hf:∀ x∈l,bR sg (D its n) f [ci x.sort,ci x.inn,ci x.out] [.agg [li,li,li]] [.one lb]=some [cb (p x)]) :
  D its (n+1) eI [.row 3 (stays l),f]=some [ci (tW (l.findIdx? p))]:=by
 have hf':∀ i (h:i<l.length),bR sg (D its n) f [ci l[i].sort,ci l[i].inn,ci l[i].out] [.agg [li,li,li]] [.one lb]=some [cb (p l[i])]:=fun i h=>hf _ (List.getElem_mem h)
 rw [oC]
 unfold iD
 rw [nN p l (fun i=>some (.ret [ci (i:Int)])) (some (.br 0 [])) (fun i=>[ci (i:Int)]) ?hv ?hR ?hX (fun i hi hp=>?h1) (fun i hi hp=>?h2) ?h3]
 case hv=>rfl
 case hR=>simp
 case hX=>simp
 case h3=>simp
 case h1=>simp [hi,hp,nR,qQ,BS,hf',aQ (show i<9223372036854775807 by omega)]
 case h2=>simp [hi,hp,nR,qQ,BS,hf']
 ·cases l.findIdx? p <;> simp [tW]
theorem sH (n:Nat) (l:List Stay) (f:CV) (p:Stay→Bool) (hl:l.length<9223372036854775807) (hf:∀ x∈l,bR sg (D its n) f [ci x.sort,ci x.inn,ci x.out] [.agg [li,li,li]] [.one lb]=some [cb (p x)]) :
  D its (n+2) dK [.row 3 (stays l),f]=some [cb (l.any p)]:=by
 rw [lY]
 simp only [fQ,yO n l f p hl hf]
 cases hh:l.findIdx? p with
 | some i =>
  have:l.any p=true:=by
   cases hc:l.any p with
   | true=>rfl
   | false=>rw [wR.2 hc] at hh;cases hh
  simp [tW,this]
 | none=>simp [tW,wR.1 hh]
theorem yP (n:Nat) (y:Yard) (l:List Stay) (h1:y.pens.length<9223372036854775807) (h2:y.kinds.length<9223372036854775807) (hl:l.length<9223372036854775807) :
  D its (n+7) gM [.row 1 y.ps,.row 4 y.ks,.row 3 (stays l)]=some [kI (eU y l == 0) (pc y),ci (eU y l)]:=by
 rw [FR]
 unfold sZ
 rw [rH _ y h1 h2]
 unfold jI eU
 cases hy:y.ok with
 | false=>simp [kI]
 | true =>
  have hc:=sH (its:=its) (n+4) l (.fn dH [.ref [.ref (pc y)]]) (fun s=>!mY y s) hl (fun x _=>by rw [LD,LC n hy])
  rw [VT] at hc
  simp only [if_true,aD,aZ,EJ its _ hy,List.getD_cons_zero,EK,vV,hc,cY]
  by_cases h:l.length≤40
  ·have h':((l.length:Int)≤40):=by omega
   have h'':¬40<(l.length:Int):=by omega
   cases ha:l.all (mY y) <;> simp [mN,h,h'',ha,kI]
  ·have h':¬((l.length:Int)≤40):=by omega
   have h'':40<(l.length:Int):=by omega
   simp [mN,h,h'',kI]
theorem EM {y:Yard} {l:List Stay} (h:eU y l=0):y.ok=true∧mN y l=true:=by
 unfold eU at h
 cases hy:y.ok with
 | false=>rw [hy] at h;simp at h
 | true =>
  cases hs:mN y l with
  | false=>rw [hy,hs] at h;simp at h
  | true=>exact ⟨rfl,rfl⟩
theorem PR {y:Yard} {l:List Stay} (h:mN y l=true):l.length≤40∧∀ s∈l,mY y s=true:=by
 unfold mN at h
 simp only [Bool.and_eq_true,List.all_eq_true,decide_eq_true_eq] at h
 exact h
theorem aDx (n:Nat) (l:List Stay) (d:Int) (hl:l.length<1000000):D its (n+1) qU [.row 3 (stays l),ci d]=some [.row 1 (ints (mP l d))]:=by
 rw [OX]
 unfold zV
 rw [(cE l (fun i (_:Unit)=>[ci (i:Int),.row 1 (ints (places (mO d) (l.take i) 0))]) (fun _ _=>()) (fun _ _=>True) 0 (fun _=>[.row 1 (ints (mP l d))]) () ?hv trivial ?hs ?he).1]
 case hv=>rfl
 case hs =>
  intro i hi _ _
  refine ⟨?_,trivial⟩
  have hlt:((i:Int)<(l.length:Int))=True:=eq_true (by omega)
  have hpl:=tX (mO d) (l.take i) 0
  have hf:cX (places (mO d) (l.take i) 0).length 1 8=true:=dZ (by rw [List.length_take] at hpl;omega) (by rw [List.length_take] at hpl;omega)
  rw [← List.take_append_getElem hi,zJ]
  have hz:(0:Int)+((l.take i).length:Int)=(i:Int):=by rw [List.length_take];omega
  rw [hz]
  simp only [aZ,dE,vV,hlt,decide_true,nR hi,qQ hi,BS,aE,aGS,aGT,aGU,dY,bN,bJ,hf,aQ (show i<9223372036854775807 by omega),mO,vL,vK,List.take_succ_cons,List.take_zero,jJ]
  by_cases h1:l[i].inn≤d
  ·by_cases h2:l[i].out=-1
   ·simp [h1,h2]
   ·by_cases h3:d<l[i].out
    ·simp [h1,h2,h3]
    ·simp [h1,h2,h3]
  ·simp [h1]
 case he =>
  intro _ _
  simp [mP]
 ·simp
theorem aDy (n:Nat) (y:Yard) (l:List Stay) (d:Int) (h1:y.pens.length<9223372036854775807) (h2:y.kinds.length<9223372036854775807) (hl:l.length<9223372036854775807) :
  D its (n+8) mR [.row 1 y.ps,.row 4 y.ks,.row 3 (stays l),ci d]=some (if eU y l=0 then (if within d 0 100000=true then [.row 1 (ints (mP l d)),ci 0] else [.row 1 [],ci 6]) else [.row 1 [],ci (eU y l)]):=by
 rw [OZ]
 unfold zX
 rw [yP n y l h1 h2 hl]
 by_cases h:eU y l=0
 ·have h40:=(PR (EM h).2).1
  cases hd:within d 0 100000 <;> simp [h,hd,aDx _ l d (by omega)]
 ·simp [h]
theorem LF (n:Nat) (y:Yard) (l:List Stay) (h1:y.pens.length<9223372036854775807) (h2:y.kinds.length<9223372036854775807) (hl:l.length<9223372036854775807) :
  D its (n+8) fV [.row 1 y.ps,.row 4 y.ks,.row 3 (stays l)]=some [ci (eU y l)]:=by
 rw [yG]
 unfold oA
 rw [yP n y l h1 h2 hl]
 simp
theorem aDz (n:Nat) {y:Yard} (hy:y.ok=true) {l:List Stay} (hl:mN y l=true) {d:Int} (h0:0≤d) (h1:d≤100000) :
  D its (n+1) fP [.ref (pc y),.row 3 (stays l),ci d]=some [ci (lU y l d)]:=by
 obtain ⟨h40,hok⟩:=PR hl
 rw [qZ]
 unfold kH
 rw [(cE l (fun i (s:Int)=>[ci s,ci (i:Int)]) (fun n s=>n+eats y d s) (fun i s=>0≤s∧s≤300000000*(i:Int)) 0 (fun s=>[ci s]) 0 ?hv ?h0 ?hs ?he).1]
 case hv=>rfl
 case h0=>simp
 case hs =>
  intro i hi s hP
  have hst:=hok _ (List.getElem_mem hi)
  have hr:=SK hy hst (d:=d) (by omega) (by omega)
  have hst':=hst
  unfold mY at hst'
  simp only [Bool.and_eq_true,Bool.or_eq_true,decide_eq_true_eq] at hst'
  have h9:=nQ hy hst'.1.1
  have hin:=hst'.1.2
  simp only [within,Bool.and_eq_true,decide_eq_true_eq] at hin
  have hout:=hst'.2
  simp only [within,Bool.and_eq_true,decide_eq_true_eq] at hout
  obtain ⟨k1,k2⟩:=sC hy (s:=l[i].sort) (by omega) (by omega) (c:=2) (by omega)
  have hlt:((i:Int)<(l.length:Int))=True:=eq_true (by omega)
  have k5:((0:Int)≤l[i].sort)=True:=eq_true (by omega)
  have k7:(l[i].sort<Int.ofNat 10)=True:=eq_true (by show l[i].sort<10;omega)
  have hkey:∀ m:Int,m=(if l[i].out=-1 then d else min d (l[i].out - 1))→wr (max 0 (wr ((wr (m - l[i].inn))+1))*(kd y l[i].sort).eats)=eats y d l[i]:=by
   intro m hm
   have hm2:-1≤m∧m≤100000:=by rw [hm];split <;> omega
   have e1:wr (m - l[i].inn)=m - l[i].inn:=by rw [bE] <;> omega
   have e2:wr (m - l[i].inn+1)=m - l[i].inn+1:=by rw [bE] <;> omega
   rw [e1,e2]
   have e4:max 0 (m - l[i].inn+1)*(kd y l[i].sort).eats=eats y d l[i]:=by unfold eats;rw [← hm,Int.mul_comm]
   rw [e4,bE] <;> omega
  have hw:wr (s+eats y d l[i])=s+eats y d l[i]:=by rw [bE] <;> omega
  refine ⟨?_,by omega,by omega⟩
  simp only [aZ,dE,vV,hlt,decide_true,nR hi,qQ hi,BS,aE,aGS,aGT,aGU,k5,k7,Bool.and_self,k1,k2,aDv,aQ (show i<9223372036854775807 by omega)]
  by_cases h2:l[i].out=-1
  ·have hb:(l[i].out != -1)=false:=by simp [h2]
   have:=hkey d (by simp [h2])
   simp only [hb,aB,cJ,aZ,aBQ,this,hw]
  ·have hb:(l[i].out != -1)=true:=by simp [h2]
   have e1:wr (l[i].out - 1)=l[i].out - 1:=by rw [bE] <;> omega
   have:=hkey (min d (l[i].out - 1)) (by rw [if_neg h2])
   simp only [hb,aB,cJ,aZ,e1,aBQ,aE6,this,hw]
 case he=>intro s _;simp
 ·simp [lU]
theorem VU (n:Nat) (y:Yard) (l:List Stay) (d:Int) (h1:y.pens.length<9223372036854775807) (h2:y.kinds.length<9223372036854775807) (hl:l.length<9223372036854775807) :
  D its (n+8) iA [.row 1 y.ps,.row 4 y.ks,.row 3 (stays l),ci d]=some (if eU y l=0 then (if within d 0 100000=true then [ci (lU y l d),ci 0] else [ci 0,ci 6]) else [ci 0,ci (eU y l)]):=by
 rw [OY]
 unfold zW
 rw [yP n y l h1 h2 hl]
 by_cases h:eU y l=0
 ·obtain ⟨hy,hs⟩:=EM h
  cases hd:within d 0 100000 with
  | false=>simp [h,hd]
  | true =>
   have hd':=hd
   simp only [within,Bool.and_eq_true,decide_eq_true_eq] at hd'
   simp [h,hd,kI,aDz _ hy hs hd'.1 hd'.2]
 ·simp [h]
end Go.Proofs.Ytnnifohchhjkhaa
namespace Go.Proofs.Ytnnifohchhjkhaa
open Go Go.Sx Go.Pen
set_option maxRecDepth 10000
attribute [local simp] Bool.and_assoc Bool.or_assoc
variable {its:ITS}
structure Fit (y:Yard):Prop where
 p:y.pens.length<9223372036854775807
 k:y.kinds.length<9223372036854775807
theorem aBS {y:Yard} (hy:y.ok=true) {l:List Int} (h:bF y l=true):∀ s∈l,1≤s∧s≤9:=fun s hs=>nQ hy (yN h s hs)
def isP (y:Yard) (l p:List Int):Bool:=p.length == l.length&&okZ y (l.zip p)
theorem aDA {y:Yard} {l p:List Int}:isP y l p=true↔p∈PL y l:=by
 rw [qO]
 unfold isP
 rw [Bool.and_eq_true,beq_iff_eq]
 constructor
 ·rintro ⟨h1,h2⟩;exact ⟨h1,by rw [aBN h1];exact h2⟩
 ·rintro ⟨h1,h2⟩;exact ⟨h1,by rw [← aBN h1];exact h2⟩
def oY (y:Yard) (l p:List Int):Int:=if asked y l=0 then (if isP y l p=true then 0 else 52) else asked y l
theorem LG (n:Nat) {y:Yard} (hf:Fit y) (l p:List Int) (hl:l.length<9223372036854775807) (hp:p.length<9223372036854775807) :
  D its (n+8) fW [.row 1 y.ps,.row 4 y.ks,.row 1 (ints l),.row 1 (ints p)]=some [ci (oY y l p)]:=by
 rw [yI]
 unfold oF oY
 rw [BR _ y l hf.p hf.k hl]
 by_cases h:asked y l=0
 ·obtain ⟨hy,hs⟩:=gN h
  have:=jL hs
  have hfl:=aBP (its:=its) (n+5) hy l p (aBS hy hs) (by omega) hp
  change D its (n+7) _ _=some [kI (isP y l p) _,cb (isP y l p)] at hfl
  cases hi:isP y l p <;> simp [h,kI,hfl,hi]
 ·simp [h]
end Go.Proofs.Ytnnifohchhjkhaa
namespace Go.Proofs.Ytnnifohchhjkhaa
open Go Go.Sx Go.Pen
set_option maxRecDepth 10000
attribute [local simp] Bool.and_assoc Bool.or_assoc
variable {its:ITS}
def yl (x:List Int):List CV:=[.row 1 (ints x)]
structure ItsM (its:ITS):Prop where
 all:∀ n y l,y.ok=true→bF y l=true→D its (n+1) 100 [.ref [.row 1 (ints l)],.ref [.ref (pc y)]]=some [.row 0 ((PL y l).map yl),shC (.lent 3 1)]
 lists:∀ n k many:Nat,k<9→0<many→many<10→D its (n+1) 84 [.ref [ci (many:Int)],.ref [ci (k:Int)]]=some [.row 0 ((rls k many 0).map yl),shC (.clo [.one (.row 1)])]
 del:∀ n (l:List Int) (i:Nat),i<l.length→l.length<1000000→D its (n+1) 57 [.row 1 (ints l),.fn 3 [],ci (i:Int),ci ((i+1:Nat):Int)]=some [.row 1 (ints (l.eraseIdx i)),.val (.bool true)]
theorem LH {M:Den} {f:FuncId} {caps:List CV} {rows:List (List CV)} {sh:YSh} (hs:sg f=none) (h:M f caps=some [.row 0 rows,shC sh]):CY sg M (.fn f caps) sh=some rows:=by
 simp [CY,hs,h]
theorem aGV:sg 100=none:=rfl
theorem aGW:sg 84=none:=rfl
theorem aBT {y:Yard} {l x:List Int} (h:x∈PL y l):x.length=l.length:=(qO.1 h).1
theorem TN {x:List Int} (h:x.length≤8):tP (ints x) (some (.ret [.row 1 []])) (chk (cX 0 x.length 8) (some (.ret [.row 1 (ints x)])))=some (.ret [.row 1 (ints x)]):=by
 have:=rX 1 8 (fun x:Int=>[ci x]) x (by omega) (by omega)
 rw [List.length_map] at this
 exact this
theorem w_all (n:Nat) (x:List CV) (l:List (List CV)):D its (n+1) gU [.ref x,.row 1 l]=some [.fn 100 [.ref [.row 1 l],.ref [.ref x]]]:=by
 rw [uH];rfl
theorem IE {step:List CV→List CV→Option Ou} {R:Option Ou} (h0:∀ (x:List Int) c d,x.length≤8→step (yl x) [ci 0,c,d]=some (.ret [.row 1 (ints x),cb true]))
  (h1:∀ (x:List Int) (k:Nat) c d,k<100000→step (yl x) [ci ((k+1:Nat):Int),c,d]=some (.nx [ci (k:Int),.row 1 (cR c),cb (cB d)])):∀ (rows:List (List Int)) (k:Nat) (c d:CV),k<100000→(∀ x∈rows,x.length≤8) →
  aJ (brO (dW step (rows.map yl) [ci (k:Int),c,d])) (fun _=>R)=match rows[k]? with | some x=>some (.ret [.row 1 (ints x),cb true]) | none=>R
 | [],k,c,d,_,_=>by simp [dW,brO]
 | x::rows,0,c,d,_,h=>by
  simp only [List.map_cons,dW]
  rw [show ((0:Nat):Int)=0 from rfl,h0 x c d (h x (by simp))]
  rfl
 | x::rows,k+1,c,d,hk,h=>by
  simp only [List.map_cons,dW,h1 x k c d (by omega),List.getElem?_cons_succ]
  exact IE h0 h1 rows k _ _ (by omega) fun z hz=>h z (by simp [hz])
theorem aEi (hI:ItsM its) (n:Nat) {y:Yard} (hy:y.ok=true) {l:List Int} (hs:bF y l=true) (k:Nat) (hk:k<100000) :
  D its (n+2) eX [.ref (pc y),.row 1 (ints l),ci (k:Int)]=some (match (PL y l)[k]? with | some x=>[.row 1 (ints x),cb true] | none=>[.row 1 [],cb false]):=by
 rw [uD]
 unfold lZ
 rw [w_all,aD,List.getD_cons_zero,LH aGV (hI.all n y l hy hs),jS]
 have h8:=jL hs
 rw [IE (R:=some (.ret [.row 1 [],cb false])) ?h0 ?h1 _ _ _ _ hk (fun x hx=>by rw [aBT hx];exact h8)]
 case h0 =>
  intro x c d hx
  simp only [aZ,yl,bN,bJ,TN hx]
  rfl
 case h1 =>
  intro x k c d hk
  have e:(((k+1:Nat):Int) == 0)=false:=by simp;omega
  have e2:wr (((k+1:Nat):Int) - 1)=(k:Int):=by rw [bE] <;> omega
  simp only [aZ,e,e2]
  rfl
 ·cases (PL y l)[k]? <;> rfl
theorem aDB (hI:ItsM its) (n:Nat) {y:Yard} (hf:Fit y) (l:List Int) (hl:l.length<9223372036854775807) :
  D its (n+8) mS [.row 1 y.ps,.row 4 y.ks,.row 1 (ints l)]=some (if asked y l=0 then (match (PL y l)[0]? with | some x=>[.row 1 (ints x),ci 0] | none=>[.row 1 [],ci 53]) else [.row 1 [],ci (asked y l)]):=by
 rw [OU]
 unfold zU
 rw [BR _ y l hf.p hf.k hl]
 by_cases h:asked y l=0
 ·obtain ⟨hy,hs⟩:=gN h
  have hn:=aEi hI (n+5) hy hs 0 (by omega)
  rw [show ((0:Nat):Int)=0 from rfl] at hn
  simp only [h,beq_self_eq_true,kI,if_true,aD,dE,aZ,List.getD_cons_zero,uL,EK,aE,hn]
  have hb:((0:Int) != 0)=false:=rfl
  rw [hb]
  simp only [aB]
  cases (PL y l)[0]? <;> rfl
 ·simp [h]
end Go.Proofs.Ytnnifohchhjkhaa
namespace Go.Proofs.Ytnnifohchhjkhaa
open Go Go.Sx Go.Pen
set_option maxRecDepth 10000
attribute [local simp] Bool.and_assoc Bool.or_assoc
variable {its:ITS}
def kk (l:List Int) (j:Nat):Bool:=decide ((j:Int)∈l)
end Go.Proofs.Ytnnifohchhjkhaa
namespace Go.Proofs.Ytnnifohchhjkhaa
open Go Go.Sx Go.Pen
set_option maxRecDepth 10000
attribute [local simp] Bool.and_assoc Bool.or_assoc
variable {its:ITS}
end Go.Proofs.Ytnnifohchhjkhaa
namespace Go.Proofs.Ytnnifohchhjkhaa
open Go Go.Sx Go.Pen
set_option maxRecDepth 10000
attribute [local simp] Bool.and_assoc Bool.or_assoc
variable {its:ITS}
def rI (f:Nat→Int):List CV:=(List.range 10).map fun j=>ci (f j)
def aE7 (f:Nat→Int) (q:Int):Nat→Int:=fun j=>if decide (j=0+(q.toNat*1))=true then wr (gi (rI f) (0+(q.toNat*1))+1) else f j
theorem aBU (q i:Int) (f:Nat→Int):aD9 q (ci i::rI f)=ci (wr (i+1))::rI (aE7 f q):=by kernel_rfl
theorem PS (i:Int) (f:Nat→Int):cis (ci i::rI f) 1 10=rI f:=by kernel_rfl
theorem ZN (f:Nat→Int):cis (rI f) 0 10=rI f:=by kernel_rfl
theorem aDC (f:Nat→Int) {j:Nat} (h:j<10):gi (rI f) j=f j:=by
 unfold gi rI
 rw [List.getD_eq_getElem?_getD]
 simp [h]
theorem aBV (f:Nat→Int) {j:Nat} (h:j<10):oks [li] (rI f) j=true:=NQ (by simp [kE,rI,HD]) (by simpa [rI] using h)
theorem TO {l:List Int} (hl:∀ s∈l,1≤s∧s≤9) (hll:l.length<1000000) {i:Nat} (hi:i<l.length) :
  sB (ints l) (ci (i:Int)::rI fun j=>((l.take i).count (j:Int):Int))=some (.nx (ci ((i+1:Nat):Int)::rI fun j=>((l.take (i+1)).count (j:Int):Int))):=by
 have h9:=hl _ (List.getElem_mem hi)
 have k5:((0:Int)≤l[i])=True:=eq_true (by omega)
 have k7:(l[i]<Int.ofNat 10)=True:=eq_true (by show l[i]<10;omega)
 have hlt:((i:Int)<(l.length:Int))=True:=eq_true (by omega)
 have hj:0+l[i].toNat*1<10:=by omega
 unfold sB
 simp only [aZ,aK,hlt,decide_true,aB,aW hi,bI hi,li1,aE,k5,k7,Bool.and_self,PS,aBV _ hj,aBU,aQ (show i<9223372036854775807 by omega)]
 have:aE7 (fun (j:Nat)=>((l.take i).count (j:Int):Int)) l[i]=fun (j:Nat)=>((l.take (i+1)).count (j:Int):Int):=by
  funext j
  have hc:(l.take i).count (l[i])≤(l.take i).length:=List.count_le_length
  rw [List.length_take] at hc
  rw [← List.take_append_getElem hi,List.count_append,List.count_singleton]
  unfold aE7
  rw [aDC _ hj]
  by_cases e:j=l[i].toNat
  ·have e2:((j:Nat):Int)=l[i]:=by omega
   have e3:((0+l[i].toNat*1:Nat):Int)=l[i]:=by omega
   rw [if_pos (by simp [e]),e2,e3]
   simp only [beq_self_eq_true,if_true]
   rw [bE] <;> omega
  ·rw [if_neg (by simp;omega)]
   have e2:(l[i] == (j:Int))=false:=by simp;omega
   rw [e2];simp
 rw [this]
theorem IF (l:List Int):rI (fun j=>(l.count (j:Int):Int))=(mix l).map ci:=by
 unfold rI mix
 rw [List.map_map];rfl
theorem PT {l:List Int} (hl:∀ s∈l,1≤s∧s≤9) (hll:l.length<1000000):aG (sB (ints l)) [ci 0,ci 0,ci 0,ci 0,ci 0,ci 0,ci 0,ci 0,ci 0,ci 0,ci 0]=some (.br 0 ((mix l).map ci)):=by
 rw [(cE l (fun i (_:Unit)=>ci (i:Int)::rI fun j=>((l.take i).count (j:Int):Int)) (fun _ _=>()) (fun _ _=>True) 0 (fun _=>(mix l).map ci) () ?hv trivial ?hs ?he).1]
 case hv=>rfl
 case hs=>exact fun i hi _ _=>⟨TO hl hll hi,trivial⟩
 case he =>
  intro _ _
  rw [List.take_length]
  unfold sB
  simp only [aZ,aK,eq_false (show ¬((l.length:Int)<(l.length:Int)) by omega),decide_false,aB,PS]
  rw [IF]
theorem VV (l:List Int):cis ((mix l).map ci) 0 10=(mix l).map ci:=by rw [← IF,ZN]
theorem BT (l:List Int):(mix l).length=10:=by simp [mix]
abbrev MA:=List (List Int×Bool)
def gW (tr:MA):List (List CV):=rowA (fun l:List Int=>l.map ci) cb tr
def Kept (y:Yard) (tr:MA):Prop:=(∀ e∈tr,e.1.length=10)∧∀ (l:List Int) (b:Bool),l.all (has y)=true→pR tr (mix l)=some b→b=can y l
theorem Kept.nil (y:Yard):Kept y []:=⟨by simp,fun l b _ h=>by simp [pR] at h⟩
theorem Kept.set {y:Yard} (hy:y.ok=true) {tr:MA} (h:Kept y tr) {l:List Int} (hl:l.all (has y)=true):Kept y (vX tr (mix l) (can y l)):=by
 refine ⟨VD (ok:=fun l:List Int=>l.length=10) (BT l) _ h.1,fun l' b hl' hg=>?_⟩
 rw [HR] at hg
 split at hg
 ·rename_i e
  cases hg
  exact (aC3 hy hl' hl e).symm
 ·exact h.2 l' b hl' hg
theorem VW {y:Yard} {tr:MA} (h:Kept y tr):AH [(.int .i64),(.int .i64),(.int .i64),(.int .i64),(.int .i64),(.int .i64),(.int .i64),(.int .i64),(.int .i64),(.int .i64)] .bool (gW tr)=true:=
 aBn fun e he=>by rw [aC9 (h.1 e he)];rfl
theorem aBW {y:Yard} {tr:MA} (h:Kept y tr) (l:List Int):decide (bD 10 ((mix l).map ci) (gW tr)<(gW tr).length)=(pR tr (mix l)).isSome:=by
 have:=(yC 10).pos (vc:=cb) (k:=mix l) (BT l) h.1
 rw [Bool.eq_iff_iff,decide_eq_true_eq]
 exact this
theorem ZO {y:Yard} {tr:MA} (h:Kept y tr) (l:List Int):bO 10 ((mix l).map ci) (.bool false) (gW tr)=match pR tr (mix l) with | some v=>cb v | none=>.val (.bool false):=by
 have:=(yC 10).look (vc:=cb) (k:=mix l) (BT l) (.bool false) h.1
 unfold gW
 cases hg:pR tr (mix l) <;> rw [hg] at this <;> exact this
theorem PU {y:Yard} {tr:MA} (h:Kept y tr) (l:List Int) (b:Bool):mV 10 ((mix l).map ci) (cb b) (gW tr)=gW (vX tr (mix l) b):=
 (yC 10).upd (vc:=cb) (k:=mix l) (BT l) b h.1
theorem aDD (y:Yard) (l:List Int):can y l=(PL y l)[0]?.isSome:=by
 unfold can
 cases PL y l <;> rfl
theorem aBX (hI:ItsM its) (n:Nat) {y:Yard} (hy:y.ok=true) {l:List Int} (hs:bF y l=true) :
  ∃ c,D its (n+2) eX [.ref (pc y),.row 1 (ints l),ci 0]=some [c,cb (can y l)]:=by
 have:=aEi hI n hy hs 0 (by omega)
 rw [aDD]
 rw [show ((0:Nat):Int)=0 from rfl] at this
 rw [this]
 cases (PL y l)[0]? with
 | some x=>exact ⟨_,rfl⟩
 | none=>exact ⟨_,rfl⟩
theorem VX {y:Yard} {l:List Int} (h:bF y l=true):l.all (has y)=true:=List.all_eq_true.2 (yN h)
theorem ZP {y:Yard} (hy:y.ok=true) {l:List Int} (hl:l.all (has y)=true) {tr:MA} (hk:Kept y tr) {call:Option (List CV)} {c:CV} (hc:call=some [c,cb (can y l)]) :
  ∃ tr',Kept y tr'∧(aJ (aB (!(decide ((bD 10 ((mix l).map ci) (gW tr))<(List.length (gW tr))))) (aC call fun v13=>chk (AH [(.int .i64),(.int .i64),(.int .i64),(.int .i64),(.int .i64),(.int .i64),(.int .i64),(.int .i64),(.int .i64),(.int .i64)] .bool (gW tr))<|some (.nx [cb (gb v13 1),CV.row 11 (mV 10 ((mix l).map ci) (cb (gb v13 1)) (gW tr))])) (some (.nx [cb (cB (bO 10 ((mix l).map ci) (.bool false) (gW tr))),CV.row 11 (gW tr)]))) fun v13=>some (.ret [cb (gb v13 0),CV.row 11 (gr v13 1)]))=some (.ret [cb (can y l),CV.row 11 (gW tr')]):=by
 rw [aBW hk l,ZO hk l,hc]
 cases hg:pR tr (mix l) with
 | none =>
  refine ⟨_,hk.set hy hl,?_⟩
  simp only [Option.isSome_none,Bool.not_false,aB,aD,VW hk,aE,aEI,cY,PU hk,cJ,dY,bN]
 | some b =>
  refine ⟨tr,hk,?_⟩
  have:=hk.2 l b hl hg
  simp only [Option.isSome_some,Bool.not_true,aB,cJ,cY,dY,bN,aFr,this]
end Go.Proofs.Ytnnifohchhjkhaa
namespace Go.Proofs.Ytnnifohchhjkhaa
open Go Go.Sx Go.Pen
set_option maxRecDepth 10000
attribute [local simp] Bool.and_assoc Bool.or_assoc
variable {its:ITS}
theorem aGX (n:Nat) (p c:CV) (l by_:List Int) (h:inR l by_) (hb:by_.length<1000000):D its (n+1) pG [p,.row 1 (ints l),c,.row 1 (ints by_)]=some [.row 1 (ints (ofL l by_))]:=by
 rw [AT]
 unfold pN
 rw [(cE by_ (fun i (_:Unit)=>[ci (i:Int),.row 1 (ints (ofL l (by_.take i)))]) (fun _ _=>()) (fun _ _=>True) 0 (fun _=>[.row 1 (ints (ofL l by_))]) () ?hv trivial ?hs ?he).1]
 case hv=>rfl
 case hs =>
  intro i hi _ _
  refine ⟨?_,trivial⟩
  obtain ⟨h0,h1⟩:=h _ (List.getElem_mem hi)
  obtain ⟨m,hm⟩:∃ m:Nat,by_[i]=m:=⟨by_[i].toNat,by omega⟩
  have hml:m<l.length:=by omega
  have hlt:((i:Int)<(by_.length:Int))=True:=eq_true (by omega)
  have hf:cX (ints (ofL l (by_.take i))).length 1 8=true:=dZ (by rw [bJ,mQ,List.length_take];omega) (by rw [bJ,mQ,List.length_take];omega)
  have e:ofL l (by_.take (i+1))=ofL l (by_.take i)++[l[m]]:=by
   rw [← List.take_append_getElem hi,hm]
   unfold ofL
   rw [List.map_append]
   simp [hml]
  rw [e]
  simp only [aZ,dE,aK,hlt,decide_true,aB,aW hi,bI hi,li1,aE,hm,aW hml,bI hml,dY,bN,hf,vL,vK,List.take_succ_cons,List.take_zero,jJ,aQ (show i<9223372036854775807 by omega)]
 case he =>
  intro _ _
  rw [List.take_length]
  simp only [aZ,aK,eq_false (show ¬((by_.length:Int)<(by_.length:Int)) by omega),decide_false,aB,dY,bN]
 ·simp
theorem aBY {y:Yard} (hy:y.ok=true):aG (VM (pc y)) [ci 0,ci 0]=some (.br 0 [ci (total y)]):=by
 have h5:=(fU hy).1
 rw [(cE y.pens (fun i (s:Int)=>[ci s,ci (i:Int)]) (fun n x=>n+x) (fun i s=>0≤s∧s≤1000*(i:Int)) 0 (fun s=>[ci s]) 0 ?hv ?h0 ?hs ?he).1]
 case hv=>rfl
 case h0=>simp
 case hs =>
  intro i hi s hP
  have hr:=DL hy hi
  have hlt:((i:Int)<(y.pens.length:Int))=True:=eq_true (by omega)
  have hw:wr (s+y.pens[i])=s+y.pens[i]:=by rw [bE] <;> omega
  refine ⟨?_,by omega,by omega⟩
  unfold VM
  simp only [List.drop_zero,AB,dE,aZ,zG,hlt,decide_true,aB,SD hi,aBj hi,li1,aE,hw,aQ (show i<9223372036854775807 by omega)]
 case he =>
  intro s _
  unfold VM
  simp only [List.drop_zero,AB,dE,aZ,zG,eq_false (show ¬((y.pens.length:Int)<(y.pens.length:Int)) by omega),decide_false,aB]
 ·rfl
theorem VY {h:CV→Option (List CV)} {r:List CV} (hh:∀ c,h c=some r) (K:List CV→Option Ou):MY h K=K r:=by
 unfold MY
 rw [if_pos (fun c=>by rw [hh c,hh dC]),hh dC];rfl
theorem PV (f:Bool→List CV) (n:Nat) {y:Yard} (hy:y.ok=true) {l:List Int} (hl:∀ s∈l,1≤s∧s≤9) {by_:List Int} (hb:inR l by_) (hbl:by_.length<1000000) :
  VN f (D its (n+2)) (pc y) (ints l) (ints by_)=some (.ret (f (tY y l by_))):=by
 unfold VN
 rw [List.drop_zero,List.drop_zero,PQ,aE,aBY hy,cD,VY (fun c=>aGX (n+1) _ c l by_ hb hbl)]
 simp only [bN]
 rw [w_room (n+1) hy (ofL l by_) (fun s hs=>hl s (VC hb hs)) (by rw [mQ];omega)]
 rfl
theorem PW (n:Nat) {y:Yard} (hy:y.ok=true) {l:List Int} (hl:∀ s∈l,1≤s∧s≤9) {by_:List Int} (hb:inR l by_) (hbl:by_.length<1000000) :
  aBB (D its (n+2)) (pc y) (ints l) (ints by_)=some (.ret [cb (tY y l by_)]):=PV (fun b=>[cb b]) n hy hl hb hbl
theorem EN (hI:ItsM its) (n:Nat) {y:Yard} (hy:y.ok=true) {l:List Int} (hl:∀ s∈l,1≤s∧s≤9):∀ (k:Nat) (by_:List Int),inR l by_→by_.length≤8→k≤by_.length →
  aG (PG (D its (n+2)) (pc y) (ints l)) [.row 1 (ints by_),ci ((k:Int) - 1)]=some (.br 0 [.row 1 (ints (least (tY y l) k by_))])
 | 0,by_,_,_,_=>by
  refine bS ?_ (by simp)
  unfold PG
  simp only [dE,aZ,eq_false (show ¬(((0:Nat):Int) - 1≥0) by omega),decide_false,aB,bN,least]
 | k+1,by_,hb,h8,hk=>by
  have e:(((k+1:Nat):Int) - 1)=(k:Int):=by omega
  have hd:=hI.del (n+1) by_ k (by omega) (by omega)
  have hm:=PW (its:=its) n hy hl (nT hb k) (by have:=List.length_eraseIdx_le by_ k;omega)
  have hstep:PG (D its (n+2)) (pc y) (ints l) [.row 1 (ints by_),ci (((k+1:Nat):Int) - 1)]=some (.nx [.row 1 (ints (if tY y l (by_.eraseIdx k)=true then by_.eraseIdx k else by_)),ci ((k:Int) - 1)]):=by
   unfold PG
   have hw:wr ((k:Int) - 1)=(k:Int) - 1:=by rw [bE] <;> omega
   simp only [e,dE,aZ,eq_true (show ((k:Int)≥0) by omega),decide_true,aB,bN,bJ,TN h8,bL,aQ (show k<9223372036854775807 by omega),hd,aD,hw]
   rw [show xN 1 true [CV.row 1 (ints (by_.eraseIdx k)),CV.val (.bool true)]=true from rfl,aE,hm,bL,cY]
   cases tY y l (by_.eraseIdx k) <;> rfl
  rw [eA hstep]
  simp only [least]
  refine EN hI n hy hl k _ ?_ ?_ ?_
  ·split
   ·exact nT hb k
   ·exact hb
  ·split
   ·have:=List.length_eraseIdx_le by_ k;omega
   ·exact h8
  ·split
   ·rw [List.length_eraseIdx_of_lt (by omega)];omega
   ·omega
theorem aBZ (y:Yard) (s:Int):(y.pens.findIdx? fun n=>decide (rm y s≤n))=none↔DM y s=true:=by
 rw [wR]
 unfold DM
 rw [Bool.eq_false_iff,List.all_eq_true]
 simp [List.any_eq_true]
theorem VZ (f:Bool→List CV) {y:Yard} (hy:y.ok=true) {l:List Int} (hl:∀ s∈l,1≤s∧s≤9) {by_:List Int} (hb:inR l by_):aDp f (pc y) (ints l) (ints by_)=some (.ret (f (big y l by_))):=by
 unfold aDp big
 by_cases h1:by_.length=1
 ·match by_,h1 with
  | [i],_ =>
   obtain ⟨h0,hi⟩:=hb i (by simp)
   obtain ⟨m,rfl⟩:∃ m:Nat,i=m:=⟨i.toNat,by omega⟩
   have hm:m<l.length:=by omega
   have h9:=hl _ (List.getElem_mem hm)
   have h5:=(fU hy).1
   obtain ⟨k1,k2⟩:=sC hy (s:=l[m]) (by omega) (by omega) (c:=1) (by omega)
   have hil:(il (ints [((m:Nat):Int)]) == 1)=true:=rfl
   rw [hil]
   simp only [aB,List.drop_zero,PQ,aE]
   rw [nN (fun n=>decide (rm y l[m]≤n)) y.pens (fun i=>some (.ret [ci (i:Int)])) (some (.br 0 [])) (fun i=>[ci (i:Int)]) ?hv ?hR ?hX (fun i hi hp=>?h1) (fun i hi hp=>?h2) ?h3]
   case hv=>rfl
   case hR=>simp
   case hX=>simp
   case h3 =>
    unfold VL
    simp only [List.drop_zero,AB,aZ,zG,eq_false (show ¬((y.pens.length:Int)<(y.pens.length:Int)) by omega),decide_false,aB]
   all_goals
    have e0:inb 0 (ints [((m:Nat):Int)])=true:=rfl
    have e1:(ints [((m:Nat):Int)]).getD 0 []=[ci ((m:Nat):Int)]:=rfl
    have k5:((0:Int)≤l[m])=True:=eq_true (by omega)
    have k7:(l[m]<Int.ofNat 10)=True:=eq_true (by show l[m]<10;omega)
   case h1 =>
    have hp':(rm y l[m]≤y.pens[i])=False:=eq_false (by simpa using hp)
    unfold VL
    simp only [List.drop_zero,AB,aZ,zG,eq_true (show ((i:Int)<(y.pens.length:Int)) by omega),decide_true,aB,SD hi,aBj hi,li1,aE,e0,e1,aW hm,bI hm,k5,k7,Bool.and_self,k1,k2,LB,hp',decide_false,bL,cY,aQ (show i<9223372036854775807 by omega)]
   case h2 =>
    have hp':(rm y l[m]≤y.pens[i])=True:=eq_true (by simpa using hp)
    unfold VL
    simp only [List.drop_zero,AB,aZ,zG,eq_true (show ((i:Int)<(y.pens.length:Int)) by omega),decide_true,aB,SD hi,aBj hi,li1,aE,e0,e1,aW hm,bI hm,k5,k7,Bool.and_self,k1,k2,LB,hp',bL,cY]
   ·have hfb:=aBZ y l[m]
    have hd:l.getD (([((m:Nat):Int)]:List Int).headD 0).toNat 0=l[m]:=by simp [hm]
    rw [hd]
    cases hf:y.pens.findIdx? (fun n=>decide (rm y l[m]≤n)) with
    | none=>rw [hfb.1 hf];rfl
    | some i =>
     have:DM y l[m]=false:=by
      cases hc:DM y l[m] with
      | false=>rfl
      | true=>rw [hfb.2 hc] at hf;cases hf
     rw [this]
     simp
 ·have hil:(il (ints by_) == 1)=false:=by simp;omega
  rw [hil]
  simp only [aB,decide_eq_false h1,Bool.false_and]
theorem aDE {y:Yard} (hy:y.ok=true) {l:List Int} (hl:∀ s∈l,1≤s∧s≤9) {by_:List Int} (hb:inR l by_):aGO (pc y) (ints l) (ints by_)=some (.ret [cb (big y l by_)]):=VZ (fun b=>[cb b]) hy hl hb
theorem aDF (n:Nat) (a b:Int):D its (n+1) zP [ci a,ci b]=some [.fn 84 [.ref [ci b],.ref [ci a]]]:=by
 rw [OW];rfl
theorem IG {y:Yard} (hy:y.ok=true) {l:List Int} (hl:∀ s∈l,1≤s∧s≤9):∀ (rows:List (List Int)) (a b:Int) (c:CV),(∀ x∈rows,inR l x) →
  (match rows.find? (big y l) with
   | some x=>dW (zY (pc y) (ints l)) (rows.map yl) [ci a,c,ci b]=some (.ret [ci 1,.row 1 (ints x),ci 0])
   | none=>∃ c',dW (zY (pc y) (ints l)) (rows.map yl) [ci a,c,ci b]=some (.nx [ci a,c',ci b]))
 | [],a,b,c,_=>⟨c,rfl⟩
 | x::rows,a,b,c,h=>by
  have hb:=aDE hy hl (h x (by simp))
  cases hp:big y l x with
  | true =>
   rw [List.find?_cons_of_pos hp]
   simp only [List.map_cons,dW]
   unfold zY
   simp only [yl,bN,hb,bL,cY,hp,aB]
  | false =>
   rw [List.find?_cons_of_neg (by simp [hp])]
   have ih:=IG hy hl rows a b (.row 1 (cR c)) fun z hz=>h z (by simp [hz])
   have e:dW (zY (pc y) (ints l)) ((x::rows).map yl) [ci a,c,ci b]=dW (zY (pc y) (ints l)) (rows.map yl) [ci a,.row 1 (cR c),ci b]:=by
    simp only [List.map_cons,dW]
    have:zY (pc y) (ints l) (yl x) [ci a,c,ci b]=some (.nx [ci a,.row 1 (cR c),ci b]):=by
     unfold zY
     simp only [yl,bN,hb,bL,cY,hp,aB]
     rfl
    rw [this]
   rw [e]
   exact ih
theorem EO (f:Bool→List CV) (n:Nat) {y:Yard} (hy:y.ok=true) {l:List Int} (hl:∀ s∈l,1≤s∧s≤9) {by_:List Int} (hb:inR l by_) (hbl:by_.length<1000000) {i:Nat} (hi:i<by_.length) :
  aG (PH f (D its (n+1)) (pc y) (ints l) (ints by_) (i:Int)) [ci 0]=if ((List.range i).all fun j=>apt y ((ofL l by_).getD i 0) ((ofL l by_).getD j 0))=true then some (.br 2 []) else some (.ret (f false)):=by
 have hget:∀ j,j<by_.length→∃ m:Nat,by_[j]? = some (m:Int)∧m<l.length∧(ofL l by_).getD j 0=l.getD m 0:=by
  intro j hj
  obtain ⟨h0,h1⟩:=hb _ (List.getElem_mem hj)
  refine ⟨by_[j].toNat,?_,by omega,?_⟩
  ·rw [List.getElem?_eq_getElem hj];congr 1;omega
  ·simp [ofL,hj]
 obtain ⟨mi,hmi,hmil,hoi⟩:=hget i hi
 have hmi':by_[i]=(mi:Int):=by rw [List.getElem?_eq_getElem hi] at hmi;exact Option.some.inj hmi
 have htl:(by_.take i).length=i:=by rw [List.length_take];omega
 have hst:∀ j,j<i→PH f (D its (n+1)) (pc y) (ints l) (ints by_) (i:Int) [ci (j:Int)]=if apt y ((ofL l by_).getD i 0) ((ofL l by_).getD j 0)=true then some (.nx [ci ((j+1:Nat):Int)]) else some (.ret (f false)):=by
  intro j hj
  obtain ⟨mj,hmj,hmjl,hoj⟩:=hget j (by omega)
  have hjt:j<(by_.take i).length:=by omega
  have hmj':(by_.take i)[j]=(mj:Int):=by
   rw [List.getElem_take]
   rw [List.getElem?_eq_getElem (by omega)] at hmj
   exact Option.some.inj hmj
  have hdi:l.getD mi 0=l[mi]:=by simp [hmil]
  have hdj:l.getD mj 0=l[mj]:=by simp [hmjl]
  rw [hoi,hoj,hdi,hdj]
  have hpa:=aDw (its:=its) n hy (hl _ (List.getElem_mem hmil)) (hl _ (List.getElem_mem hmjl))
  unfold PH
  simp only [aZ,List.drop_zero,Int.toNat_natCast,xZ,aK,htl,eq_true (show ((j:Int)<(i:Int)) by omega),decide_true,aB,aW hjt,bI hjt,li1,aE,hmj',bI hi,hmi',aW hmil,bI hmil,aW hmjl,bI hmjl,hpa,aD,cY,aQ (show j<9223372036854775807 by omega)]
  cases apt y l[mi] l[mj] <;> rfl
 rw [hZ i (fun j=>[ci (j:Int)]) (fun j=>!apt y ((ofL l by_).getD i 0) ((ofL l by_).getD j 0)) (fun _=>some (.ret (f false))) (some (.br 2 [])) ?hv ?hR ?hX (fun j hj hp=>?s1) (fun j hj hp=>?s2) ?s3]
 case hv=>rfl
 case hR=>simp
 case hX=>simp
 case s3 =>
  unfold PH
  simp only [aZ,List.drop_zero,Int.toNat_natCast,xZ,aK,htl,eq_false (show ¬((i:Int)<(i:Int)) by omega),decide_false,aB]
 case s1=>rw [hst j hj,if_pos (by simpa using hp)]
 case s2=>rw [hst j hj,if_neg (by simpa using hp)]
 ·cases hf:(List.range i).find? (fun j=>!apt y ((ofL l by_).getD i 0) ((ofL l by_).getD j 0)) with
  | none =>
   rw [List.find?_eq_none] at hf
   rw [if_pos]
   rw [List.all_eq_true]
   intro j hj
   have:=hf j hj
   simpa using this
  | some j =>
   have h1:=List.find?_some hf
   have h2:=List.mem_of_find?_eq_some hf
   rw [if_neg]
   intro hc
   rw [List.all_eq_true] at hc
   rw [hc j h2] at h1
   cases h1
theorem PX (f:Bool→List CV) (n:Nat) {y:Yard} (hy:y.ok=true) {l:List Int} (hl:∀ s∈l,1≤s∧s≤9) {by_:List Int} (hb:inR l by_) (hbl:by_.length<1000000) :
  VP f (D its (n+1)) (pc y) (ints l) (ints by_)=some (.ret (f (many y l by_))):=by
 have h5:=(fU hy).1
 unfold VP
 rw [hZ by_.length (fun i=>[ci (i:Int)]) (fun i=>!((List.range i).all fun j=>apt y ((ofL l by_).getD i 0) ((ofL l by_).getD j 0))) (fun _=>some (.ret (f false))) (some (.br 0 [])) ?hv ?hR ?hX (fun i hi hp=>?s1) (fun i hi hp=>?s2) ?s3]
 case hv=>rfl
 case hR=>simp
 case hX=>simp
 case s3 =>
  unfold VO
  simp only [aZ,aK,eq_false (show ¬((by_.length:Int)<(by_.length:Int)) by omega),decide_false,aB]
 case s1 =>
  simp only [Bool.not_eq_false'] at hp
  unfold VO
  simp only [aZ,aK,eq_true (show ((i:Int)<(by_.length:Int)) by omega),eq_true (show ((i:Int)≤(by_.length:Int)) by omega),eq_true (show ((0:Int)≤(i:Int)) by omega),Int.le_refl,Nat.le_refl,decide_true,Bool.and_self,aB,aW hi,bI hi,li1,aE,EO f n hy hl hb hbl hi,hp,if_true,cD,aQ (show i<9223372036854775807 by omega)]
 case s2 =>
  simp only [Bool.not_eq_true'] at hp
  unfold VO
  simp only [aZ,aK,eq_true (show ((i:Int)<(by_.length:Int)) by omega),eq_true (show ((i:Int)≤(by_.length:Int)) by omega),eq_true (show ((0:Int)≤(i:Int)) by omega),Int.le_refl,Nat.le_refl,decide_true,Bool.and_self,aB,aW hi,bI hi,li1,aE,EO f n hy hl hb hbl hi,hp,Bool.false_eq_true,if_false,aA9]
 ·have hal:(List.range by_.length).find? (fun i=>!((List.range i).all fun j=>apt y ((ofL l by_).getD i 0) ((ofL l by_).getD j 0)))=none↔DN y (ofL l by_)=true:=by
   rw [List.find?_eq_none]
   unfold DN
   rw [mQ,List.all_eq_true]
   refine forall_congr' fun i=>forall_congr' fun hi=>?_
   simp
  unfold many
  cases hf:(List.range by_.length).find? (fun i=>!((List.range i).all fun j=>apt y ((ofL l by_).getD i 0) ((ofL l by_).getD j 0))) with
  | none =>
   rw [hal.1 hf,Bool.true_and]
   simp only [cD,List.drop_zero,PQ,aE,AB,zG,aK,aQ (show y.pens.length<9223372036854775807 by omega)]
   congr 4
   rw [Bool.eq_iff_iff]
   simp only [beq_iff_eq,decide_eq_true_eq]
   omega
  | some i =>
   have:DN y (ofL l by_)=false:=by
    cases hc:DN y (ofL l by_) with
    | false=>rfl
    | true=>rw [hal.2 hc] at hf;cases hf
   rw [this]
   rfl
theorem aB0 (n:Nat) {y:Yard} (hy:y.ok=true) {l:List Int} (hl:∀ s∈l,1≤s∧s≤9) {by_:List Int} (hb:inR l by_) (hbl:by_.length<1000000) :
  aEa (D its (n+1)) (pc y) (ints l) (ints by_)=some (.ret [cb (many y l by_)]):=PX (fun b=>[cb b]) n hy hl hb hbl
theorem EP (n:Nat) {y:Yard} (hy:y.ok=true) {l:List Int} (hl:∀ s∈l,1≤s∧s≤9):∀ (rows:List (List Int)) (vs:List CV),(∀ x∈rows,inR l x∧x.length<1000000) →
  (match rows.find? (many y l) with
   | some x=>dW (rG (D its (n+1)) (pc y) (ints l)) (rows.map yl) vs=some (.ret [ci 3,.row 1 (ints x),ci 0])
   | none=>∃ vs',dW (rG (D its (n+1)) (pc y) (ints l)) (rows.map yl) vs=some (.nx vs'))
 | [],vs,_=>⟨vs,rfl⟩
 | x::rows,vs,h=>by
  have hb:=aB0 (its:=its) n hy hl (h x (by simp)).1 (h x (by simp)).2
  cases hp:many y l x with
  | true =>
   rw [List.find?_cons_of_pos hp]
   simp only [List.map_cons,dW]
   unfold rG
   simp only [yl,bN,hb,bL,cY,hp,aB]
  | false =>
   rw [List.find?_cons_of_neg (by simp [hp])]
   have ih:=EP n hy hl rows [ci (gi vs 0),.row 1 (gr vs 1),ci (gi vs 2)] fun z hz=>h z (by simp [hz])
   have e:dW (rG (D its (n+1)) (pc y) (ints l)) ((x::rows).map yl) vs=dW (rG (D its (n+1)) (pc y) (ints l)) (rows.map yl) [ci (gi vs 0),.row 1 (gr vs 1),ci (gi vs 2)]:=by
    simp only [List.map_cons,dW]
    have:rG (D its (n+1)) (pc y) (ints l) (yl x) vs=some (.nx [ci (gi vs 0),.row 1 (gr vs 1),ci (gi vs 2)]):=by
     unfold rG
     simp only [yl,bN,hb,bL,cY,hp,aB]
    rw [this]
   rw [e]
   exact ih
end Go.Proofs.Ytnnifohchhjkhaa
namespace Go.Proofs.Ytnnifohchhjkhaa
open Go Go.Sx Go.Pen
set_option maxRecDepth 10000
attribute [local simp] Bool.and_assoc Bool.or_assoc
variable {its:ITS}
theorem ZQ {y:Yard} {l by_:List Int} (hs:bF y l=true) (hb:inR l by_) (h8:by_.length≤8):bF y (ofL l by_)=true:=by
 unfold bF
 rw [mQ,Bool.and_eq_true,decide_eq_true_eq,List.all_eq_true]
 exact ⟨h8,fun s hm=>yN hs s (VC hb hm)⟩
theorem II (hI:ItsM its) (n:Nat) {y:Yard} (hy:y.ok=true) {l:List Int} (hs:bF y l=true) {by_:List Int} (hb:inR l by_) (h8:by_.length≤8) {tr:MA} (hk:Kept y tr) :
  ∃ tr',Kept y tr'∧KT (D its (n+2)) (pc y) (ints l) (ints by_) (gW tr)=some (.ret [cb (lV y l by_),.row 11 (gW tr')]):=by
 have hso:=ZQ hs hb h8
 obtain ⟨c,hc⟩:=aBX hI n hy hso
 obtain ⟨tr',hk',e⟩:=ZP hy (VX hso) hk hc
 refine ⟨tr',hk',?_⟩
 unfold KT
 rw [VY (fun c=>aGX (n+1) _ c l by_ hb (by omega))]
 simp only [bN]
 rw [PT (aBS hy hso) (by rw [mQ];omega),cD]
 rw [VW hk] at e ⊢
 simp only [VV,aE] at e ⊢
 rw [e]
 rfl
theorem AC (hI:ItsM its) (n:Nat) {y:Yard} (hy:y.ok=true) {l:List Int} (hs:bF y l=true):∀ (k:Nat) (by_:List Int) (tr:MA),inR l by_→by_.length≤8→k≤by_.length→Kept y tr →
  ∃ tr',aG (EG (D its (n+2)) (pc y) (ints l)) [.row 1 (ints by_),ci ((k:Int) - 1),.row 11 (gW tr)]=some (.br 0 [.row 1 (ints (least (lV y l) k by_)),.row 11 tr'])
 | 0,by_,tr,_,_,_,_=>by
  refine ⟨gW tr,bS ?_ (by simp)⟩
  unfold EG
  simp only [dE,aZ,eq_false (show ¬(((0:Nat):Int) - 1≥0) by omega),decide_false,aB,bN,dY,least]
 | k+1,by_,tr,hb,h8,hk,ht=>by
  have e:(((k+1:Nat):Int) - 1)=(k:Int):=by omega
  have hd:=hI.del (n+1) by_ k (by omega) (by omega)
  have hel:=List.length_eraseIdx_le by_ k
  obtain ⟨tr1,ht1,hm⟩:=II (its:=its) hI n hy hs (nT hb k) (by omega) ht
  have hstep:EG (D its (n+2)) (pc y) (ints l) [.row 1 (ints by_),ci (((k+1:Nat):Int) - 1),.row 11 (gW tr)]=some (.nx [.row 1 (ints (if lV y l (by_.eraseIdx k)=true then by_.eraseIdx k else by_)),ci ((k:Int) - 1),.row 11 (gW tr1)]):=by
   unfold EG
   have hw:wr ((k:Int) - 1)=(k:Int) - 1:=by rw [bE] <;> omega
   simp only [e,dE,aZ,eq_true (show ((k:Int)≥0) by omega),decide_true,aB,bN,dY,bJ,TN h8,bL,aQ (show k<9223372036854775807 by omega),hd,aD,hw]
   rw [show xN 1 true [CV.row 1 (ints (by_.eraseIdx k)),CV.val (.bool true)]=true from rfl,aE,hm,bL,cY]
   cases lV y l (by_.eraseIdx k) <;> rfl
  rw [eA hstep]
  simp only [least]
  refine AC hI n hy hs k _ _ ?_ ?_ ?_ ht1
  ·split
   ·exact nT hb k
   ·exact hb
  ·split
   ·omega
   ·exact h8
  ·split
   ·rw [List.length_eraseIdx_of_lt (by omega)];omega
   ·omega
theorem aB1 {l:List Int} (hl:l.length<1000000):aG (allIn (ints l)) [ci 0,.row 1 []]=some (.br 2 [.row 1 (ints (idx l))]):=by
 rw [(cE l (fun i (_:Unit)=>[ci (i:Int),.row 1 (ints ((List.range i).map fun (j:Nat)=>(j:Int)))]) (fun _ _=>()) (fun _ _=>True) 2 (fun _=>[.row 1 (ints (idx l))]) () ?hv trivial ?hs ?he).1]
 case hv=>rfl
 case hs =>
  intro i hi _ _
  refine ⟨?_,trivial⟩
  have hf:cX (ints ((List.range i).map fun (j:Nat)=>(j:Int))).length 1 8=true:=dZ (by simp;omega) (by simp;omega)
  rw [List.range_succ,List.map_append]
  unfold allIn
  simp only [aZ,aK,eq_true (show ((i:Int)<(l.length:Int)) by omega),decide_true,aB,dY,bN,hf,aE,vL,vK,List.take_succ_cons,List.take_zero,jJ,aQ (show i<9223372036854775807 by omega),List.map_cons,List.map_nil]
 case he =>
  intro _ _
  unfold allIn
  simp only [aZ,aK,eq_false (show ¬((l.length:Int)<(l.length:Int)) by omega),decide_false,aB,dY,bN]
  rfl
theorem sD (l:List Int):(idx l).length=l.length:=by simp [idx]
theorem LI {l x:List Int} {k:Nat} (h:x∈rls l.length k 0):inR l x∧x.length=k:=by
 obtain ⟨h1,_,h3⟩:=BK.1 h
 exact ⟨fun i hi=>by have:=h3 i hi;omega,h1⟩
theorem aB2 (hI:ItsM its) (n:Nat) {y:Yard} (hf:Fit y) (l:List Int) (hl:l.length<9223372036854775807) :
  D its (n+8) kX [.row 1 y.ps,.row 4 y.ks,.row 1 (ints l)]=some (if asked y l=0 then [ci (refuse y l).1,.row 1 (ints (refuse y l).2.1),ci (refuse y l).2.2] else [ci 0,.row 1 [],ci (asked y l)]):=by
 rw [KU]
 unfold VQ
 have hask:=BR (its:=its) n y l hf.p hf.k hl
 change D its (n+7) 46 _=_ at hask
 rw [hask]
 by_cases h':¬asked y l=0
 ·simp [h']
 have h:asked y l=0:=Decidable.of_not_not h'
 obtain ⟨hy,hs⟩:=gN h
 have h8:=jL hs
 have h5:=(fU hy).1
 have h9:=aBS hy hs
 obtain ⟨c0,hn0⟩:=aBX hI (n+5) hy hs
 change D its (n+7) 47 _=_ at hn0
 have hli:∀ a b:Int,D its (n+7) 50 [ci a,ci b]=some [.fn 84 [.ref [ci b],.ref [ci a]]]:=aDF (n+6)
 have hb0:((0:Int) != 0)=false:=rfl
 have hw:wr ((y.pens.length:Int)+1)=((y.pens.length+1:Nat):Int):=aQ (by omega)
 have hwl:wr (((idx l).length:Int) - 1)=((l.length:Nat):Int) - 1:=by rw [sD,bE] <;> omega
 have hl1:=LH (M:=D its (n+7)) aGW (hI.lists (n+6) l.length 1 (by omega) (by omega) (by omega))
 have hl2:=LH (M:=D its (n+7)) aGW (hI.lists (n+6) l.length (y.pens.length+1) (by omega) (by omega) (by omega))
 have hmo:=PW (its:=its) (n+5) hy h9 (BL l) (by rw [sD];omega)
 have hkept:Kept y (vX [] (mix l) (can y l)):=(Kept.nil y).set hy (VX hs)
 have hupd:=PU (Kept.nil y) l (can y l)
 obtain ⟨tr',hlt⟩:=AC hI (n+5) hy hs l.length (idx l) (vX [] (mix l) (can y l)) (BL l) (by rw [sD];omega) (by rw [sD];omega) hkept
 have hlm:=EN hI (n+5) hy h9 l.length (idx l) (BL l) (by rw [sD];omega) (by rw [sD];omega)
 have hbr:=IG hy h9 (rls l.length 1 0) 0 0 (.val (Value.slice none 0 0)) (fun x hx=>(LI hx).1)
 have hmr:=fun vs=>EP (its:=its) (n+6) hy h9 (rls l.length (y.pens.length+1) 0) vs (fun x hx=>⟨(LI hx).1,by rw [(LI hx).2];omega⟩)
 simp only [h,beq_self_eq_true,kI,if_true,aD,dE,aZ,hb0,aB,List.getD_cons_zero,uL,aE,EK,PT h9 (show l.length<1000000 by omega),cD,hn0,aEI,cY,VV,cJ,bL]
 rw [show ([]:List (List CV))=gW [] from rfl,hupd]
 unfold refuse
 cases hc:can y l with
 | true=>rfl
 | false =>
  rw [hc] at hlt hkept
  simp only [aK,hli,aD,List.getD_cons_zero,Bool.false_eq_true,if_false]
  have hcast1:((1:Nat):Int)=1:=rfl
  rw [hcast1] at hl1
  rw [hl1]
  simp only [jS]
  cases hfb:(rls l.length 1 0).find? (big y l) with
  | some x =>
   rw [hfb] at hbr
   simp only at hbr
   rw [hbr]
   rfl
  | none =>
   rw [hfb] at hbr
   obtain ⟨c',hbr⟩:=hbr
   rw [hbr]
   simp only [brO,cJ]
   rw [show (gW []:List (List CV))=[] from rfl,aB1 (by omega),cD]
   simp only [bN,hmo,bL,cY,aK,hwl]
   cases hmu:tY y l (idx l) with
   | true =>
    simp only [if_true]
    rw [hlm]
    rfl
   | false =>
    simp only [Bool.false_eq_true,if_false,List.drop_zero,PQ,aE,AB,zG,hw,dE,aZ]
    rw [hl2]
    simp only
    have hmr':=hmr [ci 0,.row 1 (gr [ci 0,c',ci 0] 1),ci 0]
    cases hfm:(rls l.length (y.pens.length+1) 0).find? (many y l) with
    | some x =>
     rw [hfm] at hmr'
     simp only at hmr'
     rw [hmr']
     rfl
    | none =>
     rw [hfm] at hmr'
     obtain ⟨vs',hmr'⟩:=hmr'
     rw [hmr']
     simp only [brO,cJ,dY,bN]
     rw [hlt]
     rfl
end Go.Proofs.Ytnnifohchhjkhaa
namespace Go.Proofs.Ytnnifohchhjkhaa
open Go Go.Sx Go.Pen
set_option maxRecDepth 100000
def ER (pens:List (List CV)):List Int:=pens.map fun e=>gi e 0
theorem sE (p:List Int):ER (ints p)=p:=by
 unfold ER ints
 rw [List.map_map]
 apply List.ext_getElem (by simp)
 intro i h1 h2
 simp
theorem WA (y:Yard) (l:List Int):∀ (k:Nat) (p:List Int),p.length≤l.length→l.length - p.length<k →
  plc (fun pens=>okP y l (ER pens)) y.pens.length l.length k (ints p)=(pls y l (l.length - p.length) p).map ints
 | 0,_,_,h=>by omega
 | k+1,p,hp,hk=>by
  simp only [plc,bJ]
  by_cases e:p.length=l.length
  ·rw [if_pos e,e,Nat.sub_self]
   simp [pls]
  ·rw [if_neg e]
   obtain ⟨m,hm⟩:∃ m,l.length - p.length=m+1:=⟨l.length - p.length - 1,by omega⟩
   rw [hm]
   simp only [pls,List.map_flatMap]
   congr 1
   funext i
   simp only [jJ,sE]
   split
   ·have:=WA y l k (p++[(i:Int)]) (by simp;omega) (by simp;omega)
    rw [this]
    rw [show l.length - (p++[(i:Int)]).length=m by simp;omega]
   ·rfl
theorem aDG {its:ITS} (n:Nat) {y:Yard} (hy:y.ok=true) {l:List Int} (hs:bF y l=true) (pens:List (List CV)) (hp:Ip pens) (hl:pens.length≤l.length) :
  ∃ c,D its (n+2) 48 [.ref (pc y),.row 1 ((ints l).take pens.length),.row 1 pens]=some [c,cb (okP y l (ER pens))]:=by
 obtain ⟨p,rfl⟩:=hp
 change ∃ c,D its (n+2) 48 [.ref (pc y),.row 1 ((ints l).take (ints p).length),.row 1 (ints p)]=some [c,cb (okP y l (ER (ints p)))]
 change (ints p).length≤l.length at hl
 rw [bJ] at hl ⊢
 have h8:=jL hs
 rw [sE,xZ]
 have:=aBP (its:=its) n hy (l.take p.length) p (fun s h=>aBS hy hs s (List.mem_of_mem_take h)) (by rw [List.length_take];omega) (by omega)
 have hh:(p.length == (l.take p.length).length&&okZ y ((l.take p.length).zip p))=okP y l p:=by
  rw [← aBg y l p hl]
  unfold okP
  have e:(l.take p.length).length=p.length:=by rw [List.length_take];omega
  simp [e]
 rw [hh] at this
 exact ⟨_,this⟩
theorem aB3 {y:Yard} (hy:y.ok=true) {l:List Int} (hs:bF y l=true) :
  dM Try.prog 100=true∧sQ Try.prog 100 [.ref [.row 1 (ints l)],.ref [.ref (pc y)]] (.lent 3 1) (mM ((PL y l).map yl)):=by
 refine ⟨by kernel_rfl,?_⟩
 have h8:=jL hs
 have h5:=(fU hy).1
 have h:=aBF (M:=D PN 2) (fun {_}=>PO 2) (by kernel_rfl) (aEd 2) (lrow:=ints l) (p:=pc y) (ok:=fun pens=>okP y l (ER pens)) (n:=y.pens.length) (len:=l.length)
  (fun pens hip hl=>aDG 0 hy hs pens hip hl) (by simp) (by omega) (by simp [Yard.ps]) (by omega) (by simp)
 have e:=WA y l 9 [] (Nat.zero_le _) (by simp;omega)
 rw [NY] at e
 rw [e] at h
 rw [List.map_map] at h
 exact h
theorem aE8 {a b:Kd} (h:a.cv=b.cv):a=b:=by
 cases a;cases b
 simp only [Kd.cv,List.cons.injEq,ci,CV.val.injEq,Value.int.injEq,and_true,true_and] at h
 obtain ⟨rfl,rfl,rfl,rfl⟩:=h
 rfl
theorem aE9 {y z:Yard} (h:pc y=pc z):y=z:=by
 unfold pc at h
 simp only [List.cons.injEq,CV.row.injEq,true_and] at h
 obtain ⟨h1,h2,_⟩:=h
 cases y;cases z
 simp only [Yard.ps,Yard.ks] at h1 h2
 have:=NZ h1
 have h3:=List.map_inj_right (f:=Kd.cv) (fun _ _=>aE8) |>.1 h2
 rw [this,h3]
open Classical in
noncomputable def IJ (caps:List CV):Option (List CV):=
 if h:∃ x:Yard×List Int,x.1.ok=true∧bF x.1 x.2=true∧caps=[.ref [.row 1 (ints x.2)],.ref [.ref (pc x.1)]] then some [.row 0 ((PL h.choose.1 h.choose.2).map yl),shC (.lent 3 1)] else none
theorem aB4 {y:Yard} {l:List Int} (hy:y.ok=true) (hs:bF y l=true):IJ [.ref [.row 1 (ints l)],.ref [.ref (pc y)]]=some [.row 0 ((PL y l).map yl),shC (.lent 3 1)]:=by
 have h:∃ x:Yard×List Int,x.1.ok=true∧bF x.1 x.2=true∧[CV.ref [.row 1 (ints l)],.ref [.ref (pc y)]]=[.ref [.row 1 (ints x.2)],.ref [.ref (pc x.1)]]:=⟨(y,l),hy,hs,rfl⟩
 unfold IJ
 rw [dif_pos h]
 have hc:=h.choose_spec.2.2
 generalize h.choose=z at hc ⊢
 simp only [List.cons.injEq,CV.ref.injEq,CV.row.injEq,and_true,true_and] at hc
 rw [← NZ hc.1,← aE9 hc.2]
theorem IK {f:Nat} {it:List CV→Option (List CV)} {sh:YSh} (hsh:(∀ T,shC sh≠.fn T [])∧(∀ b,shC sh≠.val (.bool b))) (h:∀ caps out,it caps=some out→(∃ c cs,caps=.ref c::cs)∧∃ rows,out=[.row 0 rows,shC sh]∧dM Try.prog f=true∧sQ Try.prog f caps sh (mM rows)):KW f it:=by
 intro caps out ho
 obtain ⟨⟨c,cs,rfl⟩,rows,rfl,he,hs⟩:=h caps out ho
 refine ⟨fun rows' sh' hr=>?_,fun xs hx=>by simp [intsOf] at hx,fun k es' T hr=>?_,fun T k cs e e' hdr h1 h2=>by simp at h1,fun k T b h1=>by simp at h1,fun T fs h1=>by simp at h1⟩
 ·simp only [List.cons.injEq,CV.row.injEq,true_and,and_true] at hr
  obtain ⟨rfl,hr⟩:=hr
  rw [← UN hr]
  exact ⟨he,hs⟩
 ·simp only [List.cons.injEq,and_true] at hr
  exact absurd hr.2 (hsh.1 T)
theorem aDH:KW 100 IJ:=IK (sh:=.lent 3 1) ⟨fun T=>by simp [shC],fun b=>by simp [shC]⟩ fun caps out h=>by
 unfold IJ at h
 split at h
 ·rename_i hx
  obtain ⟨h1,h2,h3⟩:=hx.choose_spec
  generalize hx.choose=z at h h1 h2 h3
  subst h3
  cases h
  exact ⟨⟨_,_,rfl⟩,_,rfl,aB3 h1 h2⟩
 ·cases h
theorem WB (n many:Nat):∀ (k:Nat) (lst:List Int) (frm:Nat),lst.length≤many→n - frm<k →
  FV n many k (ints lst) frm=(rls n (many - lst.length) frm).map fun x=>ints (lst++x)
 | 0,_,_,_,h=>by omega
 | k+1,lst,frm,hl,hk=>by
  rw [PK,bJ]
  by_cases e:lst.length=many
  ·rw [if_pos e,e,Nat.sub_self]
   simp [rls]
  ·rw [if_neg e]
   obtain ⟨m,hm⟩:∃ m,many - lst.length=m+1:=⟨many - lst.length - 1,by omega⟩
   rw [hm]
   simp only [rls,List.map_flatMap,List.map_map]
   have hcong:∀ (r:List Nat),(∀ i∈r,n - (i+1)<k)→(r.flatMap fun (i:Nat)=>FV n many k (ints lst++[[ci (i:Int)]]) (i+1))=r.flatMap fun (a:Nat)=>(rls n m (a+1)).map ((fun x=>ints (lst++x))∘fun l=>(a:Int)::l):=by
    intro r
    induction r with
    | nil=>intro _;rfl
    | cons i r ih =>
     intro hr
     rw [List.flatMap_cons,List.flatMap_cons,ih fun j hj=>hr j (by simp [hj])]
     congr 1
     rw [jJ,WB n many k (lst++[(i:Int)]) (i+1) (by simp;omega) (hr i (by simp))]
     rw [show many - (lst++[(i:Int)]).length=m by simp;omega]
     apply List.map_congr_left
     intro x _
     simp
   exact hcong _ fun i hi=>by
    rw [List.mem_range'_1] at hi
    omega
theorem TP {n many:Nat} (hn:n<9) (h0:0<many) (hm:many<10):dM Try.prog 84=true∧sQ Try.prog 84 [.ref [ci (many:Int)],.ref [ci (n:Int)]] (.clo [.one (.row 1)]) (mM ((rls n many 0).map yl)):=by
 refine ⟨by kernel_rfl,?_⟩
 have h:=TE (M:=D PN 1) (fun {_}=>PO 1) (by kernel_rfl) (aEd 1) hn h0 (show many<1000 by omega) (fun lst hl=>aBH 0 (by omega)) (ZH 0)
 have e:=WB n many 10 [] 0 (Nat.zero_le _) (by omega)
 rw [NY] at e
 rw [e,List.map_map] at h
 exact h
def IL:List CV→Option (List CV)
 | [.ref [.val (.int .i64 m)],.ref [.val (.int .i64 n)]]=>if 0≤n∧n<9∧0<m∧m<10 then some [.row 0 ((rls n.toNat m.toNat 0).map yl),shC (.clo [.one (.row 1)])] else none
 | _=>none
theorem aB5 {n many:Nat} (hn:n<9) (h0:0<many) (hm:many<10):IL [.ref [ci (many:Int)],.ref [ci (n:Int)]]=some [.row 0 ((rls n many 0).map yl),shC (.clo [.one (.row 1)])]:=by
 simp only [IL,ci]
 rw [if_pos (by omega)]
 simp
theorem aDI:KW 84 IL:=IK (sh:=.clo [.one (.row 1)]) ⟨fun T=>by simp [shC,scC],fun b=>by simp [shC,scC]⟩ fun caps out h=>by
 unfold IL at h
 split at h
 ·split at h
  ·rename_i m n hc
   cases h
   have:=TP (n:=n.toNat) (many:=m.toNat) (by omega) (by omega) (by omega)
   rw [show ((m.toNat:Nat):Int)=m by omega,show ((n.toNat:Nat):Int)=n by omega] at this
   exact ⟨⟨_,_,rfl⟩,_,rfl,this⟩
  ·cases h
 ·cases h
end Go.Proofs.Ytnnifohchhjkhaa
namespace Go.Proofs.Ytnnifohchhjkhaa
open Go Go.Shelf
set_option maxRecDepth 100000
def aGY:Ren:=⟨fun x=>match x with | 23=>57 | n=>n,fun x=>match x with | 22=>22 | 3=>3 | 4=>4 | 0=>0 | n=>n,fun n=>n⟩
theorem aFa:Lays2.n23 Try.prog aGY:=by
 constructor <;> first | kernel_rfl | (intro w;kernel_rfl)
end Go.Proofs.Ytnnifohchhjkhaa
namespace Go.Proofs.Ytnnifohchhjkhaa
open Go Go.Sx Go.Pen Go.Shelf Go.RowKit Go.Sort
set_option maxRecDepth 100000
theorem LJ {F:Fence} (hF:Free F) (hr:F.round=none) {n:Nat} {P:Program} {f:FuncId} {args:Array Value} {w:World} {R:Ending→World→Prop} (h:Calls P f args w R):CallsIn F n P f args w R:=by
 rw [hF.wide hr]
 exact callsIn_wide.2 h
theorem IM {w:World} {S:Nat→Prop}:∀ {l:List Int} {xs:List Value},CV.vals w S (ints l).flatten xs→xs=l.map (Value.int .i64)
 | [],[],_=>rfl
 | [],_::_,h=>by simp [ints,CV.vals] at h
 | _::_,[],h=>by simp [ints,CV.vals] at h
 | a::l,x::xs,h=>by
  simp only [ints,List.map_cons,List.flatten_cons,List.singleton_append,CV.vals,ci,CV.holds] at h
  rw [List.map_cons,h.1.1,IM (l:=l) h.2]
theorem IP {w:World} {S:Nat→Prop}:∀ (l:List Int),CV.vals w S (ints l).flatten (l.map (Value.int .i64))
 | []=>by simp [ints,CV.vals]
 | a::l=>by
  simp only [ints,List.map_cons,List.flatten_cons,List.singleton_append,CV.vals,ci,CV.holds]
  exact ⟨⟨trivial,rfl⟩,IP l⟩
theorem aB6 (l:List Int):∀ x∈ints l,x.length=1:=by
 intro x hx
 obtain ⟨a,_,rfl⟩:=List.mem_map.1 hx
 rfl
theorem aGZ (l:List Int) (i:Nat) (hi:i<l.length):QU Try.prog 57 3 1 [ci (i:Int),ci ((i+1:Nat):Int)] (ints l) (ints (l.eraseIdx i)) true:=by
 intro B V j v hv hsl hT hk hes F n hF hro n0 w0 e w vs hm ha hs
 refine LJ hF hro ?_
 have hl:=Vec.sl_live hsl
 obtain ⟨xs,hown0,hvals,hrows⟩:=hm.vec j v hv hl
 have hown:=hown0.s (Vec.sl_T hsl)
 rw [hes] at hvals hown hown0
 have hxs:=IM hvals
 subst hxs
 rw [hT,hk] at hown
 rw [bJ] at hown
 have hvs:vs=#[e.hdr j v.ver,.int .i64 (i:Int),.int .i64 ((i+1:Nat):Int)]:=by
  apply Array.ext'
  generalize vs.toList=us at ha
  match us,ha with
  | [a,b,c],ha =>
   simp only [List.map_cons,List.map_nil,AV.all,AV.holds,CV.holds,ci,and_true] at ha
   obtain ⟨⟨h1,_⟩,⟨h2,_⟩,h3,_⟩:=ha
   rw [h1,h2,h3]
 subst hvs
 rcases hown with ⟨a,_,h0,_⟩ | ⟨hrow,g0,hg0,hob⟩
 ·omega
 rcases hrow.2 with ⟨_,h0⟩ | ⟨g,cap,cur,hh,hng,hb,h1,h2,h3,h4⟩
 ·omega
 rw [Nat.mul_one] at h4
 have hH:Holds (Value.int .i64) w g 0 l.toArray:=holds_of_blockI hb h4
 have hcap:cap≤9223372036854775807:=h2
 have hcall:=Any.slices_Delete_int aFa g 0 cap i (i+1) l w hH h1 hcap (Nat.le_succ i) hi
 rw [hh]
 refine Calls.mono hcall ?_
 rintro en w' ⟨rfl,q,rfl⟩
 rw [show l.length - (i+1 - i)=l.length - 1 by omega]
 let ts:List Int:=l.take i++l.drop (i+1)++List.replicate (i+1 - i) 0
 have htl:ts.length=l.length:=by simp [ts];omega
 have herl:(l.eraseIdx i).length=l.length - 1:=List.length_eraseIdx_of_lt hi
 have hhp:(putRow (Value.int .i64) (Sort.ahead w q) g 0 ts.toArray).heap[g]? = some (.cells (putCells (Value.int .i64) 0 ts.toArray cur) 3 (0,0)):=by
  have:=heap_sortedI (os:=#[]) (n:=q) ts.toArray hb
  rwa [grow_empty] at this
 have hgr:w.grownBy (putRow (Value.int .i64) (Sort.ahead w q) g 0 ts.toArray) (some g):=by
  have:=grownBy_sortedI (w:=w) (g:=g) (n:=q) (os:=#[]) ts.toArray
  rwa [grow_empty] at this
 have hsz:cur.size=cap:=by simpa using h3
 have htake:=take_putCellsI cur ts (by rw [htl,hsz];exact h1)
 have htk2:(putCells (Value.int .i64) 0 ts.toArray cur).toList.take (l.length - 1)=(l.eraseIdx i).map (Value.int .i64):=by
  have e1:(l.length - 1)=min (l.length - 1) ts.length:=by omega
  rw [e1,← List.take_take,htake,← List.map_take]
  congr 1
  have e2:ts=l.eraseIdx i++List.replicate (i+1 - i) 0:=by rw [List.eraseIdx_eq_take_drop_succ]
  rw [e2,List.take_append_of_le_length (by omega),← herl,List.take_length]
 have hown':OwnsV (putRow (Value.int .i64) (Sort.ahead w q) g 0 ts.toArray) n0 v.T v.k (.slice (some ⟨g,0,none⟩) (l.length - 1) cap) (ints (l.eraseIdx i)).length ((l.eraseIdx i).map (Value.int .i64)):=by
  rw [hT,hk,bJ,herl]
  refine OwnsV.of_row (by decide) ⟨by simp [herl],.inr ⟨g,cap,_,rfl,hng,hhp,by omega,h2,?_,by rw [Nat.mul_one];exact htk2⟩⟩
  simp [putCells,hsz]
 have hoblk:aX (e.hdr j v.ver)=some g:=by
  have hc:cap≠0:=by omega
  rw [hh]
  obtain ⟨c,rfl⟩:∃ c,cap=c+1:=⟨cap - 1,by omega⟩
  rfl
 have hoblk':aX (.slice (some ⟨g,0,none⟩) (l.length - 1) cap)=some g:=by
  obtain ⟨c,rfl⟩:∃ c,cap=c+1:=⟨cap - 1,by omega⟩
  rfl
 obtain ⟨env',m1,m2,m3,_⟩:=hm.vecStep (w':=putRow (Value.int .i64) (Sort.ahead w q) g 0 ts.toArray) hv hl (.slice (some ⟨g,0,none⟩) (l.length - 1) cap) (ints (l.eraseIdx i)) ((l.eraseIdx i).map (Value.int .i64))
  hown' (IP _) (by rw [hk];exact aB6 _) (by rw [hoblk];exact hgr) (.inl (by rw [hoblk,hoblk']))
 have hil:=(List.getElem?_eq_some_iff.1 hv).1
 refine ⟨env',B,_,.own j (v.ver+1),_,rfl,⟨by simp,rfl,rfl⟩,m1,m2,?_,?_⟩
 ·simp only [AV.holds]
  exact ⟨m3.symm,rfl⟩
 ·simp [AV.sco,vers,List.getD,hil]
end Go.Proofs.Ytnnifohchhjkhaa
