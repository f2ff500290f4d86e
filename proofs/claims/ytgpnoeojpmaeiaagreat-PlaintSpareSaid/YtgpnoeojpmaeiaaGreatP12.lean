/-
 The laws of a pinder's court (plaints) hold at every input, without any condition.
-/
import Derived.Conc.Holds
import Derived.Conc.SmallLaws
import Derived.Test.YtgpnoeojpmaeiaaGreatRows
import Derived.Test.YtgpnoeojpmaeiaaGreatP11
set_option linter.unusedSectionVars false
set_option linter.unusedVariables false
set_option linter.unusedSimpArgs false
namespace Go.Proofs.YtgpnoeojpmaeiaaGreat
section
open Go Go.Sx Go.Plaint Go.RowKit
set_option maxRecDepth 100000
def aGu:HT:=.reg [] [1,2,3] none []
def aGv:HT:=.two (.reg [] [1,2,3,6] none []) (.two (.reg [] [1,2,3,6,19,20,21] none []) (.blk ⟨[],[],[],[(0,1048576,0,some 0)]⟩ (.lp [] ⟨[1,2,3,19,20],[(6,.lf (Lf.row 1)),(21,.lf li)],[],[(0,1048576,0,some 0)]⟩ (.two (.reg [] [1,2,3,6,19,20,21,22] none []) (.two (.cond none (.nil) (.nil)) (.two (.thru (.two (.reg [] [1,2,3,6,8,19,20,21] none []) (.two (.two (.reg [] [1,2,3,6,8,19,20,21,27] none []) (.cond none (.nil) (.nil))) (.two (.reg [] [1,2,3,6,8,9,19,20,21] none []) (.two (.two (.reg [] [1,2,3,6,8,9,19,20,21,31,32,33] none []) (.blk ⟨[1,2,3,9,19,20,21],[],[],[(0,1048576,0,some 0)]⟩ (.lp [] ⟨[1,2,3,6,8,9,19,20,21,31,32],[(33,.lf li)],[],[(0,1048576,0,some 0)]⟩ (.two (.reg [] [1,2,3,6,8,9,19,20,21,31,32,33,34] none []) (.two (.cond none (.nil) (.nil)) (.two (.thru (.two (.reg [] [1,2,3,6,8,9,10,11,19,20,21,31,32,33] none []) (.two (.reg [] [1,2,3,6,8,9,10,19,20,21,31,32,33,38,39,40] none []) (.blk ⟨[1,2,3,6,8,9,19,20,21,31,32,33],[],[],[(0,1048576,0,some 0)]⟩ (.lp [] ⟨[1,2,3,6,8,9,10,19,20,21,31,32,33,38,39],[(40,.lf li)],[],[(0,1048576,0,some 0)]⟩ (.two (.reg [] [1,2,3,6,8,9,10,19,20,21,31,32,33,38,39,40,41] none []) (.two (.cond none (.nil) (.nil)) (.two (.thru (.two (.reg [] [1,2,3,6,8,9,10,12,13,19,20,21,31,32,33,38,39,40] none []) (.two (.reg [] [1,2,3,6,8,9,10,12,13,14,19,20,21,31,32,33,38,39,40] none []) (.two (.two (.reg [] [1,2,3,6,8,9,10,12,13,14,19,20,21,31,32,33,38,39,40,46] none []) (.cond (some ⟨[1,2,3,6,8,9,10,12,13,19,20,21,31,32,33,38,39,40],[(14,.lf li)],[],[]⟩) (.reg [] [1,2,3,6,8,9,10,12,13,14,19,20,21,31,32,33,38,39,40] none []) (.nil))) (.two (.reg [] [1,2,3,6,8,9,10,12,13,14,19,20,21,31,32,33,38,39,40,63] none []) (.cond (some ⟨[1,2,3,6,8,9,10,19,20,21,31,32,33,38,39,40],[],[],[(0,1048576,0,some 0)]⟩) (.reg [] [1,2,3,6,8,9,10,19,20,21,31,32,33,38,39,40] none [(none,⟨[],[],[],[]⟩,.yl (.clo [.agg [li,li,li,li]]))]) (.nil))))))) (.reg [] [1,2,3,6,8,9,10,19,20,21,31,32,33,38,39,40] none []))))))))) (.reg [] [1,2,3,6,8,9,19,20,21,31,32,33] none []))))))) (.reg [] [1,2,3,6,19,20,21] none [])))))) (.reg [] [1,2,3,6,19,20,21] none [])))))))
def UM (c:Code):Code:=match c with
 | .seq a _=>a
 | c=>c
def HI (c:Code):Code:=match c with
 | .seq _ (.seq _ b)=>b
 | c=>c
abbrev shL:YSh:=.clo [.agg [li,li,li,li]]
def s1F (p s f:List (List CV)) (k:Int) (c:Nat):SS:=⟨88,[(1,.cv (ci k)),(2,.cv (.val (.chan (some c)))),(3,.ptr 0 0)],[⟨true,97,[.cv (.row 8 p),.cv (.row 3 s),.cv (.row 6 f)]⟩],[⟨false,ghT,0,0,[]⟩]⟩
def asF (p s f:List (List CV)) (k:Int):List AV:=[.agg [.cv (.row 8 p),.cv (.row 3 s),.cv (.row 6 f)],.cv (ci k)]
noncomputable def lvO (M:Den) (p s:List (List CV)) (c:Nat) (now was:List (List CV)) (day i:Int) (v5:List CV):Option Ou:=
           aC (decide ((gi v5 0)<(il now)))
            (chk (inb (gi v5 0) now) <|
            chk (oks [li] (el now (gi v5 0)) 0) <|
            bD (aC (decide ((gi v5 0) > 0))
                (chk (inb (wr ((gi v5 0) - 1)) s) <|
                chk (oks [li] (List.drop 0 (el s (wr ((gi v5 0) - 1)))) 0) <|
                some (.nx [ci (gi (List.drop 0 (el s (wr ((gi v5 0) - 1)))) 0)]))
                (some (.nx [ci 0]))) fun v6 =>
            chk (inb i was) <|
            chk (oks [.row 1] (el was i) 0) <|
            chk (inb (gi v5 0) (gr (el was i) 0)) <|
            chk (oks [li] (el (gr (el was i) 0) (gi v5 0)) 0) <|
            bD (aC ((gi (el now (gi v5 0)) 0) != (gi (el (gr (el was i) 0) (gi v5 0)) 0))
                (chk (inb i p) <|
                chk (oks [li] (List.drop 0 (el p i)) 0) <|
                chk (inb i was) <|
                chk (oks [.row 1] (el was i) 0) <|
                chk (inb (gi v5 0) (gr (el was i) 0)) <|
                chk (oks [li] (el (gr (el was i) 0) (gi v5 0)) 0) <|
                aA (M 1048576 ([CV.val (Value.chan (some c)),shC shL,CV.row 0 (gr v5 1),ci day,ci (gi (List.drop 0 (el p i)) 0),ci (gi v6 0),ci (wr ((gi (el now (gi v5 0)) 0) - (gi (el (gr (el was i) 0) (gi v5 0)) 0)))])) fun v7 =>
                some (.nx [CV.row 0 (gr v7 1)]))
                (some (.nx [CV.row 0 (gr v5 1)]))) fun v7 =>
            some (.nx [ci (wr ((gi v5 0)+1)),CV.row 0 (gr v7 0)]))
            (some (.br 4 [CV.row 0 (gr v5 1)]))
noncomputable def dyO (M:Den) (p s:List (List CV)) (c:Nat) (now was:List (List CV)) (day:Int) (v4:List CV):Option Ou:=
        aC (decide ((gi v4 0)<(il now)))
         (chk (inb (gi v4 0) now) <|
         chk (oks [.row 1] (el now (gi v4 0)) 0) <|
         bG 4 (aH (lvO M p s c (gr (el now (gi v4 0)) 0) was day (gi v4 0)) [ci 0,CV.row 0 (gr v4 1)]) fun v5 =>
         some (.nx [ci (wr ((gi v4 0)+1)),CV.row 0 (gr v5 0)]))
         (some (.br 2 [CV.row 0 (gr v4 1)]))
noncomputable def daO (M:Den) (p s f:List (List CV)) (k:Int) (c:Nat) (days:List (List CV)) (v2:List CV):Option Ou:=
    aC (decide ((gi v2 1)<(il days)))
     (chk (inb (gi v2 1) days) <|
     chk (oks [li] (el days (gi v2 1)) 0) <|
     aC (decide ((gi (el days (gi v2 1)) 0) > k))
      (some (.ret [CV.row 0 (gr v2 2)]))
      (aA (M 69 [CV.row 8 p,CV.row 3 s,CV.row 6 f,ci (gi (el days (gi v2 1)) 0)]) fun v3 =>
      bG 2 (aH (dyO M p s c (gr v3 0) (gr v2 0) (gi (el days (gi v2 1)) 0)) [ci 0,CV.row 0 (gr v2 2)]) fun v4 =>
      some (.nx [CV.row 1 (gr v3 0),ci (wr ((gi v2 1)+1)),CV.row 0 (gr v4 0)])))
     (some (.br 0 [CV.row 0 (gr v2 2)]))
noncomputable def fdO (M:Den) (p s f:List (List CV)) (k:Int) (c:Nat):Option Ou:=aA (M 69 [CV.row 8 p,CV.row 3 s,CV.row 6 f,ci (-1)]) fun v0 =>
  aA (M 110 [CV.row 8 p,CV.row 3 s,CV.row 6 f]) fun v1 =>
  bG 0 (aH (daO M p s f k c (gr v1 0)) [CV.row 1 (gr v0 0),ci 0,CV.row 0 []]) fun v2 =>
  some (.ret [CV.row 0 (gr v2 0)])
theorem aJU (M:Den) (p s f:List (List CV)) (k:Int) (c:Nat) (K:SS->Option Ou):evC Tryz.prog sg M (inN Tryz.prog sg M false 11) HX (UM (aB Tryz.f83)) aGu ⟨[],[],[],[]⟩ [] ⟨88,dB 0 (asF p s f k++[.cv (.val (.chan (some c)))]),[],[⟨false,ghT,0,0,[]⟩]⟩ K=K (s1F p s f k c):=by rfl
theorem aGw (M:Den) (p s f:List (List CV)) (k:Int) (c:Nat):aJ (evC Tryz.prog sg M (inN Tryz.prog sg M false 11) rtY (HI (aB Tryz.f83)) aGv ⟨[],[],[],[]⟩ [] ((s1F p s f k c).put (some 15) (.cv (.val (.chan (some c)))) (s1F p s f k c).B (s1F p s f k c).V) rtY)=aJ (fdO M p s f k c):=by kernel_rfl
theorem aEz (M:Den) (p s f:List (List CV)) (k:Int) (c:Nat):FY Tryz.prog sg M 11 88 (UM (aB Tryz.f83)) (HI (aB Tryz.f83)) aGu aGv 2 15 c (asF p s f k++[.cv (.val (.chan (some c)))]) []=aJ (fdO M p s f k c):=by
 unfold FY;rw [if_pos (by simp [asF]),aJU]
 rw [if_pos ⟨by rfl,show 15<88 by decide⟩]
 exact aGw M p s f k c
end
section
open Go Go.Sx Go.Plaint Go.RowKit
set_option maxRecDepth 10000
structure Lv where
 d:Int
 p:Int
 s:Int
 a:Int
deriving DecidableEq
def Lv.cv (x:Lv):List CV:=[ci x.d,ci x.p,ci x.s,ci x.a]
def aAf (c:Court) (k:Nat):Int:=if k=0 then 0 else c.sids.getD (k - 1) 0
def oM (c:Court) (day:Int) (i:Nat) (now was:List Int):Nat->List Lv
 | 0=>[]
 | k+1=>oM c day i now was k++if now.getD k 0=was.getD k 0 then [] else [⟨day,c.pids.getD i 0,aAf c k,now.getD k 0 - was.getD k 0⟩]
def pP (c:Court) (day:Int) (now was:List (List Int)):Nat->List Lv
 | 0=>[]
 | i+1=>pP c day now was i++oM c day i (now.getD i []) (was.getD i []) (now.getD i []).length
def UN (c:Court) (L:List Int):Nat->List (List Int)
 | 0=>aO c (-1)
 | j+1=>aO c (L.getD j 0)
def lvN (c:Court) (L:List Int):Nat->List Lv
 | 0=>[]
 | j+1=>lvN c L j++pP c (L.getD j 0) (aO c (L.getD j 0)) (UN c L j) (aO c (L.getD j 0)).length
def jD (c:Court) (d:Int):List Lv:=lvN c (bC c) ((bC c).findIdx fun a=>decide (a > d))
theorem WX (c:Court) (day:Int) (i:Nat) (now was:List Int) (k:Nat):oM c day i now was (k+1)=oM c day i now was k++if now.getD k 0=was.getD k 0 then [] else [⟨day,c.pids.getD i 0,aAf c k,now.getD k 0 - was.getD k 0⟩]:=rfl
theorem WY (c:Court) (day:Int) (now was:List (List Int)) (i:Nat):pP c day now was (i+1)=pP c day now was i++oM c day i (now.getD i []) (was.getD i []) (now.getD i []).length:=rfl
theorem aFj (c:Court) (L:List Int) (j:Nat):lvN c L (j+1)=lvN c L j++pP c (L.getD j 0) (aO c (L.getD j 0)) (UN c L j) (aO c (L.getD j 0)).length:=rfl
theorem HJ:∀ L:List Int,(IM L).length<=L.length
 | []=>Nat.le_refl _
 | [_]=>Nat.le_refl _
 | a::b::l=>by
  have:=HJ (b::l);grind [IM]
theorem HK {A:Type} {f:Nat->List A} (h:∀ i,f i <+: f (i+1)):∀ {i j:Nat},i<=j->f i <+: f j:=by
 intro i j d8;obtain ⟨d,rfl⟩:=Nat.le.dest d8
 induction d with
 | zero=>simp
 | succ d ih=>grind
variable {c:Court} {j k:Nat}
theorem aAg {day:Int} {i:Nat} {now was:List Int} (h:j<=k):oM c day i now was j <+: oM c day i now was k:=HK (fun i=>List.prefix_append _ _) h
theorem aAh {day:Int} {now was:List (List Int)} (h:j<=k):pP c day now was j <+: pP c day now was k:=HK (fun i=>List.prefix_append _ _) h
theorem aEA {L:List Int} (h:j<=k):lvN c L j <+: lvN c L k:=HK (fun i=>List.prefix_append _ _) h
section
variable {its:ITS} (n:Nat) {ch:Nat} {rows:List (List CV)}
noncomputable abbrev MF (its:ITS) (n ch:Nat) (rows:List (List CV)):Den:=withS (D its n) ch shL (KB rows)
theorem aIx {f:Nat} (hf:f≠1048576) (vs:List CV):MF its n ch rows f vs=D its n f vs:=by
 have:f≠ghT:=hf;unfold MF withS;grind
variable {es:List (List CV)}
theorem aGx {x:List CV} (h:es++[x] <+: rows):MF its n ch rows 1048576 (CV.val (Value.chan (some ch))::shC shL::CV.row 0 es::x)=some [.val (.bool true),.row 0 (es++[x])]:=by
 have:(1048576:Nat)=ghT:=rfl;unfold MF withS KB;grind
variable {c:Court} {was:List (List Int)}
theorem aEB (hc:OkC c) {day:Int} {i:Nat} (hi:i<c.ps.length) {now:List Int} (hn:now.length=1+c.ss.length) (hw:was.length=c.ps.length) (Oh:(was.getD i []).length=1+c.ss.length) (sn:jN now) (sw:jN (was.getD i []))
  (hp:es++(oM c day i now (was.getD i []) now.length).map Lv.cv <+: rows) :
  aH (lvO (MF its n ch rows) c.p c.s ch (enc1 now) (eO was) day (i:Int)) [ci 0,CV.row 0 es]=some (.br 4 [CV.row 0 (es++(oM c day i now (was.getD i []) now.length).map Lv.cv)]):=by
 have s8:=hc.s8;have iw:inb (i:Int) (eO was)=true:=aE (by omega)
 have ew:el (eO was) (i:Int)=[.row 1 (enc1 (was.getD i []))]:=by
  have hx:i<was.length:=by omega
  have:was.getD i []=was[i]:=by grind
  rw [this];exact aK hx
 have orow:∀ es,oks [.row 1] [CV.row 1 es] 0=true:=fun _=>rfl
 have ip:inb (i:Int) c.p=true:=aE hi;have ep:el c.p (i:Int)=c.ps[i].cv:=aK hi;have gp:gi (List.drop 0 c.ps[i].cv) 0=c.ps[i].i0:=rfl;have op:oks [li] (List.drop 0 c.ps[i].cv) 0=true:=rfl;have pn:c.pids.getD i 0=c.ps[i].i0:=by simp [Court.pids,hi]
 refine eY now.length (fun j=>[ci (j:Int),CV.row 0 (es++(oM c day i now (was.getD i []) j).map Lv.cv)]) _ (by simp [oM]) (fun j hj=>?_) ?_ (by simp)
 ·have pp:es++(oM c day i now (was.getD i []) (j+1)).map Lv.cv <+: rows:=by
   refine List.IsPrefix.trans ?_ hp;obtain ⟨t,ht⟩:=aAg (c:=c) (day:=day) (i:=i) (now:=now) (was:=was.getD i []) (show j+1<=now.length by omega)
   grind
  have i1:inb (j:Int) (enc1 now)=true:=aE hj;have e1:=kP hj;have i2:inb (j:Int) (enc1 (was.getD i []))=true:=aE (by omega)
  have e2:=kP (L:=was.getD i []) (i:=j) (by omega)
  have gg:(j:Int)<(now.length:Int):=by omega
  have pu:=bA (show j<9223372036854775807 by omega)
  have b1:-5000000000<=now.getD j 0/\now.getD j 0<=1000000000000:=sn _ (by
   grind)
  have b2:-5000000000<=(was.getD i []).getD j 0/\(was.getD i []).getD j 0<=1000000000000:=sw _ (by
   grind)
  have Oi:wr (now.getD j 0 - (was.getD i []).getD j 0)=now.getD j 0 - (was.getD i []).getD j 0:=dQ (by omega) (by omega)
  have F9:∀ (e:CV) (K:List CV->Option Ou),bD (aC (decide ((gi [ci (j:Int),e] 0) > 0))
              (chk (inb (wr ((gi [ci (j:Int),e] 0) - 1)) c.s) <|
              chk (oks [li] (List.drop 0 (el c.s (wr ((gi [ci (j:Int),e] 0) - 1)))) 0) <|
              some (.nx [ci (gi (List.drop 0 (el c.s (wr ((gi [ci (j:Int),e] 0) - 1)))) 0)]))
              (some (.nx [ci 0]))) K=K [ci (aAf c j)]:=fun e K=>by
   by_cases h0:j=0
   ·subst h0;rfl
   ·have hg:(j:Int) > 0:=by omega
    have B8:=NI (x:=j) (by omega) (by omega)
    have Ii:j - 1<c.ss.length:=by omega
    have i3:inb ((j - 1:Nat):Int) c.s=true:=aE Ii;have e3:el c.s ((j - 1:Nat):Int)=c.ss[j - 1].cv:=aK Ii;have g3:gi (List.drop 0 c.ss[j - 1].cv) 0=c.ss[j - 1].id:=rfl;have o3:oks [li] (List.drop 0 c.ss[j - 1].cv) 0=true:=rfl;have Ml:c.sids.getD (j - 1) 0=c.ss[j - 1].id:=by grind [Court.sids]
    simp_all [aAf]
  unfold lvO;rw [F9];rw [WX] at pp ⊢
  by_cases he:now.getD j 0=(was.getD i []).getD j 0
  ·simp_all
  ·rw [if_neg he,List.map_append,<- List.append_assoc] at pp
   have hh:=aGx (its:=its) (n:=n) (ch:=ch) pp;have Oj:MF its n ch rows 1048576 ([CV.val (Value.chan (some ch)),shC shL,CV.row 0 (es++(oM c day i now (was.getD i []) j).map Lv.cv),ci day,ci c.ps[i].i0,ci (aAf c j),ci (now.getD j 0 - (was.getD i []).getD j 0)])=some [.val (.bool true),.row 0 (es++(oM c day i now (was.getD i []) j).map Lv.cv++[Lv.cv ⟨day,c.pids.getD i 0,aAf c j,now.getD j 0 - (was.getD i []).getD j 0⟩])]:=by rw [<- pn];exact hh
   simp_all
 ·unfold lvO
  simp
theorem aEC (hc:OkC c) {day:Int} {now:List (List Int)} (hn:now.length=c.ps.length/\∀ r∈now,r.length=1+c.ss.length) (hw:was.length=c.ps.length/\∀ r∈was,r.length=1+c.ss.length) (sn:∀ r∈now,jN r) (sw:∀ r∈was,jN r)
  (hp:es++(pP c day now was now.length).map Lv.cv <+: rows) :
  aH (dyO (MF its n ch rows) c.p c.s ch (eO now) (eO was) day) [ci 0,CV.row 0 es]=some (.br 2 [CV.row 0 (es++(pP c day now was now.length).map Lv.cv)]):=by
 have p6:=hc.p6;have ah:il (eO now)=(now.length:Int):=aP _ _;refine eY now.length (fun j=>[ci (j:Int),CV.row 0 (es++(pP c day now was j).map Lv.cv)]) _ (by simp [pP]) (fun j hj=>?_) ?_ (by simp)
 ·have pp:es++(pP c day now was (j+1)).map Lv.cv <+: rows:=by
   refine List.IsPrefix.trans ?_ hp;obtain ⟨t,ht⟩:=aAh (c:=c) (day:=day) (now:=now) (was:=was) (show j+1<=now.length by omega)
   grind
  have gn:now.getD j []=now[j]:=by grind
  have i1:inb (j:Int) (eO now)=true:=aE hj;have e1:el (eO now) (j:Int)=[.row 1 (enc1 (now.getD j []))]:=by rw [gn];exact aK hj
  have orow:∀ es,oks [.row 1] [CV.row 1 es] 0=true:=fun _=>rfl
  have gg:(j:Int)<(now.length:Int):=by omega
  have pu:=bA (show j<9223372036854775807 by omega)
  rw [WY] at pp ⊢;rw [List.map_append,<- List.append_assoc] at pp;have ly:=aEB (its:=its) n (ch:=ch) hc (day:=day) (i:=j) (by omega) (now:=now.getD j []) (was:=was) (by grind) hw.1 (by grind) (by grind) (by grind) pp
  unfold dyO;simp_all
 ·unfold dyO
  simp_all
theorem aED (hi:ItsD its) (hc:OkC c) (hs:oL its (eV c)) (d:Int) (bj:rows=(jD c d).map Lv.cv):aJ (fdO (MF its (n+2) ch rows) c.p c.s c.f d ch)=some [.row 0 rows]:=by
 have B7:∀ e:Int,MF its (n+2) ch rows 69 [CV.row 8 c.p,CV.row 3 c.s,CV.row 6 c.f,ci e]=some [.row 1 (eO (aO c e))]:=fun e=>by
  exact hi.i69 (n+1) c e hc
 have Ga:MF its (n+2) ch rows 110 [CV.row 8 c.p,CV.row 3 c.s,CV.row 6 c.f]=some [.row 1 (enc1 (bC c))]:=by
  exact aEx n hc hs
 have ah:il (enc1 (bC c))=((bC c).length:Int):=aP _ _;have p6:=hc.p6
 have ak:(bC c).length<=1000:=by
  have h1:=HJ (srt (eV c));have h2:=(vJ (eV c)).length_eq;have f60:=hc.f60;have h3:(eV c).length=c.ps.length+c.fs.length:=by simp [eV,AC]
  unfold bC;omega
 have bt:(bC c).findIdx (fun a=>decide (a > d))<=(bC c).length:=List.findIdx_le_length
 unfold fdO;simp [B7,Ga]
 have key:∀ m,m<=(bC c).findIdx (fun a=>decide (a > d))->aH (daO (MF its (n+2) ch rows) c.p c.s c.f d ch (enc1 (bC c))) [CV.row 1 (eO (aO c (-1))),ci 0,CV.row 0 []]=aH (daO (MF its (n+2) ch rows) c.p c.s c.f d ch (enc1 (bC c))) [CV.row 1 (eO (UN c (bC c) m)),ci (m:Int),CV.row 0 ((lvN c (bC c) m).map Lv.cv)]:=by
  intro m
  induction m with
  | zero=>intro _;rfl
  | succ m ih =>
   intro hm;rw [ih (by omega)]
   refine gI ?_;have hx:m<(bC c).length:=by omega
   have i1:inb (m:Int) (enc1 (bC c))=true:=aE hx;have e1:=kP hx;have ap:(m:Int)<((bC c).length:Int):=by omega
   have pu:=bA (show m<9223372036854775807 by omega)
   have Mm:¬((bC c).getD m 0 > d):=by
    grind
   have nu:(UN c (bC c) m).length=c.ps.length/\∀ r∈UN c (bC c) m,r.length=1+c.ss.length:=by
    cases m <;> exact lN _ _
   have Mo:∀ r∈UN c (bC c) m,jN r:=by
    cases m <;> exact AD hc _
   have pp:(lvN c (bC c) (m+1)).map Lv.cv <+: rows:=by
    rw [bj];obtain ⟨t,ht⟩:=aEA (c:=c) (L:=bC c) hm;unfold jD;grind
   rw [aFj] at pp ⊢;rw [List.map_append] at pp ⊢;have Mp:=aEC (its:=its) (n+2) (ch:=ch) hc (day:=(bC c).getD m 0) (lN c _) nu (AD hc _) Mo pp;unfold daO;simp only [BR,cW,fO,cY,ah,ap,i1,e1,Mm,B7,aD,Mp,pu];rfl
 rw [key _ (Nat.le_refl _)];have hr:(lvN c (bC c) ((bC c).findIdx (fun a=>decide (a > d)))).map Lv.cv=rows:=bj.symm
 generalize hm:(bC c).findIdx (fun a=>decide (a > d))=m at bt
 by_cases hx:m<(bC c).length
 ·have i1:inb (m:Int) (enc1 (bC c))=true:=aE hx
  have e1:=kP hx
  have hg:(bC c).getD m 0 > d:=by
   subst hm;have:=List.findIdx_getElem (p:=fun a=>decide (a > d)) (xs:=bC c) (w:=hx)
   have g:(bC c).getD ((bC c).findIdx (fun a=>decide (a > d))) 0=(bC c)[(bC c).findIdx (fun a=>decide (a > d))]:=by simp [hx]
   rw [g];exact of_decide_eq_true this
  rw [aQ (r:=some (.ret [CV.row 0 rows])) (by
   unfold daO;simp_all) (by simp)]
  rfl
 ·have ap:¬((m:Int)<((bC c).length:Int)):=by omega
  rw [aQ (r:=some (.br 0 [CV.row 0 rows])) (by
   unfold daO;grind [BR,cW,fO,cY,decide_false,dU]) (by simp)]
  rfl
end
end
section
open Go Go.Sx Go.Plaint Go.RowKit
open Go.Conc (G)
set_option maxRecDepth 100000
def htA:HT:=.thru (.two (.reg [] [9,10,24] none []) (.reg [] [9,24] none []))
def IP (x:List CV):Value:=.agg #[.int .i64 (cI (x.getD 0 dC)),.int .i64 (cI (x.getD 1 dC)),.int .i64 (cI (x.getD 2 dC)),.int .i64 (cI (x.getD 3 dC))]
abbrev csL:List Sc:=[.agg [li,li,li,li]]
theorem aCI (e:Env) (w:World) (ks:List Nat) (x:List CV) (v:Value) (h:AV.all e w ks (Sc.avs csL x 0) [v]):v=IP x:=by
 obtain ⟨⟨vs,rfl,h1⟩,_⟩:=h
 have key:∀ l:List Value,AV.all e w ks [.cv (.val (.int .i64 (cI (x.getD 0 dC)))),.cv (.val (.int .i64 (cI (x.getD 1 dC)))),.cv (.val (.int .i64 (cI (x.getD 2 dC)))),.cv (.val (.int .i64 (cI (x.getD 3 dC))))] l->l=[.int .i64 (cI (x.getD 0 dC)),.int .i64 (cI (x.getD 1 dC)),.int .i64 (cI (x.getD 2 dC)),.int .i64 (cI (x.getD 3 dC))]:=by
  intro l hl
  match l,hl with
  | [a,b,c,d],hl =>
   simp_all [AV.all,AV.holds,CV.holds]
  | [],hl=>grind [AV.all]
  | [_],hl=>grind [AV.all]
  | [_,_],hl=>grind [AV.all]
  | [_,_,_],hl=>grind [AV.all]
  | _::_::_::_::_::_,hl=>grind [AV.all]
 have:=key _ h1;congr 1;grind
theorem aCJ (e:Env) (w:World) (ks:List Nat) (x:List CV):AV.all e w ks (Sc.avs csL x 0) [IP x]:=by
 refine ⟨⟨_,rfl,?_⟩,trivial⟩;show AV.all e w ks [.cv (.val (.int .i64 (cI (x.getD 0 dC)))),.cv (.val (.int .i64 (cI (x.getD 1 dC)))),.cv (.val (.int .i64 (cI (x.getD 2 dC)))),.cv (.val (.int .i64 (cI (x.getD 3 dC))))] [.int .i64 (cI (x.getD 0 dC)),.int .i64 (cI (x.getD 1 dC)),.int .i64 (cI (x.getD 2 dC)),.int .i64 (cI (x.getD 3 dC))];simp [AV.all,AV.holds,CV.holds]
def yI:Code->Option Code
 | .loop c=>some c
 | .seq a b=>(yI a).orElse fun _=>yI b
 | .block _ c=>yI c
 | .cond _ a b=>(yI a).orElse fun _=>yI b
 | _=>none
def KZ (c:Code):Code:=match yI c with
 | some (.seq _ (.seq _ b))=>b
 | _=>c
noncomputable def opL (c:Code) (i:Nat):Oper:=match yI c with
 | some (.seq (.region _ ops _) _)=>ops.toList.getD i default
 | _=>default
noncomputable abbrev aAi:Oper:=opL (aB Tryz.f21) 0
noncomputable abbrev aAj:Oper:=opL (aB Tryz.f21) 1
def tlC (c:Code):Code:=match c with
 | .seq _ (.seq _ (.seq _ t))=>t
 | c=>c
def aEE (c:Code):Code:=match tlC c with
 | .seq _ (.seq _ (.seq _ (.seq _ r)))=>r
 | c=>c
def sEA (c:Nat) (es:List (List CV)) (x0 x1 x2 x3:Int):SS:=⟨33,[(9,.own 0 2),(24,.cv (.val (.chan (some c))))],[⟨true,65,[.cv (ci x0),.cv (ci x1),.cv (ci x2),.cv (ci x3)]⟩],[⟨true,65,4,2,es++[[ci x0,ci x1,ci x2,ci x3]]⟩,⟨true,65,4,0,[[ci x0,ci x1,ci x2,ci x3]]⟩]⟩
theorem aEF (M:Den) (c:Nat) (es:List (List CV)) (x0 x1 x2 x3:Int) (K:SS->Option Ou):evC Tryz.prog sg M (inN Tryz.prog sg M false 11) HX (KZ (aB Tryz.f21)) htA ⟨[],[],[],[]⟩ [] (stL c 65 4 33 9 24 25 csL es [ci x0,ci x1,ci x2,ci x3]) K=chk (bL es.length 1 32) (K (sEA c es x0 x1 x2 x3)):=by rfl
theorem aGy (M:Den) (c:Nat) {rows:List (List CV)} {ls:List Lv} (hr:rows=ls.map Lv.cv) (hl:rows.length<=100000):∀ es x,x∈rows->es.length<=rows.length->evC Tryz.prog sg M (inN Tryz.prog sg M false 11) HX (KZ (aB Tryz.f21)) htA ⟨[],[],[],[]⟩ [] (stL c 65 4 33 9 24 25 csL es x) (fun s'=>open Classical in if QL c 65 4 33 9 24 s' (es++[x]) then some (.ret []) else none)=some (.ret []):=by
 intro es x hx b8;rw [hr] at hx;obtain ⟨y,_,rfl⟩:=List.mem_map.1 hx;rw [show y.cv=[ci y.d,ci y.p,ci y.s,ci y.a] from rfl,aEF,cU (by omega) (by omega),bR]
 rw [if_pos ⟨rfl,0,2,rfl,rfl,rfl⟩]
theorem IQ {P:Program} (t:TypeId) (x:Value):(Instr.makeChan t x).calm P:=by
 refine k_b (LG _) fun n=>k_b (aX _) fun u=>?_
 split
 ·(repeat' first | exact gJ _ | exact hZ _ | exact OA _ rfl | refine aGJ ?_ ?_ | refine k_b ?_ fun _=>?_ | exact trivial)
 ·trivial
theorem aKd:Tryz.prog.underlying 114=some (.chan .both 65):=by rfl
theorem aIy {P:Program} [Ghost] {st:St} {T:TypeId} {x av:AV} (h:fW P st T x=some av) {n0:Nat} {w0:World} {e:Env} {a:Act} {w:World} (hr:Rel n0 w0 e st a w) {q:Operand} (hq:st.ev q=x):∃ v,(Instr.loadAt T (a.eval q)).run P w=.ok v w/\AV.holds e w (kss st.V) av v:=by
 have h1:=(hr.ev q).1;rw [hq] at h1;obtain ⟨v,h2,h3,_⟩:=rQ h hr h1;grind
theorem yJ:∀ L:List Int,CV.solidss (enc1 L)=true
 | []=>rfl
 | a::L=>by
  have:=yJ L;simp_all [enc1,List.map_cons,CV.solidss,CV.solids,CV.solid,ci,Bool.true_and]
theorem wH {A:Type} {f:A->List CV} (h:∀ a,CV.solids (f a)=true):∀ l:List A,CV.solidss (l.map f)=true
 | []=>rfl
 | a::l=>by
  have:=wH h l;grind [CV.solidss,Bool.and_self]
theorem aAk (c:Court) (d:Int):AV.solids (asF c.p c.s c.f d)=true:=by
 have h1:CV.solidss c.p=true:=wH (fun p=>by
  have e1:=yJ p.bs;have e2:=yJ p.ss;simp_all [Pt.cv,CV.solids,CV.solid,ci]) c.ps
 have h2:CV.solidss c.s=true:=wH (fun p=>by rfl) c.ss
 have h3:CV.solidss c.f=true:=wH (fun p=>by rfl) c.fs
 grind [asF,AV.solids,AV.solid,CV.solid,ci]
section
variable [Gh:Ghost]
variable {l:List (Nat×AV)} {rows:List (List CV)}
theorem behind {n0:Nat} {w0:World} {e:Env} {N:Nat} {B:List Box} {a a':Act} {w w':World} (hr:Rel n0 w0 e ⟨mkT N l,B,[]⟩ a w) (hy:e.y=false) {t T k lo:Nat} {xs:List Value} (ht:t<N) (hT:T<bE) (cn:a'.tmps.size=N)
  (cu:∀ b,b<w.heap.size->w'.heap[b]? = w.heap[b]?) (zc:w'.os=w.os/\w'.tape=w.tape/\w'.output=w.output) (hs:w.heap.size<=w'.heap.size) (ek:w.heap.size<=lo)
  (au:OwnsV w' lo T k (a'.eval (.tmp t)) rows.length xs) (hv:CV.vals w' (fun _=>False) rows.flatten xs) (hk:∀ r∈rows,r.length=k) :
  ∃ e2,Rel n0 w0 e2 ⟨mkT N [(t,.own 0 1)],B,[⟨true,T,k,1,rows⟩]⟩ a' w'/\cL e ⟨mkT N l,B,[]⟩ w e2 B [⟨true,T,k,1,rows⟩] w':=by
 have hm:=hr.mem;have xb:=hm.base
 have gq:Rel n0 w0 e ⟨mkT N [],B,[]⟩ a' w:=⟨NC cn fun d hd=>trivial,by
  simp [AV.scos_iff,mkT],hm⟩
 have mj:=Rel.move (w':=w') (S':=e.S) (H':=e.H) gq hy (fun _ h=>h) (fun b hb=>Nat.lt_of_lt_of_le (hm.ro b hb) hs) (fun b hb=>⟨(Own.lt hm hb).2.1,(Own.lt hm hb).2.2.1⟩)
  (fun b hb=>cu b (by
   rcases hb with hb | hb | hb
   ·omega
   ·exact hm.ro b hb
   ·exact (Own.lt hm hb).1)) (by omega) (Nat.le_trans hm.below.size hs) zc (fun b o f ho=>by
   have h1:=hm.hid.obj b o f ho;grind) hm.hid.own
 have Gb:Rel n0 w0 e ⟨mkT N [],B,[]⟩ a' w':=mj
 obtain ⟨e2,r1,x1,q1,q2,q3,q4,q5,q6,q7⟩:=Rel.adopt Gb hy hT (v:=a'.eval (.tmp t)) (el:=rows) (xs:=xs) (au.base (by omega)) (CV.vals.mono (S':=e.S) ⟨fun _ h=>h.elim,fun _ h=>h.elim⟩ _ _ hv) hk (fun g hg=>by
  have Ol:=(au.lt g hg).1;refine ⟨fun hS=>?_,?_,fun hO=>?_⟩
  ·have:=hm.ro g hS;omega
  ·cases hH:e.H g with
   | none=>rfl
   | some of =>
    have:=hm.hid.obj g of.1 of.2 hH;grind
  ·have:=(Own.lt hm hO).1;omega)
 refine ⟨e2,⟨NC cn fun d hd=>?_,?_,r1.mem⟩,?_⟩
 ·simp only [vQ]
  split
  ·rename_i h
   subst h;exact ⟨q1.symm,au.one⟩
  ·trivial
 ·rw [AV.scos_iff]
  intro y hy;simp [mkT] at hy;obtain ⟨d,_,rfl⟩:=hy;split
  ·simp
  simp
 ·have ei:Ext e w B.length (vers []) (kss []) e w' B.length (vers []) (kss []):=⟨⟨fun _ h=>h,fun b hb=>cu b (hm.ro b hb)⟩,fun _ _=>rfl,fun _ _ _ _=>rfl,Nat.le_refl _,Nat.le_refl _,fun _ _=>Nat.le_refl _,fun _ _=>rfl,hs,fun _ h=>.inl h,rfl,fun _=>rfl,rfl⟩
  exact ei.trans x1
def zL:Value:=.agg #[.int .i64 0,.int .i64 0,.int .i64 0,.int .i64 0]
theorem aCK {c:Court} (hc:OkC c) {d:Int} (bj:rows=(jD c d).map Lv.cv) (ak:rows.length<=100000) (hs:oL tS (eV c)) {F:Fence} {n:Nat} (hF:Free F) (am:F.round=none) {b0:Box} (h1:lk l 1=.cv (ci d)) (h6:lk l 6=.ptr 1 0) {Q:Exit->St->Prop}
  (hQ:∀ l',lk l' 4=.own 0 1->lk l' 5=.cv (ci 0)->Q .ret ⟨mkT 33 l',[b0,⟨true,97,[.cv (.row 8 c.p),.cv (.row 3 c.s),.cv (.row 6 c.f)]⟩],[⟨true,65,4,1,rows⟩]⟩) :
  @W2 Gh F n Tryz.prog (gS Tryz.prog) (tlC (aB Tryz.f21)) ⟨mkT 33 l,[b0,⟨true,97,[.cv (.row 8 c.p),.cv (.row 3 c.s),.cv (.row 6 c.f)]⟩],[]⟩ Q:=by
 letI C:Co Tryz.prog:=gS Tryz.prog
 generalize Mq:[b0,(⟨true,97,[.cv (.row 8 c.p),.cv (.row 3 c.s),.cv (.row 6 c.f)]⟩:Box)]=B at hQ ⊢;intro n0 w0 m0 e a w Qr hr hm ed hk b k cs S r9 pj w9;have je:b.roundOf=none:=by rw [r9,am]
 have cn:a.tmps.size=33:=by
  have:=hr.tm.length;simpa [mkT] using this
 have At:∀ t,t<33->(⟨mkT 33 l,B,[]⟩:St).ev (.tmp t)=lk l t:=fun t ht=>by
  simp [St.ev,mkT,ht]
 have v1:a.eval (.tmp 1)=.int .i64 d:=by
  have h:=(hr.ev (.tmp 1)).1;rw [At 1 (by decide),h1] at h
  exact h.1
 show C.Go S (G (b.atR a (.code (.seq (.region 4 #[_,_] false) (.seq (.region 5 #[_,_,_,_] false) (.seq (.region 6 #[_] false) (.seq (.seq (.region 7 #[_] false) (.block 0 (.loop (.seq (.region 8 #[aAi,aAj] false) (.seq (.cond (.tmp 26) .skip (.exit 0)) (KZ (aB Tryz.f21))))))) (aEE (aB Tryz.f21))))))::k)) cs) w;refine Co.aGG (Co.aAq ?_);refine EH (F:=F) (n:=n) (next:=fun a' w'=>∃ w1,Rely w w1/\a'=a.put (some 20) (.chan (some w1.heap.size))/\w'=w1.alloc (.chan 0 #[] false 0 0 false)) rfl rfl r9 pj ?_ ?_
 ·refine jF (by intro c hc;cases hc) ?_ fun w1 pu=>?_
  ·exact k_b (IQ _ _) fun _=>trivial
  ·refine ⟨_,.chan (some w1.heap.size),w1.alloc (.chan 0 #[] false 0 0 false),?_,.inl rfl,w1,pu,rfl,rfl⟩
   rfl
 rintro a1 w2 ⟨w1,pu,rfl,rfl⟩;obtain ⟨ch,gz⟩:∃ ch,ch=w1.heap.size:=⟨_,rfl⟩;rw [<- gz];have Mr:w.heap.size<=ch:=by rw [gz];exact pu.size
 have ev20:(a.put (some 20) (.chan (some ch))).eval (.tmp 20)=.chan (some ch):=by rw [cJ _ _ _ _ (by omega),if_pos rfl]
 refine KC (u:=.chan (some ch)) rfl rfl je pj (by show Sem.pure (Next.value ((a.put (some 20) (.chan (some ch))).eval (.tmp 20)))=_;rw [ev20]) (by intro c hc;cases hc) ?_
 refine Co.LF (Co.aGG (Co.aAq ?_));show C.Go S (G (b.atR ((a.put (some 20) (.chan (some ch))).put (some 8) (.chan (some ch))) _) cs) (w1.alloc (.chan 0 #[] false 0 0 false));generalize er:w1.alloc (.chan 0 #[] false 0 0 false)=w2
 have pq:Rely w w2:=by
  subst er;exact Co.aIL pu ((Below.refl _ _).alloc (Nat.le_refl _) _)
 have Au:w2.heap[ch]? = some (.chan 0 #[] false 0 0 false):=by
  subst er;subst gz;show (w1.heap.push _)[w1.heap.size]? = _;simp
 generalize Av:(a.put (some 20) (.chan (some ch))).put (some 8) (.chan (some ch))=A2;have sz2:A2.tmps.size=33:=by rw [<- Av,cK,cK,cn]
 have e1:A2.eval (.tmp 1)=.int .i64 d:=by rw [<- Av,cJ _ _ _ _ (by rw [cK];omega),if_neg (by decide),cJ _ _ _ _ (by omega),if_neg (by decide),v1]
 have e6:A2.eval (.tmp 6)=a.eval (.tmp 6):=by rw [<- Av,cJ _ _ _ _ (by rw [cK];omega),if_neg (by decide),cJ _ _ _ _ (by omega),if_neg (by decide)]
 have e8:A2.eval (.tmp 8)=.chan (some ch):=by rw [<- Av,cJ _ _ _ _ (by rw [cK];omega),if_pos rfl]
 refine EH (F:=F) (n:=n) (next:=fun a' w'=>Rely w2 w'/\∃ v,a'=A2.put (some 21) v/\AV.holds e w' [] (.agg [.cv (.row 8 c.p),.cv (.row 3 c.s),.cv (.row 6 c.f)]) v) rfl rfl r9 pj ?_ ?_
 ·refine jF (by intro c hc;cases hc) ?_ fun w3 jl=>?_
  ·exact k_b (OS _ _) fun _=>trivial
  ·obtain ⟨xp,_⟩:=hr.rely (Co.aIL pq jl)
   obtain ⟨v,g1,g2⟩:=aIy (P:=Tryz.prog) (T:=97) (x:=.ptr 1 0) (av:=.agg [.cv (.row 8 c.p),.cv (.row 3 c.s),.cv (.row 6 c.f)]) (by subst Mq;kernel_rfl) xp (q:=.tmp 6) (by rw [At 6 (by decide),h6])
   refine ⟨_,v,w3,?_,.inl rfl,jl,v,rfl,g2⟩;show (do let v <- Instr.loadAt 97 (A2.eval (.tmp 6));pure (Next.value v):Sem Next).run Tryz.prog w3=_
   rw [e6];simp only [Sem.run_bind];rw [g1];rfl
 rintro A3 w3 ⟨jl,v21,rfl,Gc⟩;have e1':(A2.put (some 21) v21).eval (.tmp 1)=.int .i64 d:=by rw [cJ _ _ _ _ (by omega),if_neg (by decide),e1]
 refine KC (u:=.int .i64 d) rfl rfl je pj (by show Sem.pure (Next.value ((A2.put (some 21) v21).eval (.tmp 1)))=_;rw [e1']) (by intro c hc;cases hc) ?_
 show C.Go S (G (b.atR ((A2.put (some 21) v21).put (some 22) (.int .i64 d)) _) cs) w3;have e8':((A2.put (some 21) v21).put (some 22) (.int .i64 d)).eval (.tmp 8)=.chan (some ch):=by simp_all [cJ,cK,if_neg,decide]
 refine KC (u:=.chan (some ch)) rfl rfl je pj (by show Sem.pure (Next.value (((A2.put (some 21) v21).put (some 22) (.int .i64 d)).eval (.tmp 8)))=_;rw [e8']) (by intro c hc;cases hc) ?_
 show C.Go S (G (b.atR (((A2.put (some 21) v21).put (some 22) (.int .i64 d)).put (some 23) (.chan (some ch))) _) cs) w3;generalize xv:((A2.put (some 21) v21).put (some 22) (.int .i64 d)).put (some 23) (.chan (some ch))=A5;have sz5:A5.tmps.size=33:=by rw [<- xv,cK,cK,cK,sz2]
 have e21:A5.eval (.tmp 21)=v21:=by rw [<- xv,cJ _ _ _ _ (by rw [cK,cK];omega),if_neg (by decide),cJ _ _ _ _ (by rw [cK];omega),if_neg (by decide),cJ _ _ _ _ (by omega),if_pos rfl]
 have e22:A5.eval (.tmp 22)=.int .i64 d:=by rw [<- xv,cJ _ _ _ _ (by rw [cK,cK];omega),if_neg (by decide),cJ _ _ _ _ (by rw [cK];omega),if_pos rfl]
 have e23:A5.eval (.tmp 23)=.chan (some ch):=by rw [<- xv,cJ _ _ _ _ (by rw [cK,cK];omega),if_pos rfl]
 have e58:A5.eval (.tmp 8)=.chan (some ch):=by rw [<- xv,cJ _ _ _ _ (by rw [cK,cK];omega),if_neg (by decide),e8']
 have lu:Rely w w3:=Co.aIL pq jl;have Gd:w3.heap[ch]? = some (.chan 0 #[] false 0 0 false):=by rw [jl.block ch (Array.getElem?_eq_some_iff.1 Au).1];exact Au
 have ly:∀ r∈rows,r.length=4:=fun r hr=>by
  rw [bj] at hr;obtain ⟨y,_,rfl⟩:=List.mem_map.1 hr;rfl
 have dx:gQ rows=true:=by
  rw [bj];simp [gQ,Lv.cv,CV.flat,ci]
 have Ms:∀ [Ghost],@Fns _ Tryz.prog (jH Tryz.prog true ch (rows.map IP)) sg (D tS 20):=fun [Gx:Ghost]=>by
  letI C':Co Tryz.prog:=jH Tryz.prog true ch (rows.map IP)
  exact jA EB ⟨kO,rfl,rfl⟩ tC 20
 have Eg:∀ [Ghost],@Fns _ Tryz.prog (jH Tryz.prog false ch (rows.map IP)) sg (D tS 20):=fun [Gx:Ghost]=>by
  letI C':Co Tryz.prog:=jH Tryz.prog false ch (rows.map IP)
  exact jA EB ⟨kO,rfl,rfl⟩ tC 20
 have ac:(#[Operand.tmp 21,Operand.tmp 22,Operand.tmp 23]:Array Operand).map A5.eval=#[v21,.int .i64 d]++#[.chan (some ch)]:=by simp [e21,e22,e23]
 refine aFS (rows:=rows) (enc:=IP) (c:=ch) (T:=65) (k:=4) (N:=33) (t9:=9) (t24:=24) (t25:=25) (ds:=A5.defers) (z:=zL) (rcv:=aAi) (ext:=aAj) (b:=b) (items:=.code (.seq (.cond (.tmp 26) .skip (.exit 0)) (KZ (aB Tryz.f21)))::.inLoop (.seq (.region 8 #[aAi,aAj] false) (.seq (.cond (.tmp 26) .skip (.exit 0)) (KZ (aB Tryz.f21))))::.inBlock 0::.code (aEE (aB Tryz.f21))::k) (d:=Conc.dcall 83 (#[v21,.int .i64 d]++#[Value.chan (some ch)])) (by decide) (by decide) (by decide) (by decide) rfl (TQ (f:=.func 83) (c:=#[]) rfl rfl je pj (fun w=>?_) rfl) Gd (fun w4 vF xw rp=>?_) (fun w4 vM xw By=>?_) (fun w4 a' w5 xw hD=>?_)
 ·have ef:A5.eval (.func 83)=.func (.func 83) #[] #[]:=rfl
  constructor
  ·show (do pure (Next.spawn (<- resolve A5.eval { callee:=.value (.func 83),args:=#[.tmp 21,.tmp 22,.tmp 23],argTypes:=#[97,3,173] } 0)):Sem Next).run Tryz.prog w=_
   rw [<- ac];simp [resolve,Deferred.ofValue,ef,Conc.dcall]
  rfl
 ·have iu:∀ b,b<w3.heap.size->w4.heap[b]? = w3.heap[b]?:=fun b hb=>xw.block b hb
  have Ge:w4.heap[ch]? = some (.chan 0 #[] false 0 0 false):=by grind
  refine ZL (M:=D tS 20) (enc:=IP) (cs:=csL) (rows:=rows) (sg:=sg) Eg aBW (r0:=UM (aB Tryz.f83)) (REST:=HI (aB Tryz.f83)) (rr:=aGu) (ru:=aGv) (dp:=11) (p:=2) (d1:=15) (as0:=asF c.p c.s c.f d) (f:=83) (fn:=Tryz.f83) (id1:=1) (mv:=_) (df:=_) (ats:=_) rfl rfl rfl rfl rfl ⟨rfl,rfl,rfl⟩ ⟨rfl,rfl,rfl⟩ ?_ aCI (aAk c d) ?_ ?_ ⟨F,hF,am⟩ (e:=e) (ks:=[]) Ge ?_ (fun b hb=>by
   have h1:=lu.size;have h2:=xw.size;have h3:=hr.mem.ro b hb;constructor <;> omega) rp
  ·rw [show Tryz.f83.ntmps=88 from rfl]
   rw [aEz];exact aED (its:=tS) 18 aCF hc hs d bj
  ·intro m nb nv
   constructor
   ·rfl
   ·rfl
  ·intro vs
   exact ⟨⟨trivial,trivial,trivial,trivial⟩,trivial,trivial⟩
  ·have hx:Ext e w3 0 [] [] e w4 0 [] []:=yO (B:=[]) (V:=[]) (fun b hb=>iu b (by have h1:=lu.size;have h3:=hr.mem.ro b hb;omega)) xw.size
   refine ⟨AV.holds.mono hx _ _ ⟨trivial,trivial,trivial,trivial⟩ Gc,?_,trivial⟩;simp [AV.holds,CV.holds,ci,Value.oneCell']
 ·refine @Co.LF Tryz.prog (jH Tryz.prog true ch (rows.map IP)) _ b _ _ cs vM _ ?_
  refine TP (M:=D tS 20) (enc:=IP) (csx:=csL) (rows:=rows) (sg:=sg) (ds:=A5.defers) Ms (fun vs=>uK ⟨kO,rfl⟩ 20 vs) hF am (APP:=KZ (aB Tryz.f21)) (htA:=htA) (dp:=11) (t8:=8) (t26:=26) (rcv:=aAi) (ext:=aAj) (z:=zL) (by decide) ly dx (by decide) (by decide) (fun e w ks x _=>aCJ e w ks x) (aGy _ ch bj ak) ⟨rfl,rfl⟩ ?_ ⟨rfl,rfl,rfl⟩ ⟨rfl,rfl,rfl⟩ ⟨rfl,rfl,rfl⟩ (by decide) je pj sz5 rfl e58 By.ch
  intro ρ hρ w;have h0:(execOp ρ aAi).run Tryz.prog w=.ok (.comm #[{ chan:=ρ (.tmp 24),send:=none,zero:=zL }] true (.recv true)) w:=by rfl
  exact ⟨by rw [h0,hρ];rfl,by rfl⟩
 ·obtain ⟨xs,o1,o2⟩:=hD.own
  have ext1:execOp a'.eval aAj=.pure (.value (.bool false)):=by
   show (do let v <- Instr.extract (a'.eval (.tmp 25)) 1;pure (Next.value v):Sem Next)=_
   rw [hD.got];rfl
  show C.Go S (G (b.atR a' (.inRegion #[aAi,aAj] [1]::_)) cs) w5;refine KC (u:=.bool false) rfl rfl je pj ext1 (by intro c hc;cases hc) ?_
  show C.Go S (G (b.atR (a'.put (some 26) (.bool false)) _) cs) w5;have e26:(a'.put (some 26) (.bool false)).eval (.tmp 26)=.bool false:=by rw [cJ _ _ _ _ (by rw [hD.sz];decide),if_pos rfl]
  refine Co.LF (Co.aGG (Co.aFm (t:=false) e26 (Co.aFo (k':=.code (aEE (aB Tryz.f21))::k) rfl ?_)));have e9:(a'.put (some 26) (.bool false)).eval (.tmp 9)=a'.eval (.tmp 9):=by rw [cJ _ _ _ _ (by rw [hD.sz];decide),if_neg (by decide)]
  have lw:Rely w w4:=Co.aIL lu xw;obtain ⟨os1,os2,os3,os4⟩:=hD.os
  obtain ⟨e2,r2,x2⟩:=behind (a':=a'.put (some 26) (.bool false)) (w':=w5) hr ed.2.1 (t:=9) (T:=65) (k:=4) (lo:=w4.heap.size) (rows:=rows) (xs:=xs) (by decide) (by decide) (by rw [cK,hD.sz]) (fun b hb=>by
   rw [hD.old b (by have:=lw.size;omega) (by omega)]
   exact lw.block b hb) ⟨os1.trans lw.os,os2.trans lw.tape,os3.trans lw.output⟩ (by have:=lw.size;omega) lw.size (by rw [e9];exact o1) o2 ly
  have hW:@W Gh F n Tryz.prog (gS Tryz.prog) (aEE (aB Tryz.f21)) ⟨mkT 33 [(9,.own 0 1)],B,[⟨true,65,4,1,rows⟩]⟩ Q:=by
   refine dG (aV ?_);refine wop hF (A:=.own 0 1) (B':=B) (V':=[⟨true,65,4,1,rows⟩]) rfl rfl (by rfl) ?_
   refine wop hF (A:=.own 0 1) (B':=B) (V':=[⟨true,65,4,1,rows⟩]) rfl rfl (by rfl) ?_
   refine wop hF (A:=.cv (ci 0)) (B':=B) (V':=[⟨true,65,4,1,rows⟩]) rfl rfl (by rfl) ?_
   refine aN (yW ?_);exact hQ _ rfl rfl
  refine hW n0 w0 e2 _ w5 Qr r2 (fun x e' st' a2 w6 hq af bq hx=>hk x e' st' a2 w6 hq af ?_ (x2.trans hx)) b k cs S r9 pj w9
  rw [bq]
  have Gf:(a'.put (some 26) (.bool false)).defers=a.defers:=by
   show a'.defers=a.defers;rw [hD.df,<- xv,<- Av];rfl
  rw [Gf];exact hm.mono (x2.trans hx).ro
end
end
section
open Go Go.Sx Go.Plaint Go.RowKit
set_option maxRecDepth 100000
theorem LA (c:Court) (day:Int) (i:Nat) (now was:List Int):∀ k,(oM c day i now was k).length<=k
 | 0=>Nat.le_refl _
 | k+1=>by
  have:=LA c day i now was k;grind [WX]
theorem LC (c:Court) (day:Int) (now was:List (List Int)) (m:Nat) (h:∀ r∈now,r.length<=m):∀ i,(pP c day now was i).length<=i*m
 | 0=>by simp [pP]
 | i+1=>by
  have h1:=LC c day now was m h i;have h2:=LA c day i (now.getD i []) (was.getD i []) (now.getD i []).length;grind [WY]
theorem WZ {c:Court} (hc:OkC c) (L:List Int):∀ j,(lvN c L j).length<=j*54
 | 0=>by simp [lvN]
 | j+1=>by
  have h1:=WZ hc L j;have s8:=hc.s8;have p6:=hc.p6;obtain ⟨l1,l2⟩:=lN c (L.getD j 0);have h2:=LC c (L.getD j 0) (aO c (L.getD j 0)) (UN c L j) 9 (fun r hr=>by grind) (aO c (L.getD j 0)).length
  grind [aFj]
theorem RG {c:Court} (hc:OkC c) (d:Int):(jD c d).length<=100000:=by
 have h1:=WZ hc (bC c) ((bC c).findIdx fun a=>decide (a > d))
 have h2:(bC c).findIdx (fun a=>decide (a > d))<=(bC c).length:=List.findIdx_le_length
 have h3:=HJ (srt (eV c));have h4:=(vJ (eV c)).length_eq;have f60:=hc.f60;have p6:=hc.p6;have h5:(eV c).length=c.ps.length+c.fs.length:=by simp [eV,AC]
 have h6:(bC c).length<=66:=by unfold bC;omega
 unfold jD;omega
abbrev UO:AV:=.cv (.val (.slice none 0 0))
abbrev bxC (c:Court) (T:TypeId):Box:=⟨true,T,[.cv (.row 8 c.p),.cv (.row 3 c.s),.cv (.row 6 c.f)]⟩
abbrev agC (c:Court):AV:=.agg [.cv (.row 8 c.p),.cv (.row 3 c.s),.cv (.row 6 c.f)]
section
variable [Gh:Ghost]
def KL (rows:List (List CV)) (e:Int):AV->List Box->List Vec->Prop:=fun r B V=>(r=.tup [.own 0 1,.cv (ci e)]/\V=[⟨true,65,4,1,rows⟩])\/(rows=[]/\r=.tup [UO,.cv (ci e)])
theorem aAl {c:Court} (hf:c.Fit) {d:Int} (hs:bX c d=0->oL tS (eV c)) :
  @CallPc Gh Tryz.prog (gS Tryz.prog) 21 [agC c,.cv (ci d)] (KL (if bX c d=0 then (jD c d).map Lv.cv else []) (bX c d)):=by
 letI C:Co Tryz.prog:=gS Tryz.prog
 have la:Fns Tryz.prog sg (D tS 20):=jA EB ⟨kO,rfl,rfl⟩ tC 20;obtain ⟨c',gc⟩:∃ c':Court,c'=if bX c d=0 then c else mO:=⟨_,rfl⟩
 have Mt:SpecR Tryz.prog 68 [agC c,.cv (ci d)] (.tup [agC c',.cv (ci (bX c d))]):=by
  have h:=wF (its:=tS) 7 hf d
  have h':D tS 20 68 (c.rs++[ci d])=some (c'.rs++[ci (bX c d)]):=by
   grind
  exact wG la (g:=aG6.g) (by rfl) h' (by rfl) (by rfl)
 refine oZ (fn:=Tryz.f21) (c:=aB Tryz.f21) (by rfl) (by rfl) fun F n hF am=>?_
 rw [show Tryz.f21.ntmps=33 from rfl,Go.Sx.start_eq _ _ (by simp)]
 refine nX (W.w2 (aV ?_));refine wop hF (A:=.ptr 0 0) (B':=[bxC c 31]) (V':=[]) rfl rfl (by rfl) ?_
 refine wop hF (A:=UO) (B':=[bxC c 31]) (V':=[]) rfl rfl (by rfl) ?_
 refine wop hF (A:=.cv (ci 0)) (B':=[bxC c 31]) (V':=[]) rfl rfl (by rfl) ?_
 refine aN ?_;refine nX (W.w2 (aV ?_));refine wop hF (A:=agC c) (B':=[bxC c 31]) (V':=[]) rfl rfl (by rfl) ?_
 refine wop hF (A:=.cv (ci d)) (B':=[bxC c 31]) (V':=[]) rfl rfl (by rfl) ?_
 refine aBx hF rfl rfl rfl (by rfl) Mt (by rfl) rfl rfl ?_
 refine wop hF (A:=.tup [agC c',.cv (ci (bX c d))]) (B':=[bxC c 31]) (V':=[]) rfl rfl (by rfl) ?_
 refine wop hF (A:=agC c') (B':=[bxC c 31]) (V':=[]) rfl rfl (by rfl) ?_
 refine wop hF (A:=.cv (ci (bX c d))) (B':=[bxC c 31]) (V':=[]) rfl rfl (by rfl) ?_
 refine wop hF (A:=.ptr 1 0) (B':=[bxC c 31,⟨true,97,[UO,UO,UO]⟩]) (V':=[]) rfl rfl (by rfl) ?_
 refine aDN hF (A:=.any) (B':=[bxC c 31,bxC c' 97]) (V':=[]) rfl rfl (by rfl) ?_
 refine wop hF (A:=.cv (ci (bX c d))) (B':=[bxC c 31,bxC c' 97]) (V':=[]) rfl rfl (by rfl) ?_
 refine aN ?_;refine nX (W.w2 (dG (aV ?_)));refine wop hF (A:=.cv (ci (bX c d))) (B':=[bxC c 31,bxC c' 97]) (V':=[]) rfl rfl (by rfl) ?_
 refine wop hF (A:=.cv (.val (.bool (bX c d != 0)))) (B':=[bxC c 31,bxC c' 97]) (V':=[]) rfl rfl (by rfl) ?_
 refine aN ?_;refine mG (b:=bX c d != 0) (by rfl) (fun hb=>?_) fun hb=>mF ?_
 ·refine dG (aV ?_)
  refine wop hF (A:=.cv (ci (bX c d))) (B':=[bxC c 31,bxC c' 97]) (V':=[]) rfl rfl (by rfl) ?_
  refine wop hF (A:=UO) (B':=[bxC c 31,bxC c' 97]) (V':=[]) rfl rfl (by rfl) ?_
  refine wop hF (A:=.cv (ci (bX c d))) (B':=[bxC c 31,bxC c' 97]) (V':=[]) rfl rfl (by rfl) ?_
  refine aN (yW ?_);exact ⟨.inr rfl,.tup [UO,.cv (ci (bX c d))],by rfl,.inr ⟨by grind,rfl⟩⟩
 ·have he:bX c d=0:=by grind
  have l4:c'=c:=by grind
  rw [l4];refine aCK (rows:=(jD c d).map Lv.cv) (nF he) rfl (by rw [List.length_map];exact RG (nF he) d) (hs he) hF am (by rfl) (by rfl) fun l' h4 h5=>?_
  refine ⟨.inr rfl,.tup [.own 0 1,.cv (ci 0)],?_,.inl ⟨by rw [he],by grind⟩⟩
  simp_all
theorem aCL {c:Court} (hf:c.Fit) {d:Int} (hs:bX c d=0->oL tS (eV c)) :
  @SpecR Gh Tryz.prog (gS Tryz.prog) 21 [agC c,.cv (ci d)] (.tup [.cv (.row 4 (if bX c d=0 then (jD c d).map Lv.cv else [])),.cv (ci (bX c d))]):=by
 letI C:Co Tryz.prog:=gS Tryz.prog
 refine CallP.freezeL (aAl hf hs) (by simp) rfl ?_
 generalize (if bX c d=0 then (jD c d).map Lv.cv else [])=rows
 rintro n0 w0 e w r B V S v (⟨rfl,rfl⟩ | ⟨rfl,rfl⟩) hm hS nq jj hv
 ·exact AV.lend_holds' hm hS nq jj _ _ hv
 ·obtain ⟨vs,h1,h2⟩:=hv
  refine ⟨vs,h1,?_⟩;revert h2;generalize vs.toList=l;intro h2
  match l,h2 with
  | [a,b],⟨h3,h4,_⟩ =>
   refine ⟨?_,h4,trivial⟩;have h5:a=.slice none 0 0:=h3.1;subst h5;exact ⟨none,0,rfl,Nat.le_refl _,Nat.zero_le _,.inl rfl⟩
  | [],h2=>exact h2.elim
  | [_],h2=>exact h2.2.elim
  | _::_::_::_,h2=>exact h2.2.2.elim
end
end
section
open Go Go.Sx Go.Plaint
set_option maxRecDepth 100000
theorem aAm {A:Type} [DecidableEq A] {l m:List A} (h:l.length=m.length):((List.range l.length).all fun i=>decide (l[i]? = m[i]?))=decide (l=m):=by
 rw [Bool.eq_iff_iff,List.all_eq_true,decide_eq_true_eq];constructor
 ·intro hh
  refine List.ext_getElem? fun i=>?_
  grind
 grind
theorem BZ {A:Type} [DecidableEq A] {f:A->List CV} {l m:List A} {ls:List Lf} (T:List CV->List CV->Option Ou->Option Ou) (hl:l.length<1000000000000000) (ol:∀ a∈l,oks ls (f a) 0=true) (om:∀ a∈m,oks ls (f a) 0=true) (hT:∀ a b X,a∈l->b∈m->T (f a) (f b) X=if a=b then X else some (.ret [cb false])) :
  aJ (aC ((il (l.map f)) != (il (m.map f)))
   (some (.ret [cb false]))
   (bG 0 (aH (fun v0 =>
     aC (decide ((gi v0 0)<(il (l.map f))))
      (chk (inb (gi v0 0) (l.map f)) <|
      chk (oks ls (el (l.map f) (gi v0 0)) 0) <|
      chk (inb (gi v0 0) (m.map f)) <|
      chk (oks ls (el (m.map f) (gi v0 0)) 0) <|
      T (el (l.map f) (gi v0 0)) (el (m.map f) (gi v0 0)) (some (.nx [ci (wr ((gi v0 0)+1))])))
      (some (.br 0 []))) [ci 0]) fun v0 =>
   some (.ret [cb true])))=some [cb (decide (l=m))]:=by
 have h1:il (l.map f)=(l.length:Int):=aP _ _;have h2:il (m.map f)=(m.length:Int):=aP _ _
 by_cases r8:l.length=m.length
 ·rw [wD l.length (fun i=>[ci (i:Int)]) (fun i=>decide (l[i]? = m[i]?)) (some (.br 0 [])) (some (.ret [cb false])) ?hv (fun i hi=>?hs) ?he (by simp) (by simp)]
  case hv=>rfl
  case he=>simp
  case hs =>
   have xq:i<m.length:=by omega
   have i1:inb (i:Int) (l.map f)=true:=aE hi;have e1:el (l.map f) (i:Int)=f l[i]:=aK hi;have i2:inb (i:Int) (m.map f)=true:=aE xq;have e2:el (m.map f) (i:Int)=f m[i]:=aK xq;have hw:=bA (show i<9223372036854775807 by omega)
   simp_all
  rw [aAm r8]
  by_cases he:l=m
  ·simp_all
  simp_all
 ·have g:(il (l.map f) != il (m.map f))=true:=by grind
  rw [g,decide_eq_false (fun h=>r8 (by rw [h]))];rfl
section
variable {its:ITS} (n:Nat)
theorem UP {A B:List Int} (hA:A.length<1000000000000000):D its (n+1) 27 [.row 1 (enc1 A),.row 1 (enc1 B)]=some [cb (decide (A=B))]:=by
 refine (TU its n _ _).trans ?_
 exact BZ (f:=fun a:Int=>[ci a]) (l:=A) (m:=B) (ls:=[li]) (fun e e' X=>aC ((gi e 0) != (gi e' 0)) (some (.ret [cb false])) X) hA (fun _ _=>rfl) (fun _ _=>rfl) (fun a b X _ _=>by
  simp)
theorem NU {A B:List (List Int)} (hA:A.length<1000000000000000) (hr:∀ a∈A,a.length<1000000000000000):D its (n+2) 40 [.row 1 (eO A),.row 1 (eO B)]=some [cb (decide (A=B))]:=by
 refine (BQ its (n+1) _ _).trans ?_
 exact BZ (f:=fun r:List Int=>[.row 1 (enc1 r)]) (l:=A) (m:=B) (ls:=[.row 1]) (fun e e' X=>aA (D its (n+1) gU [CV.row 1 (gr e 0),CV.row 1 (gr e' 0)]) fun v1=>aC (!(gb v1 0)) (some (.ret [cb false])) X) hA (fun _ _=>rfl) (fun _ _=>rfl) (fun a b X ha _=>by
  have h1:D its (n+1) gU [CV.row 1 (enc1 a),CV.row 1 (enc1 b)]=_:=UP n (hr a ha);simp_all)
theorem aEG (a b:Lv) (X:Option Ou):aC (!(((gi a.cv 0) == (gi b.cv 0))&&(((gi a.cv 1) == (gi b.cv 1))&&(((gi a.cv 2) == (gi b.cv 2))&&(((gi a.cv 3) == (gi b.cv 3))&&true))))) (some (.ret [cb false])) X=if a=b then X else some (.ret [cb false]):=by
 obtain ⟨a0,a1,a2,a3⟩:=a;obtain ⟨b0,b1,b2,b3⟩:=b;simp [Lv.cv];grind
theorem NV {A B:List Lv} (hA:A.length<1000000000000000):D its (n+1) 26 [.row 4 (A.map Lv.cv),.row 4 (B.map Lv.cv)]=some [cb (decide (A=B))]:=by
 refine (BM its n _ _).trans ?_;exact BZ (f:=Lv.cv) (l:=A) (m:=B) (ls:=List.replicate 4 li) (fun e e' X=>aC (!(((gi e 0) == (gi e' 0))&&(((gi e 1) == (gi e' 1))&&(((gi e 2) == (gi e' 2))&&(((gi e 3) == (gi e' 3))&&true))))) (some (.ret [cb false])) X) hA (fun _ _=>rfl) (fun _ _=>rfl) (fun a b X _ _=>aEG a b X)
end
noncomputable section
def S21 (caps out:List CV):Prop:=∃ (c:Court) (d:Int),c.Fit/\(bX c d=0->oL tS (eV c))/\caps=c.rs++[ci d]/\out=[.row 4 (if bX c d=0 then (jD c d).map Lv.cv else []),ci (bX c d)]
theorem aJV {c:Court} (hf:c.Fit) {d:Int} (hs:bX c d=0->oL tS (eV c)):cIt S21 (c.rs++[ci d])=some [.row 4 (if bX c d=0 then (jD c d).map Lv.cv else []),ci (bX c d)]:=by
 refine mM ⟨c,d,hf,hs,rfl,rfl⟩ ?_;rintro o ⟨c',d',_,_,h2,rfl⟩;have h3:c.rs=c'.rs:=List.append_inj_left h2 rfl;have h4:=List.append_inj_right h2 rfl;grind [ci,UI]
theorem aJW [Gh:Ghost]:@DJ Gh (gS Tryz.prog) 21 (cIt S21):=by
 letI C:Co Tryz.prog:=gS Tryz.prog
 intro caps out ho;obtain ⟨c,d,hf,hs,rfl,rfl⟩:=eN ho;refine ⟨fun g hg=>?_,fun rows' sh' hr=>?_,fun k' e T' hr=>?_,fun T k cs1 e e' hd h1 h2=>?_,fun k T b h1=>?_,fun T fs h1 h2=>?_⟩
 ·cases hg
  exact RD (aCL hf hs) (by rfl) (by rfl)
 ·grind
 ·grind [ci]
 ·grind [Court.rs]
 ·simp
 grind
def aEH:ITS:=(21,cIt S21)::tS
theorem aEI (G:Ghost):@sV G Tryz.prog (gS Tryz.prog) (jG tb) aEH:=fun e he=>by
 rcases List.mem_cons.1 he with rfl | he
 ·exact @aJW G
 ·exact @EB (gS Tryz.prog) G e he
end
structure ItsE (its:ITS):Prop extends ItsD its where
 i21:∀ (n:Nat) (c:Court) (d:Int),c.Fit->(bX c d=0->oL tS (eV c))->D its (n+1) 21 (c.rs++[ci d])=some [.row 4 (if bX c d=0 then (jD c d).map Lv.cv else []),ci (bX c d)]
theorem aGz:ItsE aEH where
 i158:=fun n L h=>Eq.trans (by rfl) (aCh h)
 i169:=fun n L h=>Eq.trans (by rfl) (aCi h)
 i97:=fun n l h=>Eq.trans (by rfl) (NN (k:=1) (T:=3) h)
 i180:=fun n l h=>Eq.trans (by rfl) (NN (k:=3) (T:=67) h)
 i181:=fun n l h=>Eq.trans (by rfl) (NN (k:=6) (T:=35) h)
 i95:=fun n L h=>Eq.trans (by rfl) (aF8 h)
 i117:=fun n L h hd=>Eq.trans (by rfl) (aCj h hd)
 i214:=fun n c L h hl=>Eq.trans (by rfl) (aCn h hl)
 i69:=fun n c d hc=>Eq.trans (by rfl) (aIv hc d)
 i172:=fun n c L hc h hl=>Eq.trans (by rfl) (aFh hc h hl)
 i21:=fun n c d hf hs=>Eq.trans (by rfl) (aJV hf hs)
def exC:Court:=⟨[⟨5,7,[10,11],50,120,2,2,[1,2]⟩,⟨6,8,[11,12],0,70,3,4,[2,3]⟩,⟨9,7,[20],0,40,6,6,[1,3]⟩],[⟨1,100,150⟩,⟨2,60,60⟩,⟨3,40,90⟩],[⟨30,5,8,8,110,20⟩,⟨31,5,9,12,60,60⟩]⟩
theorem aIz:exC.ok=true:=by kernel_rfl
theorem aCM {a b:Int} (h:a≠b):CP [a,b]:=fun i hi=>by
 grind
theorem aCN:oL tS (eV exC):=by
 refine KW aCF.toItsC (by decide) ?_
 intro i hi
 match i,hi with
 | 0,_=>decide
 | 1,_=>decide
 | 2,_=>decide
 | 3,_=>decide
section
variable {its:ITS} (n:Nat) (hi:ItsE its)
include hi
theorem aGA:D its (n+18) 17 []=some [cb true]:=by
 refine (ND its (n+17)).trans ?_;have hc:OkC exC:=AA aIz;have hf:=hc.fit;have Mu:D its (n+17) mJ []=some exC.rs:=(DG its (n+16)).trans (by rfl)
 have a4:bX exC 4=0:=by rfl
 have a6:bX exC 6=0:=by rfl
 have a8:bX exC 8=0:=by rfl
 have a12:bX exC 12=0:=by rfl
 have m54:vK exC 5 4=0:=by rfl
 have m58:vK exC 5 8=0:=by rfl
 have Mv:D its (n+17) mI [CV.row 8 exC.p,CV.row 3 exC.s,CV.row 6 exC.f,ci 4]=some [.row 1 (eO [[100,20,0],[0,40,30]]),ci 0]:=by
  have h:=aCG (n+3) hi.toItsD hf 4;exact h
 have Mw:D its (n+17) oB [CV.row 8 exC.p,CV.row 3 exC.s,CV.row 6 exC.f,ci 6]=some [.row 1 (enc1 [5,6,9]),ci 0]:=by
  have h:=aEo (n+3) hi.toItsC hf 6;rw [if_pos a6,show (dV exC 6)=([0,1],[2]) by rfl] at h
  exact h
 have Mx:D its (n+17) oA [CV.row 8 exC.p,CV.row 3 exC.s,CV.row 6 exC.f,ci 5,ci 4]=some [ci 10,ci 0]:=by
  have h:=aEq (n+2) hi.toItsC hf 5 4;exact h
 have My:D its (n+17) pZ [CV.row 8 exC.p,CV.row 3 exC.s,CV.row 6 exC.f,ci 8]=some [.row 1 (enc1 [11,12]),ci 0]:=by
  have h:=aGt (n+3) hi.toItsC hf 8 (fun _=>KW hi.toItsC (by decide) (by exact aCM (by decide)))
  exact h
 have Mz:D its (n+17) pY [CV.row 8 exC.p,CV.row 3 exC.s,CV.row 6 exC.f,ci 5,ci 1,ci 8]=some [ci 90,ci 0]:=by
  have h:=aGo (n+2) hi.toItsD hf 5 1 8;exact h
 have B4:D its (n+17) sW [CV.row 8 exC.p,CV.row 3 exC.s,CV.row 6 exC.f,ci 12]=some [.row 4 (([⟨8,5,0,20⟩,⟨8,5,1,90⟩,⟨12,5,0,40⟩,⟨12,5,1,-90⟩]:List Lv).map Lv.cv),ci 0]:=by
  have h:=hi.i21 (n+16) exC 12 hf (fun _=>aCN)
  exact h
 have Gg:D its (n+17) gT [CV.row 8 exC.p,CV.row 3 exC.s,CV.row 6 exC.f,ci 30,ci 12]=some [.row 1 (enc1 []),ci 0]:=by
  have h:=WW (n+3) hi.toItsD hf 30 12;exact h
 have k40:D its (n+17) lJ [CV.row 1 (eO [[100,20,0],[0,40,30]]),CV.row 1 (aI 1 2 ([CV.row 1 (aI 1 3 [ci 100,ci 20,ci 0]),CV.row 1 (aI 1 3 [ci 0,ci 40,ci 30])]))]=some [cb true]:=NU (n+15) (A:=[[100,20,0],[0,40,30]]) (B:=[[100,20,0],[0,40,30]]) (by decide) (by simp)
 have k27:D its (n+17) gU [CV.row 1 (enc1 [5,6,9]),CV.row 1 (aI 1 3 [ci 5,ci 6,ci 9])]=some [cb true]:=UP (n+16) (A:=[5,6,9]) (B:=[5,6,9]) (by decide)
 have k27':D its (n+17) gU [CV.row 1 (enc1 [11,12]),CV.row 1 (aI 1 2 [ci 11,ci 12])]=some [cb true]:=UP (n+16) (A:=[11,12]) (B:=[11,12]) (by decide)
 have k26:D its (n+17) lI [CV.row 4 (([⟨8,5,0,20⟩,⟨8,5,1,90⟩,⟨12,5,0,40⟩,⟨12,5,1,-90⟩]:List Lv).map Lv.cv),CV.row 4 (aI 4 4 [ci 8,ci 5,ci 0,ci 20,ci 8,ci 5,ci 1,ci 90,ci 12,ci 5,ci 0,ci 40,ci 12,ci 5,ci 1,ci (-90)])]=some [cb true]:=NV (n+16) (A:=[⟨8,5,0,20⟩,⟨8,5,1,90⟩,⟨12,5,0,40⟩,⟨12,5,1,-90⟩]) (B:=[⟨8,5,0,20⟩,⟨8,5,1,90⟩,⟨12,5,0,40⟩,⟨12,5,1,-90⟩]) (by decide)
 have g0:gr exC.rs 0=exC.p:=rfl;have g1:gr exC.rs 1=exC.s:=rfl;have g2:gr exC.rs 2=exC.f:=rfl;unfold zN;rw [Mu];simp only [aD,g0,g1,g2,Mv,Mw,Mx,My,Mz,B4,Gg,BR,cW,cY,k40,k27,k27',k26,nD];rfl
end
end
end Go.Proofs.YtgpnoeojpmaeiaaGreat
namespace Go.Plaint
open Go Go.Sx
structure R6 where
 n0:Int
 n1:Int
 n2:Int
 n3:Int
 n4:Int
 n5:Int
structure R5 where
 n0:Int
 n1:Int
 n2:Int
 n3:Int
 n4:Int
structure Raw where
 ws:List Int
 ps:List R6
 fs:List R5
def R6.cv (x:R6):List CV:=[ci x.n0,ci x.n1,ci x.n2,ci x.n3,ci x.n4,ci x.n5]
def R5.cv (x:R5):List CV:=[ci x.n0,ci x.n1,ci x.n2,ci x.n3,ci x.n4]
def Raw.cv (r:Raw):List CV:=[.row 1 (r.ws.map fun a=>[ci a]),.row 6 (r.ps.map R6.cv),.row 5 (r.fs.map R5.cv)]
structure Raw.Ok (r:Raw):Prop where
 w:r.ws.length<1000000000000000
 p:r.ps.length<1000000000000000
 f:r.fs.length<1000000000000000
def atI (L:List Int) (i:Nat):Int:=if L.length=0 then 0 else L.getD (i % L.length) 0
def Raw.many (r:Raw):Nat:=1+r.ws.length % 4
def Raw.su (r:Raw) (i:Nat):Su:=⟨3*(i:Int)+1,atI r.ws i % 200,atI r.ws i % 200+atI r.ws (i+1) % 50⟩
def aEJ (x:Int) (k:Nat):Bool:=(wr (Int.ofNat ((BitVec.ofInt 64 x &&& BitVec.ofInt 64 (wr (1*((2:Int) ^ (min (Int.toNat (k:Int)) 64))))).toNat))) != 0
def Raw.ssL (n5:Int):Nat->List Int
 | 0=>[]
 | k+1=>Raw.ssL n5 k++if aEJ n5 k=true then [3*(k:Int)+1] else []
def Raw.ssOf (r:Raw) (x:R6):List Int:=if (Raw.ssL x.n5 r.many).length=0 then [1+3*(x.n0 % (r.many:Int))] else Raw.ssL x.n5 r.many
def Raw.pt (r:Raw) (i:Nat) (x:R6):Pt:=⟨2*(i:Int)+5,1+x.n0 % 9,[1+x.n1 % 9,11+x.n1 % 5],x.n2 % 160 / 3,x.n2 % 160,x.n3 % 12,x.n4 % 12,r.ssOf x⟩
def Raw.pl (r:Raw):List Pt:=(List.range (min r.ps.length 5)).map fun i=>r.pt i (r.ps.getD i ⟨0,0,0,0,0,0⟩)
def Raw.fi (ps:List Pt) (i:Nat) (x:R5):Fi:=
 let p:=ps.getD (x.n0 % (ps.length:Int)).toNat ⟨0,0,[],0,0,0,0,[]⟩
 ⟨10*(i:Int)+7,p.i0,x.n1 % 20,x.n2 % 25,x.n3 % (p.need+1),x.n4 % (x.n3 % (p.need+1)+1)⟩
def Raw.fl (r:Raw):List Fi:=if r.pl.length=0 then [] else (List.range (min r.fs.length 8)).map fun i=>Raw.fi r.pl i (r.fs.getD i ⟨0,0,0,0,0⟩)
def Raw.made (r:Raw):Court:=⟨r.pl,(List.range r.many).map r.su,r.fl⟩
end Go.Plaint
namespace Go.Proofs.YtgpnoeojpmaeiaaGreat
section
open Go Go.Sx Go.Plaint
set_option maxRecDepth 10000
theorem aCO (a m:Int) (h:0<m):Int.tmod (Int.tmod a m+m) m=a % m:=by
 have h2:-m<Int.tmod a m/\Int.tmod a m<m:=by
  rcases Int.lt_or_le a 0 with ha | ha
  ·have:=Int.tmod_nonneg (a:=-a) m (by omega)
   have h3:=Int.tmod_lt_of_pos (-a) h;rw [Int.neg_tmod] at this h3;omega
  ·have:=Int.tmod_nonneg m ha
   have h3:=Int.tmod_lt_of_pos a h;omega
 have h4:(Int.tmod a m+m) % m=a % m:=by
  simp [Int.tmod_def]
 grind
section
variable {its:ITS} (n:Nat)
theorem aCP {a m:Int} (h0:0<m) (h1:m<4000000000000000000):D its (n+1) 15 [ci a,ci m]=some [ci (a % m)]:=by
 refine (ZO its n _ _).trans ?_;have hm:(m != 0)=true:=by grind
 have h2:-m<Int.tmod a m/\Int.tmod a m<m:=by
  rcases Int.lt_or_le a 0 with ha | ha
  ·have:=Int.tmod_nonneg (a:=-a) m (by omega)
   have h3:=Int.tmod_lt_of_pos (-a) h0;rw [Int.neg_tmod] at this h3;omega
  ·have:=Int.tmod_nonneg m ha
   have h3:=Int.tmod_lt_of_pos a h0;omega
 have hw:wr (Int.tmod a m+m)=Int.tmod a m+m:=dQ (by omega) (by omega)
 simp_all [KE,bR,aCO,h0,dP]
theorem aIA {L:List Int} (hL:L.length<1000000000000000) (i:Nat) (hi:i<1000000000000000):D its (n+2) 67 [.row 1 (enc1 L),ci (i:Int)]=some [ci (atI L i)]:=by
 refine (aBP its (n+1) _ _).trans ?_;have ah:il (enc1 L)=(L.length:Int):=aP _ _;unfold QM atI;rw [ah]
 by_cases h0:L.length=0
 ·simp_all
 ·have hm:D its (n+1) bJ [ci (i:Int),ci (L.length:Int)]=some [ci ((i % L.length:Nat):Int)]:=by
   exact aCP n (by omega) (by omega)
  have an:i % L.length<L.length:=Nat.mod_lt _ (by omega)
  have i1:inb ((i % L.length:Nat):Int) (enc1 L)=true:=aE an;have e1:=kP an;simp_all
end
theorem vN {A:Type} (f:Nat->A) (i:Nat):(List.range (i+1)).map f=(List.range i).map f++[f i]:=by
 rw [List.range_succ,List.map_append];rfl
theorem aFk (x:Int) (k:Nat):Raw.ssL x (k+1)=Raw.ssL x k++if aEJ x k=true then [3*(k:Int)+1] else []:=rfl
theorem NW (x:Int):∀ k,(Raw.ssL x k).length<=k
 | 0=>Nat.le_refl _
 | k+1=>by
  have:=NW x k;unfold Raw.ssL;grind
section
variable {its:ITS} (n:Nat)
theorem aGB {r:Raw} (hr:r.Ok):D its (n+3) 14 r.cv=some r.made.rs:=by
 refine (TS its (n+2) _ _ _).trans ?_;have hW:il (enc1 r.ws)=(r.ws.length:Int):=aP _ _;have hP:il (r.ps.map R6.cv)=(r.ps.length:Int):=aP _ _;have hF:il (r.fs.map R5.cv)=(r.fs.length:Int):=aP _ _;have md:∀ a m:Int,0<m->m<4000000000000000000->D its (n+2) bJ [ci a,ci m]=some [ci (a % m)]:=fun a m h0 h1=>aCP (n+1) h0 h1
 have Ij:r.many<=4:=by unfold Raw.many;omega
 have M0:wr (1+((r.ws.length:Int) % 4))=((r.many:Nat):Int):=by
  rw [dQ (by omega) (by omega)]
  rfl
 unfold GC;rw [hW,md _ 4 (by decide) (by decide)]
 simp only [aD,cW,M0];rw [eY r.many (fun i=>[ci (i:Int),.row 8 [],.row 6 [],.row 3 ((List.range i).map fun k=>(r.su k).cv)]) (some (.br 0 [.row 8 [],.row 6 [],.row 3 ((List.range r.many).map fun k=>(r.su k).cv)])) ?hv (fun i hx=>?hs) ?he (by simp)]
 case hv=>rfl
 case he=>simp
 case hs =>
  have ap:(i:Int)<(r.many:Int):=by omega
  have hw:=bA (show i<9223372036854775807 by omega)
  have h1:D its (n+2) uO [CV.row 1 (enc1 r.ws),ci (i:Int)]=_:=aIA n hr.w i (by omega)
  have h2:D its (n+2) uO [CV.row 1 (enc1 r.ws),ci ((i+1:Nat):Int)]=_:=aIA n hr.w (i+1) (by omega)
  have h3:wr (wr (3*(i:Int))+1)=3*(i:Int)+1:=by grind [dQ,Int]
  have h4:wr (atI r.ws i % 200+atI r.ws (i+1) % 50)=atI r.ws i % 200+atI r.ws (i+1) % 50:=dQ (by omega) (by omega)
  have bh:bL ((List.range i).map fun k=>(r.su k).cv).length 1 24=true:=by
   rw [List.length_map,List.length_range];exact cU (by omega) (by omega)
  simp only [cW,fO,cY,ap,h1,hw,h2,aD,md _ 200 (by decide) (by decide),md _ 50 (by decide) (by decide),bh,h3,h4]
  rw [vN];rfl
 simp only [jC,fO,cY];generalize hS:(List.range r.many).map (fun k=>(r.su k).cv)=S
 rw [eY (min r.ps.length 5) (fun i=>[ci (i:Int),.row 8 ((List.range i).map fun k=>(r.pt k (r.ps.getD k ⟨0,0,0,0,0,0⟩)).cv),.row 6 [],.row 3 S]) (some (.br 2 [.row 8 (r.pl.map Pt.cv),.row 6 [],.row 3 S])) ?hv (fun i hx=>?hs) ?he (by simp)]
 case hv=>rfl
 case he =>
  simp only [cW,fO,cY,hP]
  have h1:r.pl.map Pt.cv=(List.range (min r.ps.length 5)).map fun k=>(r.pt k (r.ps.getD k ⟨0,0,0,0,0,0⟩)).cv:=by
   unfold Raw.pl;simp
  rw [h1]
  by_cases h5:r.ps.length<=5
  ·simp_all
  ·have e:min r.ps.length 5=5:=by omega
   simp_all
 case hs =>
  have ar:i<r.ps.length:=by omega
  have wi:(i:Int)<5:=by omega
  have ap:(i:Int)<(r.ps.length:Int):=by omega
  have hw:=bA (show i<9223372036854775807 by omega)
  have i1:inb (i:Int) (r.ps.map R6.cv)=true:=aE ar;have e1:el (r.ps.map R6.cv) (i:Int)=r.ps[i].cv:=aK ar;have gx:r.ps.getD i ⟨0,0,0,0,0,0⟩=r.ps[i]:=by grind
  generalize r.ps[i]=x at e1 gx;have o1:oks (List.replicate 6 li) x.cv 0=true:=rfl;have c0:gi x.cv 0=x.n0:=rfl;have c1:gi x.cv 1=x.n1:=rfl;have c2:gi x.cv 2=x.n2:=rfl;have c3:gi x.cv 3=x.n3:=rfl;have c4:gi x.cv 4=x.n4:=rfl;have c5:gi x.cv 5=x.n5:=rfl;have w1:wr (wr (2*(i:Int))+5)=2*(i:Int)+5:=by grind [dQ,Int]
  have w2:wr (1+x.n0 % 9)=1+x.n0 % 9:=dQ (by omega) (by omega)
  have w3:wr (1+x.n1 % 9)=1+x.n1 % 9:=dQ (by omega) (by omega)
  have w4:wr (11+x.n1 % 5)=11+x.n1 % 5:=dQ (by omega) (by omega)
  have w5:wr (Int.tdiv (x.n2 % 160) 3)=x.n2 % 160 / 3:=by
   rw [Int.tdiv_eq_ediv_of_nonneg (by omega)]
   exact dQ (by omega) (by omega)
  simp only [cW,fO,cY,hP,ap,wi,decide_true,iP,eX,nD,i1,e1,o1,bR,c0,c1,c2,c3,c4,c5,aD,md _ 9 (by decide) (by decide),md _ 5 (by decide) (by decide),md _ 12 (by decide) (by decide),md _ 160 (by decide) (by decide),w1,w2,w3,w4,w5,hw]
  rw [eY r.many (fun k=>[ci (k:Int),ci (2*(i:Int)+5),ci (1+x.n0 % 9),.row 1 (enc1 [1+x.n1 % 9,11+x.n1 % 5]),ci (x.n2 % 160 / 3),ci (x.n2 % 160),ci (x.n3 % 12),ci (x.n4 % 12),.row 1 (enc1 (Raw.ssL x.n5 k))]) (some (.br 4 [ci (2*(i:Int)+5),ci (1+x.n0 % 9),.row 1 (enc1 [1+x.n1 % 9,11+x.n1 % 5]),ci (x.n2 % 160 / 3),ci (x.n2 % 160),ci (x.n3 % 12),ci (x.n4 % 12),.row 1 (enc1 (Raw.ssL x.n5 r.many))])) ?hv2 (fun k hk=>?hs2) ?he2 (by simp)]
  case hv2=>rfl
  case he2 =>
   simp
  case hs2 =>
   have kc:(k:Int)<(r.many:Int):=by omega
   have tj:=bA (show k<9223372036854775807 by omega)
   have cy:(0:Int)<=(k:Int):=by omega
   have hl:=NW x.n5 k;have bh:bL (enc1 (Raw.ssL x.n5 k)).length 1 8=true:=by rw [List.length_map];exact cU (by omega) (by omega)
   have w6:wr (wr (3*(k:Int))+1)=3*(k:Int)+1:=by rw [dQ (x:=3*(k:Int)) (by omega) (by omega),dQ (by omega) (by omega)]
   have Gi:((wr (Int.ofNat (bAN x.n5 (wr (1*((2:Int) ^ (min (Int.toNat (k:Int)) 64))))))) != 0)=aEJ x.n5 k:=rfl;simp only [cW,fO,cY,kc,Gi,bh,w6,tj];rw [aFk,HH];cases aEJ x.n5 k with
   | true=>rfl
   | false=>simp only [dU,eX,Bool.false_eq_true,if_false,List.map_nil,List.append_nil];rfl
  have Gj:il (enc1 (Raw.ssL x.n5 r.many))=((Raw.ssL x.n5 r.many).length:Int):=aP _ _
  have bh:bL ((List.range i).map fun k=>(r.pt k (r.ps.getD k ⟨0,0,0,0,0,0⟩)).cv).length 1 96=true:=by
   rw [List.length_map,List.length_range];exact cU (by omega) (by omega)
  rw [vN,gx];simp only [jC,cW,BR,fO,cY,Gj];have i9:(r.pt i x).cv=[ci (2*(i:Int)+5),ci (1+x.n0 % 9),.row 1 (enc1 [1+x.n1 % 9,11+x.n1 % 5]),ci (x.n2 % 160 / 3),ci (x.n2 % 160),ci (x.n3 % 12),ci (x.n4 % 12),.row 1 (enc1 (r.ssOf x))]:=rfl;rw [i9];unfold Raw.ssOf
  by_cases h0:(Raw.ssL x.n5 r.many).length=0
  ·have g:(((Raw.ssL x.n5 r.many).length:Int) == 0)=true:=by rw [h0];rfl
   have w7:wr (1+wr (3*(x.n0 % (r.many:Int))))=1+3*(x.n0 % (r.many:Int)):=by
    have h1:0<=x.n0 % (r.many:Int):=Int.emod_nonneg _ (by unfold Raw.many;omega)
    have h2:x.n0 % (r.many:Int)<r.many:=Int.emod_lt_of_pos _ (by unfold Raw.many;omega)
    rw [dQ (x:=3*_) (by omega) (by omega),dQ (by omega) (by omega)]
   rw [g,if_pos h0];simp only [iP,md _ (r.many:Int) (by unfold Raw.many;omega) (by omega),aD,cW,w7,bh]
   rfl
  ·have g:(((Raw.ssL x.n5 r.many).length:Int) == 0)=false:=by simp;intro h;exact h0 (by rw [h];rfl)
   rw [g,if_neg h0];simp only [dU,bh];rfl
 simp only [jC,fO,cY];have si:il (r.pl.map Pt.cv)=(r.pl.length:Int):=aP _ _;have Gk:r.pl.length<=5:=by unfold Raw.pl;simp;omega
 have l8:∀ p∈r.pl,0<=p.need/\p.need<160:=fun p hp=>by
  unfold Raw.pl at hp;obtain ⟨i,_,rfl⟩:=List.mem_map.1 hp;simp only [Raw.pt];omega
 have vg:min r.fs.length 8<=8:=by omega
 rw [eY r.fl.length (fun i=>[ci (i:Int),.row 8 (r.pl.map Pt.cv),.row 6 ((r.fl.take i).map Fi.cv),.row 3 S]) (some (.br 6 [.row 8 (r.pl.map Pt.cv),.row 6 (r.fl.map Fi.cv),.row 3 S])) ?hv (fun i hx=>?hs) ?he (by simp)]
 case hv=>rfl
 case he =>
  rw [List.take_length];simp only [cW,fO,cY,hF,si];unfold Raw.fl
  by_cases h0:r.pl.length=0
  ·rw [if_pos h0,h0]
   by_cases h1:(([]:List Fi).length:Int)<(r.fs.length:Int)
   ·rw [decide_eq_true h1];rfl
   ·rw [decide_eq_false h1];rfl
  ·rw [if_neg h0,List.length_map,List.length_range]
   by_cases h5:r.fs.length<=8
   ·have e:min r.fs.length 8=r.fs.length:=by omega
    rw [e];simp only [Int.lt_irrefl,decide_false,dU,eX,nD]
   ·have e:min r.fs.length 8=8:=by omega
    have g1:((8:Nat):Int)<(r.fs.length:Int):=by omega
    rw [e];simp only [g1,decide_true,iP];rfl
 case hs =>
  have h0:¬(r.pl.length=0):=fun h=>by unfold Raw.fl at hx;rw [if_pos h] at hx;simp at hx
  have eh:r.fl=(List.range (min r.fs.length 8)).map fun i=>Raw.fi r.pl i (r.fs.getD i ⟨0,0,0,0,0⟩):=by unfold Raw.fl;rw [if_neg h0]
  have ak:r.fl.length=min r.fs.length 8:=by rw [eh];simp
  have ar:i<r.fs.length:=by omega
  have M1:(i:Int)<8:=by omega
  have ap:(i:Int)<(r.fs.length:Int):=by omega
  have Hr:(r.pl.length:Int) > 0:=by omega
  have hw:=bA (show i<9223372036854775807 by omega)
  have i1:inb (i:Int) (r.fs.map R5.cv)=true:=aE ar;have e1:el (r.fs.map R5.cv) (i:Int)=r.fs[i].cv:=aK ar
  have gf:r.fl[i]=Raw.fi r.pl i r.fs[i]:=by
   have:r.fl[i]? = some (Raw.fi r.pl i r.fs[i]):=by
    rw [eh,List.getElem?_map,List.getElem?_range (by omega)]
    simp [ar]
   rw [List.getElem?_eq_getElem hx] at this;exact Option.some.inj this
  generalize r.fs[i]=x at e1 gf;have o1:oks (List.replicate 5 li) x.cv 0=true:=rfl;have c0:gi x.cv 0=x.n0:=rfl;have c1:gi x.cv 1=x.n1:=rfl;have c2:gi x.cv 2=x.n2:=rfl;have c3:gi x.cv 3=x.n3:=rfl;have c4:gi x.cv 4=x.n4:=rfl;have m0:0<=x.n0 % (r.pl.length:Int):=Int.emod_nonneg _ (by omega)
  have m1:x.n0 % (r.pl.length:Int)<r.pl.length:=Int.emod_lt_of_pos _ (by omega)
  obtain ⟨j,hj⟩:∃ j:Nat,x.n0 % (r.pl.length:Int)=(j:Int):=⟨(x.n0 % (r.pl.length:Int)).toNat,by omega⟩
  have bk:j<r.pl.length:=by omega
  have i2:inb (j:Int) (r.pl.map Pt.cv)=true:=aE bk;have e2:el (r.pl.map Pt.cv) (j:Int)=r.pl[j].cv:=aK bk;have gj:r.pl.getD j ⟨0,0,[],0,0,0,0,[]⟩=r.pl[j]:=by simp [bk]
  have F3:=l8 _ (List.getElem_mem bk);have o2:oks [li,li,.row 1,li,li,li,li,.row 1] r.pl[j].cv 0=true:=rfl;have c24:gi r.pl[j].cv 4=r.pl[j].need:=rfl;have c20:gi r.pl[j].cv 0=r.pl[j].i0:=rfl;have w1:wr (wr (10*(i:Int))+7)=10*(i:Int)+7:=by rw [dQ (x:=10*(i:Int)) (by omega) (by omega),dQ (by omega) (by omega)]
  have w2:wr (r.pl[j].need+1)=r.pl[j].need+1:=dQ (by omega) (by omega)
  have a0:0<=x.n3 % (r.pl[j].need+1):=Int.emod_nonneg _ (by omega)
  have a1:x.n3 % (r.pl[j].need+1)<r.pl[j].need+1:=Int.emod_lt_of_pos _ (by omega)
  have w3:wr (x.n3 % (r.pl[j].need+1)+1)=x.n3 % (r.pl[j].need+1)+1:=dQ (by omega) (by omega)
  have an:j<(r.pl.map Pt.cv).length:=by simpa using bk
  have bh:bL ((r.fl.take i).map Fi.cv).length 1 48=true:=by
   rw [List.length_map];exact cU (by simp;omega) (by simp;omega)
  simp only [cW,fO,cY,hF,si,ap,M1,Hr,decide_true,iP,eX,nD,i1,e1,o1,bR,c0,c1,c2,c3,c4,aD,md _ (r.pl.length:Int) (by omega) (by omega),hj,i2,e2,Int.toNat_natCast,an,o2,c24,c20,md _ 20 (by decide) (by decide),md _ 25 (by decide) (by decide),w2,md _ (r.pl[j].need+1) (by omega) (by omega),w3,md _ (x.n3 % (r.pl[j].need+1)+1) (by omega) (by omega),bh,w1,hw]
  rw [take_succ hx,List.map_append,gf];unfold Raw.fi;simp only [hj,Int.toNat_natCast,gj];rfl
 subst hS;simp only [jC,fO,cY,dP];unfold Raw.made Court.rs Court.p Court.s Court.f;simp only [List.map_map];rfl
end
theorem yK {f:Nat->Int} (h:∀ i j,i<j->f i<f j) (n:Nat):((List.range n).map f).Pairwise (·<·):=by
 rw [List.pairwise_map];exact List.pairwise_lt_range.imp fun {i j} d8=>h i j d8
variable {ids:List Int}
theorem XA (hs:ids.Pairwise (·<·)) {j:Nat} (hj:j<ids.length):eF ids ids[j]=j:=by
 have h1:¬eF ids ids[j]<j:=fun an=>by
  have h2:=NP (x:=ids[j]) hs _ (Nat.le_refl _) (by omega)
  have h3:=List.pairwise_iff_getElem.1 hs _ _ (show eF ids ids[j]<ids.length by omega) hj an
  grind
 have h2:¬j<eF ids ids[j]:=fun an=>by
  have h3:=WM _ an;grind
 omega
theorem aEK (hs:ids.Pairwise (·<·)) {j:Nat} (hj:j<ids.length):wT ids ids[j]=true:=by
 unfold wT;grind [XA]
theorem NX (x:Int):∀ {n:Nat} {y:Int},y∈Raw.ssL x n->∃ k,k<n/\y=3*(k:Int)+1
 | 0,y,h=>by grind [Raw.ssL]
 | n+1,y,h=>by
  rcases List.mem_append.1 h with h | h
  ·obtain ⟨k,hk,rfl⟩:=NX x h
   grind
  grind
theorem RH (x:Int):∀ n:Nat,(Raw.ssL x n).Pairwise (·<·)
 | 0=>List.Pairwise.nil
 | n+1=>by
  rw [aFk,List.pairwise_append];refine ⟨RH x n,by split <;> simp,fun a ha b hb=>?_⟩
  obtain ⟨k,hk,rfl⟩:=NX x ha;grind
theorem LD {L:List Int} {g:Int}:zY L g=true↔(∀ a∈L,1<=a/\a<=g)/\L.Pairwise (·<·):=by
 simp [aCp,jU,List.map_id,inB]
theorem XB {r:Raw} (x:R6):(∀ y∈r.ssOf x,∃ k,k<r.many/\y=3*(k:Int)+1)/\(r.ssOf x).Pairwise (·<·)/\1<=(r.ssOf x).length/\(r.ssOf x).length<=4:=by
 have hm:1<=r.many/\r.many<=4:=by unfold Raw.many;omega
 unfold Raw.ssOf;split
 ·refine ⟨fun y hy=>⟨(x.n0 % (r.many:Int)).toNat,?_,?_⟩,by simp,by simp,by simp⟩
  ·have:=Int.emod_lt_of_pos x.n0 (show (0:Int)<r.many by omega)
   omega
  ·have:=Int.emod_nonneg x.n0 (show (r.many:Int)≠0 by omega)
   grind
 ·refine ⟨fun y hy=>NX _ hy,RH _ _,by omega,?_⟩
  have:=NW x.n5 r.many;omega
theorem EC {r:Raw} {p:Pt} (hp:p∈r.pl):∃ i x,i<5/\i<r.ps.length/\p=r.pt i x:=by
 obtain ⟨i,hi,rfl⟩:=List.mem_map.1 hp;grind
theorem aEL (r:Raw):OkC r.made:=by
 have hm:1<=r.many/\r.many<=4:=by unfold Raw.many;omega
 have Gk:r.pl.length<=5:=by unfold Raw.pl;grind
 have B8:(r.pl.map Pt.i0).Pairwise (·<·):=by
  unfold Raw.pl;rw [List.map_map];exact yK (f:=fun i=>2*(i:Int)+5) (fun i j h=>by omega) _
 have M2:r.fl.length<=8:=by unfold Raw.fl;grind
 have eh:∀ f∈r.fl,∃ i x,i<8/\0<r.pl.length/\f=Raw.fi r.pl i x:=fun f hf=>by
  unfold Raw.fl at hf;grind
 have hj:∀ x:R5,0<r.pl.length->(x.n0 % (r.pl.length:Int)).toNat<r.pl.length:=fun x h=>by
  have:=Int.emod_lt_of_pos x.n0 (show (0:Int)<r.pl.length by omega)
  omega
 refine ⟨by show r.pl.length<=6;omega,by show ((List.range r.many).map r.su).length<=8;grind,by show r.fl.length<=60;omega,B8,?_,?_,fun p hp=>?_,fun s hs=>?_,fun f hf=>?_,fun p hp y hy=>?_,fun f hf=>?_⟩
 ·show (((List.range r.many).map r.su).map Su.id).Pairwise (·<·)
  rw [List.map_map];exact yK (f:=fun i=>3*(i:Int)+1) (fun i j h=>by omega) _
 ·show (r.fl.map Fi.i0).Pairwise (·<·)
  unfold Raw.fl;split
  ·simp
  ·rw [List.map_map]
   exact yK (f:=fun i=>10*(i:Int)+7) (fun i j h=>by omega) _
 ·obtain ⟨i,x,hi,_,rfl⟩:=EC hp
  obtain ⟨s1,s2,s3,s4⟩:=XB (r:=r) x
  have r1:zY [1+x.n1 % 9,11+x.n1 % 5] 9999=true:=LD.2 ⟨fun a ha=>by
   grind,by grind⟩
  have r2:zY (r.ssOf x) 999=true:=LD.2 ⟨fun a ha=>by
   grind,s2⟩
  have e0:(r.pt i x).i0=2*(i:Int)+5:=rfl;have e1:(r.pt i x).i1=1+x.n0 % 9:=rfl;have e2:(r.pt i x).bs=[1+x.n1 % 9,11+x.n1 % 5]:=rfl;have e3:(r.pt i x).i3=x.n2 % 160 / 3:=rfl;have e4:(r.pt i x).need=x.n2 % 160:=rfl;have e5:(r.pt i x).i5=x.n3 % 12:=rfl;have e6:(r.pt i x).i6=x.n4 % 12:=rfl;have e7:(r.pt i x).ss=r.ssOf x:=rfl;grind [wS,inB,vI]
 ·obtain ⟨i,hi,rfl⟩:=List.mem_map.1 hs
  have hi:i<r.many:=by grind
  have e0:(r.su i).id=3*(i:Int)+1:=rfl;have e1:(r.su i).worth=atI r.ws i % 200:=rfl;have e2:(r.su i).z=atI r.ws i % 200+atI r.ws (i+1) % 50:=rfl;grind [IG,inB,vI]
 ·obtain ⟨i,x,hi,h0,rfl⟩:=eh f hf
  have bk:=hj x h0;obtain ⟨i2,x2,h2,_,Ik⟩:=EC (List.getElem_mem bk);have gj:r.pl.getD (x.n0 % (r.pl.length:Int)).toNat ⟨0,0,[],0,0,0,0,[]⟩=r.pt i2 x2:=by grind
  have e4:(r.pt i2 x2).need=x2.n2 % 160:=rfl;have e0:(r.pt i2 x2).i0=2*(i2:Int)+5:=rfl;have f0:(Raw.fi r.pl i x).i0=10*(i:Int)+7:=rfl;have f1:(Raw.fi r.pl i x).i1=2*(i2:Int)+5:=by rw [<- e0,<- gj];rfl
  have f2:(Raw.fi r.pl i x).i2=x.n1 % 20:=rfl;have f3:(Raw.fi r.pl i x).i3=x.n2 % 25:=rfl;have f4:(Raw.fi r.pl i x).i4=x.n3 % (x2.n2 % 160+1):=by rw [<- e4,<- gj];rfl
  have f5:(Raw.fi r.pl i x).i5=x.n4 % (x.n3 % (x2.n2 % 160+1)+1):=by rw [<- e4,<- gj];rfl
  have a0:=Int.emod_nonneg x.n3 (show x2.n2 % 160+1≠0 by omega)
  have a1:=Int.emod_lt_of_pos x.n3 (show 0<x2.n2 % 160+1 by omega)
  have b0:=Int.emod_nonneg x.n4 (show x.n3 % (x2.n2 % 160+1)+1≠0 by omega)
  have b1:=Int.emod_lt_of_pos x.n4 (show 0<x.n3 % (x2.n2 % 160+1)+1 by omega)
  simp [II,inB];omega
 ·obtain ⟨i,x,hi,_,rfl⟩:=EC hp
  obtain ⟨k,hk,rfl⟩:=(XB (r:=r) x).1 y hy;show 3*(k:Int)+1∈((List.range r.many).map r.su).map Su.id;rw [List.map_map];exact List.mem_map.2 ⟨k,by grind,rfl⟩
 ·obtain ⟨i,x,hi,h0,rfl⟩:=eh f hf
  have bk:=hj x h0;generalize yh:(x.n0 % (r.pl.length:Int)).toNat=j at bk;have gj:r.pl.getD j ⟨0,0,[],0,0,0,0,[]⟩=r.pl[j]:=by grind
  have se:j<(r.pl.map Pt.i0).length:=by grind
  have pn:(r.pl.map Pt.i0)[j]'(se)=r.pl[j].i0:=by simp
  have f1:(Raw.fi r.pl i x).i1=(r.pl.map Pt.i0)[j]'(se):=by
   rw [pn,<- gj,<- yh];rfl
  have f4:(Raw.fi r.pl i x).i4=x.n3 % (r.pl[j].need+1):=by rw [<- gj,<- yh];rfl
  have Gl:r.made.pids=r.pl.map Pt.i0:=rfl
  have hn:r.made.needAt (j:Int)=r.pl[j].need:=by
   show (match r.pl[(j:Int).toNat]? with | some p=>p.need | none=>0)=_
   grind
  obtain ⟨i2,x2,_,_,Ik⟩:=EC (List.getElem_mem bk)
  have I3:0<=r.pl[j].need:=by
   rw [Ik];show 0<=x2.n2 % 160;omega
  have a1:=Int.emod_lt_of_pos x.n3 (show 0<r.pl[j].need+1 by omega)
  unfold Court.isOfB;rw [Gl,f1,XA B8 se,aEK B8 se,hn,f4];grind
theorem aCT {c:Court} (hc:OkC c) {d:Int} (h:inB d 0 100000=true):bX c d=0:=by
 unfold bX;rw [if_pos (WP.2 hc),if_pos h]
section
variable {its:ITS} (n:Nat) (hi:ItsE its)
include hi
end
end
section
open Go Go.Sx Go.Plaint Go.ChangeShapes Go.WideShapes Go.ChangeAt Go.RowKit
set_option maxRecDepth 100000
variable {n:Nat} {c:List CV}
theorem NZ (h:Shp Tryz.prog (n+1) 3 c):∃ m:Int,c=[ci m]:=by
 obtain ⟨m,rfl,hm⟩:=h;exact ⟨m,rfl⟩
theorem HL {n:Nat}:∀ {k:Nat} {c:List CV},aBM (Shp Tryz.prog (n+1)) (List.replicate k 3) c->∃ l:List Int,l.length=k/\c=l.map ci
 | 0,c,h=>⟨[],rfl,h⟩
 | k+1,c,h=>by
  obtain ⟨a,b,rfl,h1,h2⟩:=h;obtain ⟨m,rfl⟩:=NZ h1;obtain ⟨l,h3,rfl⟩:=HL h2;exact ⟨m::l,by grind,rfl⟩
theorem ED {A:Type} {cv:A->List CV}:∀ {es:List (List CV)},(∀ x∈es,∃ a,x=cv a)->∃ l:List A,es=l.map cv
 | [],_=>⟨[],rfl⟩
 | e::es,h=>by
  obtain ⟨a,rfl⟩:=h e (by simp)
  obtain ⟨l,rfl⟩:=ED (es:=es) fun x hx=>h x (by grind)
  exact ⟨a::l,rfl⟩
theorem CC {m:Nat} (h:n*m<=reachBytes) (hm:2<=m):n<1000000000000000:=by
 have h1:n*2<=n*m:=Nat.mul_le_mul_left _ hm;have h2:reachBytes<2 ^ 47:=by decide
 omega
theorem aCU (h:Shp Tryz.prog (n+2) 22 c):∃ l:List Int,l.length<1000000000000000/\c=[.row 1 (enc1 l)]:=by
 have b3:Tryz.prog.bytesOf 3=8:=by rfl
 obtain ⟨es,rfl,b8,hb⟩:=h;obtain ⟨l,rfl⟩:=ED (cv:=fun a:Int=>[ci a]) fun x hx=>NZ (b8 x hx)
 rw [List.length_map] at hb;exact ⟨l,CC hb (by omega),rfl⟩
theorem aEN (h:Shp Tryz.prog (n+4) 26 c):∃ r:Raw,r.Ok/\c=r.cv:=by
 have b6:Tryz.prog.bytesOf 94=48:=by rfl
 have b5:Tryz.prog.bytesOf 95=40:=by rfl
 obtain ⟨_,_,rfl,h1,_,_,rfl,h2,_,_,rfl,h3,rfl⟩:=h;obtain ⟨ws,hw,rfl⟩:=aCU h1;obtain ⟨es,rfl,b8,hb⟩:=h2
 obtain ⟨ps,rfl⟩:=ED (cv:=R6.cv) fun x hx=>by
  have:=b8 x hx;obtain ⟨l,hl,rfl⟩:=HL this
  match l,hl with
  | [a0,a1,a2,a3,a4,a5],_=>exact ⟨⟨a0,a1,a2,a3,a4,a5⟩,rfl⟩
 rw [List.length_map] at hb;obtain ⟨es,rfl,b8,yc⟩:=h3
 obtain ⟨fs,rfl⟩:=ED (cv:=R5.cv) fun x hx=>by
  have:=b8 x hx;obtain ⟨l,hl,rfl⟩:=HL this
  match l,hl with
  | [a0,a1,a2,a3,a4],_=>exact ⟨⟨a0,a1,a2,a3,a4⟩,rfl⟩
 rw [List.length_map] at yc;exact ⟨⟨ws,ps,fs⟩,⟨hw,CC hb (by omega),CC yc (by omega)⟩,rfl⟩
theorem Tryz.own:ownKnob Tryz.prog.godebug=none:=by rfl
theorem Tryz.kids:Kids Tryz.prog (·<Tryz.prog.types.size):=kids_rows (by kernel_rfl) (by kernel_rfl)
theorem Tryz.full:∀ t e,t<Tryz.prog.types.size->Tryz.prog.underlying t=some (.slice e)->0<Tryz.prog.cellsOf e:=slices_full_of Tryz.prog (by kernel_rfl)
theorem aCV [G:Ghost] (n:Nat):@Fns G Tryz.prog (gS Tryz.prog) sg (D aEH n):=by
 letI C:Co Tryz.prog:=gS Tryz.prog
 exact jA aEI ⟨kO,rfl,rfl⟩ tC n
theorem aIB [G:Ghost] {f:FuncId} {g:Sig} {vs out:List CV} (hg:sg f=some g) (h:D aEH n f vs=some out) {xs:List AV} {r:AV} (e1:Sc.avs g.ps vs 0=xs) (e2:Sc.res g.rs out=r):@SpecR G Tryz.prog (gS Tryz.prog) f xs r:=by
 letI C:Co Tryz.prog:=gS Tryz.prog
 exact wG (aCV n) hg h e1 e2
end
end Go.Proofs.YtgpnoeojpmaeiaaGreat
namespace Go.Plaint
open Go Go.Sx
def aKl (c:Court) (S:List Int):Prop:=∀ T,T.Sublist S->Go.Proofs.YtgpnoeojpmaeiaaGreat.jW (Go.Proofs.YtgpnoeojpmaeiaaGreat.eA c T)<=c.back T c.worths
end Go.Plaint
namespace Go.Proofs.YtgpnoeojpmaeiaaGreat
open Go Go.Sx Go.Plaint
set_option maxRecDepth 10000
theorem aKm (a:Int) (l:List Int):jW (a::l)=a+jW l:=by
 have key:∀ (l:List Int) (s:Int),l.foldl (·+·) s=s+l.foldl (·+·) 0:=by
  intro l
  induction l with
  | nil=>simp
  | cons b l ih=>grind
 unfold jW;grind
theorem aLd {l l':List Int} (h:l.Perm l'):jW l=jW l':=by
 induction h with
 | nil=>rfl
 | cons a _ ih=>grind [aKm]
 | swap a b l=>rw [aKm,aKm,aKm,aKm];omega
 | trans _ _ h1 h2=>omega
theorem aKv {c c':Court} {S S' lim:List Int} (h:∀ j,S.any (fun k=>c.stands k.toNat j)=S'.any (fun k=>c'.stands k.toNat j)):∀ j,c.accB S lim j=c'.accB S' lim j
 | 0=>rfl
 | j+1=>by simp [Court.accB,aKv h j,h j]
theorem aKQ {L:List Int} {b:Nat}:∀ {j:Nat},j<=L.length->(mU L b j).Sublist (L.take j)
 | 0,_=>by simp [mU]
 | j+1,hj=>by
  have g:L.getD j 0=L[j]:=by grind
  rw [List.take_add_one,mU,g];refine (aKQ (by omega)).append ?_
  grind
theorem aKR {L:List Int} {b b':Nat}:∀ {j:Nat},(∀ i,i<j->b.testBit i=b'.testBit i)->mU L b j=mU L b' j
 | 0,_=>rfl
 | j+1,h=>by
  rw [mU,mU,aKR (j:=j) fun i hi=>h i (by omega),h j (by omega)]
theorem aKS {L:List Int}:∀ {j:Nat},j<=L.length->∀ T,T.Sublist (L.take j)->∃ b,b<2 ^ j/\mU L b j=T
 | 0,_,T,h=>⟨0,by omega,by grind [mU]⟩
 | j+1,hj,T,h=>by
  have gg:j<L.length:=by omega
  have g:L.getD j 0=L[j]:=by grind
  rw [List.take_add_one,List.getElem?_eq_getElem gg,List.sublist_append_iff] at h;obtain ⟨T1,T2,rfl,h1,h2⟩:=h;obtain ⟨b,hb,rfl⟩:=aKS (by omega) T1 h1
  have h2:T2=[]\/T2=[L[j]]:=by
   grind
  rcases h2 with rfl | rfl
  ·refine ⟨b,by omega,?_⟩
   grind [mU,Nat.testBit_lt_two_pow]
  ·refine ⟨2 ^ j+b,by omega,?_⟩
   rw [mU,aKR (b':=b) fun i hi=>Nat.testBit_two_pow_add_gt hi b,Nat.testBit_two_pow_add_eq,Nat.testBit_lt_two_pow hb,g]
   simp
theorem aKH {L:List Int}:∀ j,mU L 0 j=[]
 | 0=>rfl
 | j+1=>by rw [mU,aKH j];simp
theorem aKA {L X:List Int} (h:X∈parts L):X.Sublist L:=by
 simp [parts] at h;obtain ⟨q,_,rfl⟩:=h;have:=aKQ (L:=L) (b:=q+1) (Nat.le_refl _)
 rwa [List.take_length] at this
theorem parts_all {L T:List Int} (h:T.Sublist L) (h0:T≠[]):T∈parts L:=by
 obtain ⟨b,hb,rfl⟩:=aKS (L:=L) (Nat.le_refl _) T (by grind)
 simp [parts];have:b≠0:=fun h=>h0 (by rw [h];exact aKH _)
 exact ⟨b - 1,by omega,by rw [show b - 1+1=b by omega];rfl⟩
theorem aKZ (c:Court) (lim:List Int):c.back [] lim=0:=by
 have:∀ j,c.accB [] lim j=0:=fun j=>by
  induction j with
  | zero=>rfl
  | succ j ih=>simp [Court.accB,ih]
 exact this _
variable {c:Court} {S:List Int}
theorem aKT:KQ c S=true↔aKl c S:=by
 unfold KQ;rw [Bool.not_eq_true',List.any_eq_false];constructor
 ·intro h T hT
  by_cases h0:T=[]
  ·subst h0
   rw [aKZ];exact Int.le_refl _
  ·have:=h T (parts_all hT h0)
   simp_all [GY]
 ·intro h X hX
  have:=h X (aKA hX);simp_all [GY]
variable {S':List Int}
theorem aLe (h:aKl c S) (hs:S'.Sublist S):aKl c S':=fun T hT=>h T (hT.trans hs)
theorem aKw (h:S.Perm S'):jW (eA c S)=jW (eA c S'):=aLd (h.map _)
theorem aKB {lim:List Int} (h:S.Perm S'):c.back S lim=c.back S' lim:=aKv (fun _=>h.any_eq) _
theorem aKx (h:aKl c S) (hp:S.Perm S'):aKl c S':=fun T hT=>by
 obtain ⟨T',h1,h2⟩:=List.exists_perm_sublist hT hp.symm;have:=h T' h2;grind [aKw,aKB]
theorem aKr {c:Court}:∀ (l:List Int) (S:List Int×List Int),aKl c S.1->aKl c (l.foldl (iE c) S).1
 | [],S,h=>h
 | i::l,S,h=>by
  refine aKr l _ ?_;unfold iE;split
  ·exact aKT.1 ‹_›
  omega
theorem aKq {c:Court}:∀ (l:List Int) (S:List Int×List Int),∃ l',l'.Sublist l/\(l.foldl (iE c) S).1=S.1++l'
 | [],S=>⟨[],by simp⟩
 | i::l,S=>by
  rw [List.foldl_cons];obtain ⟨l',h1,h2⟩:=aKq (c:=c) l (iE c S i);rw [h2];unfold iE;split
  ·grind
  grind
theorem aKI {c:Court}:∀ (l:List Int) (S:List Int×List Int),aKl c (S.1++l)->(l.foldl (iE c) S).1=S.1++l
 | [],S,_=>by simp
 | i::l,S,h=>by
  have h1:KQ c (S.1++[i])=true:=aKT.2 (aLe h ((List.Sublist.refl _).append (by simp)))
  simp_all [aKI,iE]
theorem aK0 (c:Court):aKl c []:=fun T hT=>by
 have:T=[]:=by grind
 subst this;rw [aKZ];exact Int.le_refl _
theorem aKU (c:Court) (d:Int):aKl c (aR c d):=aKx (aKr (c:=c) (mN c d) ([],[]) (aK0 c)) (vJ _).symm
theorem aK1 {d:Int}:(aR c d).length=(mN c d).length↔aKl c (mN c d):=by
 unfold aR;rw [(vJ _).length_eq];obtain ⟨l',h1,h2⟩:=aKq (c:=c) (mN c d) ([],[]);have h2:(dV c d).1=l':=h2;constructor
 ·intro h
  have hg:aKl c (dV c d).1:=aKr (mN c d) ([],[]) (aK0 c);grind
 ·intro h
  have:=aKI (c:=c) (mN c d) ([],[]) h;grind
end Go.Proofs.YtgpnoeojpmaeiaaGreat
namespace Go.Plaint
open Go Go.Sx Go.Proofs.YtgpnoeojpmaeiaaGreat
def aKi (x e:Int) (p:Pt):Pt:=if p.i0=x then { p with need:=p.need+e } else p
def aKg (c:Court) (ids:List Int):List Pt:=c.ps.filter fun p=>ids.contains p.i0
def aKf (c:Court) (ids:List Int) (x e:Int):Court:=⟨(aKg c ids).map (aKi x e),c.ss,[]⟩
def aKe (c:Court) (ids:List Int):List Nat:=(List.range c.ps.length).filter fun k=>ids.contains (c.pids.getD k 0)
end Go.Plaint
namespace Go.Proofs.YtgpnoeojpmaeiaaGreat
open Go Go.Sx Go.Plaint
set_option maxRecDepth 10000
theorem aKV {c:Court} {k:Nat} (h:k<c.ps.length):c.pids.getD k 0=c.ps[k].i0:=by
 simp [Court.pids,h]
theorem aK2 (c:Court) (ids:List Int):aKg c ids=(aKe c ids).map fun k=>c.ps.getD k ⟨0,0,[],0,0,0,0,[]⟩:=by
 have h:c.ps=(List.range c.ps.length).map fun k=>c.ps.getD k ⟨0,0,[],0,0,0,0,[]⟩:=by
  refine List.ext_getElem (by simp) fun i h1 h2=>?_
  grind
 unfold aKg aKe
 conv=>lhs;rw [h]
 rw [List.filter_map];congr 1;refine List.filter_congr fun k hk=>?_
 grind [aKV]
variable {j:Nat}
theorem aKp {c:Court} {ids:List Int} (hj:j<(aKe c ids).length):(aKe c ids)[j]<c.ps.length:=by
 have:=List.getElem_mem hj;unfold aKe at this;simp only [List.mem_filter,List.mem_range] at this;exact this.1
theorem aLf (c:Court) (ids:List Int):(aKg c ids).length=(aKe c ids).length:=by simp [aK2]
theorem raise_at {c:Court} {ids:List Int} {x e:Int} (hj:j<(aKe c ids).length):(aKf c ids x e).ps[j]? = some (aKi x e (c.ps[(aKe c ids)[j]]'(aKp hj))):=by
 have hk:=aKp hj;show ((aKg c ids).map (aKi x e))[j]? = _;grind [aK2]
def aKn (K:List Nat) (j:Int):Int:=(K.getD j.toNat 0:Nat)
theorem aKW {c:Court} {ids:List Int} {x e:Int} (hj:j<(aKe c ids).length) (m:Nat):(aKf c ids x e).stands j m=c.stands ((aKe c ids)[j]) m:=by
 have hk:=aKp hj;unfold Court.stands;rw [raise_at hj,List.getElem?_eq_getElem hk];have hs:(aKi x e c.ps[(aKe c ids)[j]]).ss=c.ps[(aKe c ids)[j]].ss:=by unfold aKi;grind
 show (match some (aKi x e c.ps[(aKe c ids)[j]]),c.ss[m]? with | some p,some s=>p.ss.contains s.id | _,_=>false)=_
 grind
theorem aK5 {c:Court} {ids:List Int} {x e:Int} (hj:j<(aKe c ids).length):(aKf c ids x e).needAt j=c.needAt ((aKe c ids)[j]:Nat)+if c.pids.getD ((aKe c ids)[j]) 0=x then e else 0:=by
 have hk:=aKp hj;unfold Court.needAt;simp only [Int.toNat_natCast];rw [raise_at hj,List.getElem?_eq_getElem hk,aKV hk];unfold aKi;grind
def ixs (n:Nat):List Int:=(List.range n).map fun (k:Nat)=>(k:Int)
theorem aKC (n:Nat):(ixs n).Nodup:=by
 unfold ixs List.Nodup;rw [List.pairwise_map];exact List.pairwise_lt_range.imp fun {a b} h=>by omega
theorem aKX {n:Nat} {j:Int}:j∈ixs n↔∃ k:Nat,k<n/\j=(k:Int):=by
 unfold ixs;grind
theorem aLk (K:List Nat):(ixs K.length).map (aKn K)=K.map fun (k:Nat)=>(k:Int):=by
 unfold ixs aKn;refine List.ext_getElem (by simp) fun i h1 h2=>?_
 grind
section
variable {c:Court} {ids:List Int} {x e:Int}
theorem aKE:∀ {T:List Int},(∀ j∈T,∃ k:Nat,k<(aKe c ids).length/\j=(k:Int))->T.Nodup->∀ {i:Nat},i<(aKe c ids).length->(∀ k,(h:k<(aKe c ids).length)->(c.pids.getD ((aKe c ids)[k]) 0=x↔k=i)) ->
  jW (eA (aKf c ids x e) T)=jW (eA c (T.map (aKn (aKe c ids))))+if (i:Int)∈T then e else 0
 | [],_,_,_,_,_=>by rfl
 | j::T,hT,hn,i,hi,hx=>by
  obtain ⟨k,hk,rfl⟩:=hT j (by simp)
  have ih:=aKE (T:=T) (fun j hj=>hT j (by grind)) (List.nodup_cons.1 hn).2 hi hx
  grind [aKn,eA,aKm,aK5]
theorem aK6 {T:List Int} (hT:∀ j∈T,∃ k:Nat,k<(aKe c ids).length/\j=(k:Int)):(aKf c ids x e).back T (aKf c ids x e).worths=c.back (T.map (aKn (aKe c ids))) c.worths:=by
 refine aKv (fun m=>?_) _
 have key:∀ j∈T,(aKf c ids x e).stands j.toNat m=c.stands (aKn (aKe c ids) j).toNat m:=fun j hj=>by
  obtain ⟨k,hk,rfl⟩:=hT j hj;have hb:aKn (aKe c ids) (k:Int)=((aKe c ids)[k]:Nat):=by simp [aKn,hk]
  rw [hb,Int.toNat_natCast,Int.toNat_natCast];exact aKW hk m
 grind
theorem aK3 {i:Nat} (hi:i<(aKe c ids).length) (hx:∀ k,(h:k<(aKe c ids).length)->(c.pids.getD ((aKe c ids)[k]) 0=x↔k=i)) :
  aKl (aKf c ids x e) (ixs (aKe c ids).length)↔∀ T,T.Sublist ((aKe c ids).map fun (k:Nat)=>(k:Int))->jW (eA c T)+(if ((aKe c ids)[i]:Int)∈T then e else 0)<=c.back T c.worths:=by
 have main:∀ T,T.Sublist (ixs (aKe c ids).length)->(jW (eA (aKf c ids x e) T)<=(aKf c ids x e).back T (aKf c ids x e).worths↔jW (eA c (T.map (aKn (aKe c ids))))+(if ((aKe c ids)[i]:Int)∈T.map (aKn (aKe c ids)) then e else 0)<=c.back (T.map (aKn (aKe c ids))) c.worths):=fun T hT=>by
  have hm:∀ j∈T,∃ k:Nat,k<(aKe c ids).length/\j=(k:Int):=fun j hj=>aKX.1 (hT.subset hj)
  rw [aKE hm ((aKC _).sublist hT) hi hx,aK6 hm]
  have:((aKe c ids)[i]:Int)∈T.map (aKn (aKe c ids))↔(i:Int)∈T:=by
   rw [List.mem_map];constructor
   ·grind [aKn]
   grind [aKn]
  grind
 unfold aKl;grind [aLk]
end
theorem aLp (n:Nat):ixs (n+1)=ixs n++[(n:Int)]:=by
 unfold ixs;rw [List.range_succ,List.map_append];rfl
theorem aKY (c:Court) (d:Int):∀ n,c.entT d n=(ixs n).filter fun j=>decide (c.entered j.toNat<=d)
 | 0=>rfl
 | n+1=>by
  rw [Court.entT,aKY c d n,aLp,List.filter_append];congr 1;simp only [List.filter_cons,List.filter_nil,Int.toNat_natCast]
  by_cases h:c.entered n<=d <;> simp [h]
theorem aK4 {c:Court} {d j:Int}:j∈mN c d↔∃ k:Nat,k<c.ps.length/\j=(k:Int)/\c.entered k<=d:=by
 rw [(ZY c d).mem_iff,aKY,List.mem_filter,aKX,decide_eq_true_eq];grind
theorem aKJ (c:Court) (d:Int):(mN c d).Nodup:=by
 rw [(ZY c d).nodup_iff,aKY];exact (aKC _).sublist List.filter_sublist
theorem aKM (c:Court) (d:Int):(aR c d).Nodup:=by
 unfold aR;rw [(vJ _).nodup_iff];obtain ⟨l',h1,h2⟩:=aKq (c:=c) (mN c d) ([],[]);have h2:(dV c d).1=l':=h2;rw [h2];exact (aKJ c d).sublist h1
theorem aKj {c:Court} {d j:Int} (h:j∈aR c d):∃ k:Nat,k<c.ps.length/\j=(k:Int)/\c.entered k<=d:=by
 unfold aR at h;rw [(vJ _).mem_iff] at h;obtain ⟨l',h1,h2⟩:=aKq (c:=c) (mN c d) ([],[]);have h2:(dV c d).1=l':=h2;rw [h2] at h;exact aK4.1 (h1.subset h)
theorem aKK {c:Court} (hc:OkC c) {a b:Nat} (ha:a<c.ps.length) (hb:b<c.ps.length) (h:c.pids.getD a 0=c.pids.getD b 0):a=b:=by
 have hl:c.pids.length=c.ps.length:=by simp [Court.pids]
 have hp:=List.pairwise_iff_getElem.1 hc.pr;grind
theorem aK8 {c:Court} {L:List Int} {x:Int}:x∈aEl c L↔∃ j∈L,c.pids.getD j.toNat 0=x:=by
 unfold aEl;grind [vJ]
theorem aKF (c:Court) (ids:List Int):(aKe c ids).Nodup:=by exact List.Nodup.sublist (List.filter_sublist) List.nodup_range
theorem aLg {c:Court} (hc:OkC c) (d:Int):((aKe c (aEl c (aR c d))).map fun (k:Nat)=>(k:Int)).Perm (aR c d):=by
 refine (List.perm_ext_iff_of_nodup ?_ (aKM c d)).2 fun a=>?_
 ·unfold List.Nodup
  rw [List.pairwise_map];exact (aKF c _).imp fun {a b} h=>by omega
 ·simp [aKe,aK8]
  constructor
  ·rintro ⟨k,⟨h1,j,h2,h3⟩,rfl⟩
   obtain ⟨m,m1,rfl,_⟩:=aKj h2;grind [aKK]
  ·intro h
   obtain ⟨m,m1,rfl,_⟩:=aKj h;grind
theorem aKL {c:Court} {i:Int}:∀ (l:List (List Int)) (v:Int),(∀ S∈l,i∈S->0<=c.back S c.worths - jW (eA c S)) ->
  ((l.foldl (spY c i) v=v\/∃ S∈l,i∈S/\l.foldl (spY c i) v=c.back S c.worths - jW (eA c S))/\(∀ S∈l,i∈S->0<=l.foldl (spY c i) v/\l.foldl (spY c i) v<=c.back S c.worths - jW (eA c S))/\(0<=v->0<=l.foldl (spY c i) v/\l.foldl (spY c i) v<=v))
 | [],v,_=>⟨.inl rfl,by simp,fun h=>⟨h,Int.le_refl _⟩⟩
 | S::l,v,h=>by
  rw [List.foldl_cons];obtain ⟨h1,h2,h3⟩:=aKL l (spY c i v S) fun S hS=>h S (by grind)
  generalize List.foldl (spY c i) (spY c i v S) l=r at h1 h2 h3;unfold spY at h1 h3;grind
theorem aKN {c:Court} {ids:List Int} {x e:Int} (hj:j<(aKe c ids).length):(aKf c ids x e).entered j=c.entered ((aKe c ids)[j]):=by
 have hk:=aKp hj;unfold Court.entered;rw [raise_at hj,List.getElem?_eq_getElem hk];unfold aKi;grind
theorem aLh {c:Court} (hc:OkC c) (d:Int) {i:Nat} (hi:(i:Int)∈aR c d) :
  0<=aGh c (aR c d) i/\aGh c (aR c d) i<=c.back [(i:Int)] c.worths - c.needAt i /\
  ∀ e,0<=e->((aR (aKf c (aEl c (aR c d)) (c.pids.getD i 0) e) d).length=(aR c d).length↔e<=aGh c (aR c d) i):=by
 obtain ⟨i',ah,Nd,_⟩:=aKj hi;have:i'=i:=by omega
 subst this;have hg:=aKU c d;have hK:=aLg hc d;generalize Gl:aEl c (aR c d)=ids at hK
 have dy:∀ S∈parts (aR c d),(i':Int)∈S->0<=c.back S c.worths - jW (eA c S):=fun S hS _=>by
  have:=hg S (aKA hS);omega
 obtain ⟨h1,h2,_⟩:=aKL (parts (aR c d)) (-1) dy;have dq:[(i':Int)]∈parts (aR c d):=parts_all (List.singleton_sublist.2 hi) (by simp)
 have hone':=h2 _ dq (by simp)
 have hn1:jW (eA c [(i':Int)])=c.needAt i':=by simp [eA,jW]
 rw [hn1] at hone';refine ⟨hone'.1,hone'.2,fun e he=>?_⟩
 unfold aGh at *;generalize List.foldl (spY c i') (-1) (parts (aR c d))=v at *
 have hatt:∃ S∈parts (aR c d),(i':Int)∈S/\v=c.back S c.worths - jW (eA c S):=by
  grind
 have Hq:(aKe c ids).length=(aR c d).length:=by rw [<- hK.length_eq];simp
 have hiK:(i':Int)∈(aKe c ids).map fun (k:Nat)=>(k:Int):=hK.mem_iff.2 hi
 obtain ⟨q,hq,hqe⟩:=List.mem_map.1 hiK;have:q=i':=by omega
 subst this;obtain ⟨t,ht,d7⟩:=List.mem_iff_getElem.1 hq
 have Bj:∀ k,(h:k<(aKe c ids).length)->(c.pids.getD ((aKe c ids)[k]) 0=c.pids.getD q 0↔k=t):=fun k h=>by
  constructor
  ·intro h'
   have:=aKK hc (aKp h) ah h';rw [<- d7] at this;exact (List.getElem_inj (aKF c ids)).1 this
  grind
 have hS:=aK3 (e:=e) ht Bj
 have hord:(mN (aKf c ids (c.pids.getD q 0) e) d).Perm (ixs (aKe c ids).length):=by
  refine (List.perm_ext_iff_of_nodup (aKJ _ _) (aKC _)).2 fun a=>?_
  rw [aK4,aKX]
  have ak:(aKf c ids (c.pids.getD q 0) e).ps.length=(aKe c ids).length:=by
   show ((aKg c ids).map _).length=_;rw [List.length_map,aLf]
  rw [ak];constructor
  ·grind
  ·rintro ⟨k,a1,rfl⟩
   refine ⟨k,a1,rfl,?_⟩;rw [aKN a1];have hm:((aKe c ids)[k]:Int)∈aR c d:=hK.mem_iff.1 (List.mem_map.2 ⟨_,List.getElem_mem a1,rfl⟩);obtain ⟨m,_,Oc,hm3⟩:=aKj hm;have:(aKe c ids)[k]=m:=by omega
   grind
 have ak:(aR c d).length=(mN (aKf c ids (c.pids.getD q 0) e) d).length:=by
  rw [hord.length_eq];grind [ixs]
 rw [ak,aK1];have hsw:aKl (aKf c ids (c.pids.getD q 0) e) (mN (aKf c ids (c.pids.getD q 0) e) d)↔aKl (aKf c ids (c.pids.getD q 0) e) (ixs (aKe c ids).length):=⟨fun h=>aKx h hord,fun h=>aKx h hord.symm⟩
 rw [hsw,hS,d7];constructor
 ·intro h
  obtain ⟨S,a1,a2,a3⟩:=hatt;obtain ⟨S',b1,b2⟩:=List.exists_perm_sublist (aKA a1) hK.symm;have:=h S' b2;rw [if_pos (b1.mem_iff.2 a2),aKw b1,aKB b1] at this;omega
 ·intro h T hT
  obtain ⟨T',b1,b2⟩:=List.exists_perm_sublist hT hK;rw [<- aKw b1,<- aKB b1]
  by_cases nk:(q:Int)∈T
  ·have hT':T'∈parts (aR c d):=parts_all b2 (fun h0=>by rw [h0] at b1;have:=b1.mem_iff.2 nk;simp at this)
   have:=h2 T' hT' (b1.mem_iff.2 nk);rw [if_pos nk];omega
  ·rw [if_neg nk]
   have:=hg T' b2;omega
section
variable (its:ITS) (n:Nat)
theorem aLq {L:List Int} (hl:L.length<1000000) (x:Int):D its (n+1) 20 [.row 1 (enc1 L),ci x]=some [cb (L.contains x)]:=by
 refine (aLb its n _ _).trans ?_;unfold aKP;rw [wD L.length (fun i=>[ci (i:Int)]) (fun i=>!(L.getD i 0 == x)) (some (.br 0 [])) (some (.ret [cb true])) ?hv (fun i hx=>?hs) ?he (by simp) (by simp)]
 case hv=>rfl
 case he=>simp
 case hs =>
  have i1:inb (i:Int) (enc1 L)=true:=aE hx;have e1:el (enc1 L) (i:Int)=[ci L[i]]:=aK hx;have hw:=bA (show i<9223372036854775807 by omega)
  simp_all
 have ct:(List.range L.length).all (fun i=>!(L.getD i 0 == x))=!(L.contains x):=by
  rw [Bool.eq_iff_iff,List.all_eq_true,Bool.not_eq_true',Bool.eq_false_iff];constructor
  ·intro h hc
   obtain ⟨i,hi,he⟩:=List.mem_iff_getElem.1 (List.contains_iff_mem.1 hc);simp_all
  grind
 rw [ct];cases L.contains x <;> rfl
end
theorem aK9 {c:Court} {W:Int} {S lim:List Int} (h0:0<=W) (hl:∀ x∈lim,x<=W):∀ j:Nat,c.accB S lim j<=W*(j:Int)
 | 0=>by simp [Court.accB]
 | j+1=>by
  have ih:=aK9 (c:=c) (S:=S) h0 hl j
  have hg:lim.getD j 0<=W:=by
   by_cases hj:j<lim.length
   ·simp_all
   grind
  have:W*((j+1:Nat):Int)=W*(j:Int)+W:=by grind
  unfold Court.accB;omega
theorem aLl {c:Court} (hc:OkC c) (ids:List Int) (x:Int) {e:Int} (he:0<=e) (hn:∀ p∈c.ps,p.i0=x->p.need+e<=1000000):OkC (aKf c ids x e):=by
 have ic:(aKg c ids).Sublist c.ps:=List.filter_sublist
 have hp:(aKf c ids x e).pids=(aKg c ids).map Pt.i0:=by
  show ((aKg c ids).map (aKi x e)).map Pt.i0=_;simp [aKi];grind
 refine ⟨?_,hc.s8,by simp [aKf],?_,hc.sr,by simp [aKf,Court.fids],fun p hp=>?_,hc.os,by simp [aKf],fun p hp=>?_,by simp [aKf]⟩
 ·show ((aKg c ids).map _).length<=6
  rw [List.length_map];exact Nat.le_trans ic.length_le hc.p6
 ·rw [hp]
  exact hc.pr.sublist (ic.map _)
 ·obtain ⟨q,hq,rfl⟩:=List.mem_map.1 hp
  have hq:=ic.subset hq;have h:=hc.op q hq;unfold aKi;grind [wS,vI]
 ·obtain ⟨q,hq,rfl⟩:=List.mem_map.1 hp
  have hs:(aKi x e q).ss=q.ss:=by unfold aKi;grind
  rw [hs];exact hc.st q (ic.subset hq)
theorem aLi (r:Raw) (S:List Int):r.made.back S r.made.worths<=796:=by
 have h:=aK9 (c:=r.made) (W:=199) (S:=S) (lim:=r.made.worths) (by decide) (fun x hx=>by
  grind [Court.worths,Raw.made,Raw.su]) r.made.ss.length
 have hl:r.made.ss.length=r.many:=by simp [Raw.made]
 have hm:r.many<=4:=by unfold Raw.many;omega
 unfold Court.back;omega
theorem aLn (L:List Int):(srt L).length=L.length:=(vJ L).length_eq
theorem aLa (c:Court) (L:List Int):(aEl c L).length=L.length:=by unfold aEl;rw [aLn,List.length_map]
def aLj (k i:Nat):CV:=if i=0 then CV.val (Value.slice none 0 0) else .row k []
theorem aKG (k i:Nat) (l:List CV):gr (aLj k i::l) 0=[]:=by unfold aLj;split <;> rfl
theorem aLm (its:ITS) (n:Nat) {c:Court} (hc:OkC c) {ids:List Int} (hl:ids.length<=6):aH (fun v5=>aC (decide ((gi v5 0)<(il c.p))) (chk (inb (gi v5 0) c.p)<|chk (oks [li] (List.drop 0 (el c.p (gi v5 0))) 0)<|aA (D its (n+18) aKs [CV.row 1 (enc1 ids),ci (gi (List.drop 0 (el c.p (gi v5 0))) 0)]) fun v6=>bD (aC (gb v6 0) (chk (inb (gi v5 0) c.p)<|chk (oks [li,li,.row 1,li,li,li,li,.row 1] (el c.p (gi v5 0)) 0)<|chk (bL (List.length (gr v5 3)) 1 96)<|some (.nx ([CV.row 3 (gr v5 1),CV.row 6 (gr v5 2),CV.row 8 ((gr v5 3)++(aI 8 1 (cat [[ci (gi (el c.p (gi v5 0)) 0),ci (gi (el c.p (gi v5 0)) 1),CV.row 1 (gr (el c.p (gi v5 0)) 2)],cis (el c.p (gi v5 0)) 3 4,[CV.row 1 (gr (el c.p (gi v5 0)) 7)]])))]))) (some (.nx [CV.row 3 (gr v5 1),CV.row 6 (gr v5 2),CV.row 8 (gr v5 3)]))) fun v7=>some (.nx [ci (wr ((gi v5 0)+1)),CV.row 3 (gr v7 0),CV.row 6 (gr v7 1),CV.row 8 (gr v7 2)])) (some (.br 0 [CV.row 3 (gr v5 1),CV.row 6 (gr v5 2),CV.row 8 (gr v5 3)]))) ([ci 0,CV.row 3 c.s,CV.val (Value.slice none 0 0),CV.row 8 []])=some (.br 0 [CV.row 3 c.s,CV.row 6 [],CV.row 8 ((aKg c ids).map Pt.cv)]):=by
 have ah:il c.p=(c.ps.length:Int):=aP _ _;have p6:=hc.p6;refine eY c.ps.length (fun i=>[ci (i:Int),.row 3 c.s,aLj 6 i,.row 8 (((c.ps.take i).filter fun p=>ids.contains p.i0).map Pt.cv)]) _ rfl (fun i hx=>?_) ?_ (by simp)
 ·have i1:inb (i:Int) c.p=true:=aE hx
  have e1:el c.p (i:Int)=c.ps[i].cv:=aK hx;have ap:(i:Int)<(c.ps.length:Int):=by omega
  have hw:=bA (show i<9223372036854775807 by omega)
  have hH:D its (n+18) aKs [CV.row 1 (enc1 ids),ci c.ps[i].i0]=_:=aLq its (n+17) (L:=ids) (by omega) c.ps[i].i0
  rw [take_succ hx,List.filter_append];generalize c.ps[i]=p at e1 hH;have o1:oks [li,li,.row 1,li,li,li,li,.row 1] p.cv 0=true:=rfl;have o2:oks [li] (List.drop 0 p.cv) 0=true:=rfl;have c0:gi (List.drop 0 p.cv) 0=p.i0:=rfl;have g3:aI 8 1 (cat [[ci (gi p.cv 0),ci (gi p.cv 1),CV.row 1 (gr p.cv 2)],cis p.cv 3 4,[CV.row 1 (gr p.cv 7)]])=[p.cv]:=rfl
  have bh:bL (((c.ps.take i).filter fun p=>ids.contains p.i0).map Pt.cv).length 1 96=true:=by
   exact cU (by grind) (by grind)
  simp only [cW,fO,cY,aKG,ah,ap,i1,e1,o1,o2,c0,hH,bh,g3,hw,List.filter_cons];have e6:aLj 6 (i+1)=CV.row 6 []:=rfl;rw [e6];cases h:ids.contains p.i0
  ·simp
  simp
 ·rw [List.take_length]
  simp only [cW,fO,aKG,ah,Int.lt_irrefl];rfl
theorem aK7 {c:Court} (hc:OkC c) {ids:List Int} {x e v w:Int} (hv:wr (v+w)=e) (he:∀ p∈c.ps,p.i0=x->wr (p.need+e)=p.need+e):aH (fun v7=>aC (decide ((gi v7 0)<(il ((aKg c ids).map Pt.cv)))) (chk (inb (gi v7 0) ((aKg c ids).map Pt.cv))<|chk (decide ((Int.toNat (gi v7 0))<(List.length ((aKg c ids).map Pt.cv))))<|chk (oks [li,li,.row 1,li,li,li,li,.row 1] (el ((aKg c ids).map Pt.cv) (gi v7 0)) 0)<|bD (aC ((gi (el ((aKg c ids).map Pt.cv) (gi v7 0)) 0) == x) (some (.nx [ci (gi (el ((aKg c ids).map Pt.cv) (gi v7 0)) 0),ci (gi (el ((aKg c ids).map Pt.cv) (gi v7 0)) 1),CV.row 1 (gr (el ((aKg c ids).map Pt.cv) (gi v7 0)) 2),ci (gi (el ((aKg c ids).map Pt.cv) (gi v7 0)) 3),ci (wr ((gi (el ((aKg c ids).map Pt.cv) (gi v7 0)) 4)+(wr (v+w)))),ci (gi (el ((aKg c ids).map Pt.cv) (gi v7 0)) 5),ci (gi (el ((aKg c ids).map Pt.cv) (gi v7 0)) 6),CV.row 1 (gr (el ((aKg c ids).map Pt.cv) (gi v7 0)) 7)])) (some (.nx (cat [[ci (gi (el ((aKg c ids).map Pt.cv) (gi v7 0)) 0),ci (gi (el ((aKg c ids).map Pt.cv) (gi v7 0)) 1),CV.row 1 (gr (el ((aKg c ids).map Pt.cv) (gi v7 0)) 2)],cis (el ((aKg c ids).map Pt.cv) (gi v7 0)) 3 4,[CV.row 1 (gr (el ((aKg c ids).map Pt.cv) (gi v7 0)) 7)]])))) fun v8=>chk (bL (List.length (gr v7 3)) 1 96)<|some (.nx ([ci (wr ((gi v7 0)+1)),CV.row 3 (gr v7 1),CV.row 6 (gr v7 2),CV.row 8 ((gr v7 3)++(aI 8 1 (cat [[ci (gi v8 0),ci (gi v8 1),CV.row 1 (gr v8 2)],cis v8 3 4,[CV.row 1 (gr v8 7)]])))]))) (some (.br 4 [CV.row 3 (gr v7 1),CV.row 6 (gr v7 2),CV.row 8 (gr v7 3)]))) ([ci 0,CV.row 3 c.s,CV.val (Value.slice none 0 0),CV.row 8 []])=some (.br 4 [CV.row 3 c.s,CV.row 6 [],CV.row 8 (aKf c ids x e).p]):=by
 have ic:(aKg c ids).Sublist c.ps:=List.filter_sublist;have ah:il ((aKg c ids).map Pt.cv)=((aKg c ids).length:Int):=aP _ _;have p6:=hc.p6;have bt:=ic.length_le;have ga:∀ p∈aKg c ids,p.i0=x->wr (p.need+e)=p.need+e:=fun p hp=>he p (ic.subset hp)
 have hP:(aKf c ids x e).p=((aKg c ids).map (aKi x e)).map Pt.cv:=rfl;rw [hP,hv];generalize aKg c ids=K at *;refine eY K.length (fun i=>[ci (i:Int),.row 3 c.s,aLj 6 i,.row 8 (((K.take i).map (aKi x e)).map Pt.cv)]) _ rfl (fun i hx=>?_) ?_ (by simp)
 ·have i1:inb (i:Int) (K.map Pt.cv)=true:=aE hx
  have e1:el (K.map Pt.cv) (i:Int)=K[i].cv:=aK hx;have ap:(i:Int)<(K.length:Int):=by omega
  have hw:=bA (show i<9223372036854775807 by omega)
  have hd:(i:Int).toNat<(K.map Pt.cv).length:=by grind
  have hm:=ga _ (List.getElem_mem hx);rw [take_succ hx,List.map_append,List.map_append];generalize K[i]=p at e1 hm;have o1:oks [li,li,.row 1,li,li,li,li,.row 1] p.cv 0=true:=rfl;have c0:gi p.cv 0=p.i0:=rfl;have c4:gi p.cv 4=p.need:=rfl
  have bh:bL (((K.take i).map (aKi x e)).map Pt.cv).length 1 96=true:=by
   exact cU (by grind) (by grind)
  simp only [cW,fO,cY,aKG,ah,ap,decide_true,iP,i1,e1,o1,hd,c0,c4,bR,bh,hw];have e6:aLj 6 (i+1)=CV.row 6 []:=rfl;rw [e6]
  by_cases h:p.i0=x
  ·rw [hm h,show (p.i0 == x)=true by grind]
   unfold aKi;simp [h];rfl
  ·rw [show (p.i0 == x)=false by grind]
   unfold aKi;simp [h];rfl
 simp [aKG]
theorem aLo {id:Nat} {x:Option Ou} {vs:List CV} {k:List CV->Option Ou} (h:x=some (.br id vs)):bG id x k=k vs:=by simp_all
section
variable {its:ITS} (n:Nat) (hi:ItsE its)
include hi
theorem aKO {r:Raw} (hr:r.Ok) (k:Int):D its (n+19) 4 (r.cv++[ci k])=some [cb true]:=by
 refine (aKu its (n+18) _ _ _ _).trans ?_;have hc:=aEL r;have h1:D its (n+18) xY [CV.row 1 (enc1 r.ws),CV.row 6 (r.ps.map R6.cv),CV.row 5 (r.fs.map R5.cv)]=some r.made.rs:=aGB (n+15) hr;have M5:D its (n+18) sF []=some [cb true]:=aGA n hi;have hW:=aLi r;generalize r.made=c at hc h1 hW
 have hA:∀ {c:Court},OkC c->D its (n+18) aKh [.row 8 c.p,.row 3 c.s,.row 6 c.f,ci 40]=some [.row 1 (enc1 (aEl c (aR c 40))),ci 0]:=fun {c} hc=>by
  have h:=aLc (n+4) hi.toItsC hc.fit 40;have ha:bX c 40=0:=aCT hc rfl;rw [ha] at h;exact h
 have h2:=hA hc;have g0:gr c.rs 0=c.p:=rfl;have g1:gr c.rs 1=c.s:=rfl;have g2:gr c.rs 2=c.f:=rfl;have p6:=hc.p6;obtain ⟨_,a2⟩:=hU (c:=c) 40;have ak:(aEl c (aR c 40)).length=(aR c 40).length:=aLa c _;have ah:il (enc1 (aEl c (aR c 40)))=((aR c 40).length:Int):=by simp_all
 unfold aKk;simp only [h1,h2,aD,g0,g1,g2,BR,cW,fO,cY,ah,show ((0:Int) != 0)=false from rfl,dU]
 by_cases h0:(aR c 40).length=0
 ·simp_all
 rw [show (((aR c 40).length:Int) == 0)=false by grind]
 have hm:D its (n+18) bJ [ci k,ci ((aR c 40).length:Int)]=_:=aCP (n+17) (by omega) (by omega)
 have hq1:=Int.emod_nonneg k (show ((aR c 40).length:Int)≠0 by omega)
 have hq2:=Int.emod_lt_of_pos k (show 0<((aR c 40).length:Int) by omega)
 obtain ⟨q,hq⟩:=Int.eq_ofNat_of_zero_le hq1;rw [hq] at hm hq2;have He:q<(aEl c (aR c 40)).length:=by omega
 have i1:inb (q:Int) (enc1 (aEl c (aR c 40)))=true:=aE He;have e1:el (enc1 (aEl c (aR c 40))) (q:Int)=[ci (aEl c (aR c 40))[q]]:=aK He;obtain ⟨j,hj,hje⟩:=aK8.1 (List.getElem_mem He);obtain ⟨i,hil',rfl,Na⟩:=aKj hj;rw [Int.toNat_natCast] at hje;obtain ⟨v0,vle,hlaw⟩:=aLh hc 40 hj;have o1:∀ x:Int,oks [li] [ci x] 0=true:=fun _=>rfl
 rw [<- hje] at e1;have si:c.pids.length=c.ps.length:=by simp [Court.pids]
 have Ki:c.pids.getD i 0=c.pids[i]'(by omega):=by grind
 have qs:eF c.pids (c.pids.getD i 0)=i:=by rw [Ki];exact XA hc.pr (by omega)
 have hhas:wT c.pids (c.pids.getD i 0)=true:=by rw [Ki];exact aEK hc.pr (by omega)
 have hS:D its (n+18) oA [.row 8 c.p,.row 3 c.s,.row 6 c.f,ci (c.pids.getD i 0),ci 40]=some [ci (aGh c (aR c 40) i),ci 0]:=by
  have h:=aEq (n+3) hi.toItsC hc.fit (c.pids.getD i 0) 40
  have hnam:vK c (c.pids.getD i 0) 40=0:=by
   unfold vK;rw [if_pos (aCT hc rfl),qs,hhas,if_pos (by grind)]
  rw [hnam,qs,if_pos rfl,if_pos (List.contains_iff_mem.2 hj)] at h;exact h
 have l8:c.needAt i=c.ps[i].need:=by unfold Court.needAt;grind
 have aa:=hc.op _ (List.getElem_mem hil');simp only [wS,vI,Bool.and_eq_true,decide_eq_true_eq] at aa;have fc:0<=c.ps[i].need:=by omega
 have hw:=hW [(i:Int)];rw [l8] at vle
 have hx:∀ p∈c.ps,p.i0=c.pids.getD i 0->p.need=c.ps[i].need:=fun p hp h=>by
  obtain ⟨m,hm,rfl⟩:=List.mem_iff_getElem.1 hp;rw [<- aKV hm] at h;have:=aKK hc hm hil' h;grind
 generalize aGh c (aR c 40) i=v at v0 vle hlaw hS;have d1:¬v<0:=by omega
 have d2:¬v > 1000:=by omega
 simp only [dU,hm,aD,cW,BR,i1,e1,o1,bR,hS,show ((0:Int) != 0)=false from rfl,d1,d2,decide_false,eX,nD];have hfew:=aLm its n hc (ids:=aEl c (aR c 40)) (by omega)
 rw [aLo hfew];rw [eY 2 (fun i=>[ci (i:Int)]) (some (.br 2 [])) ?hv (fun m hm=>?hs) ?he (by simp)]
 case hv=>rfl
 case he=>rfl
 case hs =>
  have Oc:(m:Int)<2:=by omega
  have L2:=bA (show m<9223372036854775807 by omega)
  have xt:wr (v+(m:Int))=v+m:=dQ (by omega) (by omega)
  have jk:=aK7 hc (ids:=aEl c (aR c 40)) (x:=c.pids.getD i 0) (v:=v) (w:=m) xt fun p hp h=>by
   have:=hx p hp h;exact dQ (by omega) (by omega)
  have bg:OkC (aKf c (aEl c (aR c 40)) (c.pids.getD i 0) (v+m)):=aLl hc (aEl c (aR c 40)) _ (by omega) fun p hp h=>by
   grind
  have Av:D its (n+18) aKh [CV.row 8 (aKf c (aEl c (aR c 40)) (c.pids.getD i 0) (v+m)).p,CV.row 3 c.s,CV.row 6 [],ci 40]=_:=hA bg
  have Gj:il (enc1 (aEl (aKf c (aEl c (aR c 40)) (c.pids.getD i 0) (v+m)) (aR (aKf c (aEl c (aR c 40)) (c.pids.getD i 0) (v+m)) 40)))=((aR (aKf c (aEl c (aR c 40)) (c.pids.getD i 0) (v+m)) 40).length:Int):=by
   rw [<- aLa (aKf c (aEl c (aR c 40)) (c.pids.getD i 0) (v+m)) (aR (aKf c (aEl c (aR c 40)) (c.pids.getD i 0) (v+m)) 40)];simp
  have hl:=hlaw (v+m) (by omega)
  have hb:(((aR (aKf c (aEl c (aR c 40)) (c.pids.getD i 0) (v+m)) 40).length:Int) == ((aR c 40).length:Int))=((m:Int) == 0):=by
   grind
  simp_all
 simp only [jC,M5,aD,nD,dP]
end
end Go.Proofs.YtgpnoeojpmaeiaaGreat
