/-
 The laws of a pinder's court (plaints) hold at every input, without any condition.
-/
import Derived.Below
import Derived.Conc.Events
import Derived.Conc.Listed
import Derived.Conc.Own
import Derived.DeepKeys
import Derived.Great.BuildSlice
import Derived.Laws.OwnMore
import Derived.Laws.Rows
import Derived.MapKept
import Derived.OrdersIn
import Derived.OwnWalkIn
import Derived.RangeFuncCalls
import Derived.RangeFuncLeaves
import Derived.TacticsIn
set_option linter.unusedSectionVars false
set_option linter.unusedVariables false
set_option linter.unusedSimpArgs false
namespace Go
open RowKit
abbrev Rely (w w₁:World):Prop:=Below w.heap.size w w₁
def Sem.dead {α:Type}:Sem α->Prop
 | .pure _=>False
 | .load _ _ k=>∀ v,(k v).dead
 | .store _ _ _ k=>k.dead
 | .new _ k=>∀ n,(k n).dead
 | .shape _ k=>∀ x,(k x).dead
 | .freeze _ _ k=>k.dead
 | .frozen _ k=>∀ x,(k x).dead
 | .getObj _ k=>∀ o,(k o).dead
 | .setObj _ _ k=>k.dead
 | .choose _ k=>∀ n,(k n).dead
 | .sys _ k=>∀ x,(k x).dead
 | .program k=>∀ P,(k P).dead
 | .mark _ k=>k.dead
 | .halt _=>True
def Obj.isView:Obj->Bool
 | .view ..=>true
 | _=>false
def Sem.calm (P:Program) {α:Type}:Sem α->Prop
 | .pure _=>True
 | .load _ _ k=>∀ v,(k v).calm P
 | .store _ _ _ k=>k.calm P
 | .new o k=>(o.isView=false/\∀ n,(k n).calm P)\/∀ n,(k n).dead
 | .shape _ k=>∀ x,(k x).dead
 | .freeze _ _ k=>k.dead
 | .frozen _ k=>∀ x,(k x).dead
 | .getObj _ k=>∀ o,(k o).calm P
 | .setObj _ o k=>(o.isView=false/\k.calm P)\/k.dead
 | .choose _ k=>∀ n,(k n).calm P
 | .sys _ k=>∀ x,(k x).dead
 | .program k=>(k P).calm P
 | .mark m k=>(m=.noRoom/\k.calm P)\/k.dead
 | .halt _=>True
variable {α:Type}
theorem Sem.dead_bind {β:Type} (s:Sem α) (f:α->Sem β) (h:∀ a,(f a).dead):(s >>= f).dead:=by
 show (s.bind f).dead
 induction s with
 | pure a=>exact h a
 | halt h=>exact trivial
 | store m a v k ih=>exact ih
 | freeze a n k ih=>exact ih
 | setObj r o k ih=>exact ih
 | mark m k ih=>exact ih
 | _=>rename_i ih;exact fun x=>ih x
theorem Sem.calm_bind {P:Program} {β:Type} (s:Sem α) (f:α->Sem β) (hs:s.calm P) (h:∀ a,(f a).calm P):(s >>= f).calm P:=by
 show (s.bind f).calm P
 have hd:∀ s:Sem α,s.dead->(s.bind f).dead:=by
  intro s
  induction s with
  | pure a=>exact fun h=>h.elim
  | halt h=>exact fun _=>trivial
  | store m a v k ih=>exact ih
  | freeze a n k ih=>exact ih
  | setObj r o k ih=>exact ih
  | mark m k ih=>exact ih
  | _=>rename_i ih;exact fun h x=>ih x (h x)
 induction s with
 | pure a=>exact h a
 | halt h=>exact trivial
 | store m a v k ih=>exact ih hs
 | new o k ih=>exact hs.imp (fun h=>⟨h.1,fun n=>ih n (h.2 n)⟩) fun h n=>hd _ (h n)
 | shape r k ih=>exact fun x=>hd _ (hs x)
 | freeze a n k ih=>exact hd _ hs
 | frozen a k ih=>exact fun x=>hd _ (hs x)
 | setObj r o k ih=>exact hs.imp (fun h=>⟨h.1,ih h.2⟩) (hd _)
 | sys c k ih=>exact fun x=>hd _ (hs x)
 | program k ih=>exact ih P hs
 | mark m k ih=>exact hs.imp (fun h=>⟨h.1,ih h.2⟩) (hd _)
 | _=>rename_i ih;exact fun x=>ih x (hs x)
theorem Sem.dead_calm {P:Program} (s:Sem α) (h:s.dead):s.calm P:=by
 induction s with
 | pure a=>exact h.elim
 | halt h=>exact trivial
 | store m a v k ih=>exact ih h
 | new o k ih=>exact .inr h
 | shape r k ih=>exact h
 | freeze a n k ih=>exact h
 | frozen a k ih=>exact h
 | setObj r o k ih=>exact .inr h
 | sys c k ih=>exact h
 | program k ih=>exact ih P (h P)
 | mark m k ih=>exact .inr h
 | _=>rename_i ih;exact fun x=>ih x (h x)
theorem Sem.dead_run {P:Program} (s:Sem α):∀ {w w':World} {a:α},s.dead->s.run P w≠.ok a w':=by
 induction s with
 | pure a=>exact fun h=>h.elim
 | halt h=>intro w w' a _ hr;simp [Sem.run] at hr
 | load m a k ih =>
  intro w w' b h hr;simp only [Sem.run] at hr;split at hr
  ·exact ih _ (h _) hr
  ·split at hr
   ·exact ih _ (h _) hr
   ·cases hr
 | store m a v k ih =>
  intro w w' b h hr;cases v <;> simp only [Sem.run,reduceCtorEq] at hr <;>
  ·split at hr
   ·split at hr
    ·cases hr
    ·exact ih h hr
   ·split at hr
    ·exact ih h hr
    ·cases hr
 | new o k ih=>intro w w' a h hr;exact ih _ (h _) hr
 | shape r k ih=>intro w w' a h hr;exact ih _ (h _) hr
 | freeze a n k ih=>intro w w' b h hr;exact ih h hr
 | frozen a k ih=>intro w w' b h hr;exact ih _ (h _) hr
 | getObj r k ih =>
  intro w w' a h hr;simp only [Sem.run] at hr;split at hr
  ·cases hr
  ·exact ih _ (h _) hr
  ·cases hr
 | setObj r o k ih =>
  intro w w' a h hr;simp only [Sem.run] at hr;split at hr
  ·cases hr
  ·exact ih h hr
  ·cases hr
 | choose q k ih =>
  intro w w' a h hr;simp only [Sem.run] at hr;split at hr <;> exact ih _ (h _) hr
 | sys c k ih=>intro w w' a h hr;exact ih _ (h _) hr
 | program k ih=>intro w w' a h hr;exact ih _ (h _) hr
 | mark m k ih=>intro w w' a h hr;exact ih h hr
class Co (P:Program) where
 main:Bool
 Go:(Goroutine->World->Prop)->Goroutine->World->Prop
 stop:∀ {S:Goroutine->World->Prop} {g:Goroutine} {w:World},(∀ w₁,Rely w w₁->S g w₁)->Go S g w
 rely:∀ {S:Goroutine->World->Prop} {g:Goroutine} {w w₁:World},Go S g w->Rely w w₁->Go S g w₁
 sem:∀ {α:Type} (s:Sem α) (k:α->Option Goroutine) {S:Goroutine->World->Prop} {fr:Frame} {cs:List Frame} {w:World},
  s.calm P->(∀ w₁ a w' g',k a=some g'->s.run P w₁=.ok a w'->∃ es,stepG P main (Conc.G fr cs) w₁=.go g' w' es/\∀ e∈es,e∈s.events P w₁ #[]) ->
  (∀ w₁,Rely w w₁->∃ a w' g',s.run P w₁=.ok a w'/\k a=some g'/\Go S g' w')->Go S (Conc.G fr cs) w
 comm:Array CommCase->Bool->CommShape->World->(Value->World->Prop)->Prop
 comm_mono:∀ {cases:Array CommCase} {bl:Bool} {sh:CommShape} {w:World} {R R':Value->World->Prop},comm cases bl sh w R->(∀ v w',R v w'->R' v w')->comm cases bl sh w R'
 comm_rely:∀ {cases:Array CommCase} {bl:Bool} {sh:CommShape} {w w₁:World} {R:Value->World->Prop},comm cases bl sh w R->Rely w w₁->comm cases bl sh w₁ R
 commG:∀ {S:Goroutine->World->Prop} {fr:Frame} {cs:List Frame} {w:World} {cases:Array CommCase} {bl:Bool} {sh:CommShape} {R:Value->World->Prop},
  comm cases bl sh w R->(∀ w₁,stepG P main (Conc.G fr cs) w₁=.comm (Conc.G fr cs) cases bl sh w₁ #[])->(∀ v w',R v w'->Go S (Conc.G (fr.finish v) cs) w')->Go S (Conc.G fr cs) w
namespace Co
open Conc (G)
open RowKit
theorem aJX (w:World):Rely w w:=Below.refl _ _
theorem aIL {a b c:World} (h:Rely a b) (h':Rely b c):Rely a c:=h.trans (h'.mono h.size)
section
variable {P:Program} [C:Co P] {S:Goroutine->World->Prop} {b:Frame} {a:Act} {k:List Item} {cs:List Frame} {w:World}
theorem wI {fr:Frame} {g':Goroutine} (hs:∀ w,stepG P C.main (G fr cs) w=.go g' w #[]) (h:C.Go S g' w):C.Go S (G fr cs) w:=
 C.sem (.pure ()) (fun _=>some g') trivial (fun w₁ a w' g'' h1 h2=>by
  simp only [Sem.run,Result.ok.injEq] at h2;obtain ⟨_,rfl⟩:=h2;cases h1;exact ⟨#[],hs _,by simp⟩) fun w₁ h₁=>⟨(),w₁,g',rfl,rfl,C.rely h h₁⟩
theorem aFl (h:C.Go S (G (b.atR a k) cs) w):C.Go S (G (b.atR a (.code .skip::k)) cs) w:=wI (fun w=>by simp [G,stepG,stepG.exec,Frame.atR]) h
theorem aCW {l:Nat} (h:C.Go S (G (b.atR a k) cs) w):C.Go S (G (b.atR a (.code (.label l)::k)) cs) w:=wI (fun w=>by simp [G,stepG,stepG.exec,Frame.atR]) h
variable {id:Nat}
theorem XE (h:C.Go S (G (b.atR a k) cs) w):C.Go S (G (b.atR a (.inBlock id::k)) cs) w:=wI (fun w=>by simp [G,stepG,stepG.exec,Frame.atR]) h
theorem aGG {x y:Code} (h:C.Go S (G (b.atR a (.code x::.code y::k)) cs) w):C.Go S (G (b.atR a (.code (.seq x y)::k)) cs) w:=wI (fun w=>by simp [G,stepG,stepG.exec,Frame.atR]) h
theorem aFm {c:Operand} {x y:Code} {t:Bool} (hc:a.eval c=.bool t) (h:C.Go S (G (b.atR a (.code (if t then x else y)::k)) cs) w):C.Go S (G (b.atR a (.code (.cond c x y)::k)) cs) w:=
 wI (fun w=>by
  have:=congrFun (Frame.eval_atR b a (.code (.cond c x y)::k)) c;simp only [Frame.atR] at this;simp [G,stepG,stepG.exec,Frame.atR,this,hc]) h
variable {c:Code}
theorem aCX (h:C.Go S (G (b.atR a (.code c::.inBlock id::k)) cs) w):C.Go S (G (b.atR a (.code (.block id c)::k)) cs) w:=wI (fun w=>by simp [G,stepG,stepG.exec,Frame.atR]) h
theorem aFn (h:C.Go S (G (b.atR a (.code c::.inLoop c::k)) cs) w):C.Go S (G (b.atR a (.code (.loop c)::k)) cs) w:=wI (fun w=>by simp [G,stepG,stepG.exec,Frame.atR]) h
theorem aAp (h:C.Go S (G (b.atR a (.code c::.inLoop c::k)) cs) w):C.Go S (G (b.atR a (.inLoop c::k)) cs) w:=wI (fun w=>by simp [G,stepG,stepG.exec,Frame.atR]) h
theorem aFo {k':List Item} (hk:exitTo id k=some k') (h:C.Go S (G (b.atR a k') cs) w):C.Go S (G (b.atR a (.code (.exit id)::k)) cs) w:=wI (fun w=>by simp [G,stepG,stepG.exec,Frame.atR,hk]) h
theorem aGH (hb:b.roundOf=none) (h:C.Go S (G { b.atR a (.code .ret::k) with mode:=.returning } cs) w):C.Go S (G (b.atR a (.code .ret::k)) cs) w:=wI (fun w=>by simp [G,stepG,stepG.exec,Frame.atR,hb]) h
theorem aGI (hb:b.roundOf=none) (h:C.Go S (G { b.atR a [] with mode:=.returning } cs) w):C.Go S (G (b.atR a []) cs) w:=wI (fun w=>by simp [G,stepG,stepG.exec,Frame.atR,hb]) h
theorem aAq {id:Nat} {ops:Array Oper} (h:C.Go S (G (b.atR a (.inRegion ops (List.range ops.size)::k)) cs) w):C.Go S (G (b.atR a (.code (.region id ops false)::k)) cs) w:=wI (fun w=>by simp [G,stepG,stepG.exec,Frame.atR]) h
theorem LF {ops:Array Oper} (h:C.Go S (G (b.atR a k) cs) w):C.Go S (G (b.atR a (.inRegion ops []::k)) cs) w:=wI (fun w=>by simp [G,stepG,stepG.exec,Frame.atR]) h
variable {ops:Array Oper}
theorem IS {i:Nat} {rest:List Nat} (hs:((ops[i]?).map (Region.wanted · (yielded ops a.tmps))).getD false=false)
  (h:C.Go S (G (b.atR (a.put ((ops[i]?).bind (·.dst)) undef) (.inRegion ops rest::k)) cs) w):C.Go S (G (b.atR a (.inRegion ops (i::rest)::k)) cs) w:=by
 rw [<- Frame.finish_atR] at h;refine wI (fun w=>?_) h
 have h':=hs;simp only [Frame.atR] at *;simp [G,stepG,stepG.exec,h']
theorem aCY (h:C.Go S (G (b.atR a (.code c::.inScope c::k)) cs) w):C.Go S (G (b.atR a (.code (.scope c)::k)) cs) w:=wI (fun w=>by simp [G,stepG,stepG.exec,Frame.atR]) h
theorem XF (h:C.Go S (G (b.atR a k) cs) w):C.Go S (G (b.atR a (.inScope c::k)) cs) w:=wI (fun w=>by simp [G,stepG,stepG.exec,Frame.atR]) h
theorem HM (h:∀ t w₁,Rely w w₁->C.Go S (G (b.atR a (.inRegion ops (Region.schedule (P.follows .mixedOrders) ops t)::k)) cs) { w₁ with drawn:=w₁.drawn+1 }) :
  C.Go S (G (b.atR a (.code (.region id ops true)::k)) cs) w:=
 C.sem (.choose (.order b.fn id) .pure) (fun t=>some (G (b.atR a (.inRegion ops (Region.schedule (P.follows .mixedOrders) ops t)::k)) cs))
  (fun _=>trivial) (fun w₁ t w' g' h1 h2=>by
   cases h1;simp only [Sem.run,Question.forced,Question.cut,Bool.false_eq_true,if_false,Result.ok.injEq] at h2;obtain ⟨rfl,rfl⟩:=h2;exact ⟨#[],by simp [G,stepG,stepG.exec,Frame.atR,choose,Sem.run,Question.forced,Question.cut],by simp⟩)
  fun w₁ h₁=>⟨_,_,_,rfl,rfl,h _ w₁ h₁⟩
end
end Co
end Go
namespace Go
open RowKit
section
variable {P:Program} {α β:Type}
theorem k_b {s:Sem α} {f:α->Sem β} (hs:s.calm P) (h:∀ a,(f a).calm P):(s >>= f).calm P:=Sem.calm_bind s f hs h
theorem k_p (a:α):(pure a:Sem α).calm P:=trivial
theorem aEO (v:Value):(goPanic v:Sem α).calm P:=trivial
theorem AF:program.calm P:=trivial
theorem aAr (a:Addr) (m:Mode):(load a m).calm P:=fun _=>trivial
theorem aCZ (a:Addr) (v:Value) (m:Mode):(store a v m).calm P:=trivial
theorem OA (o:Obj) (h:o.isView=false):(newObj o).calm P:=.inl ⟨h,fun _=>trivial⟩
theorem tT (r:Nat):(getObj r).calm P:=fun _=>trivial
theorem qK (r:Nat) (o:Obj) (h:o.isView=false):(setObj r o).calm P:=.inl ⟨h,trivial⟩
theorem yM (q:Question):(choose q).calm P:=fun _=>trivial
theorem aGJ {c:Prop} [Decidable c] {x y:Sem α} (h1:x.calm P) (h2:y.calm P):(if c then x else y).calm P:=by split <;> assumption
theorem gJ (t:TypeId):(typeInfo t).calm P:=by unfold typeInfo;exact k_b AF fun p=>by split <;> trivial
theorem aX (t:TypeId):(underlying t).calm P:=by unfold underlying;exact k_b AF fun p=>by split <;> trivial
theorem eZ (t:TypeId):(sizeOf t).calm P:=k_b (gJ t) fun _=>trivial
theorem fF (t:TypeId):(zeroValue t).calm P:=by unfold zeroValue;exact k_b (gJ t) fun i=>by split <;> trivial
theorem UQ (t:TypeId):(isAgg t).calm P:=by unfold isAgg;exact k_b (aX t) fun i=>by split <;> trivial
theorem sR (a:Addr):∀ (n i:Nat) (acc:Array Value),(loadCellsFrom a i n acc).calm P
 | 0,_,_=>trivial
 | n+1,i,acc=>k_b (aAr _ _) fun _=>sR a n _ _
theorem tU (a:Addr) (n:Nat):(loadCells a n).calm P:=sR a n 0 #[]
theorem jX (a:Addr):∀ (vs:List Value) (i:Nat),(storeCells a vs i).calm P
 | [],_=>trivial
 | v::vs,i=>k_b (aCZ _ _ _) fun _=>jX a vs _
theorem IT (t:TypeId) (a:Addr):(loadVar t a).calm P:=by
 unfold loadVar;refine k_b (UQ t) fun b=>?_
 cases b
 ·exact aAr _ _
 ·exact k_b (eZ t) fun _=>k_b (tU _ _) fun _=>trivial
theorem EE (t:TypeId) (a:Addr) (v:Value):(storeVar t a v).calm P:=by
 unfold storeVar;refine k_b (eZ t) fun n=>?_
 split
 ·exact trivial
 ·exact jX _ _ _
theorem qL (e:TypeId) (cs:Array Value):(newRow e cs).calm P:=k_b (OA _ rfl) fun _=>trivial
theorem qM (t:TypeId) (v:Value):(newVar t v).calm P:=qL _ _
theorem aAs (t:TypeId):(elemOf t).calm P:=by unfold elemOf;exact k_b (aX t) fun i=>by split <;> trivial
theorem EF (t:TypeId) (cs:Array Value) (o:Nat):(part t cs o).calm P:=by
 unfold part;refine k_b (UQ t) fun b=>?_
 cases b
 ·show Sem.calm P (match cs[o]? with | some v=>pure v | none=>stuck "part: no such cell");split <;> trivial
 ·exact k_b (eZ t) fun _=>trivial
theorem hZ (e:RuntimeError):(runtimePanic e:Sem α).calm P:=by
 unfold runtimePanic;refine k_b AF fun p=>?_
 cases e <;> first | exact aEO _ | exact k_b (aAs _) fun _=>k_b (qM _ _) fun _=>aEO _
theorem qN (k:IntKind) (x y:Int) (c:BoundsCode):(boundsPanic k x y c:Sem α).calm P:=by
 unfold boundsPanic;have:∀ b:Bool,(runtimePanic (.bounds (IntKind.i64.wrap x) y b c):Sem α).calm P:=fun b=>hZ _
 show Sem.calm P (if (k != IntKind.u64&&decide (0<=x)&&decide (x<=31))=true then _ else _)
 split
 ·exact k_b (k_b (yM _) fun _=>trivial) fun b=>this b
 ·exact this _
theorem nG (v:Value):(asIntOf v).calm P:=by unfold asIntOf;split <;> trivial
theorem LG (v:Value):(asInt v).calm P:=k_b (nG v) fun _=>trivial
theorem aAt (v:Value):(asBool v).calm P:=by unfold asBool;split <;> trivial
theorem tV (v:Value):(asAddr v).calm P:=by unfold asAddr;split <;> first | trivial | exact hZ _
theorem qO (l:Nat):(Instr.getLoop l).calm P:=by
 unfold Instr.getLoop;exact k_b (tT _) fun o=>by split <;> trivial
theorem aC0 (l:Nat):(Instr.beginRound l).calm P:=by
 unfold Instr.beginRound;refine k_b (qO l) fun r=>k_b (qK _ _ rfl) fun _=>?_
 cases r.state <;> first | exact hZ _ | trivial
theorem RL (l:Nat) (j:Option Code):(Instr.endRound l j).calm P:=k_b (qO l) fun _=>k_b (qK _ _ rfl) fun _=>trivial
theorem XG (l:Nat):(Instr.endLoop l).calm P:=by
 unfold Instr.endLoop;refine k_b (qO l) fun r=>?_
 by_cases hb:r.state == .busy
 ·simp only [hb,if_true];exact k_b (hZ _) fun _=>k_b (qK _ _ rfl) fun _=>trivial
 ·simp only [hb];exact k_b (qK _ _ rfl) fun _=>trivial
theorem aFp (b:Nat):(Instr.takeDeferred b).calm P:=by
 unfold Instr.takeDeferred;refine k_b (tT _) fun o=>?_
 split
 ·exact k_b (qK _ _ rfl) fun _=>trivial
 ·exact trivial
theorem aC1 (fn:FuncId) (tmps:Array Value) (ps:Array Tmp) (assign body:Code) (ro:Option Nat):(Instr.enterLoop fn tmps ps assign body ro).calm P:=by
 unfold Instr.enterLoop;cases ro
 ·exact k_b (OA _ rfl) fun _=>k_b (k_p _) fun _=>k_b (OA _ rfl) fun _=>trivial
 ·exact k_b (qO _) fun _=>k_b (k_p _) fun _=>k_b (OA _ rfl) fun _=>trivial
theorem UR (l:Nat) (args:Array Value):(Instr.yield l args).calm P:=by
 unfold Instr.yield;refine k_b (qO l) fun r=>?_
 split
 ·exact trivial
 ·exact trivial
theorem RM {γ:Type} (f:γ->Sem α) (h:∀ x,(f x).calm P):∀ (l:List γ),(l.mapM f).calm P
 | []=>trivial
 | x::l=>by
  rw [List.mapM_cons];exact k_b (h x) fun _=>k_b (RM f h l) fun _=>trivial
theorem IU (fn:Func) (tmps:Array Value):(results fn tmps).calm P:=by
 unfold results;refine k_b ?_ fun vs=>trivial
 rw [Array.mapM_eq_mapM_toList];refine k_b (RM _ (fun x=>?_) _) fun _=>trivial
 split
 ·exact trivial
 ·exact k_b (tV _) fun _=>IT _ _
end
end Go
namespace Go
open RowKit
open Conc (G)
section
variable (P:Program) [C:Co P]
def After (b:Frame) (k:List Item) (cs:List Frame) (S:Goroutine->World->Prop):Exit->Act->World->Prop
 | .normal,a,w=>C.Go S (G (b.atR a k) cs) w
 | .exit id,a,w=>(∃ k',exitTo id k=some k'/\C.Go S (G (b.atR a k') cs) w) \/
   (b.roundOf.isSome=true/\exitTo id k=none/\∀ k₁,exitTo id k₁=none->C.Go S (G (b.atR a (.code (.exit id)::k₁)) cs) w)
 | .ret,a,w=>(b.roundOf=none/\∀ todo,C.Go S (G { b.atR a todo with mode:=.returning } cs) w) \/
   (b.roundOf.isSome=true/\∀ k₁,C.Go S (G (b.atR a (.code .ret::k₁)) cs) w)
 | _,_,_=>False
def US (f:FuncId) (R:Ending->World->Prop) (fr:Frame) (w:World):Prop:=
 fr.fn=f/\fr.mode=.returning/\fr.defers=[]/\fr.kind=.normal/\∃ fn,P.funcs[f]? = some fn /\
  ∀ w₁,Rely w w₁->∃ v,(results fn fr.tmps).run P w₁=.ok v w₁/\R (.returned v) w₁
end
def Code.wpCo (F:Fence) (n:Nat) (P:Program) [C:Co P] (c:Code) (Q:Exit->Act->World->Prop) (a:Act) (w:World):Prop:=
 let _:=n
 ∀ (b:Frame) (k:List Item) (cs:List Frame) (S:Goroutine->World->Prop),b.roundOf=F.round->b.kind≠.early->(∀ e a' w',Q e a' w'->After P b k cs S e a' w') ->
  C.Go S (G (b.atR a (.code c::k)) cs) w
def CallsCo (F:Fence) (n:Nat) (P:Program) [C:Co P] (f:FuncId) (args:Array Value) (w:World) (R:Ending->World->Prop):Prop:=
 let _:=F
 let _:=n
 ∀ (cs:List Frame) (S:Goroutine->World->Prop),(∀ fr w',US P f R fr w'->C.Go S (G fr cs) w')->C.Go S (G (Frame.enter P f args .normal) cs) w
def RoundCo (F:Fence) (n:Nat) (P:Program) [C:Co P] (l:Nat) (f:FuncId) (tmps:Array Value) (assign body:Code) (w:World) (R:Ending->World->Prop):Prop:=
 let _:=F
 let _:=n
 ∀ (c:Frame) (cs:List Frame) (S:Goroutine->World->Prop),(∀ v w',R (.returned v) w'->C.Go S (G (c.finish v) cs) w')->C.Go S (G (Frame.round l f tmps assign body .normal) (c::cs)) w
section
variable {F:Fence} {n:Nat} {P:Program} [C:Co P]
variable {f:FuncId} {args:Array Value} {w:World} {R R':Ending->World->Prop}
theorem CallsCo.mono (h:CallsCo F n P f args w R) (hr:∀ e w',R e w'->R' e w'):CallsCo F n P f args w R':=
 fun cs S hk=>h cs S fun fr w' ⟨h1,h2,h3,h4,fn,h5,h6⟩=>hk fr w' ⟨h1,h2,h3,h4,fn,h5,fun w₁ hw=>by obtain ⟨v,a1,a3⟩:=h6 w₁ hw;exact ⟨v,a1,hr _ _ a3⟩⟩
theorem CallsCo.anyRound {F':Fence} {n':Nat} (h:CallsCo F' n' P f args w R):CallsCo F n P f args w R:=h
variable {tmps:Array Value} {assign:Code}
theorem RoundCo.any {F':Fence} {n':Nat} {l:Nat} {body:Code} (h:RoundCo F' n' P l f tmps assign body w R):RoundCo F n P l f tmps assign body w R:=h
theorem RoundCo.mono {l:Nat} {body:Code} (h:RoundCo F n P l f tmps assign body w R) (hr:∀ e w',R e w'->R' e w') :
  RoundCo F n P l f tmps assign body w R':=fun c cs S hk=>h c cs S fun v w' hv=>hk v w' (hr _ _ hv)
variable {cs:List Frame} {S:Goroutine->World->Prop}
theorem EG {fr c:Frame} (h:US P f R fr w)
  (hk:∀ v w',R (.returned v) w'->C.Go S (G (c.finish v) cs) w'):C.Go S (G fr (c::cs)) w:=by
 obtain ⟨rfl,h2,h3,h4,fn,h5,h6⟩:=h;refine C.sem (results fn fr.tmps) (fun v=>some (G (c.finish v) cs)) (IU _ _) (fun w₁ v w' g' e1 e2=>?_) fun w₁ hw=>?_
 ·cases e1
  exact ⟨seen P fr.fn ((results fn fr.tmps).events P w₁ #[]),by simp [G,stepG,unwind,doReturn,h2,h3,h4,h5,e2,GStep.after,Sem.runT_eq],fun e he=>Conc.mem_seen he⟩
 ·obtain ⟨v,a1,a3⟩:=h6 w₁ hw
  exact ⟨v,w₁,_,a1,rfl,hk v w₁ a3⟩
def Oper.uponCo (F:Fence) (n:Nat) (P:Program) [Co P] (o:Oper) (a:Act) (next:Act->World->Prop):Next->World->Prop
 | .value v,w'=>next (a.put o.dst v) w'
 | .skip,w'=>next (a.put o.dst undef) w'
 | .defer d,w'=>next ({ a with defers:=d::a.defers }.put o.dst undef) w'
 | .enter f args,w'=>CallsCo F n P f args w' fun en w''=>∃ v,en=.returned v/\next (a.put o.dst v) w''
 | .round l f tmps assign body,w'=>RoundCo F n P l f tmps assign body w' fun en w''=>∃ v,en=.returned v/\next (a.put o.dst v) w''
 | _,_=>False
def Oper.wpCo (F:Fence) (n:Nat) (P:Program) [Co P] (o:Oper) (a:Act) (w:World) (next:Act->World->Prop):Prop:=
 ((o.semAt F.round a.eval).calm P/\∀ w₁,Rely w w₁->∃ r w',(o.semAt F.round a.eval).run P w₁=.ok r w'/\o.uponCo F n P a next r w') \/
   ∃ cases bl sh,(∀ w,(o.semAt F.round a.eval).run P w=.ok (.comm cases bl sh) w/\(o.semAt F.round a.eval).events P w #[]=#[])/\Co.comm P cases bl sh w fun v w'=>next (a.put o.dst v) w'
variable {o:Oper} {a:Act} {K K':Act->World->Prop}
theorem Oper.uponCo_mono (h:∀ a w,K a w->K' a w) {r:Next} (hh:o.uponCo F n P a K r w):o.uponCo F n P a K' r w:=by
 cases r <;> simp only [Oper.uponCo] at hh ⊢ <;> first | exact h _ _ hh | exact CallsCo.mono hh (fun e w'' ⟨v,h1,h2⟩=>⟨v,h1,h _ _ h2⟩) | exact RoundCo.mono hh (fun e w'' ⟨v,h1,h2⟩=>⟨v,h1,h _ _ h2⟩)
theorem Oper.wpCo_mono (h:∀ a w,K a w->K' a w) (hh:o.wpCo F n P a w K):o.wpCo F n P a w K':=
 hh.imp (fun hh=>⟨hh.1,fun w₁ hw=>let ⟨r,w',h1,h3⟩:=hh.2 w₁ hw;⟨r,w',h1,Oper.uponCo_mono h h3⟩⟩) fun ⟨cases,bl,sh,h1,h2⟩=>⟨cases,bl,sh,h1,C.comm_mono h2 fun v w'=>h _ _⟩
theorem EH {ops:Array Oper} {i:Nat} {rest:List Nat} {b:Frame} {k:List Item} (ho:ops[i]? = some o)
  (hw:Region.wanted o (yielded ops a.tmps)=true) (hb:b.roundOf=F.round) (hk:b.kind≠.early) {next:Act->World->Prop} (h:o.wpCo F n P a w next)
  (hn:∀ a' w',next a' w'->C.Go S (G (b.atR a' (.inRegion ops rest::k)) cs) w'):C.Go S (G (b.atR a (.inRegion ops (i::rest)::k)) cs) w:=by
 have dn:∀ v,(b.atR a (.inRegion ops (i::rest)::k)).finish v=b.atR (a.put o.dst v) (.inRegion ops rest::k):=by
  intro v;rw [Frame.finish_atR,ho];rfl
 have ua:∀ d,({ b.atR a (.inRegion ops (i::rest)::k) with defers:=d::a.defers }:Frame).finish undef=b.atR ({ a with defers:=d::a.defers }.put o.dst undef) (.inRegion ops rest::k):=by
  intro d;have:=Frame.finish_atR b { a with defers:=d::a.defers } ops i rest k undef
  rw [ho] at this;exact this
 have aw:∀ w,stepG P C.main (G (b.atR a (.inRegion ops (i::rest)::k)) cs) w=stepG.apply P true (b.atR a (.inRegion ops (i::rest)::k)) cs none (o.semAt b.roundOf a.eval) w:=by
  intro w;have he:=Frame.eval_atR b a (.inRegion ops (i::rest)::k);simp only [Frame.atR] at he;simp only [G,stepG,stepG.exec,stepG.oper,Frame.oper?,Frame.atR,ho,hw,he,Option.map_some,Option.getD_some,if_true,Oper.semAt];cases b.roundOf <;> cases o.op <;> rfl
 have A1:(b.kind == CallKind.early)=false:=by simpa using hk
 rcases h with h | ⟨cases,bl,sh,h1,h2⟩
 case inr =>
  refine C.commG h2 (fun w₁=>?_) fun v w' hv=>by rw [dn];exact hn _ _ hv
  rw [aw,hb];simp [stepG.apply,Frame.atR,A1,GStep.after,G,Sem.runT_eq,h1,show seen P b.fn #[]=#[] from by simp [seen]]
 refine C.sem (o.semAt b.roundOf a.eval) (fun r=>match r with
  | .value v=>some (G (b.atR (a.put o.dst v) (.inRegion ops rest::k)) cs)
  | .skip=>some (G (b.atR (a.put o.dst undef) (.inRegion ops rest::k)) cs)
  | .defer d=>some (G (b.atR ({ a with defers:=d::a.defers }.put o.dst undef) (.inRegion ops rest::k)) cs)
  | .enter f args=>some (G (Frame.enter P f args .normal) (b.atR a (.inRegion ops (i::rest)::k)::cs))
  | .round l f tmps assign body=>some (G (Frame.round l f tmps assign body .normal) (b.atR a (.inRegion ops (i::rest)::k)::cs))
  | _=>none) (by rw [hb];exact h.1) (fun w₁ r w' g' e1 e2=>?_) fun w₁ pu=>?_
 ·rw [aw]
  refine ⟨seen P (b.atR a (.inRegion ops (i::rest)::k)).fn ((o.semAt b.roundOf a.eval).events P w₁ #[]),?_,fun e he=>Conc.mem_seen he⟩
  cases r <;> simp only [Option.some.injEq,reduceCtorEq] at e1 <;> subst e1 <;>
   simp [stepG.apply,e2,dn,ua,GStep.after,G,Frame.atR,A1] <;> first | done | (have:=dn;have:=ua;simp_all [Frame.atR])
 ·obtain ⟨r,w',h1,h3⟩:=h.2 w₁ pu
  rw [hb];cases r <;> simp only [Oper.uponCo] at h3
  case value v=>exact ⟨_,w',_,h1,rfl,hn _ _ h3⟩
  case skip=>exact ⟨_,w',_,h1,rfl,hn _ _ h3⟩
  case defer d=>exact ⟨_,w',_,h1,rfl,hn _ _ h3⟩
  case enter f args =>
   refine ⟨_,w',_,h1,rfl,h3 _ _ fun fr w'' hl=>EG hl ?_⟩
   rintro v w3 ⟨v',hv,hx⟩;cases hv;rw [dn];exact hn _ _ hx
  case round l f tmps assign body =>
   refine ⟨_,w',_,h1,rfl,h3 _ _ _ ?_⟩;rintro v w3 ⟨v',hv,hx⟩;cases hv;rw [dn];exact hn _ _ hx
end
end Go
namespace Go
open RowKit
open Conc (G)
open Co
section
variable {F:Fence} {n:Nat} {P:Program} [C:Co P] {Q:Exit->Act->World->Prop} {a:Act} {w:World}
theorem After.pass {b:Frame} {x:Item} {k:List Item} {cs:List Frame} {S:Goroutine->World->Prop} {e:Exit} {a:Act} {w:World} (hx:x.plain=true) (he:e≠.normal) (h:After P b k cs S e a w):After P b (x::k) cs S e a w:=by
 cases e with
 | normal=>exact absurd rfl he
 | exit id=>simp only [After,exitTo_plain hx] at h ⊢;exact h
 | ret=>exact h
 | goto l=>exact h
 | panic ch=>exact h
 | outgrown=>exact h
variable {c:Code}
theorem wpCo_mono {Q':Exit->Act->World->Prop} (h:c.wpCo F n P Q a w) (hq:∀ e a w,Q e a w->Q' e a w):c.wpCo F n P Q' a w:=
 fun b k cs S am hb hc=>h b k cs S am hb fun e a' w' q=>hc e a' w' (hq _ _ _ q)
theorem XH (h:Q .normal a w):Code.skip.wpCo F n P Q a w:=fun _ _ _ _ _ _ hc=>aFl (hc _ _ _ h)
theorem RN {l:Nat} (h:Q .normal a w):(Code.label l).wpCo F n P Q a w:=fun _ _ _ _ _ _ hc=>aCW (hc _ _ _ h)
variable {id:Nat}
theorem IV (h:Q (.exit id) a w):(Code.exit id).wpCo F n P Q a w:=fun b k cs S _ _ hc=>by
 rcases hc _ _ _ h with ⟨k',hk,hg⟩ | ⟨_,hk,hg⟩
 ·exact aFo hk hg
 ·exact hg k hk
theorem OB (h:Q .ret a w):Code.ret.wpCo F n P Q a w:=fun b k cs S _ _ hc=>by
 rcases hc _ _ _ h with ⟨hr,hg⟩ | ⟨_,hg⟩
 ·exact aGH hr (hg _)
 ·exact hg k
variable {x y:Code}
theorem tW (h:x.wpCo F n P (Exit.then (y.wpCo F n P Q) Q) a w):(Code.seq x y).wpCo F n P Q a w:=fun b k cs S am hb hc =>
 aGG (h b (.code y::k) cs S am hb fun e a' w' q=>by
  cases e with
  | normal=>exact q b k cs S am hb hc
  | _=>exact (hc _ _ _ q).pass rfl (by simp))
theorem IW {c:Operand} {t:Bool} (hc:a.eval c=.bool t) (h:(if t then x else y).wpCo F n P Q a w):(Code.cond c x y).wpCo F n P Q a w:=
 fun b k cs S am hb hq=>aFm hc (h b k cs S am hb hq)
theorem mE {c:Operand} {t:Bool} (hc:a.eval c=.bool t) (ht:t=true->x.wpCo F n P Q a w) (hf:t=false->y.wpCo F n P Q a w):(Code.cond c x y).wpCo F n P Q a w:=by
 cases t
 ·exact IW hc (hf rfl)
 ·exact IW hc (ht rfl)
theorem xE (h:c.wpCo F n P (Exit.inBlock id Q) a w):(Code.block id c).wpCo F n P Q a w:=fun b k cs S am hb hc =>
 aCX (h b (.inBlock id::k) cs S am hb fun e a' w' q=>by
  cases e with
  | normal=>exact XE (hc _ _ _ q)
  | exit id' =>
   by_cases hid:id'=id
   ·simp only [Exit.inBlock,hid,if_true] at q
    exact .inl ⟨k,by simp [exitTo,hid],hc _ _ _ q⟩
   ·simp only [Exit.inBlock,hid,if_false] at q
    have this:(id == id')=false:=by simp;exact fun h=>hid h.symm
    have hx:∀ k,exitTo id' (.inBlock id::k)=exitTo id' k:=fun k=>by simp [exitTo,this]
    have:=hc _ _ _ q;simp only [After,hx] at this ⊢;exact this
  | ret=>exact hc _ _ _ q
  | goto l=>exact hc _ _ _ q
  | panic ch=>exact hc _ _ _ q
  | outgrown=>exact hc _ _ _ q)
theorem AG (I:Act->World->Prop) (μ:Act->World->Nat) (h₀:I a w)
  (round:∀ a w,I a w->c.wpCo F n P (Exit.then (fun a' w'=>I a' w'/\μ a' w'<μ a w) Q) a w):(Code.loop c).wpCo F n P Q a w:=by
 intro b k cs S am hb hc
 have key:∀ j a w,μ a w=j->I a w->C.Go S (G (b.atR a (.code c::.inLoop c::k)) cs) w:=by
  intro j
  induction j using Nat.strongRecOn with
  | _ j ih =>
   intro a w hn hI;refine round a w hI b (.inLoop c::k) cs S am hb fun e a' w' q=>?_
   cases e with
   | normal=>exact aAp (ih _ (hn▸q.2) a' w' rfl q.1)
   | _=>exact (hc _ _ _ q).pass rfl (by simp)
 exact aFn (key _ a w rfl h₀)
theorem EI (h:c.wpCo F n P (fun ex a w=>match ex with | .goto _=>False | ex=>Q ex a w) a w):(Code.scope c).wpCo F n P Q a w:=fun b k cs S am hb hc =>
 aCY (h b (.inScope c::k) cs S am hb fun e a' w' q=>by
  cases e with
  | normal=>exact XF (hc _ _ _ q)
  | exit id =>
   have hx:∀ k,exitTo id (.inScope c::k)=exitTo id k:=fun k=>rfl
   have:=hc _ _ _ q;simp only [After,hx] at this ⊢;exact this
  | goto l=>exact q.elim
  | ret=>exact hc _ _ _ q
  | panic ch=>exact hc _ _ _ q
  | outgrown=>exact hc _ _ _ q)
def fJ (F:Fence) (n:Nat) (P:Program) [Co P] (ops:Array Oper) (Q:Exit->Act->World->Prop):List Nat->Act->World->Prop
 | [],a,w=>Q .normal a w
 | i::rest,a,w =>
  match ops[i]? with
  | none=>fJ F n P ops Q rest a w
  | some o=>if Region.wanted o (yielded ops a.tmps)=true then o.wpCo F n P a w (fJ F n P ops Q rest) else fJ F n P ops Q rest (a.put o.dst undef) w
variable {ops:Array Oper}
theorem OC (l:List Nat):∀ (a:Act) (w:World),fJ F n P ops Q l a w->∀ (b:Frame) (k:List Item) (cs:List Frame) (S:Goroutine->World->Prop),b.roundOf=F.round->b.kind≠.early ->
  (∀ e a' w',Q e a' w'->After P b k cs S e a' w')->C.Go S (G (b.atR a (.inRegion ops l::k)) cs) w:=by
 induction l with
 | nil=>exact fun a w h b k cs S _ _ hc=>LF (hc _ _ _ h)
 | cons i rest ih =>
  intro a w h b k cs S am hb hc;simp only [fJ] at h;cases ho:ops[i]? with
  | none =>
   simp only [ho] at h;refine IS (by simp [ho]) ?_
   simpa [ho,Act.put] using ih a w h b k cs S am hb hc
  | some o =>
   simp only [ho] at h
   by_cases hw:Region.wanted o (yielded ops a.tmps)=true
   ·simp only [hw,if_true] at h
    exact EH ho hw am hb h fun a' w' hn=>ih a' w' hn b k cs S am hb hc
   ·simp only [hw,if_false,Bool.false_eq_true] at h
    refine IS (by simp [ho];simpa using hw) ?_
    simpa [ho] using ih _ w h b k cs S am hb hc
def bP (F:Fence) (n:Nat) (P:Program) [Co P] (ops:Array Oper) (Q:Exit->Act->World->Prop):List Oper->Act->World->Prop
 | [],a,w=>Q .normal a w
 | o::rest,a,w=>if Region.wanted o (yielded ops a.tmps)=true then o.wpCo F n P a w (bP F n P ops Q rest) else bP F n P ops Q rest (a.put o.dst undef) w
theorem RP (l:List Oper):∀ k,(∀ j,l[j]? = ops[k+j]?)->fJ F n P ops Q (List.range' k l.length)=bP F n P ops Q l:=by
 induction l with
 | nil=>intro k _;funext a w;simp [fJ,bP]
 | cons o l ih =>
  intro k h;have h0:ops[k]? = some o:=by simpa using (h 0).symm
  have ih':=ih (k+1) (fun j=>by have:=h (j+1);simpa [Nat.add_assoc,Nat.add_comm 1 j] using this)
  funext a w;simp only [List.length_cons,List.range'_succ,fJ,h0,bP,ih']
theorem lD (h:bP F n P ops Q ops.toList a w):(Code.region id ops false).wpCo F n P Q a w:=fun b k cs S am hb hc=>by
 refine aAq (OC (n:=n) _ a w ?_ b k cs S am hb hc);rw [List.range_eq_range',<- Array.length_toList,RP ops.toList 0 (by simp)];exact h
theorem LJ (h:Q .normal a w):bP F n P ops Q [] a w:=h
def tX (F:Fence) (n:Nat) (P:Program) [Co P] (ops:Array Oper) (i:Nat) (K:Act->World->Prop) (a:Act) (w:World):Prop:=
 match ops[i]? with
 | none=>K a w
 | some o=>if Region.wanted o (yielded ops a.tmps)=true then o.wpCo F n P a w K else K (a.put o.dst undef) w
theorem OD {i:Nat} {K K':Act->World->Prop} (h:∀ a w,K a w->K' a w) (hh:tX F n P ops i K a w):tX F n P ops i K' a w:=by
 unfold tX at *;split
 ·exact h _ _ (by simpa [*] using hh)
 ·rename_i o ho
  simp only [ho] at hh;split
  ·rename_i hw;simp only [hw,if_true] at hh;exact Oper.wpCo_mono h hh
  ·rename_i hw;simp only [hw] at hh;exact h _ _ hh
def vO (F:Fence) (n:Nat) (P:Program) [Co P] (md:Region.Mode) (ops:Array Oper) (Q:Exit->Act->World->Prop):Nat->Array Bool->Act->World->Prop
 | 0,listed,a,w=>Region.ready md ops listed=[]/\Q .normal a w
 | fuel+1,listed,a,w =>
  (Region.ready md ops listed=[]->Q .normal a w) /\
  ∀ i∈Region.ready md ops listed,tX F n P ops i (vO F n P md ops Q fuel (listed.setIfInBounds i true)) a w
theorem HN {md:Region.Mode}:∀ (fuel t:Nat) (listed:Array Bool) (a:Act) (w:World),vO F n P md ops Q fuel listed a w ->
  fJ F n P ops Q (Region.linearise.go md ops fuel t listed []) a w:=by
 intro fuel
 induction fuel with
 | zero=>intro t listed a w h;simpa [Region.linearise.go,fJ] using h.2
 | succ fuel ih =>
  intro t listed a w h;obtain ⟨h₀,h₁⟩:=h;simp only [Region.linearise.go]
  change fJ F n P ops Q (match (Region.ready md ops listed)[t % (Region.ready md ops listed).length]? with
   | some i=>Region.linearise.go md ops fuel (t / (Region.ready md ops listed).length) (listed.setIfInBounds i true) [i]
   | none=>[].reverse) a w
  cases hi:(Region.ready md ops listed)[t % (Region.ready md ops listed).length]? with
  | none =>
   have xx:Region.ready md ops listed=[]:=by
    cases hr:Region.ready md ops listed with
    | nil=>rfl
    | cons x xs =>
     rw [hr] at hi;have an:t % (x::xs).length<(x::xs).length:=Nat.mod_lt _ (by simp)
     simp at hi;simp at an;omega
   simpa [fJ] using h₀ xx
  | some i =>
   simp only [];rw [linearise_go_acc,List.reverse_singleton,List.singleton_append]
   have:fJ F n P ops Q (i::Region.linearise.go md ops fuel (t / (Region.ready md ops listed).length) (listed.setIfInBounds i true) []) a w =
     tX F n P ops i (fJ F n P ops Q (Region.linearise.go md ops fuel (t / (Region.ready md ops listed).length) (listed.setIfInBounds i true) [])) a w:=by
    cases h:ops[i]? <;> simp [fJ,tX,h]
   rw [this];exact OD (fun a w=>ih _ _ a w) (h₁ i (List.mem_of_getElem? hi))
theorem CT (hm:P.follows .mixedOrders=true)
  (h:∀ w₁,Rely w w₁->vO F n P .any ops Q ops.size (Array.replicate ops.size false) a { w₁ with drawn:=w₁.drawn+1 }):(Code.region id ops true).wpCo F n P Q a w:=fun b k cs S am hb hc =>
 HM fun t w₁ hw=>by
  refine OC (n:=n) _ a _ ?_ b k cs S am hb hc;simp only [Region.schedule,hm,Bool.true_or,if_true];exact HN ops.size t _ a _ (h w₁ hw)
end
end Go
namespace Go
open RowKit
open Conc (G)
open Co
section
variable {F:Fence} {n:Nat} {P:Program} [C:Co P]
def gL (P:Program) (fn:Func) (tmps:Array Value) (R:Ending->World->Prop):List Deferred->World->Prop
 | [],w=>∀ w₁,Rely w w₁->∃ v,(results fn tmps).run P w₁=.ok v w₁/\R (.returned v) w₁
 | d::ds,w=>∃ r,d.target=.collected r/\∀ w₁,Rely w w₁->∃ w',(Instr.takeDeferred r).run P w₁=.ok [] w'/\gL P fn tmps R ds w'
def RQ (P:Program) (fn:Func) (R:Ending->World->Prop):Exit->Act->World->Prop
 | .normal,a,w | .ret,a,w=>gL P fn a.tmps R a.defers w
 | _,_,_=>False
theorem AH {f:FuncId} {fn:Func} {R:Ending->World->Prop} {cs:List Frame} {S:Goroutine->World->Prop} (hf:P.funcs[f]? = some fn) (hk:∀ fr w',US P f R fr w'->C.Go S (G fr cs) w') :
  ∀ (ds:List Deferred) (fr:Frame) (w:World),fr.fn=f->fr.mode=.returning->fr.defers=ds->fr.kind=.normal->gL P fn fr.tmps R ds w->C.Go S (G fr cs) w
 | [],fr,w,h1,h2,h3,h4,h=>hk fr w ⟨h1,h2,h3,h4,fn,hf,h⟩
 | d::ds,fr,w,h1,h2,h3,h4,⟨r,ht,h⟩=>by
  obtain ⟨t,a⟩:=d;simp only at ht;subst ht;refine C.sem (Instr.takeDeferred r) (fun calls=>some (G { fr with defers:=calls++ds } cs)) (aFp r) (fun w₁ v w' g' e1 e2=>?_) fun w₁ hw=>?_
  ·cases e1
   exact ⟨seen P fr.fn ((Instr.takeDeferred r).events P w₁ #[]),by simp [G,stepG,unwind,h2,h3,e2,GStep.after,Sem.runT_eq],fun e he=>Conc.mem_seen he⟩
  ·obtain ⟨w',h5,h6⟩:=h w₁ hw
   exact ⟨[],w',_,h5,rfl,AH hf hk ds _ w' h1 h2 rfl h4 h6⟩
variable {w:World} {R:Ending->World->Prop}
theorem iQ {f:FuncId} {fn:Func} {c:Code} {args:Array Value} (hf:P.funcs[f]? = some fn) (hb:fn.body=some c)
  (h:c.wpCo F n P (RQ P fn R) { tmps:=args++Array.replicate (fn.ntmps - args.size) undef,defers:=[] } w) (am:F.round=none:=by rfl):CallsCo F n P f args w R:=by
 intro cs S hk
 let b:Frame:={ (default:Frame) with fn:=f,kind:=.normal,roundOf:=none }
 have kq:Frame.enter P f args .normal=b.atR { tmps:=args++Array.replicate (fn.ntmps - args.size) undef,defers:=[] } [.code c]:=by
  simp [Frame.enter,Frame.atR,hf,hb,b]
 rw [kq];refine h b [] cs S am.symm (by simp [b]) fun e a' w' q=>?_
 cases e with
 | normal=>exact aGI rfl (AH hf hk a'.defers _ w' rfl rfl rfl rfl q)
 | ret=>exact .inl ⟨rfl,fun todo=>AH hf hk a'.defers _ w' rfl rfl rfl rfl q⟩
 | _=>exact q.elim
def OE (P:Program) (l:Nat) (R:Ending->World->Prop):Exit->Act->World->Prop
 | .normal,_,w=>∀ w₁,Rely w w₁->∃ v w',(Instr.endRound l none).run P w₁=.ok v w'/\R (.returned v) w'
 | .ret,_,w=>∀ w₁,Rely w w₁->∃ v w',(Instr.endRound l (some .ret)).run P w₁=.ok v w'/\R (.returned v) w'
 | .exit id,_,w=>∀ w₁,Rely w w₁->∃ v w',(Instr.endRound l (some (.exit id))).run P w₁=.ok v w'/\R (.returned v) w'
 | _,_,_=>False
theorem xF {l:Nat} {j:Option Code} {c:Frame} {cs:List Frame} {fr:Frame} {S:Goroutine->World->Prop}
  (hs:∀ w v w',(Instr.endRound l j).run P w=.ok v w'->∃ es,stepG P C.main (G fr (c::cs)) w=.go (G (c.finish v) cs) w' es/\∀ e∈es,e∈(Instr.endRound l j).events P w #[])
  (h:∀ w₁,Rely w w₁->∃ v w',(Instr.endRound l j).run P w₁=.ok v w'/\R (.returned v) w') (hk:∀ v w',R (.returned v) w'->C.Go S (G (c.finish v) cs) w'):C.Go S (G fr (c::cs)) w:=by
 refine C.sem (Instr.endRound l j) (fun v=>some (G (c.finish v) cs)) (RL l j) (fun w₁ v w' g' e1 e2=>?_) fun w₁ hw=>?_
 ·cases e1;exact hs _ _ _ e2
 ·obtain ⟨v,w',h1,h2⟩:=h w₁ hw
  exact ⟨v,w',_,h1,rfl,hk v w' h2⟩
theorem HO {l:Nat} {f:FuncId} {tmps:Array Value} {assign body:Code}
  (h:assign.wpCo (F.inRound l) n P (Exit.then (fun a₁ w₁=>∀ w₁',Rely w₁ w₁'->∃ w₂,(Instr.beginRound l).run P w₁'=.ok () w₂/\body.wpCo (F.inRound l) n P (OE P l R) a₁ w₂) (fun _ _ _=>False))
   { tmps:=tmps,defers:=[] } w):RoundCo F n P l f tmps assign body w R:=by
 intro c cs S hk
 let b:Frame:={ (default:Frame) with fn:=f,kind:=.normal,roundOf:=some l }
 have xb:Frame.round l f tmps assign body .normal=b.atR { tmps:=tmps,defers:=[] } [.code assign,.beginRound,.code body]:=by
  simp [Frame.round,Frame.atR,b]
 rw [xb];refine h b _ (c::cs) S rfl (by simp [b]) fun e a₁ w₁ q=>?_
 cases e with
 | normal =>
  refine C.sem (Instr.beginRound l) (fun _=>some (G (b.atR a₁ [.code body]) (c::cs))) (aC0 l) (fun w₁' v w' g' e1 e2=>?_) fun w₁' hw=>?_
  ·cases e1
   refine ⟨seen P f ((Instr.beginRound l).events P w₁' #[]),?_,fun e he=>Conc.mem_seen he⟩
   simp [G,stepG,stepG.exec,stepG.apply,Frame.atR,b,Sem.runT_eq,e2,Result.andThen,Frame.finish,Sem.run_bind,GStep.after]
  ·obtain ⟨w₂,h1,h2⟩:=q w₁' hw
   refine ⟨(),w₂,_,h1,rfl,h2 b [] (c::cs) S rfl (by simp [b]) fun e₂ a₂ w₃ q₂=>?_⟩
   cases e₂ with
   | normal=>exact xF (j:=none) (fun w v w' hr=>⟨_,by simp [G,stepG,stepG.exec,Frame.atR,b,Sem.runT_eq,hr,doReturn,GStep.after];rfl,fun e he=>Conc.mem_seen he⟩) q₂ hk
   | ret=>exact .inr ⟨rfl,fun k₁=>xF (j:=some .ret) (fun w v w' hr=>⟨_,by simp [G,stepG,stepG.exec,Frame.atR,b,Sem.runT_eq,hr,doReturn,GStep.after];rfl,fun e he=>Conc.mem_seen he⟩) q₂ hk⟩
   | exit id=>exact .inr ⟨rfl,rfl,fun k₁ hk₁=>xF (j:=some (.exit id)) (fun w v w' hr=>⟨_,by simp [G,stepG,stepG.exec,Frame.atR,b,Sem.runT_eq,hr,doReturn,GStep.after,hk₁];rfl,fun e he=>Conc.mem_seen he⟩) q₂ hk⟩
   | _=>exact q₂.elim
 | _=>exact q.elim
end
end Go
namespace Go
open RowKit
open Conc (G)
open Co
section
variable {F:Fence} {n:Nat} {P:Program} [C:Co P]
def OF (F:Fence) (n:Nat) (P:Program) [Co P] (l:Nat) (Q:Exit->Act->World->Prop) (a':Act):Ending->World->Prop
 | .returned _,w₃=>∀ w₄,Rely w₃ w₄->∃ jump w₅,(Instr.endLoop l).run P w₄=.ok jump w₅ /\
   (match jump with
    | none=>Q .normal a' w₅
    | some c=>c.wpCo F n P Q a' w₅)
 | _,_=>False
def LL (F:Fence) (m:Nat) (P:Program) [Co P] (l:Nat) (args:Array Value) (W:World) (R:Ending->World->Prop):Prop:=
 ∃ fn tmps assign body,(Instr.yield l args).run P W=.ok (.round l fn tmps assign body) W/\RoundCo F m P l fn tmps assign body W R
theorem EJ {g:Operand} {ps:Array Tmp} {assign body:Code} {Q:Exit->Act->World->Prop} {a:Act} {w:World}
  (cj:∀ l,(do let d <- resolve a.eval (rangeCall g l) 0;invoke d.target d.args:Sem Next).calm P) (h:∀ fn w₁,Rely w w₁->∃ (l:Nat) (mark:List Deferred) (w₂:World) (f:FuncId) (args:Array Value) (w₃:World),
   (Instr.enterLoop fn a.tmps ps assign body F.round).run P w₁=.ok (l,mark) w₂ /\
   (do let d <- resolve a.eval (rangeCall g l) 0;invoke d.target d.args:Sem Next).run P w₂=.ok (.enter f args) w₃ /\
   CallsCo F n P f args w₃ (OF F n P l Q { a with defers:=mark++a.defers })) :
  (Code.rangeFunc g ps assign body).wpCo F n P Q a w:=by
 intro b k cs S am hb hc
 let s:Sem ((Nat×List Deferred)×Next):=do
  let x <- Instr.enterLoop b.fn a.tmps ps assign body b.roundOf
  let nx <- (do let d <- resolve a.eval (rangeCall g x.1) 0;invoke d.target d.args:Sem Next)
  pure (x,nx)
 refine C.sem s (fun y=>match y.2 with
  | .enter f args=>some (G (Frame.enter P f args .normal) (b.atR { a with defers:=y.1.2++a.defers } (.inRangeFunc y.1.1::k)::cs))
  | _=>none) (k_b (aC1 _ _ _ _ _ _) fun x=>k_b (cj _) fun _=>trivial) (fun w₁ y w' g' e1 e2=>?_) fun w₁ hw=>?_
 ·obtain ⟨⟨l,mark⟩,nx⟩:=y
  cases nx <;> simp only [Option.some.injEq,reduceCtorEq] at e1;rename_i f args;subst e1;cases he:(Instr.enterLoop b.fn a.tmps ps assign body b.roundOf).run P w₁ with
  | halt hh w2=>simp [s,Sem.run_bind,he,Result.andThen] at e2
  | ok x w2 =>
   cases hr:(resolve a.eval (rangeCall g x.1) 0).run P w2 with
   | halt hh w3=>simp [s,Sem.run_bind,he,hr,Result.andThen] at e2
   | ok d w3 =>
    cases hi:(invoke d.target d.args).run P w3 with
    | halt hh w4=>simp [s,Sem.run_bind,he,hr,hi,Result.andThen] at e2
    | ok nx w4 =>
     simp only [s,Sem.run_bind,he,hr,hi,Result.andThen,Sem.run_pure,Result.ok.injEq,Prod.mk.injEq] at e2;obtain ⟨⟨rfl,rfl⟩,rfl⟩:=e2;have ay:=Frame.eval_atR b { a with defers:=mark++a.defers } (.inRangeFunc l::k)
     simp only [Frame.atR] at ay;have ba:Sem.run P (resolve ({ tmps:=a.tmps,defers:=mark++a.defers }:Act).eval { callee:=.value g,args:=#[.const (.func (.yield l) #[] #[])],argTypes:=#[] } 0) w2=.ok d w3:=hr
     refine ⟨_,by
      simp [G,stepG,stepG.exec,Frame.atR,Sem.runT_eq,he,stepG.apply,ay,Sem.run_bind,ba,hi,Result.andThen,GStep.after];exact rfl,fun e hm=>?_⟩
     rw [Sem.events_bind,he,Result.evThen_ok,Sem.events_bind,Sem.run_bind,hr,Sem.events_bind,hr];simp only [Result.andThen,hi,Result.evThen_ok,Sem.events_pure,Sem.events_pure'];rcases Array.mem_append.1 hm with hm | hm
     ·have:=Conc.mem_seen hm
      rw [Sem.events_acc P (invoke d.target d.args),Sem.events_acc P (resolve a.eval (rangeCall g l) 0)];simp only [Array.mem_append];exact .inl (.inl this)
     ·have:=Conc.mem_seen hm
      have A1:¬b.kind=.early:=hb;rw [if_neg A1] at this;have h0:resolve ({ tmps:=a.tmps,defers:=mark++a.defers }:Act).eval { callee:=.value g,args:=#[.const (.func (.yield l) #[] #[])],argTypes:=#[] } 0=resolve a.eval (rangeCall g l) 0:=rfl;rw [h0] at this;rw [Sem.events_acc P (invoke d.target d.args),Array.mem_append] at this ⊢;rcases this with this | this
      ·refine .inl ?_
       rw [Sem.events_acc,Array.mem_append];exact .inr this
      ·exact .inr this
 ·obtain ⟨l,mark,w₂,f,args,w₃,h1,h2,h4⟩:=h b.fn w₁ hw
  rw [<- am] at h1;refine ⟨((l,mark),.enter f args),w₃,_,?_,rfl,h4 _ _ fun fr w' hl=>EG hl fun v w'' hp=>?_⟩
  ·simp only [s,Sem.run_bind,h1,Result.andThen,Sem.run_pure]
   simp only [Sem.run_bind,Result.andThen] at h2;rw [h2]
  ·rw [finish_atR_inRangeFunc]
   refine C.sem (Instr.endLoop l) (fun jump=>some (G (b.atR { a with defers:=mark++a.defers } ((jump.map Item.code).toList++k)) cs)) (XG l) (fun w₁ v w' g' e1 e2=>?_) fun w₄ hw₄=>?_
   ·cases e1
    exact ⟨_,by simp [G,stepG,stepG.exec,Frame.atR,Sem.runT_eq,e2,GStep.after];rfl,fun e he=>Conc.mem_seen he⟩
   ·obtain ⟨jump,w₅,h5,h6⟩:=hp w₄ hw₄
    refine ⟨jump,w₅,_,h5,rfl,?_⟩;cases jump with
    | none=>exact hc _ _ _ h6
    | some c=>exact h6 b k cs S am hb hc
end
end Go
namespace Go.Sx
open Go Go.RowKit
inductive CV where
 | val (v:Value)
 | row (k:Nat) (es:List (List CV))
 | ref (cs:List CV)
 | fn (f:FuncId) (caps:List CV)
 | mp (kn:Nat) (es:List (List CV))
def mkV:List Value->Value
 | [x]=>x
 | xs=>.agg xs.toArray
mutual
def CV.holds (w:World) (S:Nat->Prop):CV->Value->Prop
 | .val x,v=>v=x/\x.oneCell'=true
 | .row k es,v=>∃ (a:Option Addr) (cap:Nat),v=.slice a es.length cap/\es.length<=cap/\cap<=maxLen /\
   (es=[]\/∃ b o,a=some ⟨b,o,none⟩/\S b/\CV.rows w S k es b o)
 | .ref cs,v=>∃ b o,v=.pointer (some ⟨b,o,none⟩)/\S b/\CV.cells w S cs b o
 | .fn f caps,v=>∃ vs,v=.func (.func f) #[] vs/\CV.vals w S caps vs.toList
 | .mp kn es,v=>∃ (b:Nat) (arr:Array MapEntry) (c:Nat) (ps:List (Value×Value)),v=.map (some b)/\S b/\w.heap[b]? = some (.map arr c)/\MapKept.Stamped arr c/\(arr.toList.map fun e=>(e.key,e.val)).Perm ps/\CV.ents w S kn es ps
def CV.cells (w:World) (S:Nat->Prop):List CV->Nat->Nat->Prop
 | [],_,_=>True
 | c::cs,b,o=>(∃ x,w.cell? ⟨b,o,none⟩=some x/\CV.holds w S c x)/\CV.cells w S cs b (o+1)
def CV.rows (w:World) (S:Nat->Prop) (k:Nat):List (List CV)->Nat->Nat->Prop
 | [],_,_=>True
 | e::es,b,o=>e.length=k/\CV.cells w S e b o/\CV.rows w S k es b (o+k)
def CV.vals (w:World) (S:Nat->Prop):List CV->List Value->Prop
 | [],[]=>True
 | c::cs,v::vs=>CV.holds w S c v/\CV.vals w S cs vs
 | _,_=>False
def CV.ents (w:World) (S:Nat->Prop) (kn:Nat):List (List CV)->List (Value×Value)->Prop
 | [],[]=>True
 | e::es,p::ps=>(∃ vs,CV.vals w S e vs/\e.length=kn+1/\p=(mkV (vs.take kn),mkV (vs.drop kn)))/\CV.ents w S kn es ps
 | _,_=>False
end
structure RO (w:World) (S:Nat->Prop) (w':World) (S':Nat->Prop):Prop where
 sub:∀ b,S b->S' b
 same:∀ b,S b->w'.heap[b]? = w.heap[b]?
theorem RO.refl (w:World) (S:Nat->Prop):RO w S w S:=⟨fun _ h=>h,fun _ _=>rfl⟩
theorem RO.trans {w w' w'':World} {S S' S'':Nat->Prop} (h:RO w S w' S') (h':RO w' S' w'' S''):RO w S w'' S'':=
 ⟨fun b hb=>h'.sub b (h.sub b hb),fun b hb=>(h'.same b (h.sub b hb)).trans (h.same b hb)⟩
theorem RO.cell {w w':World} {S S':Nat->Prop} (h:RO w S w' S') {b o:Nat} (hb:S b):w'.cell? ⟨b,o,none⟩=w.cell? ⟨b,o,none⟩:=by
 simp [World.cell?,h.same b hb]
mutual
theorem CV.holds.mono {w w':World} {S S':Nat->Prop} (h:RO w S w' S'):∀ (c:CV) (v:Value),CV.holds w S c v->CV.holds w' S' c v
 | .val _,_,hv=>by grind [CV.holds]
 | .row k es,v,hv=>by
  obtain ⟨a,cap,h1,h2,h3,h4⟩:=hv;refine ⟨a,cap,h1,h2,h3,?_⟩;rcases h4 with h4 | ⟨b,o,h4,h5,h6⟩
  ·grind
  ·exact .inr ⟨b,o,h4,h.sub b h5,CV.rows.mono h k es b o h5 h6⟩
 | .ref cs,v,hv=>by
  obtain ⟨b,o,h1,h2,h3⟩:=hv;exact ⟨b,o,h1,h.sub b h2,CV.cells.mono h cs b o h2 h3⟩
 | .fn f caps,v,hv=>by
  obtain ⟨vs,h1,h2⟩:=hv;exact ⟨vs,h1,CV.vals.mono h caps _ h2⟩
 | .mp kn es,v,hv=>by
  obtain ⟨b,arr,c,ps,h1,h2,h3,h4,h5,h6⟩:=hv;exact ⟨b,arr,c,ps,h1,h.sub b h2,(h.same b h2).trans h3,h4,h5,CV.ents.mono h kn es ps h6⟩
theorem CV.cells.mono {w w':World} {S S':Nat->Prop} (h:RO w S w' S'):∀ (cs:List CV) (b o:Nat),S b->CV.cells w S cs b o->CV.cells w' S' cs b o
 | [],_,_,_,_=>by simp [CV.cells]
 | c::cs,b,o,hb,hv=>by
  obtain ⟨⟨x,h1,h2⟩,h3⟩:=hv;exact ⟨⟨x,(h.cell hb).trans h1,CV.holds.mono h c x h2⟩,CV.cells.mono h cs b (o+1) hb h3⟩
theorem CV.rows.mono {w w':World} {S S':Nat->Prop} (h:RO w S w' S') (k:Nat):∀ (es:List (List CV)) (b o:Nat),S b->CV.rows w S k es b o->CV.rows w' S' k es b o
 | [],_,_,_,_=>by simp [CV.rows]
 | e::es,b,o,hb,hv=>by
  obtain ⟨h1,h2,h3⟩:=hv;exact ⟨h1,CV.cells.mono h e b o hb h2,CV.rows.mono h k es b (o+k) hb h3⟩
theorem CV.vals.mono {w w':World} {S S':Nat->Prop} (h:RO w S w' S'):∀ (cs:List CV) (vs:List Value),CV.vals w S cs vs->CV.vals w' S' cs vs
 | [],[],_=>by simp [CV.vals]
 | c::cs,v::vs,hv=>by
  exact ⟨CV.holds.mono h c v hv.1,CV.vals.mono h cs vs hv.2⟩
 | [],_::_,hv=>by grind [CV.vals]
 | _::_,[],hv=>by grind [CV.vals]
theorem CV.ents.mono {w w':World} {S S':Nat->Prop} (h:RO w S w' S') (kn:Nat):∀ (es:List (List CV)) (ps:List (Value×Value)),CV.ents w S kn es ps->CV.ents w' S' kn es ps
 | [],[],_=>by simp [CV.ents]
 | e::es,p::ps,hv=>by
  obtain ⟨⟨vs,h1,h2⟩,h3⟩:=hv;exact ⟨⟨vs,CV.vals.mono h e vs h1,h2⟩,CV.ents.mono h kn es ps h3⟩
 | [],_::_,hv=>by grind [CV.ents]
 | _::_,[],hv=>by grind [CV.ents]
end
theorem CV.rows.get {w:World} {S:Nat->Prop} {k:Nat}:∀ {es:List (List CV)} {b o:Nat},CV.rows w S k es b o->∀ (i:Nat) (h:i<es.length),es[i].length=k/\CV.cells w S es[i] b (o+i*k)
 | [],_,_,_,i,h=>by grind
 | e::es,b,o,hv,0,h=>by
  grind [CV.rows]
 | e::es,b,o,hv,i+1,h=>by
  have:=CV.rows.get hv.2.2 i (by grind)
  grind
theorem CV.cells.drop {w:World} {S:Nat->Prop}:∀ {cs:List CV} {b o:Nat},CV.cells w S cs b o->∀ (j:Nat),CV.cells w S (cs.drop j) b (o+j)
 | cs,b,o,hv,0=>by grind
 | [],b,o,hv,j+1=>by simp [CV.cells]
 | c::cs,b,o,hv,j+1=>by
  have:=CV.cells.drop hv.2 j;grind
theorem CV.cells.take {w:World} {S:Nat->Prop}:∀ {cs:List CV} {b o:Nat},CV.cells w S cs b o->∀ (j:Nat),CV.cells w S (cs.take j) b o
 | cs,b,o,hv,0=>by simp [CV.cells]
 | [],b,o,hv,j+1=>by grind
 | c::cs,b,o,hv,j+1=>by
  exact ⟨hv.1,CV.cells.take hv.2 j⟩
theorem CV.cells.vals {w:World} {S:Nat->Prop}:∀ {cs:List CV} {b o:Nat},CV.cells w S cs b o->∃ vs:List Value,CV.vals w S cs vs/\vs.length=cs.length/\∀ j v,vs[j]? = some v->w.cell? ⟨b,o+j,none⟩=some v
 | [],_,_,_=>⟨[],by simp [CV.vals],rfl,by simp⟩
 | c::cs,b,o,hv=>by
  obtain ⟨⟨x,h1,h2⟩,h3⟩:=hv;obtain ⟨vs,h4,h5,h6⟩:=CV.cells.vals h3;refine ⟨x::vs,by grind [CV.vals],by grind,?_⟩
  grind
theorem CV.vals.length {w:World} {S:Nat->Prop}:∀ {cs:List CV} {vs:List Value},CV.vals w S cs vs->vs.length=cs.length
 | [],[],_=>rfl
 | _::_,_::_,h=>by simp only [CV.vals] at h;simp [CV.vals.length h.2]
 | [],_::_,h=>by grind [CV.vals]
 | _::_,[],h=>by grind [CV.vals]
theorem CV.vals.append {w:World} {S:Nat->Prop}:∀ {cs cs':List CV} {vs vs':List Value},CV.vals w S cs vs->CV.vals w S cs' vs'->CV.vals w S (cs++cs') (vs++vs')
 | [],_,[],_,_,h'=>by grind
 | _::_,_,_::_,_,h,h'=>by
  simpa using ⟨h.1,CV.vals.append h.2 h'⟩
 | [],_,_::_,_,h,_=>by grind [CV.vals]
 | _::_,_,[],_,h,_=>by grind [CV.vals]
theorem eI {w:World} {S:Nat->Prop}:∀ {cs cs':List CV} {vs:List Value},CV.vals w S (cs++cs') vs->CV.vals w S cs (vs.take cs.length)/\CV.vals w S cs' (vs.drop cs.length)
 | [],cs',vs,h=>⟨by simp [CV.vals],by grind⟩
 | c::cs,cs',[],h=>by grind [CV.vals]
 | c::cs,cs',v::vs,h=>by
  have:=eI h.2;grind [CV.vals]
def UT (kn k n:Nat) (xs:List Value):List (Value×Value):=(List.range n).map fun i=>(mkV ((xs.drop (i*k)).take kn),mkV (((xs.drop (i*k)).take k).drop kn))
theorem yN {w:World} {S:Nat->Prop} {kn:Nat}:∀ {es:List (List CV)} {xs:List Value},CV.vals w S es.flatten xs->(∀ l∈es,l.length=kn+1)->CV.ents w S kn es (UT kn (kn+1) es.length xs)
 | [],xs,_,_=>by simp [UT,CV.ents]
 | e::es,xs,h,hl=>by
  obtain ⟨h1,h2⟩:=eI h;have he:=hl e (by simp)
  rw [he] at h1 h2;have ih:=yN h2 fun l hm=>hl l (by grind)
  simp [UT,List.range_succ_eq_map];refine ⟨⟨xs.take (kn+1),h1,he,?_⟩,?_⟩
  ·grind
  ·have hf:((fun i=>(mkV ((xs.drop (i*(kn+1))).take kn),mkV (((xs.drop (i*(kn+1))).take (kn+1)).drop kn)))∘Nat.succ)=fun i=>(mkV (((xs.drop (kn+1)).drop (i*(kn+1))).take kn),mkV ((((xs.drop (kn+1)).drop (i*(kn+1))).take (kn+1)).drop kn)):=by
    funext i;simp [Nat.succ_mul,Nat.add_comm]
   rw [hf];exact ih
theorem CV.cells.of_vals {w:World} {S:Nat->Prop} {b:Nat}:∀ {cs:List CV} {vs:List Value} {o:Nat},CV.vals w S cs vs->(∀ j v,vs[j]? = some v->w.cell? ⟨b,o+j,none⟩=some v)->CV.cells w S cs b o
 | [],_,_,_,_=>by simp [CV.cells]
 | c::cs,v::vs,o,h,hc=>by
  refine ⟨⟨v,by simpa using hc 0 v rfl,h.1⟩,CV.cells.of_vals h.2 fun j v hj=>?_⟩
  have:=hc (j+1) v (by grind)
  grind
 | _::_,[],_,h,_=>by grind [CV.vals]
theorem CV.rows.of_vals {w:World} {S:Nat->Prop} {b k:Nat}:∀ {es:List (List CV)} {vs:List Value} {o:Nat},(∀ e∈es,e.length=k)->CV.vals w S es.flatten vs->(∀ j v,vs[j]? = some v->w.cell? ⟨b,o+j,none⟩=some v)->CV.rows w S k es b o
 | [],_,_,_,_,_=>by simp [CV.rows]
 | e::es,vs,o,hk,h,hc=>by
  have kr:∀ {cs cs':List CV} {vs:List Value},CV.vals w S (cs++cs') vs->CV.vals w S cs (vs.take cs.length)/\CV.vals w S cs' (vs.drop cs.length):=by
   intro cs
   induction cs with
   | nil=>grind [CV.vals]
   | cons c cs ih =>
    intro cs' vs h;cases vs with
    | nil=>grind [CV.vals]
    | cons v vs =>
     grind [CV.vals]
  have hs:=kr h;have Ca:=hk e (by simp)
  refine ⟨Ca,CV.cells.of_vals hs.1 fun j v hj=>hc j v ?_,CV.rows.of_vals (fun e he=>hk e (by grind)) hs.2 fun j v hj=>?_⟩
  ·grind
  grind
theorem CV.holds.one {w:World} {S:Nat->Prop}:∀ {c:CV} {v:Value},CV.holds w S c v->v.oneCell'=true
 | .val x,v,h=>by grind [CV.holds]
 | .row k es,v,h=>by obtain ⟨a,cap,rfl,_⟩:=h;rfl
 | .ref cs,v,h=>by obtain ⟨b,o,rfl,_⟩:=h;rfl
 | .fn f caps,v,h=>by obtain ⟨vs,rfl,_⟩:=h;rfl
 | .mp kn es,v,h=>by obtain ⟨b,_,_,_,rfl,_⟩:=h;rfl
theorem CV.vals.one {w:World} {S:Nat->Prop}:∀ {cs:List CV} {vs:List Value},CV.vals w S cs vs->∀ v∈vs,v.oneCell'=true
 | [],[],_,v,h=>by grind
 | _::_,_::_,h,v,hv=>by
  rcases List.mem_cons.1 hv with rfl | hv
  ·exact h.1.one
  ·exact CV.vals.one h.2 v hv
 | [],_::_,h,_,_=>by grind [CV.vals]
 | _::_,[],h,_,_=>by grind
inductive AV where
 | any
 | cv (c:CV)
 | ptr (i off:Nat)
 | own (i ver:Nat)
 | opt (i ver el o:Nat)
 | agg (cs:List AV)
 | tup (vs:List AV)
 | fn (f:FuncId) (caps:List AV)
 | gd (L:List Bool) (x:AV)
structure Env where
 ρ:Nat->Nat
 hdr:Nat->Nat->Value
 S:Nat->Prop
 base:Nat
 H:Nat->Option (Obj×Bool)
 y:Bool
structure Box where
 live:Bool
 T:TypeId
 cs:List AV
structure Vec where
 live:Bool
 T:TypeId
 k:Nat
 ver:Nat
 es:List (List CV)
def aY:Value->Option Nat
 | .slice (some a) _ (_+1)=>some a.block
 | .map (some b)=>some b
 | _=>none
def OwnsS (w:World) (n0:Nat) (T:TypeId) (k:Nat) (v:Value) (n:Nat) (xs:List Value):Prop:=
 (∃ a,v=.slice a 0 0/\n=0/\xs=[])\/(w.ownsRow n0 T k v n xs/\∃ g,aY v=some g/\v.ownBlock=some g)
theorem OwnsS.one {w:World} {n0:Nat} {T:TypeId} {k:Nat} {v:Value} {n:Nat} {xs:List Value} (h:OwnsS w n0 T k v n xs):v.oneCell'=true:=by
 rcases h with ⟨a,rfl,_⟩ | ⟨h,_⟩
 ·rfl
 ·rcases h.2 with ⟨rfl,_⟩ | ⟨g,cap,cur,rfl,_⟩ <;> rfl
theorem OwnsS.slice {w:World} {n0:Nat} {T:TypeId} {k:Nat} {v:Value} {n:Nat} {xs:List Value} (h:OwnsS w n0 T k v n xs):∃ a c,v=.slice a n c/\n<=c/\c<=maxLen:=by
 rcases h with ⟨a,rfl,rfl,_⟩ | ⟨h,_⟩
 ·grind
 ·rcases h.2 with ⟨rfl,rfl⟩ | ⟨g,cap,cur,rfl,_,_,h1,h2,_⟩
  ·grind
  grind
theorem OwnsS.len {w:World} {n0:Nat} {T:TypeId} {k:Nat} {v:Value} {n:Nat} {xs:List Value} (h:OwnsS w n0 T k v n xs):xs.length=n*k:=by
 rcases h with ⟨a,rfl,rfl,rfl⟩ | ⟨h,_⟩
 ·simp
 ·exact h.1
theorem OwnsS.of_row {w:World} {n0:Nat} {T:TypeId} {k:Nat} {v:Value} {n:Nat} {xs:List Value} (h:w.ownsRow n0 T k v n xs):OwnsS w n0 T k v n xs:=by
 rcases h.2 with ⟨rfl,rfl⟩ | ⟨g,cap,cur,rfl,a1,a2,a3,a4⟩
 ·exact .inl ⟨none,rfl,rfl,by simpa using h.1⟩
 ·cases cap with
  | zero =>
   obtain rfl:n=0:=by omega
   exact .inl ⟨_,rfl,rfl,by grind⟩
  | succ cap=>exact .inr ⟨h,g,rfl,rfl⟩
theorem OwnsS.lt {w:World} {n0:Nat} {T:TypeId} {k:Nat} {v:Value} {n:Nat} {xs:List Value} (h:OwnsS w n0 T k v n xs):∀ g,aY v=some g->n0<=g/\g<w.heap.size:=by
 intro g hg;rcases h with ⟨a,rfl,_⟩ | ⟨h,g',h1,h2⟩
 ·simp_all [aY]
 ·rw [hg] at h1;cases h1;exact h.lt g h2
theorem OwnsS.keep {w w':World} {n0:Nat} {T:TypeId} {k:Nat} {v:Value} {n:Nat} {xs:List Value} (h:OwnsS w n0 T k v n xs) (hk:∀ g,aY v=some g->w'.heap[g]? = w.heap[g]?):OwnsS w' n0 T k v n xs:=by
 rcases h with h | ⟨⟨h0,h1⟩,g',h3,h4⟩
 ·exact .inl h
 ·refine .inr ⟨⟨h0,?_⟩,g',h3,h4⟩
  rcases h1 with h1 | ⟨g,cap,cur,a1,a2,a3,a4⟩
  ·grind
  ·refine .inr ⟨g,cap,cur,a1,a2,(hk g ?_).trans a3,a4⟩
   grind [Value.ownBlock]
theorem OwnsS.cells {w:World} {n0:Nat} {T:TypeId} {k:Nat} {v:Value} {n:Nat} {xs:List Value} (h:OwnsS w n0 T k v n xs) {g:Nat} (hg:aY v=some g):∀ j u,xs[j]? = some u->w.cell? ((⟨g,0,none⟩:Addr).add j)=some u:=by
 rcases h with ⟨a,rfl,_⟩ | ⟨h,g',h1,h2⟩
 ·grind
 ·rw [hg] at h1;cases h1;exact h.cells h2
def bE:Nat:=1048576
def Vec.sl (v:Vec):Bool:=v.live&&decide (v.T<bE)
theorem Vec.sl_live {v:Vec} (h:v.sl=true):v.live=true:=by unfold Vec.sl at h;grind
theorem Vec.sl_T {v:Vec} (h:v.sl=true):v.T<bE:=by unfold Vec.sl at h;grind
theorem Vec.sl_mk {v:Vec} (h:v.sl=true) (k ver:Nat) (es:List (List CV)):Vec.sl ⟨v.live,v.T,k,ver,es⟩=true:=h
def aEP (w:World) (n0:Nat) (T:TypeId) (k:Nat) (v:Value) (n:Nat) (xs:List Value):Prop:=
 bE<T/\∃ (b:Nat) (arr:Array MapEntry) (c:Nat),v=.map (some b)/\n0<=b/\w.heap[b]? = some (.map arr c)/\xs.length=n*k /\
  MapKept.Stamped arr c/\(arr.toList.map fun e=>(e.key,e.val)).Perm (UT (T / bE - 1) k n xs)
def OwnsV (w:World) (n0:Nat) (T:TypeId) (k:Nat) (v:Value) (n:Nat) (xs:List Value):Prop:=
 (T<bE/\OwnsS w n0 T k v n xs)\/aEP w n0 T k v n xs
section
variable {w w':World} {n0:Nat} {T:TypeId} {k:Nat} {v:Value} {n:Nat} {xs:List Value}
theorem OwnsV.s (h:OwnsV w n0 T k v n xs) (hT:T<bE):OwnsS w n0 T k v n xs:=by
 rcases h with h | h
 ·grind
 ·exact absurd hT (Nat.not_lt.2 (Nat.le_of_lt h.1))
theorem OwnsV.ne (h:OwnsV w n0 T k v n xs):T≠bE:=by
 rcases h with h | h
 ·grind
 ·exact Nat.ne_of_gt h.1
theorem OwnsV.one (h:OwnsV w n0 T k v n xs):v.oneCell'=true:=by
 rcases h with ⟨_,h⟩ | ⟨_,b,arr,c,rfl,_⟩
 ·exact h.one
 ·rfl
theorem OwnsV.of_row (hT:T<bE) (h:w.ownsRow n0 T k v n xs):OwnsV w n0 T k v n xs:=.inl ⟨hT,OwnsS.of_row h⟩
theorem OwnsV.m (h:OwnsV w n0 T k v n xs) (hT:bE<=T):aEP w n0 T k v n xs:=by
 rcases h with h | h
 ·grind
 omega
theorem OwnsV.lt (h:OwnsV w n0 T k v n xs):∀ g,aY v=some g->n0<=g/\g<w.heap.size:=by
 rcases h with ⟨_,h⟩ | ⟨_,b,arr,c,rfl,h1,h2,_⟩
 ·exact h.lt
 grind [aY]
theorem OwnsV.keep (h:OwnsV w n0 T k v n xs) (hk:∀ g,aY v=some g->w'.heap[g]? = w.heap[g]?):OwnsV w' n0 T k v n xs:=by
 rcases h with ⟨hT,h⟩ | ⟨h0,b,arr,c,rfl,h1,h2,h3⟩
 ·exact .inl ⟨hT,h.keep hk⟩
 ·exact .inr ⟨h0,b,arr,c,rfl,h1,(hk b rfl).trans h2,h3⟩
end
def pQ:List AV->Bool
 | .gd [false] .any::_=>true
 | _=>false
def aC2 (n:Nat):Value->Value
 | .pointer (some a)=>.slice (some a) n n
 | _=>.slice none 0 0
def fnV (f:FuncId) (b:Bool) (vs:Array Value):Value:=match b with
 | false=>.func (.func f) #[] vs
 | true=>if vs.size=3 then aC2 f (vs.getD 2 undef) else .func (.func f) (vs.extract 1 vs.size) #[]
theorem OG (f:FuncId) {b:Array Value} (hb:b.size=1):fnV f true (#[undef]++b)=.func (.func f) b #[]:=by
 simp_all [fnV]
theorem aAu (n:Nat) (v:Value):(aC2 n v).oneCell'=true:=by unfold aC2;split <;> rfl
theorem aC3 (f:FuncId) (b:Bool) (vs:Array Value):(fnV f b vs).oneCell'=true:=by
 cases b with
 | false=>rfl
 | true =>
  simp [fnV];split
  ·exact aAu _ _
  ·rfl
mutual
def AV.holds (e:Env) (w:World) (ks:List Nat):AV->Value->Prop
 | .any,_=>True
 | .cv c,v=>CV.holds w e.S c v
 | .ptr i off,v=>v=.pointer (some ⟨e.ρ i,off,none⟩)
 | .own i ver,v=>v=e.hdr i ver/\v.oneCell'=true
 | .opt i ver el o,v=>∃ b,aY (e.hdr i ver)=some b/\v=.pointer (some ⟨b,el*ks.getD i 0+o,none⟩)
 | .agg cs,v=>∃ vs,v=.agg vs/\AV.all e w ks cs vs.toList
 | .tup cs,v=>∃ vs,v=.tuple vs/\AV.all e w ks cs vs.toList
 | .fn f caps,v=>∃ vs,v=fnV f (pQ caps) vs/\AV.all e w ks caps vs.toList
 | .gd L x,v=>((∀ b∈L,b=true)->AV.holds e w ks x v)/\((¬∀ b∈L,b=true)->v=undef)
def AV.all (e:Env) (w:World) (ks:List Nat):List AV->List Value->Prop
 | [],[]=>True
 | c::cs,v::vs=>AV.holds e w ks c v/\AV.all e w ks cs vs
 | _,_=>False
end
def AV.slb (n i off:Nat):AV:=.fn n [.gd [false] .any,.any,.ptr i off]
theorem AV.slb_holds {e:Env} {w:World} {ks:List Nat} {n i off:Nat} {v:Value}:AV.holds e w ks (AV.slb n i off) v↔v=.slice (some ⟨e.ρ i,off,none⟩) n n:=by
 unfold AV.slb;simp [AV.holds,pQ];constructor
 ·rintro ⟨vs,rfl,h⟩
  match hv:vs.toList,h with
  | [a,b,c],h =>
   simp [AV.all,AV.holds] at h;have hs:vs.size=3:=by grind [Array.length_toList]
   have hc:vs.getD 2 undef=c:=by
    have:vs=#[a,b,c]:=by grind
    simp_all
   simp_all [fnV,aC2]
  | [],h=>grind [AV.all]
  | [_],h=>grind [AV.all]
  | [_,_],h=>grind [AV.all]
  | _::_::_::_::_,h=>grind [AV.all]
 ·rintro rfl
  refine ⟨#[undef,undef,.pointer (some ⟨e.ρ i,off,none⟩)],rfl,?_⟩;simp [AV.all,AV.holds]
mutual
def AV.sco (nB:Nat) (vers:List Nat):AV->Prop
 | .any=>True
 | .cv _=>True
 | .ptr i _=>i<nB
 | .own i u=>i<vers.length/\u<=vers.getD i 0
 | .opt i u _ _=>i<vers.length/\u<=vers.getD i 0
 | .agg cs=>AV.scos nB vers cs
 | .tup cs=>AV.scos nB vers cs
 | .fn _ cs=>AV.scos nB vers cs
 | .gd _ x=>AV.sco nB vers x
def AV.scos (nB:Nat) (vers:List Nat):List AV->Prop
 | []=>True
 | c::cs=>AV.sco nB vers c/\AV.scos nB vers cs
end
structure Ext (e:Env) (w:World) (nB:Nat) (vers ks:List Nat) (e':Env) (w':World) (nB':Nat) (vers' ks':List Nat):Prop where
 ro:RO w e.S w' e'.S
 ρ:∀ i,i<nB->e'.ρ i=e.ρ i
 hdr:∀ i u,i<vers.length->u<=vers.getD i 0->e'.hdr i u=e.hdr i u
 nB:nB<=nB'
 nV:vers.length<=vers'.length
 verle:∀ i,i<vers.length->vers.getD i 0<=vers'.getD i 0
 kseq:∀ i,i<vers.length->ks'.getD i 0=ks.getD i 0
 sz:w.heap.size<=w'.heap.size
 snew:∀ b,e'.S b->e.S b\/e.base<=b
 be:e'.base=e.base
 he:e.y=false->e'.H=e.H
 ye:e'.y=e.y
theorem Ext.refl (e:Env) (w:World) (nB:Nat) (vers ks:List Nat):Ext e w nB vers ks e w nB vers ks:=
 ⟨RO.refl _ _,fun _ _=>rfl,fun _ _ _ _=>rfl,Nat.le_refl _,Nat.le_refl _,fun _ _=>Nat.le_refl _,fun _ _=>rfl,Nat.le_refl _,fun _ h=>.inl h,rfl,fun _=>rfl,rfl⟩
theorem Ext.trans {e e' e'':Env} {w w' w'':World} {n n' n'':Nat} {vs vs' vs'' ks ks' ks'':List Nat}
  (h:Ext e w n vs ks e' w' n' vs' ks') (h':Ext e' w' n' vs' ks' e'' w'' n'' vs'' ks''):Ext e w n vs ks e'' w'' n'' vs'' ks'':=
 ⟨h.ro.trans h'.ro,fun i hi=>(h'.ρ i (Nat.lt_of_lt_of_le hi h.nB)).trans (h.ρ i hi),
  fun i u hi hu=>(h'.hdr i u (Nat.lt_of_lt_of_le hi h.nV) (Nat.le_trans hu (h.verle i hi))).trans (h.hdr i u hi hu),
  Nat.le_trans h.nB h'.nB,Nat.le_trans h.nV h'.nV,fun i hi=>Nat.le_trans (h.verle i hi) (h'.verle i (Nat.lt_of_lt_of_le hi h.nV)),
  fun i hi=>(h'.kseq i (Nat.lt_of_lt_of_le hi h.nV)).trans (h.kseq i hi),Nat.le_trans h.sz h'.sz,fun b hb=>(h'.snew b hb).elim (h.snew b) fun hl=>.inr (h.be▸hl),h'.be.trans h.be,fun hy=>(h'.he (h.ye.trans hy)).trans (h.he hy),h'.ye.trans h.ye⟩
section
variable {e e':Env} {w w':World} {nB nB':Nat} {vers vers' ks ks':List Nat}
mutual
theorem AV.holds.mono (h:Ext e w nB vers ks e' w' nB' vers' ks'):∀ (x:AV) (v:Value),AV.sco nB vers x->AV.holds e w ks x v->AV.holds e' w' ks' x v
 | .any,_,_,_=>by simp [AV.holds]
 | .cv c,v,_,hv=>by exact CV.holds.mono h.ro c v hv
 | .ptr i off,v,hs,hv=>by simp [AV.holds] at hv hs ⊢;rw [h.ρ i hs];exact hv
 | .own i u,v,hs,hv=>by simp [AV.holds] at hv hs ⊢;rw [h.hdr i u hs.1 hs.2];exact hv
 | .opt i u el o,v,hs,hv=>by
  simp only [AV.holds] at hv hs ⊢;rw [h.hdr i u hs.1 hs.2,h.kseq i hs.1];exact hv
 | .agg cs,v,hs,hv=>by
  obtain ⟨vs,h1,h2⟩:=hv;exact ⟨vs,h1,AV.all.mono h cs _ hs h2⟩
 | .tup cs,v,hs,hv=>by
  obtain ⟨vs,h1,h2⟩:=hv;exact ⟨vs,h1,AV.all.mono h cs _ hs h2⟩
 | .fn f cs,v,hs,hv=>by
  obtain ⟨vs,h1,h2⟩:=hv;exact ⟨vs,h1,AV.all.mono h cs _ hs h2⟩
 | .gd L x,v,hs,hv=>by
  exact ⟨fun hb=>AV.holds.mono h x v hs (hv.1 hb),hv.2⟩
theorem AV.all.mono (h:Ext e w nB vers ks e' w' nB' vers' ks'):∀ (xs:List AV) (vs:List Value),AV.scos nB vers xs->AV.all e w ks xs vs->AV.all e' w' ks' xs vs
 | [],[],_,_=>by simp [AV.all]
 | x::xs,v::vs,hs,hv=>by
  exact ⟨AV.holds.mono h x v hs.1 hv.1,AV.all.mono h xs vs hs.2 hv.2⟩
 | [],_::_,_,hv=>by grind [AV.all]
 | _::_,[],_,hv=>by grind [AV.all]
end
mutual
theorem AV.sco.mono (h1:nB<=nB') (h2:vers.length<=vers'.length) (h3:∀ i,i<vers.length->vers.getD i 0<=vers'.getD i 0):∀ (x:AV),AV.sco nB vers x->AV.sco nB' vers' x
 | .any,_=>by simp [AV.sco]
 | .cv _,_=>by simp [AV.sco]
 | .ptr i _,hs=>by grind [AV.sco]
 | .own i u,hs=>by grind [AV.sco]
 | .opt i u _ _,hs=>by grind [AV.sco]
 | .agg cs,hs=>by exact AV.scos.mono h1 h2 h3 cs hs
 | .tup cs,hs=>by exact AV.scos.mono h1 h2 h3 cs hs
 | .fn _ cs,hs=>by exact AV.scos.mono h1 h2 h3 cs hs
 | .gd _ x,hs=>by exact AV.sco.mono h1 h2 h3 x hs
theorem AV.scos.mono (h1:nB<=nB') (h2:vers.length<=vers'.length) (h3:∀ i,i<vers.length->vers.getD i 0<=vers'.getD i 0):∀ (xs:List AV),AV.scos nB vers xs->AV.scos nB' vers' xs
 | [],_=>by simp [AV.scos]
 | x::xs,hs=>by
  exact ⟨AV.sco.mono h1 h2 h3 x hs.1,AV.scos.mono h1 h2 h3 xs hs.2⟩
end
theorem Ext.scos (h:Ext e w nB vers ks e' w' nB' vers' ks') {x:List AV} (hs:AV.scos nB vers x):AV.scos nB' vers' x:=AV.scos.mono h.nB h.nV h.verle x hs
end
theorem AV.all.length {e:Env} {w:World} {ks:List Nat}:∀ {xs:List AV} {vs:List Value},AV.all e w ks xs vs->vs.length=xs.length
 | [],[],_=>rfl
 | _::_,_::_,h=>by simp only [AV.all] at h;simp [AV.all.length h.2]
 | [],_::_,h=>by grind [AV.all]
 | _::_,[],h=>by grind [AV.all]
theorem AV.all.get {e:Env} {w:World} {ks:List Nat}:∀ {xs:List AV} {vs:List Value},AV.all e w ks xs vs->∀ {i:Nat} {x:AV},xs[i]? = some x->∃ v,vs[i]? = some v/\AV.holds e w ks x v
 | [],[],_,i,x,h=>by grind
 | c::cs,v::vs,hv,0,x,h=>by
  grind [AV.all]
 | c::cs,v::vs,hv,i+1,x,h=>by
  exact AV.all.get hv.2 (by grind)
 | [],_::_,h,_,_,_=>by grind
 | _::_,[],h,_,_,_=>by grind [AV.all]
theorem AV.all.set {e:Env} {w:World} {ks:List Nat}:∀ {xs:List AV} {vs:List Value},AV.all e w ks xs vs->∀ (i:Nat) {x:AV} {v:Value},AV.holds e w ks x v->AV.all e w ks (xs.set i x) (vs.set i v)
 | [],[],_,i,x,v,_=>by grind
 | c::cs,u::vs,hv,0,x,v,h=>by
  grind [AV.all]
 | c::cs,u::vs,hv,i+1,x,v,h=>by
  simpa using ⟨hv.1,AV.all.set hv.2 i h⟩
 | [],_::_,h,_,_,_,_=>by grind [AV.all]
 | _::_,[],h,_,_,_,_=>by grind [AV.all]
theorem AV.all.append {e:Env} {w:World} {ks:List Nat}:∀ {xs ys:List AV} {vs us:List Value},AV.all e w ks xs vs->AV.all e w ks ys us->AV.all e w ks (xs++ys) (vs++us)
 | [],_,[],_,_,h'=>by grind
 | _::_,_,_::_,_,h,h'=>by
  simpa using ⟨h.1,AV.all.append h.2 h'⟩
 | [],_,_::_,_,h,_=>by grind [AV.all]
 | _::_,_,[],_,h,_=>by grind [AV.all]
theorem AV.all.drop {e:Env} {w:World} {ks:List Nat}:∀ {xs:List AV} {vs:List Value},AV.all e w ks xs vs->∀ (n:Nat),AV.all e w ks (xs.drop n) (vs.drop n)
 | xs,vs,h,0=>by grind
 | [],[],_,n+1=>by grind
 | _::_,_::_,h,n+1=>by
  simpa using AV.all.drop h.2 n
 | [],_::_,h,_=>by grind [AV.all]
 | _::_,[],h,_=>by grind [AV.all]
theorem AV.all.take {e:Env} {w:World} {ks:List Nat}:∀ {xs:List AV} {vs:List Value},AV.all e w ks xs vs->∀ (n:Nat),AV.all e w ks (xs.take n) (vs.take n)
 | xs,vs,h,0=>by simp [AV.all]
 | [],[],_,n+1=>by grind
 | _::_,_::_,h,n+1=>by
  simpa using ⟨h.1,AV.all.take h.2 n⟩
 | [],_::_,h,_=>by grind [AV.all]
 | _::_,[],h,_=>by grind [AV.all]
theorem AV.all.of_vals {e:Env} {w:World} {ks:List Nat}:∀ {cs:List CV} {vs:List Value},CV.vals w e.S cs vs->AV.all e w ks (cs.map .cv) vs
 | [],[],_=>by simp [AV.all]
 | _::_,_::_,h=>by
  simpa using ⟨h.1,AV.all.of_vals h.2⟩
 | [],_::_,h=>by grind [CV.vals]
 | _::_,[],h=>by grind [CV.vals]
theorem AV.scos_get {nB:Nat} {vers:List Nat}:∀ {xs:List AV},AV.scos nB vers xs->∀ {i:Nat} {x:AV},xs[i]? = some x->AV.sco nB vers x
 | [],_,i,x,h=>by grind
 | c::cs,hs,0,x,h=>by grind [AV.scos]
 | c::cs,hs,i+1,x,h=>by exact AV.scos_get hs.2 (by simpa using h)
theorem AV.scos_iff {nB:Nat} {vers:List Nat}:∀ {xs:List AV},AV.scos nB vers xs↔∀ x∈xs,AV.sco nB vers x
 | []=>by simp [AV.scos]
 | c::cs=>by simp [AV.scos,AV.scos_iff (xs:=cs)]
theorem AV.scos_cv (nB:Nat) (vers:List Nat) (cs:List CV):AV.scos nB vers (cs.map .cv):=by
 grind [AV.scos_iff,AV.sco]
abbrev vers (V:List Vec):List Nat:=V.map (·.ver)
abbrev kss (V:List Vec):List Nat:=V.map (·.k)
abbrev ghT:Nat:=bE
class Ghost where
 J:List (List CV)->(Nat->Option (Obj×Bool))->Prop
 lo:Nat
 w:World
 yy:Bool
def Env.nb (e:Env) (n0:Nat):Nat:=if e.y=true then 0 else n0
theorem Env.nb_le (e:Env) (n0:Nat):e.nb n0<=n0:=by unfold Env.nb;grind
theorem Env.nb_false {e:Env} (h:e.y=false) (n0:Nat):e.nb n0=n0:=by unfold Env.nb;grind
section
variable [G:Ghost]
def GW (w:World):Prop:=w.os=G.w.os/\w.tape=G.w.tape/\w.output=G.w.output/\G.yy=true
structure Hid (e:Env) (B:List Box) (V:List Vec) (w:World):Prop where
 obj:∀ (b:Nat) (o:Obj) (f:Bool),e.H b=some (o,f)->w.heap[b]? = some o
 box:∀ (i:Nat) (b:Box),B[i]? = some b->b.live=true->e.H (e.ρ i)=none
 vec:∀ (i:Nat) (x:Vec) (g:Nat),V[i]? = some x->x.live=true->aY (e.hdr i x.ver)=some g->e.H g=none
 gh:∀ (i:Nat) (x:Vec),V[i]? = some x->x.T=ghT->i=0/\e.y=true/\G.J x.es e.H/\G.lo<=e.base
 own:∀ (b:Nat) (o:Obj),e.S b->e.H b≠some (o,true)
structure Mem (n0:Nat) (w0:World) (e:Env) (B:List Box) (V:List Vec) (w:World):Prop where
 box:∀ (i:Nat) (b:Box),B[i]? = some b->b.live=true->∃ vs:Array Value,w.heap[e.ρ i]? = some (.cells vs b.T (0,0))/\AV.all e w (kss V) b.cs vs.toList
 boxsc:∀ (i:Nat) (b:Box),B[i]? = some b->AV.scos B.length (vers V) b.cs
 boxlo:∀ (i:Nat) (b:Box),B[i]? = some b->b.live=true->n0<=e.ρ i/\¬e.S (e.ρ i)
 boxinj:∀ (i j:Nat) (b b':Box),B[i]? = some b->B[j]? = some b'->b.live=true->b'.live=true->e.ρ i=e.ρ j->i=j
 vec:∀ (i:Nat) (x:Vec),V[i]? = some x->x.live=true->∃ xs,OwnsV w n0 x.T x.k (e.hdr i x.ver) x.es.length xs/\CV.vals w e.S x.es.flatten xs/\∀ l∈x.es,l.length=x.k
 vecS:∀ (i:Nat) (x:Vec) (g:Nat),V[i]? = some x->x.live=true->aY (e.hdr i x.ver)=some g->¬e.S g
 vecbox:∀ (i:Nat) (x:Vec) (j:Nat) (b:Box) (g:Nat),V[i]? = some x->x.live=true->B[j]? = some b->b.live=true->aY (e.hdr i x.ver)=some g->e.ρ j≠g
 vecinj:∀ (i:Nat) (x:Vec) (j:Nat) (y:Vec) (g:Nat),V[i]? = some x->x.live=true->V[j]? = some y->y.live=true->aY (e.hdr i x.ver)=some g->aY (e.hdr j y.ver)=some g->i=j
 ro:∀ b:Nat,e.S b->b<w.heap.size
 below:Below (e.nb n0) w0 w
 base:n0<=w.heap.size
 bl:e.base<=n0/\(e.y=true->GW w0)
 hid:Hid e B V w
theorem Mem.nbase {n0:Nat} {w0:World} {e:Env} {B:List Box} {V:List Vec} {w:World} (h:Mem n0 w0 e B V w):e.nb n0<=w.heap.size:=Nat.le_trans (e.nb_le n0) h.base
theorem Mem.liveT {n0:Nat} {w0:World} {e:Env} {B:List Box} {V:List Vec} {w:World} (h:Mem n0 w0 e B V w) {i:Nat} {x:Vec} (hi:V[i]? = some x) (hl:x.live=true):x.T≠ghT:=by
 obtain ⟨xs,h1,_⟩:=h.vec i x hi hl;exact h1.ne
def SameG (V V':List Vec):Prop:=∀ (i:Nat) (x:Vec),V'[i]? = some x->x.T=ghT->∃ x0,V[i]? = some x0/\x0.T=ghT/\x0.es=x.es
theorem SameG.refl (V:List Vec):SameG V V:=fun _ x h1 h2=>⟨x,h1,h2,rfl⟩
theorem SameG.set {V:List Vec} {i:Nat} {y:Vec} (h:y.T≠ghT):SameG V (V.set i y):=by
 intro j x hx hT;grind
theorem SameG.app {V ds:List Vec} (h:∀ y∈ds,y.T≠ghT):SameG V (V++ds):=by
 intro j x hx hT;grind
section
variable {e e':Env} {B B':List Box} {V V':List Vec} {w w':World}
theorem Hid.new (h:Hid e B V w) {b:Nat} (hb:w.heap.size<=b):e.H b=none:=by
 cases ho:e.H b with
 | none=>rfl
 | some o =>
  have:=(Array.getElem?_eq_some_iff.1 (h.obj b o.1 o.2 ho)).1;omega
theorem Hid.of (h:Hid e B V w) (hH:e'.H=e.H) (hy:e'.y=e.y/\e'.base=e.base) (hS:∀ b,e'.S b->e.S b\/e.H b=none) (hG:SameG V V') (qf:∀ b,b<w.heap.size->e.H b≠none->w'.heap[b]? = w.heap[b]?)
  (hB:∀ (i:Nat) (b:Box),B'[i]? = some b->b.live=true->(∃ i' b',B[i']? = some b'/\b'.live=true/\e'.ρ i=e.ρ i')\/w.heap.size<=e'.ρ i)
  (hV:∀ (i:Nat) (x:Vec) (g:Nat),V'[i]? = some x->x.live=true->aY (e'.hdr i x.ver)=some g->(∃ i' x',V[i']? = some x'/\x'.live=true/\aY (e.hdr i' x'.ver)=some g)\/w.heap.size<=g):Hid e' B' V' w':=by
 refine ⟨fun b o f ho=>?_,fun i b hb hl=>?_,fun i x g hx hl hg=>?_,fun i x hx hT=>?_,fun b o hb=>?_⟩
 ·rw [hH] at ho
  have h1:=h.obj b o f ho;grind
 ·rw [hH]
  rcases hB i b hb hl with ⟨i',b',h1,h2,h3⟩ | h1
  ·rw [h3];exact h.box i' b' h1 h2
  ·exact h.new h1
 ·rw [hH]
  rcases hV i x g hx hl hg with ⟨i',x',h1,h2,h3⟩ | h1
  ·exact h.vec i' x' g h1 h2 h3
  ·exact h.new h1
 ·obtain ⟨x0,h1,h2,h3⟩:=hG i x hx hT
  rw [hy.1,hy.2,hH,<- h3];exact h.gh i x0 h1 h2
 ·rw [hH]
  rcases hS b hb with h1 | h1
  ·exact h.own b o h1
  grind
theorem Hid.keep (h:Hid e B V w) (hk:∀ b,b<w.heap.size->w'.heap[b]? = w.heap[b]?):Hid e B V w':=
 h.of rfl ⟨rfl,rfl⟩ (fun _ h=>.inl h) (SameG.refl V) (fun b hb _=>hk b hb) (fun i b hb hl=>.inl ⟨i,b,hb,hl,rfl⟩) (fun i x _ hx hl hg=>.inl ⟨i,x,hx,hl,hg⟩)
end
theorem yO {e:Env} {w w':World} {B:List Box} {V:List Vec} (h:∀ b,e.S b->w'.heap[b]? = w.heap[b]?) (hs:w.heap.size<=w'.heap.size) :
  Ext e w B.length (vers V) (kss V) e w' B.length (vers V) (kss V):=
 ⟨⟨fun _ hb=>hb,h⟩,fun _ _=>rfl,fun _ _ _ _=>rfl,Nat.le_refl _,Nat.le_refl _,fun _ _=>Nat.le_refl _,fun _ _=>rfl,hs,fun _ h=>.inl h,rfl,fun _=>rfl,rfl⟩
section
variable {n0:Nat} {w0:World} {e:Env} {B:List Box} {V:List Vec} {w w':World}
theorem Mem.lt_box (h:Mem n0 w0 e B V w) {i:Nat} {b:Box} (hb:B[i]? = some b) (hl:b.live=true):e.ρ i<w.heap.size:=by
 obtain ⟨vs,h1,_⟩:=h.box i b hb hl;grind
theorem Mem.keep (h:Mem n0 w0 e B V w) (hk:∀ b,b<w.heap.size->w'.heap[b]? = w.heap[b]?) (hs:w.heap.size<=w'.heap.size) (hb:Below (e.nb n0) w0 w'):Mem n0 w0 e B V w':=by
 have hx:Ext e w B.length (vers V) (kss V) e w' B.length (vers V) (kss V):=yO (fun b hb=>hk b (h.ro b hb)) hs
 refine ⟨fun i b hi hl=>?_,h.boxsc,h.boxlo,h.boxinj,fun i x hi hl=>?_,h.vecS,h.vecbox,h.vecinj,fun b hb=>Nat.lt_of_lt_of_le (h.ro b hb) hs,hb,Nat.le_trans h.base hs,h.bl,h.hid.keep hk⟩
 ·obtain ⟨vs,h1,h2⟩:=h.box i b hi hl
  exact ⟨vs,(hk _ (Array.getElem?_eq_some_iff.1 h1).1).trans h1,AV.all.mono hx _ _ (h.boxsc i b hi) h2⟩
 ·obtain ⟨xs,h1,h2,h3⟩:=h.vec i x hi hl
  exact ⟨xs,h1.keep fun g hg=>hk g (h1.lt g hg).2,CV.vals.mono hx.ro _ _ h2,h3⟩
theorem Mem.drew (h:Mem n0 w0 e B V w):Mem n0 w0 e B V w.drew:=h.keep (fun _ _=>rfl) (Nat.le_refl _) h.below.drew
theorem aAv:Ext e w B.length (vers V) (kss V) e w.drew B.length (vers V) (kss V):=yO (fun _ _=>rfl) (Nat.le_refl _)
theorem Mem.newBox (h:Mem n0 w0 e B V w) (T:TypeId) (cs:List AV) (vs:Array Value) (dj:AV.scos B.length (vers V) cs) (hv:AV.all e w (kss V) cs vs.toList) :
  ∃ e',Mem n0 w0 e' (B++[Box.mk true T cs]) V (w.alloc (.cells vs T)) /\
   Ext e w B.length (vers V) (kss V) e' (w.alloc (.cells vs T)) (B++[Box.mk true T cs]).length (vers V) (kss V)/\e'.ρ B.length=w.heap.size/\e'.S=e.S/\e'.hdr=e.hdr:=by
 let e':Env:={ e with ρ:=fun i=>if i=B.length then w.heap.size else e.ρ i }
 have hρ:∀ i,i<B.length->e'.ρ i=e.ρ i:=fun i hi=>by grind
 have hx:Ext e w B.length (vers V) (kss V) e' (w.alloc (.cells vs T)) (B++[Box.mk true T cs]).length (vers V) (kss V):=
  ⟨⟨fun _ hb=>hb,fun b hb=>heap_alloc_old w _ (h.ro b hb)⟩,hρ,fun _ _ _ _=>rfl,by simp,Nat.le_refl _,fun _ _=>Nat.le_refl _,fun _ _=>rfl,by simp,fun _ h=>.inl h,rfl,fun _=>rfl,rfl⟩
 have aj:e'.ρ B.length=w.heap.size:=by grind
 have ae:∀ (i:Nat) (b:Box),(B++[Box.mk true T cs])[i]? = some b->(i<B.length/\B[i]? = some b)\/(i=B.length/\b=Box.mk true T cs):=by
  grind
 refine ⟨e',⟨?_,?_,?_,?_,?_,?_,?_,?_,?_,?_,?_,h.bl,h.hid.of rfl ⟨rfl,rfl⟩ (fun _ h=>.inl h) (SameG.refl V) (fun b hb _=>heap_alloc_old w _ hb) (fun i b hb hl=>?_) (fun i x g hi hl hg=>.inl ⟨i,x,hi,hl,hg⟩)⟩,hx,aj,rfl,rfl⟩
 rotate_left 11
 ·grind
 ·intro i b hb hl
  rcases ae i b hb with ⟨hi,hb⟩ | ⟨rfl,rfl⟩
  ·obtain ⟨us,h1,h2⟩:=h.box i b hb hl
   refine ⟨us,?_,AV.all.mono hx _ _ (h.boxsc i b hb) h2⟩;grind [heap_alloc_old]
  ·exact ⟨vs,by rw [aj];exact heap_alloc_new w _,AV.all.mono hx _ _ dj hv⟩
 ·intro i b hb
  rcases ae i b hb with ⟨hi,hb⟩ | ⟨rfl,rfl⟩
  ·exact hx.scos (h.boxsc i b hb)
  ·exact hx.scos dj
 ·intro i b hb hl
  rcases ae i b hb with ⟨hi,hb⟩ | ⟨rfl,rfl⟩
  ·rw [hρ i hi];exact h.boxlo i b hb hl
  ·rw [aj];exact ⟨h.base,fun hc=>Nat.lt_irrefl _ (h.ro _ hc)⟩
 ·intro i j b b' hb cd hl gl iy
  rcases ae i b hb with ⟨hi,hb⟩ | ⟨rfl,rfl⟩ <;> rcases ae j b' cd with ⟨hj,cd⟩ | ⟨rfl,rfl⟩
  ·rw [hρ i hi,hρ j hj] at iy;exact h.boxinj i j b b' hb cd hl gl iy
  ·rw [hρ i hi,aj] at iy;have:=h.lt_box hb hl;omega
  ·rw [hρ j hj,aj] at iy;have:=h.lt_box cd gl;omega
  ·rfl
 ·intro i x hi hl
  obtain ⟨xs,h1,h2,h3⟩:=h.vec i x hi hl;exact ⟨xs,h1.keep fun g hg=>heap_alloc_old w _ (h1.lt g hg).2,CV.vals.mono hx.ro _ _ h2,h3⟩
 ·exact h.vecS
 ·intro i x j b g hi hl hb ku hg
  rcases ae j b hb with ⟨hj,hb⟩ | ⟨rfl,rfl⟩
  ·rw [hρ j hj];exact h.vecbox i x j b g hi hl hb ku hg
  ·obtain ⟨xs,h1,h2,h3⟩:=h.vec i x hi hl
   have:=(h1.lt g hg).2;omega
 ·exact h.vecinj
 ·intro b hb;have:=h.ro b hb;simp;omega
 ·exact h.below.alloc h.nbase _
 ·have:=h.base;simp;omega
theorem Mem.setBox (h:Mem n0 w0 e B V w) {i:Nat} {b:Box} (hb:B[i]? = some b) (hl:b.live=true) (cs':List AV) (vs':Array Value)
  (dj:AV.scos B.length (vers V) cs') (hv:AV.all e w (kss V) cs' vs'.toList) :
  Mem n0 w0 e (B.set i { b with cs:=cs' }) V (w.setRow (e.ρ i) vs') /\
   Ext e w B.length (vers V) (kss V) e (w.setRow (e.ρ i) vs') (B.set i { b with cs:=cs' }).length (vers V) (kss V):=by
 obtain ⟨us,A4,Im⟩:=h.box i b hb hl
 have gt:∀ k,k≠e.ρ i->(w.setRow (e.ρ i) vs').heap[k]? = w.heap[k]?:=by
  grind [World.setRow]
 have xy:(w.setRow (e.ρ i) vs').heap[e.ρ i]? = some (.cells vs' b.T (0,0)):=by
  grind [World.setRow]
 have gu:(w.setRow (e.ρ i) vs').heap.size=w.heap.size:=by simp
 have hx:Ext e w B.length (vers V) (kss V) e (w.setRow (e.ρ i) vs') (B.set i { b with cs:=cs' }).length (vers V) (kss V):=
  ⟨⟨fun _ hb=>hb,fun k hk=>gt k fun hc=>(h.boxlo i b hb hl).2 (hc▸hk)⟩,fun _ _=>rfl,fun _ _ _ _=>rfl,by simp,Nat.le_refl _,fun _ _=>Nat.le_refl _,fun _ _=>rfl,by omega,fun _ h=>.inl h,rfl,fun _=>rfl,rfl⟩
 have ae:∀ (j:Nat) (c:Box),(B.set i { b with cs:=cs' })[j]? = some c->(j≠i/\B[j]? = some c)\/(j=i/\c={ b with cs:=cs' }):=by
  grind
 have gy:∀ (j:Nat) (c:Box),(B.set i { b with cs:=cs' })[j]? = some c->∃ c0:Box,B[j]? = some c0/\c0.live=c.live:=by
  grind
 refine ⟨⟨?_,?_,?_,?_,?_,?_,?_,?_,?_,?_,?_,h.bl,h.hid.of rfl ⟨rfl,rfl⟩ (fun _ h=>.inl h) (SameG.refl V) (fun k _ hk=>gt k fun hc=>hk (hc▸h.hid.box i b hb hl)) (fun j c hc hl=>?_) (fun j x g hj hl hg=>.inl ⟨j,x,hj,hl,hg⟩)⟩,hx⟩
 rotate_left 11
 ·grind
 ·intro j c hc bw
  rcases ae j c hc with ⟨bY,hc⟩ | ⟨rfl,rfl⟩
  ·obtain ⟨ys,h1,h2⟩:=h.box j c hc bw
   refine ⟨ys,?_,AV.all.mono hx _ _ (h.boxsc j c hc) h2⟩;rw [gt _ fun gc=>bY (h.boxinj j i c b hc hb bw hl gc)]
   exact h1
  ·exact ⟨vs',xy,AV.all.mono hx _ _ dj hv⟩
 ·intro j c hc
  rcases ae j c hc with ⟨bY,hc⟩ | ⟨rfl,rfl⟩
  ·exact hx.scos (h.boxsc j c hc)
  grind
 ·intro j c hc bw
  obtain ⟨c0,h1,h2⟩:=gy j c hc;exact h.boxlo j c0 h1 (h2.trans bw)
 ·intro j k c d hc hd bw qg iy
  obtain ⟨c0,h1,h2⟩:=gy j c hc;obtain ⟨d0,h3,h4⟩:=gy k d hd;exact h.boxinj j k c0 d0 h1 h3 (h2.trans bw) (h4.trans qg) iy
 ·intro j x hj lx
  obtain ⟨xs,h1,h2,h3⟩:=h.vec j x hj lx;exact ⟨xs,h1.keep fun g hg=>gt g fun hc=>h.vecbox j x i b g hj lx hb hl hg hc.symm,CV.vals.mono hx.ro _ _ h2,h3⟩
 ·exact h.vecS
 ·intro j x k c g hj lx hc bw hg
  obtain ⟨c0,h1,h2⟩:=gy k c hc;exact h.vecbox j x k c0 g hj lx h1 (h2.trans bw) hg
 ·exact h.vecinj
 ·intro k hk;rw [gu];exact h.ro k hk
 ·refine h.below.trans ⟨rfl,rfl,rfl,by omega,fun k hk=>gt k ?_⟩
  have:=(h.boxlo i b hb hl).1;have:=e.nb_le n0;omega
 ·rw [gu];exact h.base
end
end
end Go.Sx
namespace Go.Sx
open Go Go.RowKit
variable [G:Ghost]
section
variable {P:Program}
theorem OwnsV.base {w:World} {b b':Nat} {e:TypeId} {k:Nat} {v:Value} {n:Nat} {xs:List Value} (h:OwnsV w b e k v n xs) (hb:b'<=b):OwnsV w b' e k v n xs:=by
 rcases h with ⟨hT,h | ⟨h,g,h1,h2⟩⟩ | ⟨h0,g,arr,c,h1,h2,h3⟩
 ·exact .inl ⟨hT,.inl h⟩
 ·refine .inl ⟨hT,.inr ⟨⟨h.1,?_⟩,g,h1,h2⟩⟩
  rcases h.2 with h | ⟨g,cap,cur,h1,h2,h3⟩
  ·grind
  ·exact .inr ⟨g,cap,cur,h1,Nat.le_trans hb h2,h3⟩
 ·exact .inr ⟨h0,g,arr,c,h1,Nat.le_trans hb h2,h3⟩
theorem RR (w:World) (base:Nat) (t ty e:TypeId) (i:TypeInfo) (z:Value) (size bytes:Nat) (ht:P.underlying t=some (.slice e)) (hi:P.info? e=some i) (hz:i.zero=some z)
  (gu:i.size=size) (xc:i.bytes=bytes) (ub:z.cells.size=size) (cn:0<size)
  (v:Value) (n:Nat) (xs:List Value) (au:OwnsS w base e size v n xs) (hT:e<bE)
  (ao:Option Addr) (m c:Nat) (news:List Value) (hl:news.length=m*size) (In:ao=none->m=0) (iz:∀ a,ao=some a->∀ j u,news[j]? = some u->w.cell? (a.add j)=some u) (h1:∀ u∈news,u.oneCell'=true)
  (Cb:n+m<=maxLen) (jf:(n+m)*bytes<=140737488355328) (iF:base<=w.heap.size) :
  ∃ v' w',(Builtin.append_ #[t,t] ty #[v,.slice ao m c]).run P w=.ok v' w'/\OwnsV w' base e size v' (n+m) (xs++news)/\w.grownBy w' (aY v) /\
   (aY v'=aY v\/∀ g,aY v'=some g->w.heap.size<=g):=by
 by_cases hm:m=0
 ·subst hm
  have hn:news=[]:=by grind
  obtain ⟨a,cp,rfl,bt,_⟩:=au.slice;refine ⟨.slice a n cp,w,?_,by grind [OwnsV],⟨rfl,rfl,rfl,Nat.le_refl _,fun _ _ _=>rfl⟩,.inl rfl⟩
  cases ao <;> cases a <;> simp [Builtin.append_,run_underlying ht,sizeOf,typeInfo,hi,Builtin.lenOf,Builtin.firstCells,bt,storeCells,loadCells,loadCellsFrom]
 ·obtain ⟨a,rfl⟩:∃ a,ao=some a:=by
   cases ao with
   | none=>grind
   | some a=>simp
  have iz:=iz a rfl
  have fresh:∀ (cp:Nat) (olds:List Value),xs=olds->n+m<=maxLen->cp<n+m->olds.length=n*i.size ->
    OwnsV (w.drew.alloc (.cells (olds.toArray++news.toArray++Builtin.zeroCells z.cells (grownCap w (n+m) cp e - (n+m))) e)) base e size (.slice (some ⟨w.heap.size,0,none⟩) (n+m) (grownCap w (n+m) cp e)) (n+m) (xs++news):=by
   intro cp olds hx Cb M6 holds;subst gu;have Gq:=grownCap_ge w (n+m) cp e;have fq:grownCap w (n+m) cp e<=maxLen:=grownCap_le_maxLen w (n+m) cp e Cb;refine OwnsV.of_row hT ⟨by grind,.inr ⟨w.heap.size,_,_,rfl,iF,heap_alloc_new w.drew _,Gq,fq,?_,?_⟩⟩
   ·simp [size_zeroCells,ub,holds,hl,<- Nat.add_mul]
    grind
   grind [Nat.add_mul]
  have uc:∀ (o:Obj) (row:Option Nat),w.grownBy (w.drew.alloc o) row:=fun o row=>⟨rfl,rfl,rfl,by simp,fun k hk _=>heap_alloc_old w.drew _ hk⟩
  have na:∀ (nn:Nat) (cc:Nat) (g:Nat),aY (.slice (some ⟨w.heap.size,0,none⟩) nn cc)=some g->w.heap.size<=g:=by
   intro nn cc g hg;cases cc <;> simp [aY] at hg;omega
  rcases au with ⟨a0,rfl,rfl,rfl⟩ | ⟨au,g,xd,A6⟩
  ·cases a0 with
   | none =>
    have hr:=run_append_nil (P:=P) w t ty e i z ht hi hz a m c news (by grind) iz (by omega) (by grind [maxLen]) (by grind)
    grind
   | some b0 =>
    have hr:=run_append_grow (P:=P) w t ty e i z ht hi hz b0 0 0 [] (by simp) (by simp) a m c news (by grind) iz (by omega) (by grind [maxLen]) (by rw [xc];exact growslice_fits (by omega) jf)
    grind
  ·rcases au.2 with ⟨rfl,rfl⟩ | ⟨g',cap,cur,rfl,M7,hg,Gr,fq,bc,xz⟩
   ·grind [aY]
   ·obtain rfl:g'=g:=by grind [Value.ownBlock]
    by_cases x5:n+m<=cap
    ·obtain ⟨w',hr,ho,Gs⟩:=run_append_fits (P:=P) w base t ty e i size ht hi gu g' n cap xs au a m c news hl iz h1 x5
     have qh:aY (.slice (some ⟨g',0,none⟩) (n+m) cap)=some g':=by cases cap <;> simp_all [aY]
     exact ⟨_,w',hr,.inl ⟨hT,.inr ⟨ho,g',qh,rfl⟩⟩,by grind,.inl (by grind)⟩
    ·have holds:∀ j u,xs[j]? = some u->w.cell? ((⟨g',0,none⟩:Addr).add j)=some u:=au.cells (g:=g') rfl
     have hr:=run_append_grow (P:=P) w t ty e i z ht hi hz ⟨g',0,none⟩ n cap xs (by rw [gu];exact au.1) holds a m c news (by grind) iz (by omega) (by grind [maxLen]) (by rw [xc];exact growslice_fits (by omega) jf)
     exact ⟨_,_,hr,fresh cap xs rfl Cb (by omega) (by rw [gu];exact au.1),uc _ _,.inr (na _ _)⟩
end
section
variable {n0:Nat} {w0:World} {e:Env} {B:List Box} {V:List Vec} {w w':World}
end
section
variable {n0:Nat} {w0:World} {e:Env} {B:List Box} {V:List Vec} {w w':World}
variable {i:Nat} {x:Vec}
theorem aGD {V:List Vec} (h:V[i]? = some x):(vers V).getD i 0=x.ver:=by grind
theorem aAw {V:List Vec} (h:V[i]? = some x):(kss V).getD i 0=x.k:=by grind
theorem Mem.vecStep (h:Mem n0 w0 e B V w) (hi:V[i]? = some x) (hl:x.live=true) (v':Value) (es':List (List CV)) (xs':List Value)
  (au:OwnsV w' n0 x.T x.k v' es'.length xs') (bu:CV.vals w e.S es'.flatten xs') (hk:∀ l∈es',l.length=x.k)
  (hg:w.grownBy w' (aY (e.hdr i x.ver))) (di:aY v'=aY (e.hdr i x.ver)\/∀ g,aY v'=some g->w.heap.size<=g) :
  ∃ e',Mem n0 w0 e' B (V.set i { x with ver:=x.ver+1,es:=es' }) w' /\
   Ext e w B.length (vers V) (kss V) e' w' B.length (vers (V.set i { x with ver:=x.ver+1,es:=es' })) (kss (V.set i { x with ver:=x.ver+1,es:=es' })) /\
   e'.hdr i (x.ver+1)=v'/\e'.ρ=e.ρ/\e'.S=e.S:=by
 let e':Env:={ e with hdr:=fun j u=>if j=i/\u=x.ver+1 then v' else e.hdr j u }
 have aj:e'.hdr i (x.ver+1)=v':=by grind
 have kw:∀ b,e.S b->w'.heap[b]? = w.heap[b]?:=fun b hb=>hg.block b (h.ro b hb) fun hc=>h.vecS i x b hi hl hc.symm hb
 have hx:Ext e w B.length (vers V) (kss V) e' w' B.length (vers (V.set i { x with ver:=x.ver+1,es:=es' })) (kss (V.set i { x with ver:=x.ver+1,es:=es' })):=by
  refine ⟨⟨fun _ hb=>hb,kw⟩,fun _ _=>rfl,fun j u hj hu=>?_,Nat.le_refl _,by simp,fun j hj=>?_,fun j hj=>?_,hg.size,fun _ h=>.inl h,rfl,fun _=>rfl,rfl⟩
  ·grind
  ·grind
  grind
 have cw:∀ (j:Nat) (y:Vec),(V.set i { x with ver:=x.ver+1,es:=es' })[j]? = some y->y.live=true ->
   (j≠i/\V[j]? = some y/\e'.hdr j y.ver=e.hdr j y.ver)\/(j=i/\y={ x with ver:=x.ver+1,es:=es' }/\e'.hdr j y.ver=v'):=by
  grind
 refine ⟨e',⟨?_,?_,?_,?_,?_,?_,?_,?_,?_,?_,?_,h.bl,h.hid.of rfl ⟨rfl,rfl⟩ (fun _ h=>.inl h) (SameG.set (show x.T≠ghT from h.liveT hi hl)) (fun b cd kc=>hg.block b cd fun hc=>kc (h.hid.vec i x b hi hl hc.symm)) (fun i b hb hl=>.inl ⟨i,b,hb,hl,rfl⟩) (fun j y g hj aq cq=>?_)⟩,hx,aj,rfl,rfl⟩
 rotate_left 11
 ·grind
 ·intro j b hb bo
  obtain ⟨vs,a1,a2⟩:=h.box j b hb bo;refine ⟨vs,(hg.block _ (Array.getElem?_eq_some_iff.1 a1).1 fun hc=>?_).trans a1,AV.all.mono hx _ _ (h.boxsc j b hb) a2⟩
  exact h.vecbox i x j b _ hi hl hb bo hc.symm rfl
 ·intro j b hb;exact hx.scos (h.boxsc j b hb)
 ·exact h.boxlo
 ·exact h.boxinj
 ·intro j y hy aq
  rcases cw j y hy aq with ⟨bY,hy,he⟩ | ⟨rfl,rfl,he⟩
  ·obtain ⟨ys,a1,a2,a3⟩:=h.vec j y hy aq
   refine ⟨ys,?_,CV.vals.mono hx.ro _ _ a2,a3⟩;rw [he];exact a1.keep fun g qh=>hg.block g (a1.lt g qh).2 fun hc=>bY (h.vecinj j y i x g hy aq hi hl qh hc.symm)
  ·exact ⟨xs',by grind,CV.vals.mono hx.ro _ _ bu,hk⟩
 ·intro j y g hy aq cq
  rcases cw j y hy aq with ⟨bY,hy,he⟩ | ⟨rfl,rfl,he⟩
  ·rw [he] at cq;exact h.vecS j y g hy aq cq
  ·rw [he] at cq
   intro hc;rcases di with di | di
   ·rw [di] at cq;exact h.vecS j x g hi hl cq hc
   ·have:=di g cq;have:=h.ro g hc;omega
 ·intro j y k b g hy aq hb bo cq
  rcases cw j y hy aq with ⟨bY,hy,he⟩ | ⟨rfl,rfl,he⟩
  ·rw [he] at cq;exact h.vecbox j y k b g hy aq hb bo cq
  ·rw [he] at cq
   rcases di with di | di
   ·rw [di] at cq;exact h.vecbox j x k b g hi hl hb bo cq
   ·have:=h.lt_box hb bo
    grind
 ·intro j y k z g hy aq hz eu cq kg
  have fresh:∀ (j:Nat) (y:Vec),V[j]? = some y->y.live=true->∀ g,aY (e.hdr j y.ver)=some g->g<w.heap.size:=by
   intro j y hy aq g eg;obtain ⟨ys,a1,_⟩:=h.vec j y hy aq;exact (a1.lt g eg).2
  rcases cw j y hy aq with ⟨bY,kx,he⟩ | ⟨i7,M8,he⟩ <;> rcases cw k z hz eu with ⟨qi,f9,ga⟩ | ⟨Gt,M9,ga⟩
  ·rw [he] at cq;rw [ga] at kg;exact h.vecinj j y k z g kx aq f9 eu cq kg
  ·rw [he] at cq;rw [ga] at kg
   rcases di with di | di
   ·rw [di] at kg;exact (bY (h.vecinj j y i x g kx aq hi hl cq kg)).elim
   grind
  ·rw [he] at cq;rw [ga] at kg
   rcases di with di | di
   ·rw [di] at cq;exact (qi (h.vecinj k z i x g f9 eu hi hl kg cq)).elim
   grind
  omega
 ·intro b hb;exact Nat.lt_of_lt_of_le (h.ro b hb) hg.size
 ·refine h.below.grown hg h.nbase fun k hk=>?_
  obtain ⟨ys,a1,_⟩:=h.vec i x hi hl;exact Nat.le_trans (e.nb_le n0) (a1.lt k hk).1
 ·exact Nat.le_trans h.base hg.size
theorem Mem.newVec (h:Mem n0 w0 e B V w) (T:TypeId) (k:Nat) (v':Value) (es':List (List CV)) (xs':List Value)
  (au:OwnsV w' n0 T k v' es'.length xs') (bu:CV.vals w e.S es'.flatten xs') (hk:∀ l∈es',l.length=k)
  (hg:w.grownBy w' none) (di:∀ g,aY v'=some g->w.heap.size<=g) :
  ∃ e',Mem n0 w0 e' B (V++[Vec.mk true T k 0 es']) w' /\
   Ext e w B.length (vers V) (kss V) e' w' B.length (vers (V++[Vec.mk true T k 0 es'])) (kss (V++[Vec.mk true T k 0 es'])) /\
   e'.hdr V.length 0=v'/\e'.ρ=e.ρ/\e'.S=e.S:=by
 let e':Env:={ e with hdr:=fun j u=>if j=V.length then v' else e.hdr j u }
 have nd:∀ j u,j<V.length->e'.hdr j u=e.hdr j u:=by
  grind
 have aj:∀ u,e'.hdr V.length u=v':=by grind
 have ez:∀ b,b<w.heap.size->w'.heap[b]? = w.heap[b]?:=fun b hb=>hg.block b hb (by simp)
 have ae:∀ (j:Nat) (y:Vec),(V++[Vec.mk true T k 0 es'])[j]? = some y->(j<V.length/\V[j]? = some y/\e'.hdr j y.ver=e.hdr j y.ver)\/(j=V.length/\y=Vec.mk true T k 0 es'/\e'.hdr j y.ver=v'):=by
  grind
 have hx:Ext e w B.length (vers V) (kss V) e' w' B.length (vers (V++[Vec.mk true T k 0 es'])) (kss (V++[Vec.mk true T k 0 es'])):=by
  refine ⟨⟨fun _ hb=>hb,fun b hb=>ez b (h.ro b hb)⟩,fun _ _=>rfl,fun j u hj hu=>nd j u (by grind),Nat.le_refl _,by simp,fun j hj=>?_,fun j hj=>?_,hg.size,fun _ h=>.inl h,rfl,fun _=>rfl,rfl⟩
  ·grind
  grind
 have ek:∀ (j:Nat) (y:Vec),V[j]? = some y->y.live=true->∀ g,aY (e.hdr j y.ver)=some g->g<w.heap.size:=by
  intro j y hy aq g eg;obtain ⟨ys,a1,_⟩:=h.vec j y hy aq;exact (a1.lt g eg).2
 refine ⟨e',⟨?_,?_,h.boxlo,h.boxinj,?_,?_,?_,?_,?_,?_,?_,h.bl,h.hid.of rfl ⟨rfl,rfl⟩ (fun _ h=>.inl h) (SameG.app (by simp only [List.mem_singleton];rintro y rfl;exact au.ne)) (fun b cd _=>ez b cd) (fun i b hb hl=>.inl ⟨i,b,hb,hl,rfl⟩) (fun j y g hj aq cq=>?_)⟩,hx,aj 0,rfl,rfl⟩
 rotate_left 9
 ·grind
 ·intro j b hb bo
  obtain ⟨vs,a1,a2⟩:=h.box j b hb bo;exact ⟨vs,(ez _ (Array.getElem?_eq_some_iff.1 a1).1).trans a1,AV.all.mono hx _ _ (h.boxsc j b hb) a2⟩
 ·intro j b hb;exact hx.scos (h.boxsc j b hb)
 ·intro j y hy aq
  rcases ae j y hy with ⟨hj,hy,he⟩ | ⟨rfl,rfl,he⟩
  ·obtain ⟨ys,a1,a2,a3⟩:=h.vec j y hy aq
   refine ⟨ys,?_,CV.vals.mono hx.ro _ _ a2,a3⟩;rw [he];exact a1.keep fun g qh=>ez g (a1.lt g qh).2
  ·exact ⟨xs',by grind,CV.vals.mono hx.ro _ _ bu,hk⟩
 ·intro j y g hy aq cq
  rcases ae j y hy with ⟨hj,hy,he⟩ | ⟨rfl,rfl,he⟩
  ·rw [he] at cq;exact h.vecS j y g hy aq cq
  ·rw [he] at cq
   intro hc;have:=di g cq;have:=h.ro g hc;omega
 ·intro j y l b g hy aq hb bo cq
  rcases ae j y hy with ⟨hj,hy,he⟩ | ⟨rfl,rfl,he⟩
  ·rw [he] at cq;exact h.vecbox j y l b g hy aq hb bo cq
  ·have:=h.lt_box hb bo
   grind
 ·intro j y l z g hy aq hz eu cq kg
  rcases ae j y hy with ⟨bY,hy,he⟩ | ⟨rfl,rfl,he⟩ <;> rcases ae l z hz with ⟨qi,hz,ga⟩ | ⟨rfl,rfl,ga⟩
  ·rw [he] at cq;rw [ga] at kg;exact h.vecinj j y l z g hy aq hz eu cq kg
  ·grind
  ·grind
  ·rfl
 ·intro b hb;exact Nat.lt_of_lt_of_le (h.ro b hb) hg.size
 ·exact h.below.grown hg h.nbase fun k hk=>by cases hk
 ·exact Nat.le_trans h.base hg.size
end
inductive TK where
 | strct (fs:List (Nat×Nat))
 | arr (n e k:Nat)
 | slc (e k bytes:Nat)
 | bool
 | int (k:IntKind)
 | ptr (e:Nat)
 | other
structure TI where
 size:Nat
 zero:List Value
 kind:TK
def aGK:TypeDesc->Bool
 | .slice e=>decide (e<bE)
 | _=>true
def aZ (P:Program) (T:TypeId):Option TI:=
 match P.info? T,P.underlying T with
 | some i,some d=>if aGK d=true then some (TI.mk i.size (match i.zero with | some z=>z.cells.toList | none=>[])
   (match d with
    | .struct fs=>.strct (fs.toList.map fun f=>(f.offset,P.cellsOf f.type))
    | .array n e=>.arr n e (P.cellsOf e)
    | .slice e=>.slc e (P.cellsOf e) (P.bytesOf e)
    | .bool=>.bool
    | .int k=>.int k
    | .pointer e=>.ptr e
    | _=>.other)) else none
 | _,_=>none
def TK.agg:TK->Bool
 | .strct _=>true
 | .arr _ _ _=>true
 | _=>false
structure St where
 t:List AV
 B:List Box
 V:List Vec
def yP (v:Value):AV:=if v.oneCell' then .cv (.val v) else .any
def St.ev (st:St):Operand->AV
 | .tmp t=>st.t.getD t .any
 | .const v=>yP v
 | .global _=>.any
 | .func f=>.cv (.fn f [])
def St.put (st:St) (dst:Option Nat) (x:AV) (B:List Box) (V:List Vec):St:=
 ⟨match dst with | some d=>st.t.set d x | none=>st.t,B,V⟩
structure Rel (n0:Nat) (w0:World) (e:Env) (st:St) (a:Act) (w:World):Prop where
 tm:AV.all e w (kss st.V) st.t a.tmps.toList
 sc:AV.scos st.B.length (vers st.V) st.t
 mem:Mem n0 w0 e st.B st.V w
abbrev cL (e:Env) (st:St) (w:World) (e':Env) (B':List Box) (V':List Vec) (w':World):Prop:=
 Ext e w st.B.length (vers st.V) (kss st.V) e' w' B'.length (vers V') (kss V')
theorem Rel.ev {n0:Nat} {w0:World} {e:Env} {st:St} {a:Act} {w:World} (h:Rel n0 w0 e st a w) (x:Operand) :
  AV.holds e w (kss st.V) (st.ev x) (a.eval x)/\AV.sco st.B.length (vers st.V) (st.ev x):=by
 cases x with
 | tmp t =>
  simp [St.ev,Act.eval];cases hx:st.t[t]? with
  | none=>simp [AV.holds,AV.sco]
  | some x =>
   obtain ⟨v,h1,h2⟩:=h.tm.get hx;refine ⟨?_,AV.scos_get h.sc hx⟩;simp_all
 | const v =>
  grind [St.ev,Act.eval,yP,AV.holds,AV.sco,CV.holds]
 | global g=>simp [St.ev,AV.holds,AV.sco]
 | func f=>simp [St.ev,Act.eval,AV.holds,AV.sco,CV.holds,CV.vals]
theorem Rel.put {n0:Nat} {w0:World} {e e':Env} {st:St} {a:Act} {w w':World} (h:Rel n0 w0 e st a w) {B':List Box} {V':List Vec} {x:AV} {v:Value}
  (hm:Mem n0 w0 e' B' V' w') (hx:cL e st w e' B' V' w') (hv:AV.holds e' w' (kss V') x v) (hs:AV.sco B'.length (vers V') x) (dst:Option Nat) :
  Rel n0 w0 e' (st.put dst x B' V') (a.put dst v) w':=by
 have h1:=AV.all.mono hx _ _ h.sc h.tm;have h2:=hx.scos h.sc;cases dst with
 | none=>exact ⟨h1,h2,hm⟩
 | some d =>
  refine ⟨?_,?_,hm⟩
  ·simp [Act.put]
   exact h1.set d hv
  grind [St.put,AV.scos_iff]
def Step (P:Program) (o:Oper) (st:St) (av:AV) (B':List Box) (V':List Vec):Prop:=
 ∀ n0 w0 e a w,Rel n0 w0 e st a w->∃ nx v w' e',(execOp a.eval o).run P w=.ok nx w'/\(nx=.value v\/(nx=.skip/\v=undef)) /\
  Mem n0 w0 e' B' V' w'/\cL e st w e' B' V' w'/\AV.holds e' w' (kss V') av v/\AV.sco B'.length (vers V') av
theorem Step.pure {P:Program} {o:Oper} {st:St} {av:AV} (h:∀ n0 w0 e a w,Rel n0 w0 e st a w->∃ v,(execOp a.eval o).run P w=.ok (.value v) w/\AV.holds e w (kss st.V) av v/\AV.sco st.B.length (vers st.V) av) :
  Step P o st av st.B st.V:=fun n0 w0 e a w hr =>
 let ⟨v,h1,h2,h3⟩:=h n0 w0 e a w hr
 ⟨_,v,w,e,h1,.inl rfl,hr.mem,Ext.refl _ _ _ _ _,h2,h3⟩
section
variable {P:Program}
variable {T:TypeId} {ti:TI}
theorem fA (h:aZ P T=some ti):∃ i d,P.info? T=some i/\P.underlying T=some d/\i.size=ti.size /\
  ti.zero=(match i.zero with | some z=>z.cells.toList | none=>[])/\ti.kind=(match d with
    | .struct fs=>TK.strct (fs.toList.map fun f=>(f.offset,P.cellsOf f.type))
    | .array n e=>.arr n e (P.cellsOf e)
    | .slice e=>.slc e (P.cellsOf e) (P.bytesOf e)
    | .bool=>.bool
    | .int k=>.int k
    | .pointer e=>.ptr e
    | _=>.other):=by
 unfold aZ at h;grind
theorem aC4 {e:TypeId} (h:aZ P T=some ti) (hu:P.underlying T=some (.slice e)):e<bE:=by
 unfold aZ at h;rw [hu] at h;split at h
 ·rename_i i d h1 h2
  cases h2;split at h
  ·rename_i hc;exact of_decide_eq_true hc
  grind
 grind
theorem run_sizeOf (h:aZ P T=some ti) (w:World):(sizeOf T).run P w=.ok ti.size w:=by
 obtain ⟨i,d,h1,h2,h3,_⟩:=fA h;simp_all [sizeOf,typeInfo]
theorem qP (h:aZ P T=some ti) (w:World):(isAgg T).run P w=.ok ti.kind.agg w:=by
 obtain ⟨i,d,h1,h2,_,_,h5⟩:=fA h;unfold isAgg;rw [Sem.run_bind,run_underlying h2,h5];cases d <;> simp [TK.agg]
theorem EK (h:aZ P T=some ti) (hz:ti.zero≠[]) (w:World):∃ z,(zeroValue T).run P w=.ok z w/\z.cells.toList=ti.zero:=by
 obtain ⟨i,d,h1,h2,_,h4,_⟩:=fA h;cases hi:i.zero with
 | none=>grind
 | some z=>simp_all [zeroValue,typeInfo]
end
def AV.cells:AV->Option (List AV)
 | .agg cs=>some cs
 | .cv c=>some [.cv c]
 | .ptr i o=>some [.ptr i o]
 | .own i u=>some [.own i u]
 | .fn f cs=>some [.fn f cs]
 | _=>none
def AV.one:AV->Bool
 | .cv _=>true
 | .ptr _ _=>true
 | .own _ _=>true
 | .fn _ _=>true
 | _=>false
section
variable {P:Program}
def fW (P:Program) (st:St) (T:TypeId) (x:AV):Option AV:=
 match aZ P T with
 | none=>none
 | some ti =>
  match x with
  | .ptr i off =>
   match st.B[i]? with
   | some b=>if b.live then (if ti.kind.agg then (if off+ti.size<=b.cs.length then some (.agg ((b.cs.drop off).take ti.size)) else none) else b.cs[off]?) else none
   | none=>none
  | .cv (.ref cs)=>if ti.kind.agg then (if ti.size<=cs.length then some (.agg ((cs.take ti.size).map .cv)) else none) else (cs[0]?).map .cv
  | .opt i u el o =>
   match st.V[i]? with
   | some v=>if v.sl&&v.ver == u then (match v.es[el]? with
     | some l=>if ti.kind.agg then (if o+ti.size<=l.length then some (.agg (((l.drop o).take ti.size).map .cv)) else none) else (l[o]?).map .cv
     | none=>none) else none
   | none=>none
  | _=>none
theorem addr_add (b o n:Nat):(⟨b,o,none⟩:Addr).add n=⟨b,o+n,none⟩:=by unfold Addr.add;simp
variable {T:TypeId}
theorem jY {ti:TI} (ai:aZ P T=some ti) (w:World) (b o:Nat) (vs:List Value) (hc:∀ j v,vs[j]? = some v->w.cell? ⟨b,o+j,none⟩=some v) :
  (ti.kind.agg=true->ti.size<=vs.length->(loadVar T ⟨b,o,none⟩).run P w=.ok (.agg (vs.take ti.size).toArray) w) /\
  (ti.kind.agg=false->∀ v,vs[0]? = some v->(loadVar T ⟨b,o,none⟩).run P w=.ok v w):=by
 constructor
 ·intro ha hs
  have hl:=run_loadCells_list (P:=P) w ⟨b,o,none⟩ (vs.take ti.size) (fun j v hj=>by
   grind [addr_add])
  simp_all [loadVar,qP,run_sizeOf]
 ·intro ha v hv
  have:=hc 0 v hv;simp_all [loadVar,qP]
variable {x:AV}
theorem rQ {st:St} {av:AV} (h:fW P st T x=some av) {n0:Nat} {w0:World} {e:Env} {a:Act} {w:World} (hr:Rel n0 w0 e st a w)
  {u:Value} (hu:AV.holds e w (kss st.V) x u):∃ v,(Instr.loadAt T u).run P w=.ok v w/\AV.holds e w (kss st.V) av v/\AV.sco st.B.length (vers st.V) av:=by
 unfold fW at h;cases ai:aZ P T with
 | none=>grind
 | some ti =>
  simp only [ai] at h;split at h
  ·rename_i i off
   split at h
   ·rename_i b hb
    split at h
    ·rename_i hl
     obtain ⟨vs,h1,h2⟩:=hr.mem.box i b hb hl;subst hu
     have hc:∀ j v,(vs.toList.drop off)[j]? = some v->w.cell? ⟨e.ρ i,off+j,none⟩=some v:=by
      grind [cell_of_row]
     have ag:=jY ai w (e.ρ i) off _ hc;split at h
     ·rename_i dv
      split at h
      ·injection h with h;subst h
       have ak:=h2.length;have:=ag.1 dv (by grind)
       refine ⟨_,by simpa [Instr.loadAt,Instr.sureAddr] using this,?_,?_⟩
       ·exact ⟨_,rfl,by simpa using (h2.drop off).take ti.size⟩
       ·simp [AV.sco,AV.scos_iff]
        intro y hy;exact (AV.scos_iff.1 (hr.mem.boxsc i b hb)) y (List.mem_of_mem_drop (List.mem_of_mem_take hy))
      grind
     ·obtain ⟨v,h3,h4⟩:=h2.get h
      exact ⟨v,by grind [Instr.loadAt,Instr.sureAddr],h4,AV.scos_get (hr.mem.boxsc i b hb) h⟩
    grind
   grind
  ·rename_i cs
   obtain ⟨b,o,rfl,hS,bc⟩:=hu;obtain ⟨vs,h1,h2,h3⟩:=bc.vals;have ag:=jY ai w b o vs h3;split at h
   ·rename_i dv
    split at h
    ·injection h with h;subst h
     have:=ag.1 dv (by omega)
     refine ⟨_,by simpa [Instr.loadAt,Instr.sureAddr] using this,?_,AV.scos_cv _ _ _⟩
     refine ⟨_,rfl,?_⟩;have:=(AV.all.of_vals (ks:=kss st.V) h1).take ti.size;simp_all
    grind
   ·cases Cc:cs[0]? with
    | none=>grind
    | some c =>
     have ct:=AV.all.of_vals (ks:=kss st.V) h1;obtain ⟨v,h4,h5⟩:=ct.get (i:=0) (x:=.cv c) (by grind)
     grind [Instr.loadAt,Instr.sureAddr,AV.sco]
  ·rename_i i u' el o
   split at h
   ·rename_i x hx
    split at h
    ·rename_i ly
     simp at ly;obtain ⟨cw,rfl⟩:=ly;have qj:=Vec.sl_T cw;replace cw:=Vec.sl_live cw;split at h
     ·rename_i l hl
      obtain ⟨xs,a1,a2,a3⟩:=hr.mem.vec i x hx cw;obtain ⟨g,hg,rfl⟩:=hu;have Cd:el<x.es.length:=(List.getElem?_eq_some_iff.1 hl).1;have ce:=(a1.s qj).cells hg;have bj:=CV.rows.of_vals (b:=g) (o:=0) a3 a2 (fun j v hj=>by grind [addr_add])
      have ge:=(bj.get el Cd).2;obtain ⟨vs,h1,h2,h3⟩:=(ge.drop o).vals
      have Ce:∀ j v,vs[j]? = some v->w.cell? ⟨g,el*(kss st.V).getD i 0+o+j,none⟩=some v:=by
       grind
      have ag:=jY ai w g (el*(kss st.V).getD i 0+o) vs Ce;split at h
      ·rename_i dv
       split at h
       ·injection h with h;subst h
        have:=ag.1 dv (by grind)
        refine ⟨_,by simpa [Instr.loadAt,Instr.sureAddr] using this,?_,AV.scos_cv _ _ _⟩
        refine ⟨_,rfl,?_⟩;have:=(AV.all.of_vals (ks:=kss st.V) h1).take ti.size;simp_all
       grind
      ·cases Cc:l[o]? with
       | none=>grind
       | some c =>
        have ct:=AV.all.of_vals (ks:=kss st.V) h1;obtain ⟨v,h4,h5⟩:=ct.get (i:=0) (x:=.cv c) (by grind)
        grind [Instr.loadAt,Instr.sureAddr,AV.sco]
     grind
    grind
   grind
  grind
def splice (l:List AV) (off:Nat) (new:List AV):List AV:=l.take off++new++l.drop (off+new.length)
def fK (P:Program) (st:St) (T:TypeId) (x y:AV):Option (List Box×List Vec):=
 match aZ P T,x,y.cells with
 | some ti,.ptr i off,some new =>
  match st.B[i]? with
  | some b=>if b.live&&new.length == ti.size&&decide (off+new.length<=b.cs.length)&&new.all AV.one then some (st.B.set i { b with cs:=splice b.cs off new },st.V) else none
  | none=>none
 | _,_,_=>none
variable {ks:List Nat}
theorem AV.one_holds {e:Env} {w:World}:∀ {x:AV} {v:Value},AV.one x=true->AV.holds e w ks x v->v.oneCell'=true
 | .cv c,v,_,h=>by exact h.one
 | .ptr _ _,v,_,h=>by subst h;rfl
 | .own i u,v,_,h=>by grind [AV.holds]
 | .fn _ _,v,_,h=>by obtain ⟨vs,rfl,_⟩:=h;exact aC3 _ _ _
 | .any,_,h,_=>by grind [AV.one]
 | .opt _ _ _ _,_,h,_=>by grind [AV.one]
 | .agg _,_,h,_=>by grind [AV.one]
 | .tup _,_,h,_=>by grind [AV.one]
 | .gd _ _,_,h,_=>by grind [AV.one]
theorem AV.all_one {e:Env} {w:World} {ks:List Nat}:∀ {xs:List AV} {vs:List Value},xs.all AV.one=true->AV.all e w ks xs vs->∀ v∈vs,v.oneCell'=true
 | [],[],_,_,v,hv=>by grind
 | x::xs,v::vs,ho,h,u,hu=>by
  simp only [List.all_cons,Bool.and_eq_true] at ho;rcases List.mem_cons.1 hu with rfl | hu
  ·exact AV.one_holds ho.1 h.1
  ·exact AV.all_one ho.2 h.2 u hu
 | [],_::_,_,h,_,_=>by grind [AV.all]
 | _::_,[],_,h,_,_=>by grind
variable {new:List AV}
theorem AV.cells_holds {e:Env} {w:World} {v:Value} (hc:x.cells=some new) (h:AV.holds e w ks x v) (ho:new.all AV.one=true) :
  AV.all e w ks new v.cells.toList:=by
 cases x <;> simp only [AV.cells,Option.some.injEq,reduceCtorEq] at hc <;> subst hc
 case agg cs =>
  grind [AV.holds,Value.cells]
 all_goals
  have h1:v.oneCell'=true:=AV.one_holds (by simpa using ho) h
  have h2:v.cells.toList=[v]:=by cases v <;> simp_all [Value.oneCell',Value.cells]
  rw [h2];simpa [AV.all] using h
theorem AV.cells_scoped {nB:Nat} {vs:List Nat} (hc:x.cells=some new) (h:AV.sco nB vs x):AV.scos nB vs new:=by
 cases x <;> simp only [AV.cells,Option.some.injEq,reduceCtorEq] at hc <;> subst hc
 case agg cs=>grind [AV.sco]
 all_goals simpa [AV.scos] using h
theorem AV.all.splice {e:Env} {w:World} {ks:List Nat} {cs new:List AV} {vs us:List Value} (h:AV.all e w ks cs vs) (h':AV.all e w ks new us) (off:Nat) :
  AV.all e w ks (splice cs off new) (vs.take off++us++vs.drop (off+us.length)):=by
 have hl:=h'.length;rw [hl];exact ((h.take off).append h').append (h.drop _)
theorem HP {st:St} {y:AV} {B':List Box} {V':List Vec} (h:fK P st T x y=some (B',V')) {n0:Nat} {w0:World} {e:Env} {a:Act} {w:World} (hr:Rel n0 w0 e st a w)
  {u v:Value} (hu:AV.holds e w (kss st.V) x u) (hv:AV.holds e w (kss st.V) y v) (hs:AV.sco st.B.length (vers st.V) y) :
  ∃ w' e',(Instr.storeAt T u v).run P w=.ok () w'/\Mem n0 w0 e' B' V' w'/\cL e st w e' B' V' w':=by
 unfold fK at h;split at h
 ·rename_i ti i off new ai aj
  split at h
  ·rename_i b hb
   split at h
   ·rename_i hc
    simp only [Bool.and_eq_true] at hc;obtain ⟨⟨⟨hl,cn⟩,bt⟩,dq⟩:=hc;obtain ⟨rfl,rfl⟩:=h;obtain ⟨vs,h1,h2⟩:=hr.mem.box i b hb hl;subst hu;have ce:=AV.cells_holds aj hv dq;have ak:=ce.length;have x7:=h2.length;have Cf:=AV.all_one dq ce;have ag:=run_storeCells_at P (e.ρ i) off b.T v.cells.toList 0 vs w h1 (by grind) Cf
    have hm:=hr.mem.setBox hb hl (splice b.cs off new) (vs.toList.take off++v.cells.toList++vs.toList.drop (off+v.cells.toList.length)).toArray
     (by
      rw [AV.scos_iff];have jn:=AV.scos_iff.1 (hr.mem.boxsc i b hb);have ud:=AV.scos_iff.1 (AV.cells_scoped aj hs);grind [splice])
     (h2.splice ce off)
    refine ⟨_,e,?_,hm.1,hm.2⟩;simp_all [Instr.storeAt,Instr.sureAddr,storeVar,run_sizeOf]
   grind
  grind
 grind
end
inductive LK where
 | int (k:IntKind)
 | bool
 | fn
 deriving DecidableEq
def fnK (f:Fn) (a b:Array Value):Option LK:=match f with
 | .func _=>if a.size=0/\b.size=0 then some .fn else none
 | _=>none
@[simp] theorem aIC (f:Fn) (a b:Array Value) (k:IntKind):(fnK f a b=some (.int k))=False:=by
  unfold fnK;split <;> simp
@[simp] theorem aGL (f:Fn) (a b:Array Value):(fnK f a b=some .bool)=False:=by
  unfold fnK;split <;> simp
def fnN:Fn->Nat
 | .func f=>f
 | _=>0
def kOf:Value->Option LK
 | .int k _=>some (.int k)
 | .bool _=>some .bool
 | .func f a b=>fnK f a b
 | .nilFunc=>some .fn
 | _=>none
def vEq:Value->Value->Bool
 | .int _ a,.int _ b=>a == b
 | .bool a,.bool b=>a == b
 | .func f _ _,.func g _ _=>fnN f == fnN g
 | .func _ _ _,.nilFunc=>false
 | .nilFunc,.func _ _ _=>false
 | _,_=>true
def eqB:List Value->List Value->Bool
 | x::xs,y::ys=>vEq x y&&eqB xs ys
 | _,_=>true
theorem xG:∀ {a b c d:List Value},a.length=b.length->eqB (a++c) (b++d)=(eqB a b&&eqB c d)
 | [],[],_,_,_=>by rfl
 | x::xs,y::ys,c,d,h=>by
  simp only [List.cons_append,eqB,xG (a:=xs) (b:=ys) (c:=c) (d:=d) (by simpa using h),Bool.and_assoc]
 | [],_::_,_,_,h=>by grind
 | _::_,[],_,_,h=>by grind
def RS (P:Program) (g:TypeId->Option (List LK)):Nat->List Field->Option (List LK)
 | _,[]=>some []
 | off,f::fs =>
  if f.name ≠ "_" /\ f.offset=off then
   match g f.type with
   | some l=>if l.length=P.cellsOf f.type/\l.length≠0 then (RS P g (off+l.length) fs).map (l++·) else none
   | none=>none
  else none
def eqK (P:Program):Nat->TypeId->Option (List LK)
 | 0,_=>none
 | d+1,T =>
  match P.underlying T with
  | some .bool=>some [.bool]
  | some (.int k)=>some [.int k]
  | some (.array n e)=>match eqK P d e with
   | some l=>if l.length=P.cellsOf e/\l.length≠0 then some (List.replicate n l).flatten else none
   | none=>none
  | some (.struct fs)=>if P.stoodInHeld T then none else RS P (eqK P d) 0 fs.toList
  | _=>none
def eqT (P:Program) (T:TypeId):Option (List LK):=if P.eqGuardType P.depth T then none else
 match P.underlying T with
 | some (.struct _)=>eqK P 100 T
 | some (.array _ _)=>eqK P 100 T
 | _=>none
section
variable {P:Program}
def shp (P:Program) (T:TypeId) (x:Value):Prop:=
 match P.underlying T with
 | some (.struct _)=>∃ a,x=.agg a
 | some (.array _ _)=>∃ a,x=.agg a
 | _=>x.cells.toList=[x]
def EqK (P:Program) (D:Nat) (T:TypeId) (l:List LK):Prop:=
 ∀ (w:World) (x y:Value),shp P T x->shp P T y->x.cells.toList.map kOf=l.map some->y.cells.toList.map kOf=l.map some->(Op.equalIn D T x y).run P w=.ok (eqB x.cells.toList y.cells.toList) w
variable {T:TypeId}
theorem oU (h:P.cellsOf T≠0) (w:World):(sizeOf T).run P w=.ok (P.cellsOf T) w:=by
 unfold Program.cellsOf at *;cases hi:P.info? T with
 | none=>grind
 | some i=>simp [sizeOf,typeInfo,hi]
variable {xs:Array Value}
theorem lE {d:Nat} {l:List LK} (hk:eqK P d T=some l) (ak:l.length=P.cellsOf T) (bY:l.length≠0) {off:Nat} (h:((xs.toList.drop off).take l.length).map kOf=l.map some) (w:World) :
  ∃ a,(part T xs off).run P w=.ok a w/\shp P T a/\a.cells.toList=(xs.toList.drop off).take l.length:=by
 cases d with
 | zero=>grind [eqK]
 | succ d =>
 unfold eqK at hk;cases hu:P.underlying T with
 | none=>grind
 | some k =>
  have cn:=oU (P:=P) (T:=T) (by omega) w
  have dv:(∃ fs,k=.struct fs)\/(∃ n e,k=.array n e)->∃ a,(part T xs off).run P w=.ok a w/\shp P T a/\a.cells.toList=(xs.toList.drop off).take l.length:=by
   intro kc
   have A7:(isAgg T).run P w=.ok true w:=by
    unfold isAgg;rw [Sem.run_bind,run_underlying hu];rcases kc with ⟨fs,rfl⟩ | ⟨n,e,rfl⟩ <;> simp
   refine ⟨.agg (xs.extract off (off+P.cellsOf T)),by simp_all [part],?_,?_⟩
   ·unfold shp;grind
   simp_all [Value.cells]
  have dq:(∀ w,(isAgg T).run P w=.ok false w)->l.length=1->(∀ a,shp P T a↔a.cells.toList=[a])->∃ a,(part T xs off).run P w=.ok a w/\shp P T a/\a.cells.toList=(xs.toList.drop off).take l.length:=by
   intro A7 hl hs;cases hd:xs.toList.drop off with
   | nil=>simp_all
   | cons v rest =>
    have hv:xs[off]? = some v:=by
     have:xs.toList[off]? = some v:=by rw [<- List.head?_drop,hd];rfl
     simpa using this
    have ce:v.cells.toList=[v]:=by
     rw [hd] at h;cases l with
     | nil=>grind
     | cons q l =>
      simp at h;obtain ⟨h1,_⟩:=h;cases v <;> simp [kOf] at h1 <;> rfl
    exact ⟨v,by simp_all [part],(hs v).2 ce,by grind⟩
  cases k <;> simp only [hu,reduceCtorEq,Option.some.injEq] at hk
  case bool =>
   subst hk;refine dq (fun w=>?_) rfl (fun a=>by unfold shp;rw [hu])
   unfold isAgg;rw [Sem.run_bind,run_underlying hu];simp
  case int q =>
   subst hk;refine dq (fun w=>?_) rfl (fun a=>by unfold shp;rw [hu])
   unfold isAgg;rw [Sem.run_bind,run_underlying hu];simp
  case array n e=>simp_all
  simp_all
theorem fG {α:Type} (xs:List α) (off a b:Nat):(xs.drop off).take (a+b)=(xs.drop off).take a++(xs.drop (off+a)).take b:=by
 rw [List.take_add,List.drop_drop]
theorem tY {D d:Nat} (IH:∀ T l,eqK P d T=some l->EqK P D T l) (xs ys:Array Value):∀ (fs:List Field) (off:Nat) (l:List LK),RS P (eqK P d) off fs=some l ->
  ((xs.toList.drop off).take l.length).map kOf=l.map some->((ys.toList.drop off).take l.length).map kOf=l.map some->∀ w,
  (Op.eqFields D xs ys fs).run P w=.ok (eqB ((xs.toList.drop off).take l.length) ((ys.toList.drop off).take l.length)) w
 | [],off,l,h,_,_,w=>by
  simp_all [RS,Op.eqFields,eqB]
 | f::fs,off,l,h,hx,hy,w=>by
  simp only [RS] at h;split at h
  ·rename_i hf
   obtain ⟨hn,rfl⟩:=hf;split at h
   ·rename_i l1 i8
    split at h
    ·rename_i hc
     simp at h;obtain ⟨l2,l9,rfl⟩:=h;rw [List.length_append,fG,List.map_append,List.map_append] at hx hy
     have qk:(((xs.toList.drop f.offset).take l1.length).map kOf).length=l1.length:=by
      grind [List.length_append]
     have ue:(((ys.toList.drop f.offset).take l1.length).map kOf).length=l1.length:=by
      grind [List.length_append]
     obtain ⟨ar,dw⟩:=List.append_inj hx (by grind)
     obtain ⟨kx,pv⟩:=List.append_inj hy (by grind)
     obtain ⟨a,pa,sa,ca⟩:=lE i8 hc.1 hc.2 ar w;obtain ⟨b,pb,sb,cb⟩:=lE i8 hc.1 hc.2 kx w;have h3:=IH _ _ i8 w a b sa sb (by grind) (by grind)
     have h4:=tY IH xs ys fs _ l2 l9 dw pv w;rw [ca,cb] at h3;simp only [Op.eqFields,hn,ne_eq,not_false_eq_true,if_true,Sem.run_bind,pa,pb,h3,Result.andThen_ok];rw [List.length_append,fG,fG]
     have ak:((xs.toList.drop f.offset).take l1.length).length=((ys.toList.drop f.offset).take l1.length).length:=by
      grind
     rw [xG ak];cases he:eqB ((xs.toList.drop f.offset).take l1.length) ((ys.toList.drop f.offset).take l1.length)
     ·simp
     ·grind
    grind
   grind
  grind
theorem wU {D d:Nat} {e:TypeId} {l:List LK} (IH:EqK P D e l) (hk:eqK P d e=some l) (hc:l.length=P.cellsOf e) (bY:l.length≠0) (xs ys:Array Value):∀ (n i:Nat),
  ((xs.toList.drop (i*l.length)).take (n*l.length)).map kOf=((List.replicate n l).flatten).map some->((ys.toList.drop (i*l.length)).take (n*l.length)).map kOf=((List.replicate n l).flatten).map some->∀ w,
  (Op.eqItems D e (P.cellsOf e) xs ys (List.range' i n)).run P w=.ok (eqB ((xs.toList.drop (i*l.length)).take (n*l.length)) ((ys.toList.drop (i*l.length)).take (n*l.length))) w
 | 0,i,_,_,w=>by simp [Op.eqItems,eqB]
 | n+1,i,hx,hy,w=>by
  have nf:(n+1)*l.length=l.length+n*l.length:=by grind
  rw [nf,fG,List.replicate_succ,List.flatten_cons,List.map_append,List.map_append] at hx hy;have jo:i*l.length+l.length=(i+1)*l.length:=by grind
  rw [jo] at hx hy
  have qk:(((xs.toList.drop (i*l.length)).take l.length).map kOf).length=l.length:=by
   grind [List.length_append]
  have ue:(((ys.toList.drop (i*l.length)).take l.length).map kOf).length=l.length:=by
   grind [List.length_append]
  obtain ⟨ar,dw⟩:=List.append_inj hx (by grind)
  obtain ⟨kx,pv⟩:=List.append_inj hy (by grind)
  obtain ⟨a,pa,sa,ca⟩:=lE hk hc bY ar w;obtain ⟨b,pb,sb,cb⟩:=lE hk hc bY kx w;have h3:=IH w a b sa sb (by grind) (by grind)
  have h4:=wU IH hk hc bY xs ys n (i+1) dw pv w;rw [ca,cb] at h3;rw [hc] at pa pb h3 h4 hx hy jo nf;simp only [List.range'_succ,Op.eqItems,Sem.run_bind];have pa':(part e xs (i*P.cellsOf e)).run P w=.ok a w:=pa;have pb':(part e ys (i*P.cellsOf e)).run P w=.ok b w:=pb;rw [pa',Result.andThen_ok,pb',Result.andThen_ok,h3,Result.andThen_ok];rw [hc,nf,fG,fG,jo]
  have ak:((xs.toList.drop (i*P.cellsOf e)).take (P.cellsOf e)).length=((ys.toList.drop (i*P.cellsOf e)).take (P.cellsOf e)).length:=by
   grind
  rw [xG ak];cases he:eqB ((xs.toList.drop (i*P.cellsOf e)).take (P.cellsOf e)) ((ys.toList.drop (i*P.cellsOf e)).take (P.cellsOf e))
  ·simp
  ·grind
theorem AI:∀ (d k:Nat) (T:TypeId) (l:List LK),eqK P d T=some l->EqK P (k+d) T l
 | 0,k,T,l,h=>by grind [eqK]
 | d+1,k,T,l,h=>by
  intro w x y sx sy hx hy;unfold eqK at h;unfold shp at sx sy;cases hu:P.underlying T with
  | none=>grind
  | some kd =>
   rw [hu] at sx sy;cases kd <;> simp only [hu,reduceCtorEq,Option.some.injEq] at h
   case bool =>
    subst h;rw [sx] at hx;rw [sy] at hy;cases x <;> simp [kOf] at hx;cases y <;> simp [kOf] at hy;rename_i a b;rw [show k+(d+1)=(k+d)+1 from rfl,run_equalIn_bool w (k+d) T a b hu];simp [Value.cells,eqB,vEq]
   case int q =>
    subst h;rw [sx] at hx;rw [sy] at hy;cases x <;> simp [kOf] at hx;cases y <;> simp [kOf] at hy;subst hx;subst hy;rw [show k+(d+1)=(k+d)+1 from rfl,run_equalIn_int w (k+d) T _ _ _ _ hu];simp [Value.cells,eqB,vEq]
   case array n e =>
    obtain ⟨xs,rfl⟩:=sx;obtain ⟨ys,rfl⟩:=sy;split at h
    ·rename_i l1 i8
     split at h
     ·rename_i hc
      have x8:∃ i,P.info? e=some i:=by
       cases d with
       | zero=>grind [eqK]
       | succ d =>
        unfold eqK at i8;cases Io:P.underlying e with
        | none=>grind
        | some ke=>exact info_of_underlying Io
      obtain ⟨i,hi⟩:=x8;rw [show k+(d+1)=(k+d)+1 from rfl,run_equalIn_array w (k+d) xs ys hu hi];simp [Value.cells] at hx hy ⊢;have Ip:((List.replicate n l1).flatten).length=n*l1.length:=by simp
      have qk:xs.toList.length=n*l1.length:=by have:=congrArg List.length hx;grind
      have ue:ys.toList.length=n*l1.length:=by have:=congrArg List.length hy;grind
      have:=wU (D:=k+d) (AI d k e l1 i8) i8 hc.1 hc.2 xs ys n 0 (by grind) (by grind) w
      grind [List.range_eq_range']
     grind
    grind
   case struct fs =>
    obtain ⟨xs,rfl⟩:=sx;obtain ⟨ys,rfl⟩:=sy;split at h
    ·cases h
    ·have x9:P.fieldsOf T=fs:=by simp [Program.fieldsOf,hu]
     rw [show k+(d+1)=(k+d)+1 from rfl,run_equalIn_struct w (k+d) T xs ys (by grind) (by grind),x9]
     simp [Value.cells] at hx hy ⊢;have qk:xs.toList.length=l.length:=by have:=congrArg List.length hx;grind
     have ue:ys.toList.length=l.length:=by have:=congrArg List.length hy;grind
     have:=tY (D:=k+d) (fun T l h=>AI d k T l h) xs ys fs.toList 0 l h (by grind) (by grind) w
     grind
theorem aC5 {l:List LK} (h:eqT P T=some l) (w:World) {ys:Array Value} (hx:xs.toList.map kOf=l.map some) (hy:ys.toList.map kOf=l.map some) (xo yo:Operand) :
  ((do eqGuard .eql T xo yo (.agg xs) (.agg ys);binOp .eql T (.agg xs) (.agg ys)):Sem Value).run P w=.ok (.bool (eqB xs.toList ys.toList)) w /\
  ((do eqGuard .neq T xo yo (.agg xs) (.agg ys);binOp .neq T (.agg xs) (.agg ys)):Sem Value).run P w=.ok (.bool (!eqB xs.toList ys.toList)) w:=by
 unfold eqT at h;split at h
 ·cases h
 ·have hE:(Op.equal T (.agg xs) (.agg ys)).run P w=.ok (eqB xs.toList ys.toList) w:=by
   have hk:eqK P 100 T=some l/\(∀ a,shp P T (.agg a)):=by
    split at h
    ·exact ⟨h,fun a=>by unfold shp;grind⟩
    ·exact ⟨h,fun a=>by unfold shp;grind⟩
    grind
   have:=AI 100 9900 T l hk.1 w (.agg xs) (.agg ys) (hk.2 xs) (hk.2 ys) (by grind [Value.cells]) (by grind [Value.cells])
   grind [Value.cells,Op.equal,Op.maxDepth]
  simp_all [eqGuard,binOp]
def UU (k:LK) (x y:AV):Option Bool:=
 match k,x,y with
 | .int k,.cv (.val (.int k1 a)),.cv (.val (.int k2 b))=>if k1=k/\k2=k then some (a == b) else none
 | .bool,.cv (.val (.bool a)),.cv (.val (.bool b))=>some (a == b)
 | _,_,_=>none
def mP:List LK->List AV->List AV->Option Bool
 | [],[],[]=>some true
 | k::l,x::xs,y::ys=>match UU k x y,mP l xs ys with
  | some a,some b=>some (a&&b)
  | _,_=>none
 | _,_,_=>none
theorem OH {k:LK} {x y:AV} {b:Bool} {e:Env} {w:World} {ks:List Nat} {u v:Value} (h:UU k x y=some b) (hu:AV.holds e w ks x u) (hv:AV.holds e w ks y v) :
  kOf u=some k/\kOf v=some k/\vEq u v=b:=by
 unfold UU at h;split at h
 ·split at h
  ·rename_i hk
   obtain ⟨rfl,rfl⟩:=hk;injection h with h
   obtain ⟨rfl,_⟩:=hu;obtain ⟨rfl,_⟩:=hv;exact ⟨rfl,rfl,h⟩
  grind
 ·injection h with h
  obtain ⟨rfl,_⟩:=hu;obtain ⟨rfl,_⟩:=hv;exact ⟨rfl,rfl,h⟩
 grind
theorem tZ {e:Env} {w:World} {ks:List Nat}:∀ {l:List LK} {xs ys:List AV} {b:Bool} {us vs:List Value},mP l xs ys=some b->AV.all e w ks xs us->AV.all e w ks ys vs ->
  us.map kOf=l.map some/\vs.map kOf=l.map some/\eqB us vs=b
 | [],[],[],b,us,vs,h,hu,hv=>by
  cases us <;> simp [AV.all] at hu;cases vs <;> simp [AV.all] at hv;simp [mP] at h;subst h;exact ⟨rfl,rfl,rfl⟩
 | k::l,x::xs,y::ys,b,us,vs,h,hu,hv=>by
  cases us with
  | nil=>grind [AV.all]
  | cons u us =>
  cases vs with
  | nil=>grind [AV.all]
  | cons v vs =>
  simp [mP] at h;split at h
  ·rename_i a r h1 h2
   obtain ⟨g1,g2,g3⟩:=OH h1 hu.1 hv.1;obtain ⟨f1,f2,f3⟩:=tZ h2 hu.2 hv.2;grind [eqB]
  grind
 | [],_::_,_,_,_,_,h,_,_=>by grind [mP]
 | [],[],_::_,_,_,_,h,_,_=>by grind [mP]
 | k::l,[],_,_,_,_,h,_,_=>by grind [mP]
 | k::l,_::_,[],_,_,_,h,_,_=>by grind [mP]
end
section
variable {P:Program}
def OI (op:BinOp) (k:IntKind) (a b:Int):Option AV:=
 match op with
 | .add=>some (.cv (.val (.int k (k.wrap (a+b)))))
 | .sub=>some (.cv (.val (.int k (k.wrap (a - b)))))
 | .mul=>some (.cv (.val (.int k (k.wrap (a*b)))))
 | .quo=>if b=0 then none else some (.cv (.val (.int k (k.wrap (a.tdiv b)))))
 | .rem=>if b=0 then none else some (.cv (.val (.int k (a.tmod b))))
 | .eql=>some (.cv (.val (.bool (a == b))))
 | .neq=>some (.cv (.val (.bool (a != b))))
 | .lss=>some (.cv (.val (.bool (decide (a<b)))))
 | .leq=>some (.cv (.val (.bool (decide (a<=b)))))
 | .gtr=>some (.cv (.val (.bool (decide (a > b)))))
 | .geq=>some (.cv (.val (.bool (decide (a>=b)))))
 | .and=>some (.cv (.val (.int k (k.wrap (BitVec.ofInt k.bits a &&& BitVec.ofInt k.bits b).toNat))))
 | .or=>some (.cv (.val (.int k (k.wrap (BitVec.ofInt k.bits a ||| BitVec.ofInt k.bits b).toNat))))
 | _=>none
def DL (op:BinOp) (k:IntKind) (a b:Int):Option AV:=
 if b<0 then none else
 match op with
 | .shl=>some (.cv (.val (.int k (k.wrap (a*2 ^ (min b.toNat k.bits))))))
 | .shr=>some (.cv (.val (.int k (a.fdiv (2 ^ (min b.toNat k.bits))))))
 | _=>none
def nI (P:Program) (op:BinOp) (T:TypeId) (x y:AV):Option AV:=
 match x,y with
 | .cv (.val (.int k a)),.cv (.val (.int k' b))=>if op=.shl\/op=.shr then DL op k a b else if k=k' then OI op k a b else none
 | .cv (.val (.bool a)),.cv (.val (.bool b))=>(match aZ P T with | some ⟨_,_,.bool⟩=>(match op with | .eql=>some (.cv (.val (.bool (a == b)))) | .neq=>some (.cv (.val (.bool (a != b)))) | _=>none) | _=>none)
 | .agg xs,.agg ys=>match eqT P T with
  | some l=>match mP l xs ys with
   | some b=>(match op with | .eql=>some (.cv (.val (.bool b))) | .neq=>some (.cv (.val (.bool (!b)))) | _=>none)
   | none=>none
  | none=>none
 | _,_=>none
variable {op:BinOp} {av:AV}
theorem uA {k:IntKind} {a b:Int} (h:OI op k a b=some av) (hs:¬(op=.shl\/op=.shr)) (T:TypeId) (xo yo:Operand) (w:World) :
  ∃ v,av=.cv (.val v)/\v.oneCell'=true/\((do eqGuard op T xo yo (.int k a) (.int k b);binOp op T (.int k a) (.int k b)):Sem Value).run P w=.ok v w:=by
 have uf:∀ op:BinOp,(eqGuard op T xo yo (.int k a) (.int k b)).run P w=.ok () w:=by
  intro op;cases op <;> simp [eqGuard]
 cases op <;> simp only [OI,Option.some.injEq,reduceCtorEq] at h
 case quo =>
  split at h
  ·cases h
  ·rename_i hb
   injection h with h
   exact ⟨_,h.symm,rfl,by simp_all [binOp,Op.intDiv]⟩
 case rem =>
  split at h
  ·cases h
  ·rename_i hb
   injection h with h
   exact ⟨_,h.symm,rfl,by simp_all [binOp,Op.intDiv]⟩
 all_goals exact ⟨_,h.symm,rfl,by simp [uf,binOp,Op.intArith,Op.intCmp,Op.intBits]⟩
theorem wV {k k':IntKind} {a b:Int} (h:DL op k a b=some av) (T:TypeId) (xo yo:Operand) (w:World) :
  ∃ v,av=.cv (.val v)/\v.oneCell'=true/\((do eqGuard op T xo yo (.int k a) (.int k' b);binOp op T (.int k a) (.int k' b)):Sem Value).run P w=.ok v w:=by
 unfold DL at h;split at h
 ·cases h
 ·rename_i hb
  cases op <;> simp only [Option.some.injEq,reduceCtorEq] at h
  ·exact ⟨_,h.symm,rfl,by simp [eqGuard,binOp,Op.shift,hb]⟩
  ·exact ⟨_,h.symm,rfl,by simp [eqGuard,binOp,Op.shift,hb]⟩
variable {T:TypeId} {x:AV} {ks:List Nat} {u:Value}
theorem OJ {y:AV} (h:nI P op T x y=some av) {e:Env} {w:World} {v:Value} (hu:AV.holds e w ks x u) (hv:AV.holds e w ks y v) (xo yo:Operand) :
  ∃ r,((do eqGuard op T xo yo u v;binOp op T u v):Sem Value).run P w=.ok r w/\AV.holds e w ks av r/\∀ n vs,AV.sco n vs av:=by
 unfold nI at h;split at h
 ·rename_i k a k' b
  split at h
  ·obtain ⟨r,rfl,h1,h2⟩:=wV (P:=P) (k':=k') h T xo yo w
   grind [AV.holds,CV.holds,AV.sco]
  ·rename_i hs
   split at h
   ·obtain ⟨r,rfl,h1,h2⟩:=uA (P:=P) h hs T xo yo w
    grind [AV.holds,CV.holds,AV.sco]
   grind
 ·rename_i a b
  obtain ⟨rfl,_⟩:=hu;obtain ⟨rfl,_⟩:=hv;split at h
  ·rename_i s z ai
   have hT:P.underlying T=some .bool:=by
    obtain ⟨i,d,h1,h2,h3,h4,h5⟩:=fA ai;grind
   have iy:(Op.equal T (.bool a) (.bool b)).run P w=.ok (a == b) w:=by
    unfold Op.equal Op.maxDepth;rw [Op.equalIn,Sem.run_bind,run_underlying hT];rfl
   cases op <;> simp only [Option.some.injEq,reduceCtorEq] at h
   ·subst h
    simp_all [eqGuard,binOp,AV.holds,CV.holds,Value.oneCell',AV.sco]
   ·subst h
    exact ⟨_,by simp [eqGuard,binOp,iy];rfl,by grind [AV.holds,CV.holds,Value.oneCell'],by simp [AV.sco]⟩
  grind
 ·obtain ⟨us,rfl,hu⟩:=hu
  obtain ⟨vs,rfl,hv⟩:=hv;split at h
  ·rename_i l hl
   split at h
   ·rename_i b hb
    obtain ⟨h1,h2,h3⟩:=tZ hb hu hv;obtain ⟨r1,r2⟩:=aC5 hl w h1 h2 xo yo;grind [AV.holds,CV.holds,Value.oneCell',AV.sco]
   grind
  grind
 grind
def LN (op:UnOp) (x:AV):Option AV:=
 match op,x with
 | .not,.cv (.val (.bool b))=>some (.cv (.val (.bool (!b))))
 | .neg,.cv (.val (.int k n))=>some (.cv (.val (.int k (k.wrap (0 - n)))))
 | _,_=>none
theorem RT {op:UnOp} (h:LN op x=some av) {e:Env} {w:World} (hu:AV.holds e w ks x u) :
  ∃ r,(Op.unary op u).run P w=.ok r w/\AV.holds e w ks av r/\∀ n vs,AV.sco n vs av:=by
 unfold LN at h;split at h
 ·injection h with h;subst h
  simp_all [AV.holds,CV.holds,Op.unary,Value.oneCell',AV.sco]
 ·injection h with h;subst h
  simp_all [AV.holds,CV.holds,Op.unary,Op.intArith,Value.oneCell',AV.sco]
 grind
def cT (P:Program) (T:TypeId) (x:AV) (f:Nat):Option AV:=
 match aZ P T with
 | some ⟨_,_,.strct fs⟩ =>
  match fs[f]? with
  | some (o,s) =>
   if s=0 then none else
   match x with
   | .ptr i off=>some (.ptr i (off+o))
   | .opt i u el off=>some (.opt i u el (off+o))
   | .cv (.ref cs)=>some (.cv (.ref (cs.drop o)))
   | _=>none
  | none=>none
 | _=>none
variable {s:Nat} {z:List Value}
theorem EL {fs:List (Nat×Nat)} (h:aZ P T=some ⟨s,z,.strct fs⟩):∃ ff,P.underlying T=some (.struct ff)/\fs=ff.toList.map fun f=>(f.offset,P.cellsOf f.type):=by
 obtain ⟨i,d,h1,h2,h3,h4,h5⟩:=fA h;grind
variable {k:Nat}
theorem yQ {n e:Nat} (h:aZ P T=some ⟨s,z,.arr n e k⟩):P.underlying T=some (.array n e)/\k=P.cellsOf e:=by
 obtain ⟨i,d,h1,h2,h3,h4,h5⟩:=fA h;grind
theorem cZ {e by_:Nat} (h:aZ P T=some ⟨s,z,.slc e k by_⟩):P.underlying T=some (.slice e)/\k=P.cellsOf e/\by_=P.bytesOf e:=by
 obtain ⟨i,d,h1,h2,h3,h4,h5⟩:=fA h;grind
theorem eJ {e by_:Nat} (h:aZ P T=some ⟨s,z,.slc e k by_⟩):e<bE:=aC4 h (cZ h).1
theorem aS (h:P.cellsOf T≠0) (w:World):(sizeOf T).run P w=.ok (P.cellsOf T) w:=by
 unfold Program.cellsOf at *;cases hi:P.info? T with
 | none=>grind
 | some i=>simp [sizeOf,typeInfo,hi]
theorem yR {f:Nat} (h:cT P T x f=some av) {e:Env} {w:World} (hu:AV.holds e w ks x u) :
  ∃ r,(Instr.fieldAt T u f).run P w=.ok r w/\AV.holds e w ks av r/\∀ n vs,AV.sco n vs x->AV.sco n vs av:=by
 unfold cT at h;split at h
 ·rename_i s z fs ai
  obtain ⟨ff,hT,x9⟩:=EL ai;split at h
  ·rename_i o sz hf
   split at h
   ·cases h
   ·subst x9
    cases ua:ff.toList[f]? with
    | none=>grind
    | some fd =>
     simp [ua] at hf;obtain ⟨rfl,rfl⟩:=hf;have ql:ff[f]? = some fd:=by grind
     have ng:∀ b off,(fieldPlace ⟨b,off,none⟩ fd).run P w=.ok ⟨b,off+fd.offset,none⟩ w:=by
      simp_all [fieldPlace,aS,addr_add]
     split at h
     ·injection h with h;subst h
      simp_all [AV.holds,Instr.fieldAt,run_underlying,Instr.sureAddr,AV.sco]
     ·injection h with h;subst h
      obtain ⟨b,hb,rfl⟩:=hu;exact ⟨_,by simp [Instr.fieldAt,run_underlying hT,ql,Instr.sureAddr,ng];rfl,by simp [AV.holds,hb,Nat.add_assoc],by simp [AV.sco]⟩
     ·injection h with h;subst h
      obtain ⟨b,o,rfl,hS,bc⟩:=hu;exact ⟨_,by simp [Instr.fieldAt,run_underlying hT,ql,Instr.sureAddr,ng];rfl,by exact ⟨b,_,rfl,hS,bc.drop _⟩,by simp [AV.sco]⟩
     grind
  grind
 grind
def dW (P:Program) (st:St) (T:TypeId) (x i:AV):Option AV:=
 match i with
 | .cv (.val (.int _ n)) =>
  match aZ P T with
  | some ⟨_,_,.arr len _ k⟩ =>
   if k=0 then none else
   if 0<=n/\n<len then
    match x with
    | .ptr i off=>some (.ptr i (off+n.toNat*k))
    | .cv (.ref cs)=>some (.cv (.ref (cs.drop (n.toNat*k))))
    | .opt i u el off=>some (.opt i u el (off+n.toNat*k))
    | _=>none
   else none
  | some ⟨_,_,.slc _ k _⟩ =>
   if k=0 then none else
   match x with
   | .cv (.row k' es)=>if k'=k then (if 0<=n/\n<es.length then some (.cv (.ref (es.getD n.toNat []))) else none) else none
   | .own j u =>
    match st.V[j]? with
    | some v=>if v.sl&&v.ver == u&&v.k == k then (if 0<=n/\n<v.es.length then some (.opt j u n.toNat 0) else none) else none
    | none=>none
   | .fn len [.gd [false] .any,.any,.ptr i off]=>if 0<=n/\n<(len:Nat) then some (.ptr i (off+n.toNat*k)) else none
   | _=>none
  | _=>none
 | _=>none
theorem yS {st:St} {i:AV} (h:dW P st T x i=some av) {n0:Nat} {w0:World} {e:Env} {a:Act} {w:World} (hr:Rel n0 w0 e st a w) {v:Value} (hu:AV.holds e w (kss st.V) x u) (hv:AV.holds e w (kss st.V) i v) (hs:AV.sco st.B.length (vers st.V) x) :
  ∃ r,(Instr.indexAt T u v).run P w=.ok r w/\AV.holds e w (kss st.V) av r/\AV.sco st.B.length (vers st.V) av:=by
 unfold dW at h;split at h
 ·rename_i q n
  obtain ⟨rfl,_⟩:=hv;split at h
  ·rename_i s z len et k ai
   obtain ⟨hT,rfl⟩:=yQ ai;split at h
   ·cases h
   ·rename_i hk
    split at h
    ·rename_i hn
     have ag:∀ b off,(Instr.indexAt T (.pointer (some ⟨b,off,none⟩)) (.int q n)).run P w=.ok (.pointer (some ⟨b,off+n.toNat*P.cellsOf et,none⟩)) w:=by
      simp [Instr.indexAt,asIntOf,run_underlying hT,Instr.sureAddr,hn,aS hk,addr_add]
     split at h
     ·grind [AV.holds,AV.sco]
     ·injection h with h;subst h
      obtain ⟨b,o,rfl,hS,bc⟩:=hu;exact ⟨_,ag _ _,by exact ⟨b,_,rfl,hS,bc.drop _⟩,by simp [AV.sco]⟩
     ·grind [AV.holds,AV.sco]
     grind
    grind
  ·rename_i s z et k by_ ai
   obtain ⟨hT,rfl,rfl⟩:=cZ ai;split at h
   ·cases h
   ·rename_i hk
    split at h
    ·rename_i k' es
     split at h
     ·rename_i gm
      split at h
      ·rename_i hn
       injection h with h;subst h
       obtain ⟨ao,cap,rfl,bt,fq,b8⟩:=hu;have an:n.toNat<es.length:=by omega
       rcases b8 with rfl | ⟨b,o,rfl,hS,bj⟩
       ·grind
       ·have ge:=bj.get n.toNat an
        refine ⟨.pointer (some ⟨b,o+n.toNat*P.cellsOf et,none⟩),?_,?_,by simp [AV.sco]⟩
        ·simp [Instr.indexAt,asIntOf,run_underlying hT,hn,aS hk,addr_add]
        grind [AV.holds,CV.holds]
      grind
     grind
    ·rename_i j u'
     split at h
     ·rename_i x hx
      split at h
      ·rename_i hc
       simp at hc;obtain ⟨⟨hl,rfl⟩,gm⟩:=hc;have qj:=Vec.sl_T hl;replace hl:=Vec.sl_live hl;split at h
       ·rename_i hn
        injection h with h;obtain ⟨rfl,_⟩:=hu
        obtain ⟨xs,a1,a2,a3⟩:=hr.mem.vec j x hx hl;rcases a1.s qj with ⟨_,_,h0,_⟩ | ⟨a1,g,qh,Iq⟩
        ·omega
        ·obtain ⟨cap,hg⟩:∃ cap,e.hdr j x.ver=.slice (some ⟨g,0,none⟩) x.es.length cap:=by
          rcases a1.2 with ⟨h0,_⟩ | ⟨g',cap,cur,hg,_⟩
          ·omega
          grind [Value.ownBlock]
         refine ⟨.pointer (some ⟨g,n.toNat*P.cellsOf et,none⟩),?_,?_,by grind [AV.sco]⟩
         ·rw [hg]
          simp [Instr.indexAt,asIntOf,run_underlying hT,hn,aS hk,addr_add]
         grind [AV.holds]
       grind
      grind
     grind
    ·rename_i len i off
     split at h
     ·rename_i hn
      injection h with h;subst h
      have Ir:=AV.slb_holds.1 hu;subst Ir;refine ⟨.pointer (some ⟨e.ρ i,off+n.toNat*P.cellsOf et,none⟩),?_,?_,?_⟩
      ·simp [Instr.indexAt,asIntOf,run_underlying hT,hn,aS hk,addr_add]
      ·rfl
      simp_all [AV.sco,AV.scos]
     grind
    grind
  grind
 grind
end
section
variable {P:Program}
def fX (place:Nat->Option (Nat×Nat)) (cells:List AV):List (Nat×AV)->Option (List AV)
 | []=>some cells
 | (i,x)::rest =>
  match place i,x.cells with
  | some (o,s),some new=>if new.length == s&&decide (o+s<=cells.length)&&new.all AV.one then fX place (splice cells o new) rest else none
  | _,_=>none
theorem IX (off:Nat):∀ (vs:List Value) (k:Nat) (cur:Array Value),off+k+vs.length<=cur.size ->
  ((vs.zipIdx k).foldl (fun cs (x:Value×Nat)=>cs.setIfInBounds (off+x.2) x.1) cur)=(cur.toList.take (off+k)++vs++cur.toList.drop (off+k+vs.length)).toArray
 | [],k,cur,_=>by simp
 | v::vs,k,cur,h=>by
  simp only [List.zipIdx_cons,List.foldl_cons];rw [IX off vs (k+1) (cur.setIfInBounds (off+k) v) (by simp at h ⊢;omega)]
  congr 1;have e:=list_seg_step cur.toList (off+k) v vs (by simp at h ⊢;omega)
  simpa [Array.toList_setIfInBounds,Nat.add_assoc] using e
theorem mV {place:Nat->Option (Nat×Nat)} {e:Env} {w:World} {ks:List Nat}:∀ {parts:List (Nat×AV)} {vparts:List (Nat×Value)} {cells:List AV} {vcells:Array Value} {out:List AV},
  fX place cells parts=some out->AV.all e w ks cells vcells.toList->(parts.map (·.1)=vparts.map (·.1))->AV.all e w ks (parts.map (·.2)) (vparts.map (·.2)) ->
  ∃ vout,Instr.fill place vcells vparts=some vout/\AV.all e w ks out vout.toList/\out.length=cells.length
 | [],[],cells,vcells,out,h,hc,_,_=>by
  grind [fX,Instr.fill]
 | (i,x)::rest,(j,v)::vrest,cells,vcells,out,h,hc,hi,hv=>by
  simp at hi;obtain ⟨rfl,hi⟩:=hi;simp only [fX] at h;split at h
  ·rename_i o s new hp aj
   split at h
   ·rename_i sf
    simp only [Bool.and_eq_true] at sf;obtain ⟨⟨hs,bt⟩,dq⟩:=sf;have ce:=AV.cells_holds aj hv.1 dq;have ak:=ce.length;have x7:=hc.length;have eh:=IX o v.cells.toList 0 vcells (by grind)
    have jq:=hc.splice ce o;obtain ⟨vout,h1,h2,h3⟩:=mV (vcells:=(vcells.toList.take o++v.cells.toList++vcells.toList.drop (o+v.cells.toList.length)).toArray) h (by omega) hi hv.2
    grind [Instr.fill,Array.toList_zipIdx,splice]
   grind
  grind
 | [],_::_,_,_,_,_,_,hi,_=>by grind
 | _::_,[],_,_,_,_,_,hi,_=>by grind
theorem pR {place:Nat->Option (Nat×Nat)} {nB:Nat} {vs:List Nat}:∀ {parts:List (Nat×AV)} {cells out:List AV},
  fX place cells parts=some out->AV.scos nB vs cells->AV.scos nB vs (parts.map (·.2))->AV.scos nB vs out
 | [],cells,out,h,hc,_=>by
  grind [fX]
 | (i,x)::rest,cells,out,h,hc,hp=>by
  simp [fX] at h;split at h
  ·rename_i o s new si aj
   split at h
   ·refine pR h ?_ hp.2
    have hn:=AV.scos_iff.1 (AV.cells_scoped aj hp.1);grind [AV.scos_iff,splice]
   grind
  grind
def fL (z:List Value):List AV:=z.map fun v=>.cv (.val v)
theorem nJ {e:Env} {w:World} {ks:List Nat}:∀ {z:List Value},z.all Value.oneCell'=true->AV.all e w ks (fL z) z
 | [],_=>by simp [fL,AV.all]
 | v::z,h=>by
  simp only [List.all_cons,Bool.and_eq_true] at h;have:=nJ (e:=e) (w:=w) (ks:=ks) h.2;grind [fL,AV.all,AV.holds,CV.holds]
theorem pS (nB:Nat) (vs:List Nat) (z:List Value):AV.scos nB vs (fL z):=by
 rw [AV.scos_iff];intro x hx;obtain ⟨c,_,rfl⟩:=List.mem_map.1 hx;simp [AV.sco]
def lO (P:Program) (T:TypeId) (parts:List (Nat×AV)):Option AV:=
 match aZ P T with
 | some ti =>
  if ti.zero≠[]/\ti.zero.all Value.oneCell'=true then
   match ti.kind with
   | .strct fs=>if fs.all (fun f=>f.2 != 0) then (fX (fs[·]?) (fL ti.zero) parts).map .agg else none
   | .arr _ _ k=>if k=0 then none else (fX (fun i=>some (i*k,k)) (fL ti.zero) parts).map .agg
   | _=>none
  else none
 | none=>none
theorem XI (fs:List Field) (h:∀ f∈fs,P.cellsOf f.type≠0):fs.mapM (fun f=>(P.info? f.type).map fun i=>(f.offset,i.size))=some (fs.map fun f=>(f.offset,P.cellsOf f.type)):=by
 induction fs with
 | nil=>simp
 | cons f fs ih =>
  have h1:=h f (by simp)
  unfold Program.cellsOf at h1;cases hi:P.info? f.type with
  | none=>grind
  | some i =>
   grind [Program.cellsOf]
theorem HQ {T:TypeId} {parts:List (Nat×AV)} {av:AV} (h:lO P T parts=some av) {e:Env} {w:World} {ks:List Nat} {vparts:Array (Nat×Value)}
  (hi:parts.map (·.1)=vparts.toList.map (·.1)) (hv:AV.all e w ks (parts.map (·.2)) (vparts.toList.map (·.2))) :
  ∃ r,(Instr.build T vparts).run P w=.ok r w/\AV.holds e w ks av r/\∀ n vs,AV.scos n vs (parts.map (·.2))->AV.sco n vs av:=by
 unfold lO at h;split at h
 ·rename_i ti ai
  split at h
  ·rename_i hz
   obtain ⟨it,d,h1,h2,h3,h4,h5⟩:=fA ai
   have f9:∃ z,it.zero=some z/\z.cells.toList=ti.zero:=by
    grind
   obtain ⟨z,ug,ya⟩:=f9;split at h
   ·rename_i fs hk
    split at h
    ·rename_i ct
     cases hf:fX (fs[·]?) (fL ti.zero) parts with
     | none=>grind
     | some out =>
      simp [hf] at h;subst h;cases d <;> simp [hk] at h5;rename_i ff
      have si:=XI (P:=P) ff.toList (by
       intro f yb;have:=List.all_eq_true.1 ct (f.offset,P.cellsOf f.type) (by grind)
       grind)
      obtain ⟨vout,a1,a2,a3⟩:=mV (vcells:=z.cells) hf (by rw [ya];exact nJ hz.2) hi hv
      refine ⟨.agg vout,run_build w T vparts vout ?_,by grind [AV.holds],fun n vs hs=>by exact pR hf (pS _ _ _) hs⟩
      simp [Program.built,h1,h2,ug,si];rw [<- a1,h5];simp
    grind
   ·rename_i n et0 k hk
    split at h
    ·cases h
    ·rename_i cy
     cases hf:fX (fun i=>some (i*k,k)) (fL ti.zero) parts with
     | none=>grind
     | some out =>
      simp [hf] at h;subst h;cases d <;> simp [hk] at h5;obtain ⟨rfl,rfl,rfl⟩:=h5;obtain ⟨vout,a1,a2,a3⟩:=mV (vcells:=z.cells) hf (by rw [ya];exact nJ hz.2) hi hv
      refine ⟨.agg vout,run_build w T vparts vout ?_,by grind [AV.holds],fun n vs hs=>by exact pR hf (pS _ _ _) hs⟩
      unfold Program.cellsOf at cy a1;cases Na:P.info? et0 with
      | none=>grind
      | some ie =>
       grind [Program.built]
   grind
  grind
 grind
end
end Go.Sx
