/-
  The law PenMoves of the pens of a pound holds at every input, without any condition.
-/
import Derived.Test.YthkfohoccnnphaaP10
namespace Go.Proofs.Ythkfohoccnnphaa
open Go Go.Sx Go.Pen
set_option maxRecDepth 10000
variable {its:ITS}
theorem load_le {y:Yard} (hy:y.ok=true) (q:Int):∀ z:BP,Pen.load y z q≤1000*(z.length:Int)
  | []=>by simp [Pen.load]
  | (s,r)::z=>by
    have h0:=load_le hy q z
    have h1:=rm_le hy s
    simp only [Pen.load,List.length_cons]
    split <;> omega
theorem checkPlace_len {y:Yard} {l p:List Int} (h:checkPlace y l p=0):l.length≤8∧p.length=l.length:=by
  obtain ⟨hy,hs,hi⟩:=checkPlace_ok h
  exact ⟨sorts_len hs,(isP_len hi).1⟩
theorem ne_z:((0:Int) != 0)=false:=rfl
theorem ne_cp {y:Yard} {l p:List Int} (h:¬checkPlace y l p=0):(checkPlace y l p != 0)=true:=by simp [h]
theorem r_Free (n:Nat) {y:Yard} (hf:Fit y) (l p:List Int) (hl:l.length<9223372036854775807) (hp:p.length<9223372036854775807) :
    D its (n+6) n_r05_Free [.row 1 y.ps,.row 4 y.ks,.row 1 (ints l),.row 1 (ints p)]=some (if checkPlace y l p=0 then [.row 1 (ints (freeZ y (l.zip p))),ci 0] else [.row 1 [],ci (checkPlace y l p)]):=by
  rw [q_r05_Free]
  unfold R_r05_Free
  rw [r_CheckPlace n hf l p hl hp]
  by_cases h:checkPlace y l p=0
  · obtain ⟨hy,hs,hi⟩:=checkPlace_ok h
    obtain ⟨h8,hpl⟩:=checkPlace_len h
    have h5:=(ok_length hy).1
    have hk9:=(ok_length hy).2
    have hz:=(isP_len hi).2
    rw [okZ_iff (rm_nonneg hy) _ _ rfl] at hz
    have hfa:fitA 0 y.ps.length 8=true:=fitA_of (by rw [show y.ps.length=y.pens.length by simp [Yard.ps]];omega) (by rw [show y.ps.length=y.pens.length by simp [Yard.ps]];omega)
    have hzl:(l.zip p).length=p.length:=by simp [hpl]
    rw [h,if_pos rfl,callO_val,gi_z,ne_z,ib_f,hfa,chk_true]
    rw [(loop_foldI p (fun i (_:Unit)=>[ci (i:Int),.row 1 (ints (freeZ y ((l.zip p).take i)))]) (fun _ _=>()) (fun _ _=>True) 0 (fun _=>[.row 1 (ints (freeZ y (l.zip p)))]) () ?hv trivial ?hs ?he).1]
    case hv=>simp [freeZ_nil,Yard.ps]
    case he =>
      intro _ _
      rw [← hzl,List.take_length]
      simp only [gi_z,il_ints',hzl,eq_false (show ¬((p.length:Int)<(p.length:Int)) by omega),decide_false,ib_f,gr_s,gr_z]
    case hs =>
      intro i hi' _ _
      refine ⟨?_,trivial⟩
      have hli:i<l.length:=by omega
      have hzi:i<(l.zip p).length:=by omega
      have hzg:(l.zip p)[i]=(l[i],p[i]):=by simp
      have hin:=(hz.1 _ (List.getElem_mem hzi)).1
      rw [hzg] at hin
      simp only [within,Bool.and_eq_true,decide_eq_true_eq] at hin
      obtain ⟨q,hq⟩:∃ q:Nat,p[i]=q:=⟨p[i].toNat,by omega⟩
      have hqn:q<y.pens.length:=by omega
      have hd:y.pens.getD q 0=y.pens[q]:=by simp [hqn]
      have hpr:=pens_range hy hqn
      have hld0:=load_nonneg hy ((l.zip p).take i) q
      have hld1:=load_le hy q ((l.zip p).take i)
      have hlt:((l.zip p).take i).length≤8:=by rw [List.length_take];omega
      have hrm0:=rm_nonneg hy l[i]
      have hrm1:=rm_le hy l[i]
      have e3:inb (q:Int) (ints (freeZ y ((l.zip p).take i)))=true:=inb_ints (by simpa using hqn)
      have e4:el (ints (freeZ y ((l.zip p).take i))) (q:Int)=[ci (y.pens[q] - Pen.load y ((l.zip p).take i) q)]:=by rw [el_ints (by simpa using hqn),freeZ_get,hd]
      have hwr:wr (y.pens[q] - Pen.load y ((l.zip p).take i) q - rm y l[i])=y.pens[q] - Pen.load y ((l.zip p).take i) q - rm y l[i]:=by rw [wr_of] <;> omega
      have hfin1:(ints (freeZ y ((l.zip p).take i))).set q [ci (y.pens[q] - Pen.load y ((l.zip p).take i) q - rm y l[i])]=ints (freeZ y ((l.zip p).take (i+1))):=by
        rw [ints_set,← List.take_append_getElem hzi,hzg,hq,freeZ_snoc y _ _ hqn]
      simp only [gi_z,gi_s,gr_z,gr_s,il_ints',eq_true (show ((i:Int)<(p.length:Int)) by omega),inb_ints hi',el_ints hi',li1,chk_true,hq,inb_ints hli,el_ints hli,ib_t,e3,e4,Int.toNat_natCast,ints_length,freeZ_len,eq_true hqn,Nat.le_refl,decide_true,Bool.and_self,r_room (its:=its) _ y (show y.kinds.length<9223372036854775807 by omega),callO_val,spl1,hwr,hfin1,wr_nat (show i<9223372036854775807 by omega)]
    · rfl
  · rw [callO_val,gi_z,ne_cp h,ib_t,if_neg h];rfl
theorem r_Inside (n:Nat) {y:Yard} (hf:Fit y) (l p:List Int) (q:Int) (hl:l.length<9223372036854775807) (hp:p.length<9223372036854775807) :
    D its (n+6) n_r05_Inside [.row 1 y.ps,.row 4 y.ks,.row 1 (ints l),.row 1 (ints p),ci q]=some (if checkPlace y l p=0 then (if within q 0 ((y.pens.length:Int) - 1)=true then [.row 1 (ints (places (fun x=>decide (x=q)) p 0)),ci 0] else [.row 1 [],ci 56]) else [.row 1 [],ci (checkPlace y l p)]):=by
  rw [q_r05_Inside]
  unfold R_r05_Inside
  rw [r_CheckPlace n hf l p hl hp]
  by_cases h:checkPlace y l p=0
  · obtain ⟨hy,hs,hi⟩:=checkPlace_ok h
    obtain ⟨h8,hpl⟩:=checkPlace_len h
    have h5:=(ok_length hy).1
    have hwn:wr ((y.pens.length:Int) - 1)=(y.pens.length:Int) - 1:=by rw [wr_of] <;> omega
    rw [h,if_pos rfl,callO_val,gi_z,ne_z,ib_f,il_ps,hwn,w_within,callO_val,gb_z]
    cases hq:within q 0 ((y.pens.length:Int) - 1) with
    | false=>simp
    | true =>
      rw [Bool.not_true,ib_f,if_pos rfl]
      rw [(loop_foldI p (fun i (_:Unit)=>[ci (i:Int),.row 1 (ints (places (fun x=>decide (x=q)) (p.take i) 0))]) (fun _ _=>()) (fun _ _=>True) 0 (fun _=>[.row 1 (ints (places (fun x=>decide (x=q)) p 0))]) () ?hv trivial ?hs ?he).1]
      case hv=>rfl
      case hs =>
        intro i hi _ _
        refine ⟨?_,trivial⟩
        have hpl':=places_len (fun x=>decide (x=q)) (p.take i) 0
        rw [List.length_take] at hpl'
        have hff:fitA (places (fun x=>decide (x=q)) (p.take i) 0).length 1 8=true:=fitA_of (by omega) (by omega)
        rw [← List.take_append_getElem hi,places_snoc]
        have hz:(0:Int)+((p.take i).length:Int)=(i:Int):=by rw [List.length_take];omega
        rw [hz]
        by_cases hpq:p[i]=q
        · have:(p[i] == q)=true:=by simp [hpq]
          have hpq':=eq_true hpq
          simp only [gi_z,gi_s,il_ints',eq_true (show ((i:Int)<(p.length:Int)) by omega),decide_true,ib_t,inb_ints hi,el_ints hi,li1,chk_true,this,gr_s,gr_z,ints_length,hff,seqO_nx,wr_nat (show i<9223372036854775807 by omega),chunk_s,chunk_z,List.take_succ_cons,List.take_zero,ints_snoc,hpq',decide_true,if_true]
        · have:(p[i] == q)=false:=by simp [hpq]
          simp only [gi_z,gi_s,il_ints',eq_true (show ((i:Int)<(p.length:Int)) by omega),decide_true,ib_t,ib_f,inb_ints hi,el_ints hi,li1,chk_true,this,gr_s,gr_z,seqO_nx,wr_nat (show i<9223372036854775807 by omega),hpq,decide_false,Bool.false_eq_true,if_false,List.append_nil]
      case he =>
        intro _ _
        simp
      · simp
  · rw [callO_val,gi_z,ne_cp h,ib_t,if_neg h];rfl
theorem r_Add (n:Nat) {y:Yard} (hf:Fit y) (l p:List Int) (s:Int) (hl:l.length<9223372036854775807) (hp:p.length<9223372036854775807) :
    D its (n+6) n_r05_Add [.row 1 y.ps,.row 4 y.ks,.row 1 (ints l),.row 1 (ints p),ci s]=some (if checkPlace y l p=0 then (if has y s=true then (if l.length=8 then [ci 0,ci 2] else match addP y (l.zip p) s with | some q=>[ci (q:Int),ci 0] | none=>[ci 0,ci 53]) else [ci 0,ci 51]) else [ci 0,ci (checkPlace y l p)]):=by
  rw [q_r05_Add]
  unfold R_r05_Add
  rw [r_CheckPlace n hf l p hl hp]
  by_cases h:checkPlace y l p=0
  · obtain ⟨hy,hs,hi⟩:=checkPlace_ok h
    obtain ⟨h8,hpl⟩:=checkPlace_len h
    have h5:=(ok_length hy).1
    have hk9:=(ok_length hy).2
    rw [h,if_pos rfl,callO_val,gi_z,ne_z,ib_f,r_kind _ y (by omega),callO_val]
    cases hh:has y s with
    | false=>simp
    | true =>
      have h9:=has_range hy hh
      rw [show gb [ci (kd y s).sort,ci (kd y s).room,ci (kd y s).eats,ci (kd y s).apart,cb true] 4=true from rfl,Bool.not_true,ib_f,il_ints',if_pos rfl]
      by_cases h8':l.length=8
      · have:(((l.length:Int)) == 8)=true:=by simp;omega
        rw [this,if_pos h8',ib_t]
        rfl
      · have:(((l.length:Int)) == 8)=false:=by simp;omega
        have e1:ints l++chunk 1 1 [ci s]=ints (l++[s]):=ints_snoc l s
        have hall:∀ x∈l++[s],1≤x∧x≤9:=by
          intro x hx
          rcases List.mem_append.1 hx with hx | hx
          · exact has9 hy hs x hx
          · rw [List.mem_singleton.1 hx];exact h9
        have hzz:(l++[s]).zip p=l.zip p:=by
          rw [show p=p++[] by simp,List.zip_append (by omega)];simp
        have hgd:(l++[s]).getD l.length 0=s:=by simp
        rw [this,if_neg h8',ib_f,e1,ints_length,show fitA 0 l.length 8=true from fitA_of (by omega) (by omega),show fitA l.length 1 8=true from fitA_of (by omega) (by omega),chk_true,chk_true]
        have hfg:∀ q:Nat,q<y.pens.length→fitsR y (l++[s]) p l.length (q:Int)=canGo y (l.zip p) s (q:Int):=by
          intro q hq
          have:=fitsR_go (y:=y) (l:=l++[s]) (p:=p) (by simp;omega) (pen:=(q:Int)) (by simp [within];omega)
          rw [hpl,hzz,hgd] at this
          exact this
        rw [loop_find y.pens.length (fun i=>[ci (i:Int)]) (fun (q:Nat)=>canGo y (l.zip p) s (q:Int)) (fun i=>some (.ret [ci (i:Int),ci 0])) (some (.br 0 [])) ?hv ?hR ?hX (fun i hi hp3=>?s1) (fun i hi hp3=>?s2) ?s3]
        case hv=>rfl
        case hR=>simp
        case hX=>simp
        case s3=>simp only [gi_z,il_ps,eq_false (show ¬((y.pens.length:Int)<(y.pens.length:Int)) by omega),decide_false,ib_f]
        case s1=>simp only [gi_z,il_ps,eq_true (show ((i:Int)<(y.pens.length:Int)) by omega),decide_true,ib_t,ib_f,r_fits (its:=its) _ hy (l++[s]) p hall (by simp;omega) (by omega) (show l.length<(l++[s]).length by simp) hi,hfg i hi,callO_val,gb_z,hp3,wr_nat (show i<9223372036854775807 by omega)]
        case s2=>simp only [gi_z,il_ps,eq_true (show ((i:Int)<(y.pens.length:Int)) by omega),decide_true,ib_t,r_fits (its:=its) _ hy (l++[s]) p hall (by simp;omega) (by omega) (show l.length<(l++[s]).length by simp) hi,hfg i hi,callO_val,gb_z,hp3]
        · unfold addP
          cases (List.range y.pens.length).find? (fun (q:Nat)=>canGo y (l.zip p) s (q:Int)) <;> rfl
  · rw [callO_val,gi_z,ne_cp h,ib_t,if_neg h];rfl
theorem r_Move (n:Nat) {y:Yard} (hf:Fit y) (l p:List Int) (i q:Int) (hl:l.length<9223372036854775807) (hp:p.length<9223372036854775807) :
    D its (n+6) n_r05_Move [.row 1 y.ps,.row 4 y.ks,.row 1 (ints l),.row 1 (ints p),ci i,ci q]=some (if checkPlace y l p=0 then (if within i 0 ((l.length:Int) - 1)=true then (if within q 0 ((y.pens.length:Int) - 1)=true then (if isP y l (p.set i.toNat q)=true then [.row 1 (ints (p.set i.toNat q)),ci 0] else [.row 1 [],ci 53]) else [.row 1 [],ci 56]) else [.row 1 [],ci 1]) else [.row 1 [],ci (checkPlace y l p)]):=by
  rw [q_r05_Move]
  unfold R_r05_Move
  rw [r_CheckPlace n hf l p hl hp]
  by_cases h:checkPlace y l p=0
  · obtain ⟨hy,hs,hi⟩:=checkPlace_ok h
    obtain ⟨h8,hpl⟩:=checkPlace_len h
    have h5:=(ok_length hy).1
    have hwn:wr ((y.pens.length:Int) - 1)=(y.pens.length:Int) - 1:=by rw [wr_of] <;> omega
    have hwl:wr ((l.length:Int) - 1)=(l.length:Int) - 1:=by rw [wr_of] <;> omega
    rw [h,if_pos rfl,callO_val,gi_z,ne_z,ib_f,il_ints',il_ps,hwl,hwn,w_within,callO_val,gb_z]
    cases hin:within i 0 ((l.length:Int) - 1) with
    | false=>simp
    | true =>
      rw [Bool.not_true,ib_f,if_pos rfl,w_within,callO_val,gb_z]
      cases hq:within q 0 ((y.pens.length:Int) - 1) with
      | false=>simp
      | true =>
        have hin':=hin
        simp only [within,Bool.and_eq_true,decide_eq_true_eq] at hin'
        obtain ⟨m,rfl⟩:∃ m:Nat,i=m:=⟨i.toNat,by omega⟩
        have hm:m<p.length:=by omega
        rw [Bool.not_true,ib_f,if_pos rfl]
        simp only [ints_length,show fitA 0 p.length 8=true from fitA_of (by omega) (by omega),chk_true,inb_ints hm,el_ints hm,Int.toNat_natCast,eq_true hm,Nat.le_refl,decide_true,Bool.and_self,spl1,ints_set,r_isPlace (its:=its) (n+1) hy l (p.set m q) hs (by simpa using hp),callO_val,gb_z]
        cases isP y l (p.set m q) <;> rfl
  · rw [callO_val,gi_z,ne_cp h,ib_t,if_neg h];rfl
theorem r_without (n:Nat) (l:List Int) {i:Nat} (hi:i<l.length) (hl:l.length<1000000):D its (n+1) n_r05_without [.row 1 (ints l),ci (i:Int)]=some [.row 1 (ints (l.eraseIdx i))]:=by
  rw [q_r05_without]
  unfold R_r05_without
  have hw:=wr_nat (show i<9223372036854775807 by omega)
  have e1:List.drop 0 (List.take (Int.toNat (i:Int)) (ints l))=ints (l.take i):=by simp [ints,List.map_take]
  have e2:List.drop (Int.toNat ((i+1:Nat):Int)) (List.take (Int.toNat (l.length:Int)) (ints l))=ints (l.drop (i+1)):=by
    rw [Int.toNat_natCast,Int.toNat_natCast,← ints_length l,List.take_length];simp [ints,List.map_drop]
  have e3:ints (l.take i)++ints (l.drop (i+1))=ints (l.eraseIdx i):=by rw [List.eraseIdx_eq_take_drop_succ];simp [ints]
  have hd:(l.drop (i+1)).length=l.length - (i+1):=List.length_drop
  have ht:(l.take i).length=i:=by rw [List.length_take];omega
  rw [hw,il_ints',e1,e2,e3]
  simp only [ints_length,ht,hd,show fitA 0 i 8=true from fitA_of (by omega) (by omega),show fitA i (l.length - (i+1)) 8=true from fitA_of (by omega) (by omega),Int.le_refl,eq_true (show (0:Int)≤(i:Int) by omega),eq_true (show (i:Int)≤(l.length:Int) by omega),eq_true (show (0:Int)≤((i+1:Nat):Int) by omega),eq_true (show ((i+1:Nat):Int)≤(l.length:Int) by omega),decide_true,Bool.and_self,chk_true]
  rfl
theorem r_Take (n:Nat) {y:Yard} (hf:Fit y) (l p:List Int) (i:Int) (hl:l.length<9223372036854775807) (hp:p.length<9223372036854775807) :
    D its (n+6) n_r05_Take [.row 1 y.ps,.row 4 y.ks,.row 1 (ints l),.row 1 (ints p),ci i]=some (if checkPlace y l p=0 then (if within i 0 ((l.length:Int) - 1)=true then [.row 1 (ints (l.eraseIdx i.toNat)),.row 1 (ints (p.eraseIdx i.toNat)),ci 0] else [.row 1 [],.row 1 [],ci 1]) else [.row 1 [],.row 1 [],ci (checkPlace y l p)]):=by
  rw [q_r05_Take]
  unfold R_r05_Take
  rw [r_CheckPlace n hf l p hl hp]
  by_cases h:checkPlace y l p=0
  · obtain ⟨hy,hs,hi⟩:=checkPlace_ok h
    obtain ⟨h8,hpl⟩:=checkPlace_len h
    have hwl:wr ((l.length:Int) - 1)=(l.length:Int) - 1:=by rw [wr_of] <;> omega
    rw [h,if_pos rfl,callO_val,gi_z,ne_z,ib_f,il_ints',hwl,w_within,callO_val,gb_z]
    cases hin:within i 0 ((l.length:Int) - 1) with
    | false=>simp
    | true =>
      have hin':=hin
      simp only [within,Bool.and_eq_true,decide_eq_true_eq] at hin'
      obtain ⟨m,rfl⟩:∃ m:Nat,i=m:=⟨i.toNat,by omega⟩
      rw [Bool.not_true,ib_f,if_pos rfl,r_without _ l (by omega) (by omega),callO_val,r_without _ p (by omega) (by omega),callO_val]
      rfl
  · rw [callO_val,gi_z,ne_cp h,ib_t,if_neg h];rfl
end Go.Proofs.Ythkfohoccnnphaa
namespace Go.Proofs.Ythkfohoccnnphaa
open Go Go.Sx Go.Pen
set_option maxRecDepth 10000
theorem w_PenMoves (n:Nat) (y:Yard) (l p:List Int) (a b d:Int) (hf:Fit y) (hl:l.length<100000000000000) (hp:p.length<100000000000000) (hb:∀ m∈[a,b,d],-9223372036854775808≤m∧m<9223372036854775808) :
    D its (n+12) n_law05_PenMoves [.row 1 y.ps,.row 4 y.ks,.row 1 (ints l),.row 1 (ints p),ci a,ci b,ci d]=some [cb true]:=by
  rw [q_law05_PenMoves]
  unfold R_law05_PenMoves
  rw [w_Free (its:=its) (n+2) hf l p (by omega) (by omega),r_Free (its:=its) (n+5) hf l p (by omega) (by omega)]
  obtain ⟨A5,hA,hA'⟩:∃ A,D its (n+11) n_pen_Add [.row 1 y.ps,.row 4 y.ks,.row 1 (ints l),.row 1 (ints p),ci d]=some A∧D its (n+11) n_r05_Add [.row 1 y.ps,.row 4 y.ks,.row 1 (ints l),.row 1 (ints p),ci d]=some A:=⟨_,w_Add (its:=its) (n+2) hf l p d (by omega) (by omega),r_Add (its:=its) (n+5) hf l p d (by omega) (by omega)⟩
  simp only [w_Inside (its:=its) (n+2) hf l p b (by omega) (by omega),r_Inside (its:=its) (n+5) hf l p b (by omega) (by omega),hA,hA',w_Move (its:=its) (n+2) hf l p a b (by omega) (by omega),r_Move (its:=its) (n+5) hf l p a b (by omega) (by omega),w_Take itsM (n+2) hf l p a (by omega) (by omega),r_Take (its:=its) (n+5) hf l p a (by omega) (by omega),w_CheckPlace (its:=its) (n+3) hf l p (by omega) (by omega),r_CheckPlace (its:=its) (n+6) hf l p (by omega) (by omega),sane_true (n+1)]
  have key:checkPlace y l p=0→l.length≤8∧p.length=l.length∧y.pens.length≤5:=fun h=>⟨(checkPlace_len h).1,(checkPlace_len h).2,(ok_length (checkPlace_ok h).1).1⟩
  generalize h1:(if checkPlace y l p=0 then [CV.row 1 (ints (freeZ y (l.zip p))),ci 0] else [.row 1 [],ci (checkPlace y l p)])=A1
  obtain ⟨x1,e1,hx1,hA1⟩:∃ x e,x.length<9223372036854775807∧A1=[.row 1 (ints x),ci e]:=by
    by_cases h:checkPlace y l p=0
    · rw [if_pos h] at h1;exact ⟨_,_,by have:=key h;simp;omega,h1.symm⟩
    · rw [if_neg h] at h1;exact ⟨[],_,by simp,h1.symm⟩
  generalize h2:(if checkPlace y l p=0 then (if within b 0 ((y.pens.length:Int) - 1)=true then [CV.row 1 (ints (places (fun x=>decide (x=b)) p 0)),ci 0] else [.row 1 [],ci 56]) else [.row 1 [],ci (checkPlace y l p)])=A2
  obtain ⟨x2,e2,hx2,hA2⟩:∃ x e,x.length<9223372036854775807∧A2=[.row 1 (ints x),ci e]:=by
    by_cases h:checkPlace y l p=0
    · rw [if_pos h] at h1 h2
      split at h2
      · exact ⟨_,_,by have:=places_len (fun x=>decide (x=b)) p 0;omega,h2.symm⟩
      · exact ⟨[],_,by simp,h2.symm⟩
    · rw [if_neg h] at h2;exact ⟨[],_,by simp,h2.symm⟩
  generalize h3:(if checkPlace y l p=0 then (if within a 0 ((l.length:Int) - 1)=true then (if within b 0 ((y.pens.length:Int) - 1)=true then (if isP y l (p.set a.toNat b)=true then [CV.row 1 (ints (p.set a.toNat b)),ci 0] else [.row 1 [],ci 53]) else [.row 1 [],ci 56]) else [.row 1 [],ci 1]) else [.row 1 [],ci (checkPlace y l p)])=A3
  obtain ⟨x3,e3,hx3,hA3⟩:∃ x e,x.length<9223372036854775807∧A3=[.row 1 (ints x),ci e]:=by
    by_cases h:checkPlace y l p=0
    · rw [if_pos h] at h3
      split at h3
      · split at h3
        · split at h3
          · exact ⟨_,_,by simp;omega,h3.symm⟩
          · exact ⟨[],_,by simp,h3.symm⟩
        · exact ⟨[],_,by simp,h3.symm⟩
      · exact ⟨[],_,by simp,h3.symm⟩
    · rw [if_neg h] at h3;exact ⟨[],_,by simp,h3.symm⟩
  generalize h4:(if checkPlace y l p=0 then (if within a 0 ((l.length:Int) - 1)=true then [CV.row 1 (ints (l.eraseIdx a.toNat)),.row 1 (ints (p.eraseIdx a.toNat)),ci 0] else [.row 1 [],.row 1 [],ci 1]) else [.row 1 [],.row 1 [],ci (checkPlace y l p)])=A4
  obtain ⟨x4,z4,e4,hx4,hz4,hA4⟩:∃ x z e,x.length<9223372036854775807∧z.length<9223372036854775807∧A4=[.row 1 (ints x),.row 1 (ints z),ci e]:=by
    by_cases h:checkPlace y l p=0
    · rw [if_pos h] at h4
      split at h4
      · exact ⟨_,_,_,by have:=List.length_eraseIdx_le l a.toNat;omega,by have:=List.length_eraseIdx_le p a.toNat;omega,h4.symm⟩
      · exact ⟨[],[],_,by simp,by simp,h4.symm⟩
    · rw [if_neg h] at h4;exact ⟨[],[],_,by simp,by simp,h4.symm⟩
  rw [hA1,hA2,hA3,hA4]
  simp only [callO_val,gr_z,gr_s,gi_s,gi_z,w_Same (its:=its) (n+10) x1 x1 hx1,w_Same (its:=its) (n+10) x2 x2 hx2,w_Same (its:=its) (n+10) x3 x3 hx3,w_Same (its:=its) (n+10) x4 x4 hx4,w_Same (its:=its) (n+10) z4 z4 hz4,decide_true,gb_z,Bool.not_true,ib_f,bne_self_eq_false,seqO_nx,beq_self_eq_true,ib_t]
  rfl
end Go.Proofs.Ythkfohoccnnphaa
namespace Go.Proofs.Ythkfohoccnnphaa
open Go Go.Sx Go.Pen Go.ChangeShapes Go.WideShapes Go.ChangeAt Go.RowKit
set_option maxRecDepth 100000
theorem penMoves_spec (css:List (List CV)) (h:ShpAll Try.prog 6 Try.f13.params.toList css):SpecR Try.prog 13 (avsOf Try.prog Try.f13.params.toList css) (.cv (cb true)):=by
  rw [Try.params13] at h ⊢
  match css,h with
  | [c1,c2,c3],h =>
    simp only [ShpAll,and_true] at h
    obtain ⟨h1,h2,h3⟩:=h
    obtain ⟨y0,hy0,rfl⟩:=shp_yard h1
    obtain ⟨l1,hl1,rfl⟩:=shp_ints h2
    obtain ⟨p2,a2,b2,d2,hp2,rfl,hb2⟩:=shp_step h3
    exact spec_of (g:=fe13.g) rfl (w_PenMoves 0 y0 l1 p2 a2 b2 d2 hy0 hl1 hp2 hb2)
  | [],h=>simp [ShpAll] at h
  | [_],h=>simp [ShpAll] at h
  | [_,_],h=>simp [ShpAll] at h
  | _::_::_::_::_,h=>simp [ShpAll] at h
theorem penMoves_lifted (os:Os) (started:os.Started) (H:Type) (enc:TypeId×Value→H) :
    ReturnsInHanded {} Try.checked os 13 .any (Rows.penMovesSpec.pre6 enc Try.prog Try.f13 Rows.penMovesRow.domain false) (Rows.penMovesSpec.post enc Try.prog Try.f13 false true false false):=
  law_lift (C:=Try.checked) (tb:=4) 6 Try.own started (by kernel_rfl) Try.func13 Try.kids Try.full
    (by rw [Try.params13];intro t ht;simp only [List.mem_cons,List.not_mem_nil,or_false] at ht;rcases ht with rfl | rfl | rfl <;> exact of_decide_eq_true (by kernel_rfl))
    (by kernel_rfl) (by rfl) Try.underlying4 rfl
    (fun ds h=>by
      rw [Try.params13] at h
      match ds,h with
      | [_,_,_],_=>rfl)
    (ChangeSpec.witness6 (enc:=enc) (C:=Try.checked) false ⟨#[],#[.agg #[.slice none 0 0,.slice none 0 0],.slice none 0 0,.agg #[.slice none 0 0,.int .i64 0,.int .i64 0,.int .i64 0]],[]⟩ 8 (by kernel_rfl) (by kernel_rfl) (by kernel_rfl) (by kernel_rfl))
    penMoves_spec
theorem penMoves_holds:Rows.PenMovesSaid:=
  OpenClaim.holds_of_wide 13 Try.f13 rfl rfl rfl rfl rfl rfl rfl ⟨rfl,rfl,rfl,rfl,rfl⟩ rfl rfl rfl rfl rfl (by kernel_rfl) Try.func13 (by kernel_rfl)
    (of_decide_eq_true (by kernel_rfl)) (by unfold Func.isWrapper;first | (rw [if_pos (by decide +kernel)];kernel_rfl) | (rw [if_neg (by decide +kernel)];exact ⟨rfl,rfl⟩))
    (fun os started H enc _=>penMoves_lifted os started H enc)
end Go.Proofs.Ythkfohoccnnphaa
