/-
  The law PenStays of the pens of a pound holds at every input, without any condition.
-/
import Derived.Test.YthkfohoccnnphaaP10
namespace Go.Proofs.Ythkfohoccnnphaa
open Go Go.Sx Go.Pen
set_option maxRecDepth 10000
variable {its:ITS}
theorem max_ifr (x:Int) {d:Decidable (x > 0)}:@ite Int (x > 0) d x 0=max 0 x:=by split <;> omega
theorem ne_st {y:Yard} {l:List Stay} (h:¬staying y l=0):(staying y l != 0)=true:=by simp [h]
theorem r_isThere (n:Nat) (s:Stay) (d:Int):D its (n+1) n_r05_isThere [ci s.sort,ci s.inn,ci s.out,ci d]=some [cb (isThere d s)]:=by
  rw [q_r05_isThere]
  unfold R_r05_isThere isThere
  by_cases h1:s.inn≤d
  · rw [decide_eq_true h1,ib_t]
    by_cases h2:s.out=-1
    · rw [show (s.out == -1)=true by simp [h2],ib_t]
      simp [h2]
    · rw [show (s.out == -1)=false by simp [h2],ib_f]
      simp [h2]
  · rw [decide_eq_false h1,ib_f]
    simp
theorem r_There (n:Nat) {y:Yard} (hf:Fit y) (l:List Stay) (d:Int) (hl:l.length<9223372036854775807) :
    D its (n+4) n_r05_There [.row 1 y.ps,.row 4 y.ks,.row 3 (stays l),ci d]=some (if staying y l=0 then (if within d 0 100000=true then [.row 1 (ints (thereOn l d)),ci 0] else [.row 1 [],ci 6]) else [.row 1 [],ci (staying y l)]):=by
  rw [q_r05_There]
  unfold R_r05_There
  rw [r_CheckStays n hf l hl]
  by_cases h:staying y l=0
  · have h40:=(stays_ok (staying_ok h).2).1
    rw [h,if_pos rfl,callO_val,gi_z,ne_z,ib_f,w_within,callO_val,gb_z]
    cases hd:within d 0 100000 with
    | false=>simp
    | true =>
      rw [Bool.not_true,ib_f,if_pos rfl]
      rw [(loop_foldI l (fun i (_:Unit)=>[ci (i:Int),.row 1 (ints (places (isThere d) (l.take i) 0))]) (fun _ _=>()) (fun _ _=>True) 0 (fun _=>[.row 1 (ints (thereOn l d))]) () ?hv trivial ?hs ?he).1]
      case hv=>rfl
      case hs =>
        intro i hi _ _
        refine ⟨?_,trivial⟩
        have hpl:=places_len (isThere d) (l.take i) 0
        have hf:fitA (ints (places (isThere d) (l.take i) 0)).length 1 8=true:=fitA_of (by rw [List.length_take] at hpl;rw [ints_length];omega) (by rw [List.length_take] at hpl;rw [ints_length];omega)
        rw [← List.take_append_getElem hi,places_snoc]
        have hz:(0:Int)+((l.take i).length:Int)=(i:Int):=by rw [List.length_take];omega
        rw [hz]
        simp only [gi_z,gi_s,il_stays,eq_true (show ((i:Int)<(l.length:Int)) by omega),decide_true,ib_t,inb_stays hi,el_stays hi,scv_oks,chk_true,scv0,scv1,scv2,r_isThere,callO_val,gb_z,gr_s,gr_z,hf,wr_nat (show i<9223372036854775807 by omega),chunk_s,chunk_z,List.take_succ_cons,List.take_zero,ints_snoc]
        cases isThere d l[i] with
        | true=>rw [ib_t,if_pos rfl];rfl
        | false=>rw [ib_f,if_neg (by simp),List.append_nil];rfl
      case he =>
        intro _ _
        rw [List.take_length]
        simp only [gi_z,il_stays,eq_false (show ¬((l.length:Int)<(l.length:Int)) by omega),decide_false,ib_f,gr_s,gr_z]
        rfl
      · rfl
  · rw [callO_val,gi_z,ne_st h,ib_t,if_neg h];rfl
theorem r_eaten (n:Nat) {y:Yard} (hy:y.ok=true) {l:List Stay} (hl:staysOk y l=true) {d:Int} (h0:0≤d) (h1:d≤100000) :
    D its (n+2) n_r05_eaten [.row 1 y.ps,.row 4 y.ks,.row 3 (stays l),ci d]=some [ci (eaten y l d)]:=by
  obtain ⟨h40,hok⟩:=stays_ok hl
  have hk9:=(ok_length hy).2
  rw [q_r05_eaten]
  unfold R_r05_eaten
  rw [(loop_foldI l (fun i (s:Int)=>[ci s,ci (i:Int)]) (fun n s=>n+eats y d s) (fun i s=>0≤s∧s≤300000000*(i:Int)) 0 (fun s=>[ci s]) 0 ?hv ?h0 ?hs ?he).1]
  case hv=>rfl
  case h0=>simp
  case hs =>
    intro i hi s hP
    have hst:=hok _ (List.getElem_mem hi)
    have hr:=eats_range hy hst (d:=d) (by omega) (by omega)
    have hst':=hst
    unfold okStay at hst'
    simp only [Bool.and_eq_true,Bool.or_eq_true,decide_eq_true_eq] at hst'
    have hin:=hst'.1.2
    simp only [within,Bool.and_eq_true,decide_eq_true_eq] at hin
    have hout:=hst'.2
    simp only [within,Bool.and_eq_true,decide_eq_true_eq] at hout
    have hkey:∀ m:Int,m=(if l[i].out=-1 then d else min d (l[i].out - 1))→wr ((kd y l[i].sort).eats*max 0 (wr ((wr (m - l[i].inn))+1)))=eats y d l[i]:=by
      intro m hm
      have hm2:-1≤m∧m≤100000:=by rw [hm];split <;> omega
      have e1:wr (m - l[i].inn)=m - l[i].inn:=by rw [wr_of] <;> omega
      have e2:wr (m - l[i].inn+1)=m - l[i].inn+1:=by rw [wr_of] <;> omega
      rw [e1,e2]
      have e4:(kd y l[i].sort).eats*max 0 (m - l[i].inn+1)=eats y d l[i]:=by unfold eats;rw [← hm]
      rw [e4,wr_of] <;> omega
    have hw:wr (s+eats y d l[i])=s+eats y d l[i]:=by rw [wr_of] <;> omega
    refine ⟨?_,by omega,by omega⟩
    simp only [gi_z,gi_s,il_stays,eq_true (show ((i:Int)<(l.length:Int)) by omega),decide_true,ib_t,inb_stays hi,el_stays hi,scv_oks,chk_true,scv0,scv1,scv2,r_kind (its:=its) n y (by omega),callO_val,wr_nat (show i<9223372036854775807 by omega)]
    by_cases h2:l[i].out=-1
    · have hb:(l[i].out != -1)=false:=by simp [h2]
      have:=hkey d (by simp [h2])
      simp only [hb,ib_f,seqO_nx,gi_z,max_ifr,this,hw]
    · have hb:(l[i].out != -1)=true:=by simp [h2]
      have e1:wr (l[i].out - 1)=l[i].out - 1:=by rw [wr_of] <;> omega
      have:=hkey (min d (l[i].out - 1)) (by rw [if_neg h2])
      simp only [hb,ib_t,seqO_nx,gi_z,e1,max_ifr,min_if,this,hw]
  case he =>
    intro s _
    simp only [gi_z,gi_s,il_stays,eq_false (show ¬((l.length:Int)<(l.length:Int)) by omega),decide_false,ib_f]
  · rfl
theorem r_Eaten (n:Nat) {y:Yard} (hf:Fit y) (l:List Stay) (d:Int) (hl:l.length<9223372036854775807) :
    D its (n+5) n_r05_Eaten [.row 1 y.ps,.row 4 y.ks,.row 3 (stays l),ci d]=some (if staying y l=0 then (if within d 0 100000=true then [ci (eaten y l d),ci 0] else [ci 0,ci 6]) else [ci 0,ci (staying y l)]):=by
  rw [q_r05_Eaten]
  unfold R_r05_Eaten
  rw [r_There n hf l d hl]
  by_cases h:staying y l=0
  · obtain ⟨hy,hs⟩:=staying_ok h
    rw [if_pos h,if_pos h]
    cases hd:within d 0 100000 with
    | false=>rfl
    | true =>
      have hd':=hd
      simp only [within,Bool.and_eq_true,decide_eq_true_eq] at hd'
      rw [if_pos rfl,if_pos rfl,callO_val,gi_s,gi_z,ne_z,ib_f,r_eaten (n+2) hy hs hd'.1 hd'.2]
      rfl
  · rw [if_neg h,if_neg h,callO_val,gi_s,gi_z,ne_st h,ib_t];rfl
theorem lastF_loop0 {f:Int→Bool} {step:List CV→Option Ou} (h1:∀ a b:Int,0≤a→a<b→b≤100000→step [ci a,ci b]=some (.nx (if f ((a+b+1) / 2)=true then [ci ((a+b+1) / 2),ci b] else [ci a,ci ((a+b+1) / 2 - 1)])))
    (h2:∀ a b:Int,¬a<b→step [ci a,ci b]=some (.br 0 [ci a])):∀ (k:Nat) (a b:Int),0≤a→b≤100000→b - a<2 ^ k→loopD step [ci a,ci b]=some (.br 0 [ci (lastF f k a b)])
  | 0,a,b,ha,hb,hk=>by
    have:¬a<b:=by simp at hk;omega
    exact loop_end (h2 a b this) (by simp)
  | k+1,a,b,ha,hb,hk=>by
    simp only [lastF]
    by_cases h:a<b
    · rw [if_pos h,loop_eq (h1 a b ha h hb)]
      have hp:(2:Int) ^ (k+1)=2*2 ^ k:=by rw [Int.pow_succ];omega
      rw [hp] at hk
      split
      · exact lastF_loop0 h1 h2 k _ _ (by omega) hb (by omega)
      · exact lastF_loop0 h1 h2 k _ _ ha (by omega) (by omega)
    · rw [if_neg h]
      exact loop_end (h2 a b h) (by simp)
theorem r_Lasts (n:Nat) {y:Yard} (hf:Fit y) (l:List Stay) (d:Int) (hl:l.length<9223372036854775807) :
    D its (n+5) n_r05_Lasts [.row 1 y.ps,.row 4 y.ks,.row 3 (stays l),ci d]=some (if staying y l=0 then (if within d 0 1000000000000=true then (if eaten y l 0 > d then [ci 0,ci 3] else [ci (lasts y l d),ci 0]) else [ci 0,ci 1]) else [ci 0,ci (staying y l)]):=by
  rw [q_r05_Lasts]
  unfold R_r05_Lasts
  rw [r_CheckStays (n+1) hf l hl]
  by_cases h:staying y l=0
  · obtain ⟨hy,hs⟩:=staying_ok h
    rw [h,if_pos rfl,callO_val,gi_z,ne_z,ib_f,w_within,callO_val,gb_z]
    cases hd:within d 0 1000000000000 with
    | false=>simp
    | true =>
      rw [Bool.not_true,ib_f,if_pos rfl,r_eaten (n+2) hy hs (d:=0) (by omega) (by omega),callO_val]
      by_cases h3:eaten y l 0 > d
      · simp only [gi_z,eq_true h3,decide_true,ib_t,if_true];rfl
      · simp only [gi_z,eq_false h3,decide_false,ib_f,if_false]
        rw [lastF_loop0 (f:=fun x=>decide (eaten y l x≤d)) ?_ ?_ 17 0 100000 (by omega) (by omega) (by decide)]
        · rfl
        · intro a b ha hab hb'
          have e1:wr (a+b)=a+b:=by rw [wr_of] <;> omega
          have e2:wr (a+b+1)=a+b+1:=by rw [wr_of] <;> omega
          have e3:Int.tdiv (a+b+1) 2=(a+b+1) / 2:=Int.tdiv_eq_ediv_of_nonneg (by omega)
          have e4:wr ((a+b+1) / 2)=(a+b+1) / 2:=by rw [wr_of] <;> omega
          have e5:wr ((a+b+1) / 2 - 1)=(a+b+1) / 2 - 1:=by rw [wr_of] <;> omega
          simp only [gi_z,gi_s,eq_true hab,decide_true,ib_t,e1,e2,e3,e4,e5,r_eaten (its:=its) (n+2) hy hs (d:=(a+b+1) / 2) (by omega) (by omega),callO_val]
          by_cases hq:eaten y l ((a+b+1) / 2)≤d
          · simp only [eq_true hq,decide_true,ib_t,seqO_nx,gi_z,gi_s,if_true]
          · simp only [eq_false hq,decide_false,ib_f,seqO_nx,gi_z,gi_s,Bool.false_eq_true,if_false]
        · intro a b hab
          simp only [gi_z,gi_s,eq_false hab,decide_false,ib_f]
  · rw [callO_val,gi_z,ne_st h,ib_t,if_neg h];rfl
theorem sortsOn_snoc (l:List Stay) (s:Stay) (d:Int):sortsOn (l++[s]) d=if isThere d s=true then sortsOn l d++[s.sort] else sortsOn l d:=by
  unfold sortsOn
  rw [List.filter_append,List.map_append,List.filter_cons]
  split <;> simp
theorem sortsOn_len (l:List Stay) (d:Int):(sortsOn l d).length≤l.length:=by
  unfold sortsOn
  rw [List.length_map]
  exact List.length_filter_le _ _
theorem r_full (n:Nat) {y:Yard} (hy:y.ok=true) {l:List Stay} (hs:staysOk y l=true) (d:Int) :
    D its (n+14) n_r05_full [.row 1 y.ps,.row 4 y.ks,.row 3 (stays l),ci d]=some [cb (fullOn y l d)]:=by
  have h40:=(stays_ok hs).1
  rw [q_r05_full]
  unfold R_r05_full
  rw [(loop_foldI l (fun i (_:Unit)=>[ci (i:Int),.row 1 (ints (sortsOn (l.take i) d))]) (fun _ _=>()) (fun _ _=>True) 0 (fun _=>[.row 1 (ints (sortsOn l d))]) () ?hv trivial ?hs ?he).1]
  case hv=>rfl
  case hs =>
    intro i hi _ _
    refine ⟨?_,trivial⟩
    have hpl:=sortsOn_len (l.take i) d
    rw [List.length_take] at hpl
    have hf:fitA (ints (sortsOn (l.take i) d)).length 1 8=true:=fitA_of (by rw [ints_length];omega) (by rw [ints_length];omega)
    rw [← List.take_append_getElem hi,sortsOn_snoc]
    simp only [gi_z,gi_s,il_stays,eq_true (show ((i:Int)<(l.length:Int)) by omega),decide_true,ib_t,inb_stays hi,el_stays hi,scv_oks,chk_true,scv0,scv1,scv2,r_isThere,callO_val,gb_z,gr_s,gr_z,hf,wr_nat (show i<9223372036854775807 by omega),chunk_s,chunk_z,List.take_succ_cons,List.take_zero,ints_snoc]
    cases isThere d l[i] with
    | true=>rw [ib_t,if_pos rfl];rfl
    | false=>rw [ib_f,if_neg (by simp)];rfl
  case he =>
    intro _ _
    rw [List.take_length]
    simp only [gi_z,il_stays,eq_false (show ¬((l.length:Int)<(l.length:Int)) by omega),decide_false,ib_f,gr_s,gr_z]
  unfold fullOn
  rw [blkO_br,gr_z,il_ints']
  by_cases h8:(sortsOn l d).length > 8
  · simp only [eq_true (show (((sortsOn l d).length:Int) > 8) by omega),decide_true,ib_t,eq_true h8,Bool.true_or]
    rfl
  · have hso:sortsOk y (sortsOn l d)=true:=by
      unfold sortsOk
      rw [Bool.and_eq_true,decide_eq_true_eq,List.all_eq_true]
      exact ⟨by omega,sortsOn_has hs _⟩
    simp only [eq_false (show ¬(((sortsOn l d).length:Int) > 8) by omega),decide_false,ib_f,eq_false h8,Bool.false_or,r_can (its:=its) hy hso n,callO_val,gb_z]
    rfl
theorem r_Full (n:Nat) {y:Yard} (hf:Fit y) (l:List Stay) (hl:l.length<9223372036854775807) :
    D its (n+15) n_r05_Full [.row 1 y.ps,.row 4 y.ks,.row 3 (stays l)]=some (if staying y l=0 then (match fullM y l with | some d=>[ci d,ci 0] | none=>[ci 0,ci 3]) else [ci 0,ci (staying y l)]):=by
  rw [q_r05_Full]
  unfold R_r05_Full
  rw [r_CheckStays (n+11) hf l hl]
  by_cases h:staying y l=0
  · obtain ⟨hy,hs⟩:=staying_ok h
    obtain ⟨h40,hok⟩:=stays_ok hs
    have hin:∀ s∈l,0≤s.inn:=by
      intro s hs
      have:=hok s hs
      unfold okStay within at this
      simp only [Bool.and_eq_true,decide_eq_true_eq] at this
      exact this.1.2.1
    rw [h,if_pos rfl,callO_val,gi_z,ne_z,ib_f]
    rw [(loop_foldI l (fun i (o:Int)=>[ci o,ci (i:Int)]) (stepF y l) (fun _ _=>True) 0 (fun o=>[ci o]) (-1) ?hv trivial ?hs ?he).1]
    case hv=>rfl
    case hs =>
      intro i hi o _
      refine ⟨?_,trivial⟩
      unfold stepF
      simp only [gi_z,gi_s,il_stays,eq_true (show ((i:Int)<(l.length:Int)) by omega),decide_true,ib_t,inb_stays hi,el_stays hi,scv_oks,chk_true,scv0,scv1,scv2,r_full (its:=its) n hy hs,callO_val,gb_z,wr_nat (show i<9223372036854775807 by omega)]
      by_cases ho:o<0
      · simp only [eq_true ho,decide_true,Bool.true_or,Bool.true_and,ib_t,seqO_nx,gb_z]
        cases fullOn y l l[i].inn <;> rfl
      · by_cases hi2:l[i].inn<o
        · simp only [eq_false ho,eq_true hi2,decide_true,decide_false,Bool.false_or,Bool.true_and,ib_t,ib_f,seqO_nx,gb_z]
          cases fullOn y l l[i].inn <;> rfl
        · simp only [eq_false ho,eq_false hi2,decide_false,Bool.false_or,Bool.false_and,ib_f,seqO_nx,gb_z,gi_z]
          rfl
    case he =>
      intro o _
      simp only [gi_z,gi_s,il_stays,eq_false (show ¬((l.length:Int)<(l.length:Int)) by omega),decide_false,ib_f]
    rw [stepF_fullM (rm_nonneg hy) hin]
    cases hm:fullM y l with
    | none=>rfl
    | some d =>
      obtain ⟨s,hs',rfl⟩:=fullM_inn (rm_nonneg hy) hm
      have:=hin s hs'
      simp only [blkO_br,gi_z,eq_false (show ¬(s.inn<0) by omega),decide_false,ib_f]
      rfl
  · rw [callO_val,gi_z,ne_st h,ib_t,if_neg h];rfl
end Go.Proofs.Ythkfohoccnnphaa
namespace Go.Proofs.Ythkfohoccnnphaa
open Go Go.Sx Go.Pen
set_option maxRecDepth 10000
theorem w_PenStays (n:Nat) (y:Yard) (l:List Stay) (a b:Int) (hf:Fit y) (hl:l.length<100000000000000) (hb:∀ m∈[a,b],-9223372036854775808≤m∧m<9223372036854775808) :
    D its (n+16) n_law05_PenStays [.row 1 y.ps,.row 4 y.ks,.row 3 (stays l),ci a,ci b]=some [cb true]:=by
  rw [q_law05_PenStays]
  unfold R_law05_PenStays
  obtain ⟨x,e,hx,h1,h2⟩:∃ x e,x.length<9223372036854775807∧D its (n+15) n_pen_There [.row 1 y.ps,.row 4 y.ks,.row 3 (stays l),ci a]=some [.row 1 (ints x),ci e]∧D its (n+15) n_r05_There [.row 1 y.ps,.row 4 y.ks,.row 3 (stays l),ci a]=some [.row 1 (ints x),ci e]:=by
    rw [w_There (its:=its) (n+7) y l a hf.p hf.k (by omega),r_There (its:=its) (n+11) hf l a (by omega)]
    by_cases h:staying y l=0
    · simp only [if_pos h]
      by_cases hk:within a 0 100000=true
      · simp only [if_pos hk]
        exact ⟨thereOn l a,0,by have:=places_len (isThere a) l 0;change (thereOn l a).length≤_ at this;omega,rfl,rfl⟩
      · simp only [if_neg hk];exact ⟨[],6,by simp,rfl,rfl⟩
    · simp only [if_neg h];exact ⟨[],_,by simp,rfl,rfl⟩
  obtain ⟨A,h3,h4⟩:∃ A,D its (n+15) n_pen_Full [.row 1 y.ps,.row 4 y.ks,.row 3 (stays l)]=some A∧D its (n+15) n_r05_Full [.row 1 y.ps,.row 4 y.ks,.row 3 (stays l)]=some A:=⟨_,w_Full itsM (n+7) hf l (by omega),r_Full (its:=its) n hf l (by omega)⟩
  obtain ⟨B,h5,h6⟩:∃ B,D its (n+15) n_pen_Eaten [.row 1 y.ps,.row 4 y.ks,.row 3 (stays l),ci a]=some B∧D its (n+15) n_r05_Eaten [.row 1 y.ps,.row 4 y.ks,.row 3 (stays l),ci a]=some B:=⟨_,w_Eaten (its:=its) (n+7) y l a hf.p hf.k (by omega),r_Eaten (its:=its) (n+10) hf l a (by omega)⟩
  obtain ⟨C,h7,h8⟩:∃ C,D its (n+15) n_pen_Lasts [.row 1 y.ps,.row 4 y.ks,.row 3 (stays l),ci b]=some C∧D its (n+15) n_r05_Lasts [.row 1 y.ps,.row 4 y.ks,.row 3 (stays l),ci b]=some C:=⟨_,w_Lasts (its:=its) (n+7) y l b hf.p hf.k (by omega),r_Lasts (its:=its) (n+10) hf l b (by omega)⟩
  simp only [h1,h2,h3,h4,h5,h6,h7,h8,callO_val,gr_z,gi_s,gi_z,w_Same (its:=its) (n+14) x x hx,decide_true,gb_z,beq_self_eq_true,ib_t,sane_true (n+5),w_CheckStays (its:=its) (n+7) y l hf.p hf.k (show l.length<9223372036854775807 by omega),r_CheckStays (its:=its) (n+12) hf l (show l.length<9223372036854775807 by omega)]
  rfl
end Go.Proofs.Ythkfohoccnnphaa
namespace Go.Proofs.Ythkfohoccnnphaa
open Go Go.Sx Go.Pen Go.ChangeShapes Go.WideShapes Go.ChangeAt Go.RowKit
set_option maxRecDepth 100000
theorem penStays_spec (css:List (List CV)) (h:ShpAll Try.prog 6 Try.f6.params.toList css):SpecR Try.prog 6 (avsOf Try.prog Try.f6.params.toList css) (.cv (cb true)):=by
  rw [Try.params6] at h ⊢
  match css,h with
  | [c1,c2,c3],h =>
    simp only [ShpAll,and_true] at h
    obtain ⟨h1,h2,h3⟩:=h
    obtain ⟨y0,hy0,rfl⟩:=shp_yard h1
    obtain ⟨l1,hl1,rfl⟩:=shp_stays h2
    obtain ⟨a2,b2,rfl,hb2⟩:=shp_two h3
    exact spec_of (g:=fe6.g) rfl (w_PenStays 0 y0 l1 a2 b2 hy0 hl1 hb2)
  | [],h=>simp [ShpAll] at h
  | [_],h=>simp [ShpAll] at h
  | [_,_],h=>simp [ShpAll] at h
  | _::_::_::_::_,h=>simp [ShpAll] at h
theorem penStays_lifted (os:Os) (started:os.Started) (H:Type) (enc:TypeId×Value→H) :
    ReturnsInHanded {} Try.checked os 6 .any (Rows.penStaysSpec.pre6 enc Try.prog Try.f6 Rows.penStaysRow.domain false) (Rows.penStaysSpec.post enc Try.prog Try.f6 false true false false):=
  law_lift (C:=Try.checked) (tb:=4) 6 Try.own started (by kernel_rfl) Try.func6 Try.kids Try.full
    (by rw [Try.params6];intro t ht;simp only [List.mem_cons,List.not_mem_nil,or_false] at ht;rcases ht with rfl | rfl | rfl <;> exact of_decide_eq_true (by kernel_rfl))
    (by kernel_rfl) (by rfl) Try.underlying4 rfl
    (fun ds h=>by
      rw [Try.params6] at h
      match ds,h with
      | [_,_,_],_=>rfl)
    (ChangeSpec.witness6 (enc:=enc) (C:=Try.checked) false ⟨#[],#[.agg #[.slice none 0 0,.slice none 0 0],.slice none 0 0,.agg #[.int .i64 0,.int .i64 0]],[]⟩ 8 (by kernel_rfl) (by kernel_rfl) (by kernel_rfl) (by kernel_rfl))
    penStays_spec
theorem penStays_holds:Rows.PenStaysSaid:=
  OpenClaim.holds_of_wide 6 Try.f6 rfl rfl rfl rfl rfl rfl rfl ⟨rfl,rfl,rfl,rfl,rfl⟩ rfl rfl rfl rfl rfl (by kernel_rfl) Try.func6 (by kernel_rfl)
    (of_decide_eq_true (by kernel_rfl)) (by unfold Func.isWrapper;first | (rw [if_pos (by decide +kernel)];kernel_rfl) | (rw [if_neg (by decide +kernel)];exact ⟨rfl,rfl⟩))
    (fun os started H enc _=>penStays_lifted os started H enc)
end Go.Proofs.Ythkfohoccnnphaa
