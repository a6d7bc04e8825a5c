import Derived.Test.YtkhifpbokgabbaaGreatDoorW14
set_option maxHeartbeats 4000000
set_option maxRecDepth 100000
set_option linter.unusedSimpArgs false
set_option linter.unusedVariables false
namespace Go.Proofs.YtkhifpbokgabbaaGreatDoor
open Go.RowKit
variable {K:Kd} {D:Int -> Prop}
theorem start_v0 (mb:Nat) (M:MemS) (k:Nat) (T:HL) (A:Option Addr) (n c:Nat) (e0 e1 e2 a b d:Int) (F:HL) (hM:MemK K D mb M (k+5) T)  (hl:DLo D):Sp Tryz.prog 79 #[.iface K.tid (vP mb 0),.agg #[.slice A n c,vI e0,vI e1,vI e2],vI 0,vI a,vI b,vI d] (ap [] [T]) F (λ u H'=>∃ x,H'=ap [] [x] /\ (MemK K D mb (startV e0 d a b M) k x /\ u=.bool (!(decide (e0 < 0))))):=by
 cases K
 all_goals
  refine Sp.run Tryz.func79 rfl mn (A:=[]) (Ts:=[T]) rfl λ w0=>?_
  refine RN.go 28 [.own 0] λ n1=>RN.em (e0 < 0) 29 (λ h2=>?_) λ h2=>?_
  ·refine RN.go 6 [] λ _=>RN.ret [] [] [0] (v:=.bool false) (H':=(ap [] [T])) ?_
   refine ⟨T,rfl,?_⟩
   refine ⟨?_,?_⟩
   ·simp only [startV,if_pos h2];exact hM.weak (by omega)
   ·rw [decide_eq_true h2];rfl
  ·refine RN.go 4 [] λ _=>RN.draw [8] []<|RD.go [] [0,1,2,3,5,4,6,7] [.own 0]<|RD.one 8 (RDO.ct [] [] [0] (set_any 6 e0 hM (hl 6 (by decide) (by decide))) ?_)
   rintro _ T3 hM4
   refine RD.fin<|RN.go 4 [] λ _=>RN.ct [] [0] (set_any 7 0 hM4 (hl 7 (by decide) (by decide))) ?_
   rintro _ T5 hM6
   refine RN.go 6 [] λ _=>RN.ct [] [0] (set_any 8 d hM6 (hl 8 (by decide) (by decide))) ?_
   rintro _ T7 hM8
   refine RN.go 6 [] λ _=>RN.ct [] [0] (set_any 9 a hM8 (hl 9 (by decide) (by decide))) ?_
   rintro _ T9 hM10
   refine RN.go 6 [] λ _=>RN.ct [] [0] (set_any 10 b hM10 (hl 10 (by decide) (by decide))) ?_
   rintro _ T11 hM12
   refine RN.go 7 [] λ _=>RN.ret [] [] [0] (v:=.bool true) (H':=(ap [] [T11])) ?_
   refine ⟨T11,rfl,?_⟩
   refine ⟨?_,?_⟩
   ·simp only [startV,if_neg h2];exact hM12.weak (by omega)
   ·rw [decide_eq_false h2];rfl
theorem start_v1 (mb:Nat) (M:MemS) (k:Nat) (T:HL) (A:Option Addr) (n c:Nat) (e0 e1 e2 a b d:Int) (F:HL) (hM:MemK K D mb M (k+5) T)  (hl:DLo D):Sp Tryz.prog 79 #[.iface K.tid (vP mb 0),.agg #[.slice A n c,vI e0,vI e1,vI e2],vI 1,vI a,vI b,vI d] (ap [] [T]) F (λ u H'=>∃ x,H'=ap [] [x] /\ (MemK K D mb (startV e1 d a b M) k x /\ u=.bool (!(decide (e1 < 0))))):=by
 cases K
 all_goals
  refine Sp.run Tryz.func79 rfl mn (A:=[]) (Ts:=[T]) rfl λ w0=>?_
  refine RN.go 28 [.own 0] λ n1=>RN.em (e1 < 0) 29 (λ h2=>?_) λ h2=>?_
  ·refine RN.go 6 [] λ _=>RN.ret [] [] [0] (v:=.bool false) (H':=(ap [] [T])) ?_
   refine ⟨T,rfl,?_⟩
   refine ⟨?_,?_⟩
   ·simp only [startV,if_pos h2];exact hM.weak (by omega)
   ·rw [decide_eq_true h2];rfl
  ·refine RN.go 4 [] λ _=>RN.draw [8] []<|RD.go [] [0,1,2,3,5,4,6,7] [.own 0]<|RD.one 8 (RDO.ct [] [] [0] (set_any 6 e1 hM (hl 6 (by decide) (by decide))) ?_)
   rintro _ T3 hM4
   refine RD.fin<|RN.go 4 [] λ _=>RN.ct [] [0] (set_any 7 0 hM4 (hl 7 (by decide) (by decide))) ?_
   rintro _ T5 hM6
   refine RN.go 6 [] λ _=>RN.ct [] [0] (set_any 8 d hM6 (hl 8 (by decide) (by decide))) ?_
   rintro _ T7 hM8
   refine RN.go 6 [] λ _=>RN.ct [] [0] (set_any 9 a hM8 (hl 9 (by decide) (by decide))) ?_
   rintro _ T9 hM10
   refine RN.go 6 [] λ _=>RN.ct [] [0] (set_any 10 b hM10 (hl 10 (by decide) (by decide))) ?_
   rintro _ T11 hM12
   refine RN.go 7 [] λ _=>RN.ret [] [] [0] (v:=.bool true) (H':=(ap [] [T11])) ?_
   refine ⟨T11,rfl,?_⟩
   refine ⟨?_,?_⟩
   ·simp only [startV,if_neg h2];exact hM12.weak (by omega)
   ·rw [decide_eq_false h2];rfl
theorem start_v2 (mb:Nat) (M:MemS) (k:Nat) (T:HL) (A:Option Addr) (n c:Nat) (e0 e1 e2 a b d:Int) (F:HL) (hM:MemK K D mb M (k+5) T)  (hl:DLo D):Sp Tryz.prog 79 #[.iface K.tid (vP mb 0),.agg #[.slice A n c,vI e0,vI e1,vI e2],vI 2,vI a,vI b,vI d] (ap [] [T]) F (λ u H'=>∃ x,H'=ap [] [x] /\ (MemK K D mb (startV e2 d a b M) k x /\ u=.bool (!(decide (e2 < 0))))):=by
 cases K
 all_goals
  refine Sp.run Tryz.func79 rfl mn (A:=[]) (Ts:=[T]) rfl λ w0=>?_
  refine RN.go 28 [.own 0] λ n1=>RN.em (e2 < 0) 29 (λ h2=>?_) λ h2=>?_
  ·refine RN.go 6 [] λ _=>RN.ret [] [] [0] (v:=.bool false) (H':=(ap [] [T])) ?_
   refine ⟨T,rfl,?_⟩
   refine ⟨?_,?_⟩
   ·simp only [startV,if_pos h2];exact hM.weak (by omega)
   ·rw [decide_eq_true h2];rfl
  ·refine RN.go 4 [] λ _=>RN.draw [8] []<|RD.go [] [0,1,2,3,5,4,6,7] [.own 0]<|RD.one 8 (RDO.ct [] [] [0] (set_any 6 e2 hM (hl 6 (by decide) (by decide))) ?_)
   rintro _ T3 hM4
   refine RD.fin<|RN.go 4 [] λ _=>RN.ct [] [0] (set_any 7 0 hM4 (hl 7 (by decide) (by decide))) ?_
   rintro _ T5 hM6
   refine RN.go 6 [] λ _=>RN.ct [] [0] (set_any 8 d hM6 (hl 8 (by decide) (by decide))) ?_
   rintro _ T7 hM8
   refine RN.go 6 [] λ _=>RN.ct [] [0] (set_any 9 a hM8 (hl 9 (by decide) (by decide))) ?_
   rintro _ T9 hM10
   refine RN.go 6 [] λ _=>RN.ct [] [0] (set_any 10 b hM10 (hl 10 (by decide) (by decide))) ?_
   rintro _ T11 hM12
   refine RN.go 7 [] λ _=>RN.ret [] [] [0] (v:=.bool true) (H':=(ap [] [T11])) ?_
   refine ⟨T11,rfl,?_⟩
   refine ⟨?_,?_⟩
   ·simp only [startV,if_neg h2];exact hM12.weak (by omega)
   ·rw [decide_eq_false h2];rfl
theorem exeOk_op {op n sp:Int} (h:exeOk op n sp=true):1 <= op /\ op <= 21:=by
 unfold exeOk at h
 by_cases h1:op < 1
 ·rw [if_pos h1] at h;cases h
 ·rw [if_neg h1] at h
  by_cases h2:op > 21
  ·rw [if_pos h2] at h;cases h
  ·omega
theorem vstep_code (mb:Nat) (M:MemS) (k:Nat) (T:HL) (S:Setup) (code:List Ins) (b R n cc:Nat) (e0 e1 e2:Int) (F:HL) (hM:MemK K D mb M (k+6) T) (hS:SetN S) (hE:EffIn F) (hc:(b,.rows 2 R (crow code) 136 (0,0)) ∈ F) (hnR:n <= R) (hn2:n <= 1000000) (hst:StD D S code n M) (hl:DLo D):Sp Tryz.prog 80 #[.iface K.tid (vP mb 0),(Setup.v S),.agg #[vS b 0 n cc,vI e0,vI e1,vI e2]] (ap [] [T]) F (λ u H'=>∃ x,H'=ap [] [x] /\ (MemK K D mb ((stepV S code n M).M) k x /\ u=.tuple #[.bool (endV code n M),.agg #[vI ((stepV S code n M).e.t),vI ((stepV S code n M).e.i),vI ((stepV S code n M).e.k),vI ((stepV S code n M).e.v)],.bool ((stepV S code n M).em)])):=by
 refine Sp.run Tryz.func80 rfl (mc hc (mc hE mn)) (A:=[]) (Ts:=[T]) rfl λ w0=>?_
 refine RN.go 22 [] λ n1=>RN.cpK (get_any 6 hM (hl 6 (by decide) (by decide)) (sub_ap 0))<|RN.go 1 [] λ _=>RN.cpK (get_any 7 hM (hl 7 (by decide) (by decide)) (sub_ap 0))<|RN.go 1 [] λ _=>RN.cpK (get_any 8 hM (hl 8 (by decide) (by decide)) (sub_ap 0))<|RN.go 11 [] λ _=>RN.em (M.get 8 < 1) 29 (λ h2=>?_) λ h2=>?_
 ·refine RN.go 31 [.own 0,.own 0,.own 0,.own 0] λ _=>RN.ret [.own 0,.own 0,.own 0,.own 0] [] [0] (v:=.tuple #[.bool true,.agg #[vI 0,vI 0,vI 0,vI 0],.bool false]) (H':=(ap [] [T])) ?_
  refine ⟨T,rfl,?_⟩
  have hr:¬ runsV code n M:=λ hr_=>hr_.1 h2
  refine ⟨?_,?_⟩
  ·simp only [stepV,endV,if_neg hr];exact hM.weak (by omega)
  ·first | (simp only [stepV,endV,if_neg hr];done) | (simp only [stepV,endV,if_neg hr];rfl)
 ·refine RN.go 4 [] λ _=>RN.em (M.get 6 < 0) 33 (λ h3=>?_) λ h3=>?_
  ·refine RN.go 27 [.own 0,.own 0,.own 0,.own 0] λ _=>RN.ret [.own 0,.own 0,.own 0,.own 0] [] [0] (v:=.tuple #[.bool true,.agg #[vI 0,vI 0,vI 0,vI 0],.bool false]) (H':=(ap [] [T])) ?_
   refine ⟨T,rfl,?_⟩
   have hr:¬ runsV code n M:=λ hr_=>hr_.2.1 h3
   refine ⟨?_,?_⟩
   ·simp only [stepV,endV,if_neg hr];exact hM.weak (by omega)
   ·first | (simp only [stepV,endV,if_neg hr];done) | (simp only [stepV,endV,if_neg hr];rfl)
  ·refine RN.go 7 [.own 1] λ _=>RN.em (M.get 6 >= (n:Int)) 40 (λ h4=>?_) λ h4=>?_
   ·refine RN.go 20 [.own 0,.own 0,.own 0,.own 0] λ _=>RN.ret [.own 0,.own 0,.own 0,.own 0] [] [0] (v:=.tuple #[.bool true,.agg #[vI 0,vI 0,vI 0,vI 0],.bool false]) (H':=(ap [] [T])) ?_
    refine ⟨T,rfl,?_⟩
    have hr:¬ runsV code n M:=λ hr_=>hr_.2.2.1 h4
    refine ⟨?_,?_⟩
    ·simp only [stepV,endV,if_neg hr];exact hM.weak (by omega)
    ·first | (simp only [stepV,endV,if_neg hr];done) | (simp only [stepV,endV,if_neg hr];rfl)
   ·refine RN.goP 6 [.own 1,.ix ((M.get 6).toNat),.rorow 0 ((M.get 6).toNat) 0,.rorow 0 ((M.get 6).toNat) 1] [((0+((M.get 6).toNat) * 2)+1)=((M.get 6).toNat) * 2+1 /\ ((M.get 6).toNat) < R,(0+((M.get 6).toNat) * 2)=((M.get 6).toNat) * 2+0 /\ ((M.get 6).toNat) < R,M.get 6=(((M.get 6).toNat:Nat):Int) /\ (M.get 6).toNat < n] λ _=>RN.cp (exe_any ((code.getD ((M.get 6).toNat) dIns).op) ((code.getD ((M.get 6).toNat) dIns).n) (M.get 7) _ (ro_ap hE))<|RN.go 4 [] λ _=>RN.eB (exeOk ((code.getD ((M.get 6).toNat) dIns).op) ((code.getD ((M.get 6).toNat) dIns).n) (M.get 7)) 49 (λ h5=>?_) λ h5=>?_
    ·have ho:=exeOk_op h5
     have hst_:=hst ⟨h2,h3,h4,h5⟩
     refine RN.goP 15 [.own 1,.ix ((M.get 6).toNat),.rorow 0 ((M.get 6).toNat) 0,.rorow 0 ((M.get 6).toNat) 1,.own 0,.own 0] [((0+((M.get 6).toNat) * 2)+1)=((M.get 6).toNat) * 2+1 /\ ((M.get 6).toNat) < R,(0+((M.get 6).toNat) * 2)=((M.get 6).toNat) * 2+0 /\ ((M.get 6).toNat) < R,M.get 6=(((M.get 6).toNat:Nat):Int) /\ (M.get 6).toNat < n] λ n6=>RN.draw [] []<|RD.goP [] [0,5,1,6,2,7,3,8,4,9,10,11] [.own 0,.own 0,.ix (((code.getD ((M.get 6).toNat) dIns).op).toNat),.ix (((code.getD ((M.get 6).toNat) dIns).op).toNat),.rorow 1 (((code.getD ((M.get 6).toNat) dIns).op).toNat) 0,.rorow 1 (((code.getD ((M.get 6).toNat) dIns).op).toNat) 1] [((0+(((code.getD ((M.get 6).toNat) dIns).op).toNat) * 3)+1)=(((code.getD ((M.get 6).toNat) dIns).op).toNat) * 3+1 /\ (((code.getD ((M.get 6).toNat) dIns).op).toNat) < 22,(0+(((code.getD ((M.get 6).toNat) dIns).op).toNat) * 3)=(((code.getD ((M.get 6).toNat) dIns).op).toNat) * 3+0 /\ (((code.getD ((M.get 6).toNat) dIns).op).toNat) < 22,(code.getD ((M.get 6).toNat) dIns).op=((((code.getD ((M.get 6).toNat) dIns).op).toNat:Nat):Int) /\ ((code.getD ((M.get 6).toNat) dIns).op).toNat < 22,(code.getD ((M.get 6).toNat) dIns).op=((((code.getD ((M.get 6).toNat) dIns).op).toNat:Nat):Int) /\ ((code.getD ((M.get 6).toNat) dIns).op).toNat < 22]<|RD.fin<|RN.go 38 [.own 0,.own 0,.own 0,.own 0] λ n7=>RN.em (eP ((code.getD ((M.get 6).toNat) dIns).op)=2) 74 (λ h8=>?_) λ h8=>?_
     ·refine RN.go 10 [] λ _=>RN.cpK (get_any (IntKind.i64.wrap ((IntKind.i64.wrap ((IntKind.i64.wrap (16+(M.get 7))) - (eP ((code.getD ((M.get 6).toNat) dIns).op))))+1)) hM (hst_.1.2 (by assumption)) (sub_ap 0))<|RN.go 9 [.own 0] λ _=>RN.cpK (get_any (IntKind.i64.wrap ((IntKind.i64.wrap (16+(M.get 7))) - (eP ((code.getD ((M.get 6).toNat) dIns).op)))) hM hst_.1.1 (sub_ap 0))<|RN.go 12 [.own 0] λ _=>RN.ctK [] [0] (set_any 8 (IntKind.i64.wrap ((M.get 8) - 1)) hM (hl 8 (by decide) (by decide))) ?_
      rintro _ T9 hM10
      refine RN.go 7 [] λ _=>RN.ctK [] [0] (set_any 6 (IntKind.i64.wrap ((M.get 6)+1)) hM10 (hl 6 (by decide) (by decide))) ?_
      rintro _ T11 hM12
      refine RN.go 10 [] λ _=>RN.en (eP ((code.getD ((M.get 6).toNat) dIns).op)=eQ ((code.getD ((M.get 6).toNat) dIns).op)) 97 (λ h13=>?_) λ h13=>?_
      ·refine RN.go 10 ([.own 1]++ow 4 16++[.own 0,.own 0,.own 0]) λ _=>RN.ct [] [0] (exec_any mb ((M.set 8 (IntKind.i64.wrap ((M.get 8) - 1))).set 6 (IntKind.i64.wrap ((M.get 6)+1))) (k+2) T11 S ((code.getD ((M.get 6).toNat) dIns).op) ((code.getD ((M.get 6).toNat) dIns).n) (M.get (IntKind.i64.wrap ((IntKind.i64.wrap (16+(M.get 7))) - (eP ((code.getD ((M.get 6).toNat) dIns).op))))) (M.get (IntKind.i64.wrap ((IntKind.i64.wrap ((IntKind.i64.wrap (16+(M.get 7))) - (eP ((code.getD ((M.get 6).toNat) dIns).op))))+1))) _ hM12 hS (by assumption) (by have h_:=hst_.2;simp only [popA,if_pos h8,if_pos h13] at h_;exact h_) hl) ?_
       rintro _ T14 ⟨hM15,rfl⟩
       refine RN.go 16 [.own 2,.own 2,.own 2,.own 2] λ _=>RN.em (eQ ((code.getD ((M.get 6).toNat) dIns).op) > 0) 116 (λ h16=>?_) λ h16=>?_
       ·refine RN.go 8 [] λ _=>RN.ctK [] [0] (set_any (IntKind.i64.wrap ((IntKind.i64.wrap (16+(M.get 7))) - (eP ((code.getD ((M.get 6).toNat) dIns).op)))) ((execV S ((code.getD ((M.get 6).toNat) dIns).op) ((code.getD ((M.get 6).toNat) dIns).n) (M.get (IntKind.i64.wrap ((IntKind.i64.wrap (16+(M.get 7))) - (eP ((code.getD ((M.get 6).toNat) dIns).op))))) (M.get (IntKind.i64.wrap ((IntKind.i64.wrap ((IntKind.i64.wrap (16+(M.get 7))) - (eP ((code.getD ((M.get 6).toNat) dIns).op))))+1))) ((M.set 8 (IntKind.i64.wrap ((M.get 8) - 1))).set 6 (IntKind.i64.wrap ((M.get 6)+1)))).v) hM15 hst_.1.1) ?_
        rintro _ T17 hM18
        refine RN.go 3 [] λ _=>RN.draw [6] [0,1,3,4]<|RD.go [0,1,3,4] [0,3,4,1,2,5] [.own 2,.own 2,.own 2,.own 2,.own 1]<|RD.one 6 (RDO.ev [0,1,3,4] [.own 2,.own 2,.own 2,.own 2] λ _=>?_)
        refine RD.go [0,1,3,4] [7] []<|RD.fin<|RN.go 1 [] λ _=>RN.ret [.own 2,.own 2,.own 2,.own 2] [] [0] (v:=.tuple #[.bool (decide ((code.getD ((M.get 6).toNat) dIns).op=21)),.agg #[vI ((execV S ((code.getD ((M.get 6).toNat) dIns).op) ((code.getD ((M.get 6).toNat) dIns).n) (M.get (IntKind.i64.wrap ((IntKind.i64.wrap (16+(M.get 7))) - (eP ((code.getD ((M.get 6).toNat) dIns).op))))) (M.get (IntKind.i64.wrap ((IntKind.i64.wrap ((IntKind.i64.wrap (16+(M.get 7))) - (eP ((code.getD ((M.get 6).toNat) dIns).op))))+1))) ((M.set 8 (IntKind.i64.wrap ((M.get 8) - 1))).set 6 (IntKind.i64.wrap ((M.get 6)+1)))).e.t),vI ((execV S ((code.getD ((M.get 6).toNat) dIns).op) ((code.getD ((M.get 6).toNat) dIns).n) (M.get (IntKind.i64.wrap ((IntKind.i64.wrap (16+(M.get 7))) - (eP ((code.getD ((M.get 6).toNat) dIns).op))))) (M.get (IntKind.i64.wrap ((IntKind.i64.wrap ((IntKind.i64.wrap (16+(M.get 7))) - (eP ((code.getD ((M.get 6).toNat) dIns).op))))+1))) ((M.set 8 (IntKind.i64.wrap ((M.get 8) - 1))).set 6 (IntKind.i64.wrap ((M.get 6)+1)))).e.i),vI ((execV S ((code.getD ((M.get 6).toNat) dIns).op) ((code.getD ((M.get 6).toNat) dIns).n) (M.get (IntKind.i64.wrap ((IntKind.i64.wrap (16+(M.get 7))) - (eP ((code.getD ((M.get 6).toNat) dIns).op))))) (M.get (IntKind.i64.wrap ((IntKind.i64.wrap ((IntKind.i64.wrap (16+(M.get 7))) - (eP ((code.getD ((M.get 6).toNat) dIns).op))))+1))) ((M.set 8 (IntKind.i64.wrap ((M.get 8) - 1))).set 6 (IntKind.i64.wrap ((M.get 6)+1)))).e.k),vI ((execV S ((code.getD ((M.get 6).toNat) dIns).op) ((code.getD ((M.get 6).toNat) dIns).n) (M.get (IntKind.i64.wrap ((IntKind.i64.wrap (16+(M.get 7))) - (eP ((code.getD ((M.get 6).toNat) dIns).op))))) (M.get (IntKind.i64.wrap ((IntKind.i64.wrap ((IntKind.i64.wrap (16+(M.get 7))) - (eP ((code.getD ((M.get 6).toNat) dIns).op))))+1))) ((M.set 8 (IntKind.i64.wrap ((M.get 8) - 1))).set 6 (IntKind.i64.wrap ((M.get 6)+1)))).e.v)],.bool ((execV S ((code.getD ((M.get 6).toNat) dIns).op) ((code.getD ((M.get 6).toNat) dIns).n) (M.get (IntKind.i64.wrap ((IntKind.i64.wrap (16+(M.get 7))) - (eP ((code.getD ((M.get 6).toNat) dIns).op))))) (M.get (IntKind.i64.wrap ((IntKind.i64.wrap ((IntKind.i64.wrap (16+(M.get 7))) - (eP ((code.getD ((M.get 6).toNat) dIns).op))))+1))) ((M.set 8 (IntKind.i64.wrap ((M.get 8) - 1))).set 6 (IntKind.i64.wrap ((M.get 6)+1)))).em)]) (H':=(ap [] [T17])) ?_
        refine ⟨T17,rfl,?_⟩
        have hr:runsV code n M:=⟨h2,h3,h4,h5⟩
        refine ⟨?_,?_⟩
        ·simp only [stepV,endV,if_pos hr,pushV,stepI,popA,popB,memP,codeA,if_pos h8,if_pos h13,if_pos h16];exact hM18.weak (by omega)
        ·first | (simp only [stepV,endV,if_pos hr,pushV,stepI,popA,popB,memP,codeA,if_pos h8,if_pos h13,if_pos h16];done) | (simp only [stepV,endV,if_pos hr,pushV,stepI,popA,popB,memP,codeA,if_pos h8,if_pos h13,if_pos h16];rfl)
       ·refine RN.go 4 [] λ _=>RN.draw [6] [0,1,3,4]<|RD.go [0,1,3,4] [0,3,4,1,2,5] [.own 2,.own 2,.own 2,.own 2,.own 1]<|RD.one 6 (RDO.ev [0,1,3,4] [.own 2,.own 2,.own 2,.own 2] λ _=>?_)
        refine RD.go [0,1,3,4] [7] []<|RD.fin<|RN.go 1 [] λ _=>RN.ret [.own 2,.own 2,.own 2,.own 2] [] [0] (v:=.tuple #[.bool (decide ((code.getD ((M.get 6).toNat) dIns).op=21)),.agg #[vI ((execV S ((code.getD ((M.get 6).toNat) dIns).op) ((code.getD ((M.get 6).toNat) dIns).n) (M.get (IntKind.i64.wrap ((IntKind.i64.wrap (16+(M.get 7))) - (eP ((code.getD ((M.get 6).toNat) dIns).op))))) (M.get (IntKind.i64.wrap ((IntKind.i64.wrap ((IntKind.i64.wrap (16+(M.get 7))) - (eP ((code.getD ((M.get 6).toNat) dIns).op))))+1))) ((M.set 8 (IntKind.i64.wrap ((M.get 8) - 1))).set 6 (IntKind.i64.wrap ((M.get 6)+1)))).e.t),vI ((execV S ((code.getD ((M.get 6).toNat) dIns).op) ((code.getD ((M.get 6).toNat) dIns).n) (M.get (IntKind.i64.wrap ((IntKind.i64.wrap (16+(M.get 7))) - (eP ((code.getD ((M.get 6).toNat) dIns).op))))) (M.get (IntKind.i64.wrap ((IntKind.i64.wrap ((IntKind.i64.wrap (16+(M.get 7))) - (eP ((code.getD ((M.get 6).toNat) dIns).op))))+1))) ((M.set 8 (IntKind.i64.wrap ((M.get 8) - 1))).set 6 (IntKind.i64.wrap ((M.get 6)+1)))).e.i),vI ((execV S ((code.getD ((M.get 6).toNat) dIns).op) ((code.getD ((M.get 6).toNat) dIns).n) (M.get (IntKind.i64.wrap ((IntKind.i64.wrap (16+(M.get 7))) - (eP ((code.getD ((M.get 6).toNat) dIns).op))))) (M.get (IntKind.i64.wrap ((IntKind.i64.wrap ((IntKind.i64.wrap (16+(M.get 7))) - (eP ((code.getD ((M.get 6).toNat) dIns).op))))+1))) ((M.set 8 (IntKind.i64.wrap ((M.get 8) - 1))).set 6 (IntKind.i64.wrap ((M.get 6)+1)))).e.k),vI ((execV S ((code.getD ((M.get 6).toNat) dIns).op) ((code.getD ((M.get 6).toNat) dIns).n) (M.get (IntKind.i64.wrap ((IntKind.i64.wrap (16+(M.get 7))) - (eP ((code.getD ((M.get 6).toNat) dIns).op))))) (M.get (IntKind.i64.wrap ((IntKind.i64.wrap ((IntKind.i64.wrap (16+(M.get 7))) - (eP ((code.getD ((M.get 6).toNat) dIns).op))))+1))) ((M.set 8 (IntKind.i64.wrap ((M.get 8) - 1))).set 6 (IntKind.i64.wrap ((M.get 6)+1)))).e.v)],.bool ((execV S ((code.getD ((M.get 6).toNat) dIns).op) ((code.getD ((M.get 6).toNat) dIns).n) (M.get (IntKind.i64.wrap ((IntKind.i64.wrap (16+(M.get 7))) - (eP ((code.getD ((M.get 6).toNat) dIns).op))))) (M.get (IntKind.i64.wrap ((IntKind.i64.wrap ((IntKind.i64.wrap (16+(M.get 7))) - (eP ((code.getD ((M.get 6).toNat) dIns).op))))+1))) ((M.set 8 (IntKind.i64.wrap ((M.get 8) - 1))).set 6 (IntKind.i64.wrap ((M.get 6)+1)))).em)]) (H':=(ap [] [T14])) ?_
        refine ⟨T14,rfl,?_⟩
        have hr:runsV code n M:=⟨h2,h3,h4,h5⟩
        refine ⟨?_,?_⟩
        ·simp only [stepV,endV,if_pos hr,pushV,stepI,popA,popB,memP,codeA,if_pos h8,if_pos h13,if_neg h16];exact hM15.weak (by omega)
        ·first | (simp only [stepV,endV,if_pos hr,pushV,stepI,popA,popB,memP,codeA,if_pos h8,if_pos h13,if_neg h16];done) | (simp only [stepV,endV,if_pos hr,pushV,stepI,popA,popB,memP,codeA,if_pos h8,if_pos h13,if_neg h16];rfl)
      ·refine RN.go 8 [] λ _=>RN.ctK [] [0] (set_any 7 (IntKind.i64.wrap ((IntKind.i64.wrap ((M.get 7) - (eP ((code.getD ((M.get 6).toNat) dIns).op))))+(eQ ((code.getD ((M.get 6).toNat) dIns).op)))) hM12 (hl 7 (by decide) (by decide))) ?_
       rintro _ T19 hM20
       refine RN.go 9 ([.own 1]++ow 4 16++[.own 0,.own 0,.own 0]) λ _=>RN.ct [] [0] (exec_any mb (((M.set 8 (IntKind.i64.wrap ((M.get 8) - 1))).set 6 (IntKind.i64.wrap ((M.get 6)+1))).set 7 (IntKind.i64.wrap ((IntKind.i64.wrap ((M.get 7) - (eP ((code.getD ((M.get 6).toNat) dIns).op))))+(eQ ((code.getD ((M.get 6).toNat) dIns).op))))) (k+1) T19 S ((code.getD ((M.get 6).toNat) dIns).op) ((code.getD ((M.get 6).toNat) dIns).n) (M.get (IntKind.i64.wrap ((IntKind.i64.wrap (16+(M.get 7))) - (eP ((code.getD ((M.get 6).toNat) dIns).op))))) (M.get (IntKind.i64.wrap ((IntKind.i64.wrap ((IntKind.i64.wrap (16+(M.get 7))) - (eP ((code.getD ((M.get 6).toNat) dIns).op))))+1))) _ hM20 hS (by assumption) (by have h_:=hst_.2;simp only [popA,if_pos h8,if_neg h13] at h_;exact h_) hl) ?_
       rintro _ T21 ⟨hM22,rfl⟩
       refine RN.go 16 [.own 2,.own 2,.own 2,.own 2] λ _=>RN.em (eQ ((code.getD ((M.get 6).toNat) dIns).op) > 0) 116 (λ h23=>?_) λ h23=>?_
       ·refine RN.go 8 [] λ _=>RN.ctK [] [0] (set_any (IntKind.i64.wrap ((IntKind.i64.wrap (16+(M.get 7))) - (eP ((code.getD ((M.get 6).toNat) dIns).op)))) ((execV S ((code.getD ((M.get 6).toNat) dIns).op) ((code.getD ((M.get 6).toNat) dIns).n) (M.get (IntKind.i64.wrap ((IntKind.i64.wrap (16+(M.get 7))) - (eP ((code.getD ((M.get 6).toNat) dIns).op))))) (M.get (IntKind.i64.wrap ((IntKind.i64.wrap ((IntKind.i64.wrap (16+(M.get 7))) - (eP ((code.getD ((M.get 6).toNat) dIns).op))))+1))) (((M.set 8 (IntKind.i64.wrap ((M.get 8) - 1))).set 6 (IntKind.i64.wrap ((M.get 6)+1))).set 7 (IntKind.i64.wrap ((IntKind.i64.wrap ((M.get 7) - (eP ((code.getD ((M.get 6).toNat) dIns).op))))+(eQ ((code.getD ((M.get 6).toNat) dIns).op)))))).v) hM22 hst_.1.1) ?_
        rintro _ T24 hM25
        refine RN.go 3 [] λ _=>RN.draw [6] [0,1,3,4]<|RD.go [0,1,3,4] [0,3,4,1,2,5] [.own 2,.own 2,.own 2,.own 2,.own 1]<|RD.one 6 (RDO.ev [0,1,3,4] [.own 2,.own 2,.own 2,.own 2] λ _=>?_)
        refine RD.go [0,1,3,4] [7] []<|RD.fin<|RN.go 1 [] λ _=>RN.ret [.own 2,.own 2,.own 2,.own 2] [] [0] (v:=.tuple #[.bool (decide ((code.getD ((M.get 6).toNat) dIns).op=21)),.agg #[vI ((execV S ((code.getD ((M.get 6).toNat) dIns).op) ((code.getD ((M.get 6).toNat) dIns).n) (M.get (IntKind.i64.wrap ((IntKind.i64.wrap (16+(M.get 7))) - (eP ((code.getD ((M.get 6).toNat) dIns).op))))) (M.get (IntKind.i64.wrap ((IntKind.i64.wrap ((IntKind.i64.wrap (16+(M.get 7))) - (eP ((code.getD ((M.get 6).toNat) dIns).op))))+1))) (((M.set 8 (IntKind.i64.wrap ((M.get 8) - 1))).set 6 (IntKind.i64.wrap ((M.get 6)+1))).set 7 (IntKind.i64.wrap ((IntKind.i64.wrap ((M.get 7) - (eP ((code.getD ((M.get 6).toNat) dIns).op))))+(eQ ((code.getD ((M.get 6).toNat) dIns).op)))))).e.t),vI ((execV S ((code.getD ((M.get 6).toNat) dIns).op) ((code.getD ((M.get 6).toNat) dIns).n) (M.get (IntKind.i64.wrap ((IntKind.i64.wrap (16+(M.get 7))) - (eP ((code.getD ((M.get 6).toNat) dIns).op))))) (M.get (IntKind.i64.wrap ((IntKind.i64.wrap ((IntKind.i64.wrap (16+(M.get 7))) - (eP ((code.getD ((M.get 6).toNat) dIns).op))))+1))) (((M.set 8 (IntKind.i64.wrap ((M.get 8) - 1))).set 6 (IntKind.i64.wrap ((M.get 6)+1))).set 7 (IntKind.i64.wrap ((IntKind.i64.wrap ((M.get 7) - (eP ((code.getD ((M.get 6).toNat) dIns).op))))+(eQ ((code.getD ((M.get 6).toNat) dIns).op)))))).e.i),vI ((execV S ((code.getD ((M.get 6).toNat) dIns).op) ((code.getD ((M.get 6).toNat) dIns).n) (M.get (IntKind.i64.wrap ((IntKind.i64.wrap (16+(M.get 7))) - (eP ((code.getD ((M.get 6).toNat) dIns).op))))) (M.get (IntKind.i64.wrap ((IntKind.i64.wrap ((IntKind.i64.wrap (16+(M.get 7))) - (eP ((code.getD ((M.get 6).toNat) dIns).op))))+1))) (((M.set 8 (IntKind.i64.wrap ((M.get 8) - 1))).set 6 (IntKind.i64.wrap ((M.get 6)+1))).set 7 (IntKind.i64.wrap ((IntKind.i64.wrap ((M.get 7) - (eP ((code.getD ((M.get 6).toNat) dIns).op))))+(eQ ((code.getD ((M.get 6).toNat) dIns).op)))))).e.k),vI ((execV S ((code.getD ((M.get 6).toNat) dIns).op) ((code.getD ((M.get 6).toNat) dIns).n) (M.get (IntKind.i64.wrap ((IntKind.i64.wrap (16+(M.get 7))) - (eP ((code.getD ((M.get 6).toNat) dIns).op))))) (M.get (IntKind.i64.wrap ((IntKind.i64.wrap ((IntKind.i64.wrap (16+(M.get 7))) - (eP ((code.getD ((M.get 6).toNat) dIns).op))))+1))) (((M.set 8 (IntKind.i64.wrap ((M.get 8) - 1))).set 6 (IntKind.i64.wrap ((M.get 6)+1))).set 7 (IntKind.i64.wrap ((IntKind.i64.wrap ((M.get 7) - (eP ((code.getD ((M.get 6).toNat) dIns).op))))+(eQ ((code.getD ((M.get 6).toNat) dIns).op)))))).e.v)],.bool ((execV S ((code.getD ((M.get 6).toNat) dIns).op) ((code.getD ((M.get 6).toNat) dIns).n) (M.get (IntKind.i64.wrap ((IntKind.i64.wrap (16+(M.get 7))) - (eP ((code.getD ((M.get 6).toNat) dIns).op))))) (M.get (IntKind.i64.wrap ((IntKind.i64.wrap ((IntKind.i64.wrap (16+(M.get 7))) - (eP ((code.getD ((M.get 6).toNat) dIns).op))))+1))) (((M.set 8 (IntKind.i64.wrap ((M.get 8) - 1))).set 6 (IntKind.i64.wrap ((M.get 6)+1))).set 7 (IntKind.i64.wrap ((IntKind.i64.wrap ((M.get 7) - (eP ((code.getD ((M.get 6).toNat) dIns).op))))+(eQ ((code.getD ((M.get 6).toNat) dIns).op)))))).em)]) (H':=(ap [] [T24])) ?_
        refine ⟨T24,rfl,?_⟩
        have hr:runsV code n M:=⟨h2,h3,h4,h5⟩
        refine ⟨?_,?_⟩
        ·simp only [stepV,endV,if_pos hr,pushV,stepI,popA,popB,memP,codeA,if_pos h8,if_neg h13,if_pos h23];exact hM25.weak (by omega)
        ·first | (simp only [stepV,endV,if_pos hr,pushV,stepI,popA,popB,memP,codeA,if_pos h8,if_neg h13,if_pos h23];done) | (simp only [stepV,endV,if_pos hr,pushV,stepI,popA,popB,memP,codeA,if_pos h8,if_neg h13,if_pos h23];rfl)
       ·refine RN.go 4 [] λ _=>RN.draw [6] [0,1,3,4]<|RD.go [0,1,3,4] [0,3,4,1,2,5] [.own 2,.own 2,.own 2,.own 2,.own 1]<|RD.one 6 (RDO.ev [0,1,3,4] [.own 2,.own 2,.own 2,.own 2] λ _=>?_)
        refine RD.go [0,1,3,4] [7] []<|RD.fin<|RN.go 1 [] λ _=>RN.ret [.own 2,.own 2,.own 2,.own 2] [] [0] (v:=.tuple #[.bool (decide ((code.getD ((M.get 6).toNat) dIns).op=21)),.agg #[vI ((execV S ((code.getD ((M.get 6).toNat) dIns).op) ((code.getD ((M.get 6).toNat) dIns).n) (M.get (IntKind.i64.wrap ((IntKind.i64.wrap (16+(M.get 7))) - (eP ((code.getD ((M.get 6).toNat) dIns).op))))) (M.get (IntKind.i64.wrap ((IntKind.i64.wrap ((IntKind.i64.wrap (16+(M.get 7))) - (eP ((code.getD ((M.get 6).toNat) dIns).op))))+1))) (((M.set 8 (IntKind.i64.wrap ((M.get 8) - 1))).set 6 (IntKind.i64.wrap ((M.get 6)+1))).set 7 (IntKind.i64.wrap ((IntKind.i64.wrap ((M.get 7) - (eP ((code.getD ((M.get 6).toNat) dIns).op))))+(eQ ((code.getD ((M.get 6).toNat) dIns).op)))))).e.t),vI ((execV S ((code.getD ((M.get 6).toNat) dIns).op) ((code.getD ((M.get 6).toNat) dIns).n) (M.get (IntKind.i64.wrap ((IntKind.i64.wrap (16+(M.get 7))) - (eP ((code.getD ((M.get 6).toNat) dIns).op))))) (M.get (IntKind.i64.wrap ((IntKind.i64.wrap ((IntKind.i64.wrap (16+(M.get 7))) - (eP ((code.getD ((M.get 6).toNat) dIns).op))))+1))) (((M.set 8 (IntKind.i64.wrap ((M.get 8) - 1))).set 6 (IntKind.i64.wrap ((M.get 6)+1))).set 7 (IntKind.i64.wrap ((IntKind.i64.wrap ((M.get 7) - (eP ((code.getD ((M.get 6).toNat) dIns).op))))+(eQ ((code.getD ((M.get 6).toNat) dIns).op)))))).e.i),vI ((execV S ((code.getD ((M.get 6).toNat) dIns).op) ((code.getD ((M.get 6).toNat) dIns).n) (M.get (IntKind.i64.wrap ((IntKind.i64.wrap (16+(M.get 7))) - (eP ((code.getD ((M.get 6).toNat) dIns).op))))) (M.get (IntKind.i64.wrap ((IntKind.i64.wrap ((IntKind.i64.wrap (16+(M.get 7))) - (eP ((code.getD ((M.get 6).toNat) dIns).op))))+1))) (((M.set 8 (IntKind.i64.wrap ((M.get 8) - 1))).set 6 (IntKind.i64.wrap ((M.get 6)+1))).set 7 (IntKind.i64.wrap ((IntKind.i64.wrap ((M.get 7) - (eP ((code.getD ((M.get 6).toNat) dIns).op))))+(eQ ((code.getD ((M.get 6).toNat) dIns).op)))))).e.k),vI ((execV S ((code.getD ((M.get 6).toNat) dIns).op) ((code.getD ((M.get 6).toNat) dIns).n) (M.get (IntKind.i64.wrap ((IntKind.i64.wrap (16+(M.get 7))) - (eP ((code.getD ((M.get 6).toNat) dIns).op))))) (M.get (IntKind.i64.wrap ((IntKind.i64.wrap ((IntKind.i64.wrap (16+(M.get 7))) - (eP ((code.getD ((M.get 6).toNat) dIns).op))))+1))) (((M.set 8 (IntKind.i64.wrap ((M.get 8) - 1))).set 6 (IntKind.i64.wrap ((M.get 6)+1))).set 7 (IntKind.i64.wrap ((IntKind.i64.wrap ((M.get 7) - (eP ((code.getD ((M.get 6).toNat) dIns).op))))+(eQ ((code.getD ((M.get 6).toNat) dIns).op)))))).e.v)],.bool ((execV S ((code.getD ((M.get 6).toNat) dIns).op) ((code.getD ((M.get 6).toNat) dIns).n) (M.get (IntKind.i64.wrap ((IntKind.i64.wrap (16+(M.get 7))) - (eP ((code.getD ((M.get 6).toNat) dIns).op))))) (M.get (IntKind.i64.wrap ((IntKind.i64.wrap ((IntKind.i64.wrap (16+(M.get 7))) - (eP ((code.getD ((M.get 6).toNat) dIns).op))))+1))) (((M.set 8 (IntKind.i64.wrap ((M.get 8) - 1))).set 6 (IntKind.i64.wrap ((M.get 6)+1))).set 7 (IntKind.i64.wrap ((IntKind.i64.wrap ((M.get 7) - (eP ((code.getD ((M.get 6).toNat) dIns).op))))+(eQ ((code.getD ((M.get 6).toNat) dIns).op)))))).em)]) (H':=(ap [] [T21])) ?_
        refine ⟨T21,rfl,?_⟩
        have hr:runsV code n M:=⟨h2,h3,h4,h5⟩
        refine ⟨?_,?_⟩
        ·simp only [stepV,endV,if_pos hr,pushV,stepI,popA,popB,memP,codeA,if_pos h8,if_neg h13,if_neg h23];exact hM22.weak (by omega)
        ·first | (simp only [stepV,endV,if_pos hr,pushV,stepI,popA,popB,memP,codeA,if_pos h8,if_neg h13,if_neg h23];done) | (simp only [stepV,endV,if_pos hr,pushV,stepI,popA,popB,memP,codeA,if_pos h8,if_neg h13,if_neg h23];rfl)
     ·refine RN.go 9 [] λ _=>RN.em (eP ((code.getD ((M.get 6).toNat) dIns).op)=1) 76 (λ h26=>?_) λ h26=>?_
      ·refine RN.go 11 [] λ _=>RN.cpK (get_any (IntKind.i64.wrap ((IntKind.i64.wrap (16+(M.get 7))) - (eP ((code.getD ((M.get 6).toNat) dIns).op)))) hM hst_.1.1 (sub_ap 0))<|RN.go 12 [.own 0] λ _=>RN.ctK [] [0] (set_any 8 (IntKind.i64.wrap ((M.get 8) - 1)) hM (hl 8 (by decide) (by decide))) ?_
       rintro _ T27 hM28
       refine RN.go 7 [] λ _=>RN.ctK [] [0] (set_any 6 (IntKind.i64.wrap ((M.get 6)+1)) hM28 (hl 6 (by decide) (by decide))) ?_
       rintro _ T29 hM30
       refine RN.go 10 [] λ _=>RN.en (eP ((code.getD ((M.get 6).toNat) dIns).op)=eQ ((code.getD ((M.get 6).toNat) dIns).op)) 97 (λ h31=>?_) λ h31=>?_
       ·refine RN.go 10 ([.own 1]++ow 4 16++[.own 0,.own 0,.own 0]) λ _=>RN.ct [] [0] (exec_any mb ((M.set 8 (IntKind.i64.wrap ((M.get 8) - 1))).set 6 (IntKind.i64.wrap ((M.get 6)+1))) (k+2) T29 S ((code.getD ((M.get 6).toNat) dIns).op) ((code.getD ((M.get 6).toNat) dIns).n) (M.get (IntKind.i64.wrap ((IntKind.i64.wrap (16+(M.get 7))) - (eP ((code.getD ((M.get 6).toNat) dIns).op))))) 0 _ hM30 hS (by assumption) (by have h_:=hst_.2;simp only [popA,if_neg h8,if_pos h26,if_pos h31] at h_;exact h_) hl) ?_
        rintro _ T32 ⟨hM33,rfl⟩
        refine RN.go 16 [.own 2,.own 2,.own 2,.own 2] λ _=>RN.em (eQ ((code.getD ((M.get 6).toNat) dIns).op) > 0) 116 (λ h34=>?_) λ h34=>?_
        ·refine RN.go 8 [] λ _=>RN.ctK [] [0] (set_any (IntKind.i64.wrap ((IntKind.i64.wrap (16+(M.get 7))) - (eP ((code.getD ((M.get 6).toNat) dIns).op)))) ((execV S ((code.getD ((M.get 6).toNat) dIns).op) ((code.getD ((M.get 6).toNat) dIns).n) (M.get (IntKind.i64.wrap ((IntKind.i64.wrap (16+(M.get 7))) - (eP ((code.getD ((M.get 6).toNat) dIns).op))))) 0 ((M.set 8 (IntKind.i64.wrap ((M.get 8) - 1))).set 6 (IntKind.i64.wrap ((M.get 6)+1)))).v) hM33 hst_.1.1) ?_
         rintro _ T35 hM36
         refine RN.go 3 [] λ _=>RN.draw [6] [0,1,3,4]<|RD.go [0,1,3,4] [0,3,4,1,2,5] [.own 2,.own 2,.own 2,.own 2,.own 1]<|RD.one 6 (RDO.ev [0,1,3,4] [.own 2,.own 2,.own 2,.own 2] λ _=>?_)
         refine RD.go [0,1,3,4] [7] []<|RD.fin<|RN.go 1 [] λ _=>RN.ret [.own 2,.own 2,.own 2,.own 2] [] [0] (v:=.tuple #[.bool (decide ((code.getD ((M.get 6).toNat) dIns).op=21)),.agg #[vI ((execV S ((code.getD ((M.get 6).toNat) dIns).op) ((code.getD ((M.get 6).toNat) dIns).n) (M.get (IntKind.i64.wrap ((IntKind.i64.wrap (16+(M.get 7))) - (eP ((code.getD ((M.get 6).toNat) dIns).op))))) 0 ((M.set 8 (IntKind.i64.wrap ((M.get 8) - 1))).set 6 (IntKind.i64.wrap ((M.get 6)+1)))).e.t),vI ((execV S ((code.getD ((M.get 6).toNat) dIns).op) ((code.getD ((M.get 6).toNat) dIns).n) (M.get (IntKind.i64.wrap ((IntKind.i64.wrap (16+(M.get 7))) - (eP ((code.getD ((M.get 6).toNat) dIns).op))))) 0 ((M.set 8 (IntKind.i64.wrap ((M.get 8) - 1))).set 6 (IntKind.i64.wrap ((M.get 6)+1)))).e.i),vI ((execV S ((code.getD ((M.get 6).toNat) dIns).op) ((code.getD ((M.get 6).toNat) dIns).n) (M.get (IntKind.i64.wrap ((IntKind.i64.wrap (16+(M.get 7))) - (eP ((code.getD ((M.get 6).toNat) dIns).op))))) 0 ((M.set 8 (IntKind.i64.wrap ((M.get 8) - 1))).set 6 (IntKind.i64.wrap ((M.get 6)+1)))).e.k),vI ((execV S ((code.getD ((M.get 6).toNat) dIns).op) ((code.getD ((M.get 6).toNat) dIns).n) (M.get (IntKind.i64.wrap ((IntKind.i64.wrap (16+(M.get 7))) - (eP ((code.getD ((M.get 6).toNat) dIns).op))))) 0 ((M.set 8 (IntKind.i64.wrap ((M.get 8) - 1))).set 6 (IntKind.i64.wrap ((M.get 6)+1)))).e.v)],.bool ((execV S ((code.getD ((M.get 6).toNat) dIns).op) ((code.getD ((M.get 6).toNat) dIns).n) (M.get (IntKind.i64.wrap ((IntKind.i64.wrap (16+(M.get 7))) - (eP ((code.getD ((M.get 6).toNat) dIns).op))))) 0 ((M.set 8 (IntKind.i64.wrap ((M.get 8) - 1))).set 6 (IntKind.i64.wrap ((M.get 6)+1)))).em)]) (H':=(ap [] [T35])) ?_
         refine ⟨T35,rfl,?_⟩
         have hr:runsV code n M:=⟨h2,h3,h4,h5⟩
         refine ⟨?_,?_⟩
         ·simp only [stepV,endV,if_pos hr,pushV,stepI,popA,popB,memP,codeA,if_neg h8,if_pos h26,if_pos h31,if_pos h34];exact hM36.weak (by omega)
         ·first | (simp only [stepV,endV,if_pos hr,pushV,stepI,popA,popB,memP,codeA,if_neg h8,if_pos h26,if_pos h31,if_pos h34];done) | (simp only [stepV,endV,if_pos hr,pushV,stepI,popA,popB,memP,codeA,if_neg h8,if_pos h26,if_pos h31,if_pos h34];rfl)
        ·refine RN.go 4 [] λ _=>RN.draw [6] [0,1,3,4]<|RD.go [0,1,3,4] [0,3,4,1,2,5] [.own 2,.own 2,.own 2,.own 2,.own 1]<|RD.one 6 (RDO.ev [0,1,3,4] [.own 2,.own 2,.own 2,.own 2] λ _=>?_)
         refine RD.go [0,1,3,4] [7] []<|RD.fin<|RN.go 1 [] λ _=>RN.ret [.own 2,.own 2,.own 2,.own 2] [] [0] (v:=.tuple #[.bool (decide ((code.getD ((M.get 6).toNat) dIns).op=21)),.agg #[vI ((execV S ((code.getD ((M.get 6).toNat) dIns).op) ((code.getD ((M.get 6).toNat) dIns).n) (M.get (IntKind.i64.wrap ((IntKind.i64.wrap (16+(M.get 7))) - (eP ((code.getD ((M.get 6).toNat) dIns).op))))) 0 ((M.set 8 (IntKind.i64.wrap ((M.get 8) - 1))).set 6 (IntKind.i64.wrap ((M.get 6)+1)))).e.t),vI ((execV S ((code.getD ((M.get 6).toNat) dIns).op) ((code.getD ((M.get 6).toNat) dIns).n) (M.get (IntKind.i64.wrap ((IntKind.i64.wrap (16+(M.get 7))) - (eP ((code.getD ((M.get 6).toNat) dIns).op))))) 0 ((M.set 8 (IntKind.i64.wrap ((M.get 8) - 1))).set 6 (IntKind.i64.wrap ((M.get 6)+1)))).e.i),vI ((execV S ((code.getD ((M.get 6).toNat) dIns).op) ((code.getD ((M.get 6).toNat) dIns).n) (M.get (IntKind.i64.wrap ((IntKind.i64.wrap (16+(M.get 7))) - (eP ((code.getD ((M.get 6).toNat) dIns).op))))) 0 ((M.set 8 (IntKind.i64.wrap ((M.get 8) - 1))).set 6 (IntKind.i64.wrap ((M.get 6)+1)))).e.k),vI ((execV S ((code.getD ((M.get 6).toNat) dIns).op) ((code.getD ((M.get 6).toNat) dIns).n) (M.get (IntKind.i64.wrap ((IntKind.i64.wrap (16+(M.get 7))) - (eP ((code.getD ((M.get 6).toNat) dIns).op))))) 0 ((M.set 8 (IntKind.i64.wrap ((M.get 8) - 1))).set 6 (IntKind.i64.wrap ((M.get 6)+1)))).e.v)],.bool ((execV S ((code.getD ((M.get 6).toNat) dIns).op) ((code.getD ((M.get 6).toNat) dIns).n) (M.get (IntKind.i64.wrap ((IntKind.i64.wrap (16+(M.get 7))) - (eP ((code.getD ((M.get 6).toNat) dIns).op))))) 0 ((M.set 8 (IntKind.i64.wrap ((M.get 8) - 1))).set 6 (IntKind.i64.wrap ((M.get 6)+1)))).em)]) (H':=(ap [] [T32])) ?_
         refine ⟨T32,rfl,?_⟩
         have hr:runsV code n M:=⟨h2,h3,h4,h5⟩
         refine ⟨?_,?_⟩
         ·simp only [stepV,endV,if_pos hr,pushV,stepI,popA,popB,memP,codeA,if_neg h8,if_pos h26,if_pos h31,if_neg h34];exact hM33.weak (by omega)
         ·first | (simp only [stepV,endV,if_pos hr,pushV,stepI,popA,popB,memP,codeA,if_neg h8,if_pos h26,if_pos h31,if_neg h34];done) | (simp only [stepV,endV,if_pos hr,pushV,stepI,popA,popB,memP,codeA,if_neg h8,if_pos h26,if_pos h31,if_neg h34];rfl)
       ·refine RN.go 8 [] λ _=>RN.ctK [] [0] (set_any 7 (IntKind.i64.wrap ((IntKind.i64.wrap ((M.get 7) - (eP ((code.getD ((M.get 6).toNat) dIns).op))))+(eQ ((code.getD ((M.get 6).toNat) dIns).op)))) hM30 (hl 7 (by decide) (by decide))) ?_
        rintro _ T37 hM38
        refine RN.go 9 ([.own 1]++ow 4 16++[.own 0,.own 0,.own 0]) λ _=>RN.ct [] [0] (exec_any mb (((M.set 8 (IntKind.i64.wrap ((M.get 8) - 1))).set 6 (IntKind.i64.wrap ((M.get 6)+1))).set 7 (IntKind.i64.wrap ((IntKind.i64.wrap ((M.get 7) - (eP ((code.getD ((M.get 6).toNat) dIns).op))))+(eQ ((code.getD ((M.get 6).toNat) dIns).op))))) (k+1) T37 S ((code.getD ((M.get 6).toNat) dIns).op) ((code.getD ((M.get 6).toNat) dIns).n) (M.get (IntKind.i64.wrap ((IntKind.i64.wrap (16+(M.get 7))) - (eP ((code.getD ((M.get 6).toNat) dIns).op))))) 0 _ hM38 hS (by assumption) (by have h_:=hst_.2;simp only [popA,if_neg h8,if_pos h26,if_neg h31] at h_;exact h_) hl) ?_
        rintro _ T39 ⟨hM40,rfl⟩
        refine RN.go 16 [.own 2,.own 2,.own 2,.own 2] λ _=>RN.em (eQ ((code.getD ((M.get 6).toNat) dIns).op) > 0) 116 (λ h41=>?_) λ h41=>?_
        ·refine RN.go 8 [] λ _=>RN.ctK [] [0] (set_any (IntKind.i64.wrap ((IntKind.i64.wrap (16+(M.get 7))) - (eP ((code.getD ((M.get 6).toNat) dIns).op)))) ((execV S ((code.getD ((M.get 6).toNat) dIns).op) ((code.getD ((M.get 6).toNat) dIns).n) (M.get (IntKind.i64.wrap ((IntKind.i64.wrap (16+(M.get 7))) - (eP ((code.getD ((M.get 6).toNat) dIns).op))))) 0 (((M.set 8 (IntKind.i64.wrap ((M.get 8) - 1))).set 6 (IntKind.i64.wrap ((M.get 6)+1))).set 7 (IntKind.i64.wrap ((IntKind.i64.wrap ((M.get 7) - (eP ((code.getD ((M.get 6).toNat) dIns).op))))+(eQ ((code.getD ((M.get 6).toNat) dIns).op)))))).v) hM40 hst_.1.1) ?_
         rintro _ T42 hM43
         refine RN.go 3 [] λ _=>RN.draw [6] [0,1,3,4]<|RD.go [0,1,3,4] [0,3,4,1,2,5] [.own 2,.own 2,.own 2,.own 2,.own 1]<|RD.one 6 (RDO.ev [0,1,3,4] [.own 2,.own 2,.own 2,.own 2] λ _=>?_)
         refine RD.go [0,1,3,4] [7] []<|RD.fin<|RN.go 1 [] λ _=>RN.ret [.own 2,.own 2,.own 2,.own 2] [] [0] (v:=.tuple #[.bool (decide ((code.getD ((M.get 6).toNat) dIns).op=21)),.agg #[vI ((execV S ((code.getD ((M.get 6).toNat) dIns).op) ((code.getD ((M.get 6).toNat) dIns).n) (M.get (IntKind.i64.wrap ((IntKind.i64.wrap (16+(M.get 7))) - (eP ((code.getD ((M.get 6).toNat) dIns).op))))) 0 (((M.set 8 (IntKind.i64.wrap ((M.get 8) - 1))).set 6 (IntKind.i64.wrap ((M.get 6)+1))).set 7 (IntKind.i64.wrap ((IntKind.i64.wrap ((M.get 7) - (eP ((code.getD ((M.get 6).toNat) dIns).op))))+(eQ ((code.getD ((M.get 6).toNat) dIns).op)))))).e.t),vI ((execV S ((code.getD ((M.get 6).toNat) dIns).op) ((code.getD ((M.get 6).toNat) dIns).n) (M.get (IntKind.i64.wrap ((IntKind.i64.wrap (16+(M.get 7))) - (eP ((code.getD ((M.get 6).toNat) dIns).op))))) 0 (((M.set 8 (IntKind.i64.wrap ((M.get 8) - 1))).set 6 (IntKind.i64.wrap ((M.get 6)+1))).set 7 (IntKind.i64.wrap ((IntKind.i64.wrap ((M.get 7) - (eP ((code.getD ((M.get 6).toNat) dIns).op))))+(eQ ((code.getD ((M.get 6).toNat) dIns).op)))))).e.i),vI ((execV S ((code.getD ((M.get 6).toNat) dIns).op) ((code.getD ((M.get 6).toNat) dIns).n) (M.get (IntKind.i64.wrap ((IntKind.i64.wrap (16+(M.get 7))) - (eP ((code.getD ((M.get 6).toNat) dIns).op))))) 0 (((M.set 8 (IntKind.i64.wrap ((M.get 8) - 1))).set 6 (IntKind.i64.wrap ((M.get 6)+1))).set 7 (IntKind.i64.wrap ((IntKind.i64.wrap ((M.get 7) - (eP ((code.getD ((M.get 6).toNat) dIns).op))))+(eQ ((code.getD ((M.get 6).toNat) dIns).op)))))).e.k),vI ((execV S ((code.getD ((M.get 6).toNat) dIns).op) ((code.getD ((M.get 6).toNat) dIns).n) (M.get (IntKind.i64.wrap ((IntKind.i64.wrap (16+(M.get 7))) - (eP ((code.getD ((M.get 6).toNat) dIns).op))))) 0 (((M.set 8 (IntKind.i64.wrap ((M.get 8) - 1))).set 6 (IntKind.i64.wrap ((M.get 6)+1))).set 7 (IntKind.i64.wrap ((IntKind.i64.wrap ((M.get 7) - (eP ((code.getD ((M.get 6).toNat) dIns).op))))+(eQ ((code.getD ((M.get 6).toNat) dIns).op)))))).e.v)],.bool ((execV S ((code.getD ((M.get 6).toNat) dIns).op) ((code.getD ((M.get 6).toNat) dIns).n) (M.get (IntKind.i64.wrap ((IntKind.i64.wrap (16+(M.get 7))) - (eP ((code.getD ((M.get 6).toNat) dIns).op))))) 0 (((M.set 8 (IntKind.i64.wrap ((M.get 8) - 1))).set 6 (IntKind.i64.wrap ((M.get 6)+1))).set 7 (IntKind.i64.wrap ((IntKind.i64.wrap ((M.get 7) - (eP ((code.getD ((M.get 6).toNat) dIns).op))))+(eQ ((code.getD ((M.get 6).toNat) dIns).op)))))).em)]) (H':=(ap [] [T42])) ?_
         refine ⟨T42,rfl,?_⟩
         have hr:runsV code n M:=⟨h2,h3,h4,h5⟩
         refine ⟨?_,?_⟩
         ·simp only [stepV,endV,if_pos hr,pushV,stepI,popA,popB,memP,codeA,if_neg h8,if_pos h26,if_neg h31,if_pos h41];exact hM43.weak (by omega)
         ·first | (simp only [stepV,endV,if_pos hr,pushV,stepI,popA,popB,memP,codeA,if_neg h8,if_pos h26,if_neg h31,if_pos h41];done) | (simp only [stepV,endV,if_pos hr,pushV,stepI,popA,popB,memP,codeA,if_neg h8,if_pos h26,if_neg h31,if_pos h41];rfl)
        ·refine RN.go 4 [] λ _=>RN.draw [6] [0,1,3,4]<|RD.go [0,1,3,4] [0,3,4,1,2,5] [.own 2,.own 2,.own 2,.own 2,.own 1]<|RD.one 6 (RDO.ev [0,1,3,4] [.own 2,.own 2,.own 2,.own 2] λ _=>?_)
         refine RD.go [0,1,3,4] [7] []<|RD.fin<|RN.go 1 [] λ _=>RN.ret [.own 2,.own 2,.own 2,.own 2] [] [0] (v:=.tuple #[.bool (decide ((code.getD ((M.get 6).toNat) dIns).op=21)),.agg #[vI ((execV S ((code.getD ((M.get 6).toNat) dIns).op) ((code.getD ((M.get 6).toNat) dIns).n) (M.get (IntKind.i64.wrap ((IntKind.i64.wrap (16+(M.get 7))) - (eP ((code.getD ((M.get 6).toNat) dIns).op))))) 0 (((M.set 8 (IntKind.i64.wrap ((M.get 8) - 1))).set 6 (IntKind.i64.wrap ((M.get 6)+1))).set 7 (IntKind.i64.wrap ((IntKind.i64.wrap ((M.get 7) - (eP ((code.getD ((M.get 6).toNat) dIns).op))))+(eQ ((code.getD ((M.get 6).toNat) dIns).op)))))).e.t),vI ((execV S ((code.getD ((M.get 6).toNat) dIns).op) ((code.getD ((M.get 6).toNat) dIns).n) (M.get (IntKind.i64.wrap ((IntKind.i64.wrap (16+(M.get 7))) - (eP ((code.getD ((M.get 6).toNat) dIns).op))))) 0 (((M.set 8 (IntKind.i64.wrap ((M.get 8) - 1))).set 6 (IntKind.i64.wrap ((M.get 6)+1))).set 7 (IntKind.i64.wrap ((IntKind.i64.wrap ((M.get 7) - (eP ((code.getD ((M.get 6).toNat) dIns).op))))+(eQ ((code.getD ((M.get 6).toNat) dIns).op)))))).e.i),vI ((execV S ((code.getD ((M.get 6).toNat) dIns).op) ((code.getD ((M.get 6).toNat) dIns).n) (M.get (IntKind.i64.wrap ((IntKind.i64.wrap (16+(M.get 7))) - (eP ((code.getD ((M.get 6).toNat) dIns).op))))) 0 (((M.set 8 (IntKind.i64.wrap ((M.get 8) - 1))).set 6 (IntKind.i64.wrap ((M.get 6)+1))).set 7 (IntKind.i64.wrap ((IntKind.i64.wrap ((M.get 7) - (eP ((code.getD ((M.get 6).toNat) dIns).op))))+(eQ ((code.getD ((M.get 6).toNat) dIns).op)))))).e.k),vI ((execV S ((code.getD ((M.get 6).toNat) dIns).op) ((code.getD ((M.get 6).toNat) dIns).n) (M.get (IntKind.i64.wrap ((IntKind.i64.wrap (16+(M.get 7))) - (eP ((code.getD ((M.get 6).toNat) dIns).op))))) 0 (((M.set 8 (IntKind.i64.wrap ((M.get 8) - 1))).set 6 (IntKind.i64.wrap ((M.get 6)+1))).set 7 (IntKind.i64.wrap ((IntKind.i64.wrap ((M.get 7) - (eP ((code.getD ((M.get 6).toNat) dIns).op))))+(eQ ((code.getD ((M.get 6).toNat) dIns).op)))))).e.v)],.bool ((execV S ((code.getD ((M.get 6).toNat) dIns).op) ((code.getD ((M.get 6).toNat) dIns).n) (M.get (IntKind.i64.wrap ((IntKind.i64.wrap (16+(M.get 7))) - (eP ((code.getD ((M.get 6).toNat) dIns).op))))) 0 (((M.set 8 (IntKind.i64.wrap ((M.get 8) - 1))).set 6 (IntKind.i64.wrap ((M.get 6)+1))).set 7 (IntKind.i64.wrap ((IntKind.i64.wrap ((M.get 7) - (eP ((code.getD ((M.get 6).toNat) dIns).op))))+(eQ ((code.getD ((M.get 6).toNat) dIns).op)))))).em)]) (H':=(ap [] [T39])) ?_
         refine ⟨T39,rfl,?_⟩
         have hr:runsV code n M:=⟨h2,h3,h4,h5⟩
         refine ⟨?_,?_⟩
         ·simp only [stepV,endV,if_pos hr,pushV,stepI,popA,popB,memP,codeA,if_neg h8,if_pos h26,if_neg h31,if_neg h41];exact hM40.weak (by omega)
         ·first | (simp only [stepV,endV,if_pos hr,pushV,stepI,popA,popB,memP,codeA,if_neg h8,if_pos h26,if_neg h31,if_neg h41];done) | (simp only [stepV,endV,if_pos hr,pushV,stepI,popA,popB,memP,codeA,if_neg h8,if_pos h26,if_neg h31,if_neg h41];rfl)
      ·refine RN.go 15 [] λ _=>RN.ctK [] [0] (set_any 8 (IntKind.i64.wrap ((M.get 8) - 1)) hM (hl 8 (by decide) (by decide))) ?_
       rintro _ T44 hM45
       refine RN.go 7 [] λ _=>RN.ctK [] [0] (set_any 6 (IntKind.i64.wrap ((M.get 6)+1)) hM45 (hl 6 (by decide) (by decide))) ?_
       rintro _ T46 hM47
       refine RN.go 10 [] λ _=>RN.en (eP ((code.getD ((M.get 6).toNat) dIns).op)=eQ ((code.getD ((M.get 6).toNat) dIns).op)) 97 (λ h48=>?_) λ h48=>?_
       ·refine RN.go 10 ([.own 1]++ow 4 16++[.own 0,.own 0,.own 0]) λ _=>RN.ct [] [0] (exec_any mb ((M.set 8 (IntKind.i64.wrap ((M.get 8) - 1))).set 6 (IntKind.i64.wrap ((M.get 6)+1))) (k+2) T46 S ((code.getD ((M.get 6).toNat) dIns).op) ((code.getD ((M.get 6).toNat) dIns).n) 0 0 _ hM47 hS (by assumption) (by have h_:=hst_.2;simp only [popA,if_neg h8,if_neg h26,if_pos h48] at h_;exact h_) hl) ?_
        rintro _ T49 ⟨hM50,rfl⟩
        refine RN.go 16 [.own 2,.own 2,.own 2,.own 2] λ _=>RN.em (eQ ((code.getD ((M.get 6).toNat) dIns).op) > 0) 116 (λ h51=>?_) λ h51=>?_
        ·refine RN.go 8 [] λ _=>RN.ctK [] [0] (set_any (IntKind.i64.wrap ((IntKind.i64.wrap (16+(M.get 7))) - (eP ((code.getD ((M.get 6).toNat) dIns).op)))) ((execV S ((code.getD ((M.get 6).toNat) dIns).op) ((code.getD ((M.get 6).toNat) dIns).n) 0 0 ((M.set 8 (IntKind.i64.wrap ((M.get 8) - 1))).set 6 (IntKind.i64.wrap ((M.get 6)+1)))).v) hM50 hst_.1.1) ?_
         rintro _ T52 hM53
         refine RN.go 3 [] λ _=>RN.draw [6] [0,1,3,4]<|RD.go [0,1,3,4] [0,3,4,1,2,5] [.own 2,.own 2,.own 2,.own 2,.own 1]<|RD.one 6 (RDO.ev [0,1,3,4] [.own 2,.own 2,.own 2,.own 2] λ _=>?_)
         refine RD.go [0,1,3,4] [7] []<|RD.fin<|RN.go 1 [] λ _=>RN.ret [.own 2,.own 2,.own 2,.own 2] [] [0] (v:=.tuple #[.bool (decide ((code.getD ((M.get 6).toNat) dIns).op=21)),.agg #[vI ((execV S ((code.getD ((M.get 6).toNat) dIns).op) ((code.getD ((M.get 6).toNat) dIns).n) 0 0 ((M.set 8 (IntKind.i64.wrap ((M.get 8) - 1))).set 6 (IntKind.i64.wrap ((M.get 6)+1)))).e.t),vI ((execV S ((code.getD ((M.get 6).toNat) dIns).op) ((code.getD ((M.get 6).toNat) dIns).n) 0 0 ((M.set 8 (IntKind.i64.wrap ((M.get 8) - 1))).set 6 (IntKind.i64.wrap ((M.get 6)+1)))).e.i),vI ((execV S ((code.getD ((M.get 6).toNat) dIns).op) ((code.getD ((M.get 6).toNat) dIns).n) 0 0 ((M.set 8 (IntKind.i64.wrap ((M.get 8) - 1))).set 6 (IntKind.i64.wrap ((M.get 6)+1)))).e.k),vI ((execV S ((code.getD ((M.get 6).toNat) dIns).op) ((code.getD ((M.get 6).toNat) dIns).n) 0 0 ((M.set 8 (IntKind.i64.wrap ((M.get 8) - 1))).set 6 (IntKind.i64.wrap ((M.get 6)+1)))).e.v)],.bool ((execV S ((code.getD ((M.get 6).toNat) dIns).op) ((code.getD ((M.get 6).toNat) dIns).n) 0 0 ((M.set 8 (IntKind.i64.wrap ((M.get 8) - 1))).set 6 (IntKind.i64.wrap ((M.get 6)+1)))).em)]) (H':=(ap [] [T52])) ?_
         refine ⟨T52,rfl,?_⟩
         have hr:runsV code n M:=⟨h2,h3,h4,h5⟩
         refine ⟨?_,?_⟩
         ·simp only [stepV,endV,if_pos hr,pushV,stepI,popA,popB,memP,codeA,if_neg h8,if_neg h26,if_pos h48,if_pos h51];exact hM53.weak (by omega)
         ·first | (simp only [stepV,endV,if_pos hr,pushV,stepI,popA,popB,memP,codeA,if_neg h8,if_neg h26,if_pos h48,if_pos h51];done) | (simp only [stepV,endV,if_pos hr,pushV,stepI,popA,popB,memP,codeA,if_neg h8,if_neg h26,if_pos h48,if_pos h51];rfl)
        ·refine RN.go 4 [] λ _=>RN.draw [6] [0,1,3,4]<|RD.go [0,1,3,4] [0,3,4,1,2,5] [.own 2,.own 2,.own 2,.own 2,.own 1]<|RD.one 6 (RDO.ev [0,1,3,4] [.own 2,.own 2,.own 2,.own 2] λ _=>?_)
         refine RD.go [0,1,3,4] [7] []<|RD.fin<|RN.go 1 [] λ _=>RN.ret [.own 2,.own 2,.own 2,.own 2] [] [0] (v:=.tuple #[.bool (decide ((code.getD ((M.get 6).toNat) dIns).op=21)),.agg #[vI ((execV S ((code.getD ((M.get 6).toNat) dIns).op) ((code.getD ((M.get 6).toNat) dIns).n) 0 0 ((M.set 8 (IntKind.i64.wrap ((M.get 8) - 1))).set 6 (IntKind.i64.wrap ((M.get 6)+1)))).e.t),vI ((execV S ((code.getD ((M.get 6).toNat) dIns).op) ((code.getD ((M.get 6).toNat) dIns).n) 0 0 ((M.set 8 (IntKind.i64.wrap ((M.get 8) - 1))).set 6 (IntKind.i64.wrap ((M.get 6)+1)))).e.i),vI ((execV S ((code.getD ((M.get 6).toNat) dIns).op) ((code.getD ((M.get 6).toNat) dIns).n) 0 0 ((M.set 8 (IntKind.i64.wrap ((M.get 8) - 1))).set 6 (IntKind.i64.wrap ((M.get 6)+1)))).e.k),vI ((execV S ((code.getD ((M.get 6).toNat) dIns).op) ((code.getD ((M.get 6).toNat) dIns).n) 0 0 ((M.set 8 (IntKind.i64.wrap ((M.get 8) - 1))).set 6 (IntKind.i64.wrap ((M.get 6)+1)))).e.v)],.bool ((execV S ((code.getD ((M.get 6).toNat) dIns).op) ((code.getD ((M.get 6).toNat) dIns).n) 0 0 ((M.set 8 (IntKind.i64.wrap ((M.get 8) - 1))).set 6 (IntKind.i64.wrap ((M.get 6)+1)))).em)]) (H':=(ap [] [T49])) ?_
         refine ⟨T49,rfl,?_⟩
         have hr:runsV code n M:=⟨h2,h3,h4,h5⟩
         refine ⟨?_,?_⟩
         ·simp only [stepV,endV,if_pos hr,pushV,stepI,popA,popB,memP,codeA,if_neg h8,if_neg h26,if_pos h48,if_neg h51];exact hM50.weak (by omega)
         ·first | (simp only [stepV,endV,if_pos hr,pushV,stepI,popA,popB,memP,codeA,if_neg h8,if_neg h26,if_pos h48,if_neg h51];done) | (simp only [stepV,endV,if_pos hr,pushV,stepI,popA,popB,memP,codeA,if_neg h8,if_neg h26,if_pos h48,if_neg h51];rfl)
       ·refine RN.go 8 [] λ _=>RN.ctK [] [0] (set_any 7 (IntKind.i64.wrap ((IntKind.i64.wrap ((M.get 7) - (eP ((code.getD ((M.get 6).toNat) dIns).op))))+(eQ ((code.getD ((M.get 6).toNat) dIns).op)))) hM47 (hl 7 (by decide) (by decide))) ?_
        rintro _ T54 hM55
        refine RN.go 9 ([.own 1]++ow 4 16++[.own 0,.own 0,.own 0]) λ _=>RN.ct [] [0] (exec_any mb (((M.set 8 (IntKind.i64.wrap ((M.get 8) - 1))).set 6 (IntKind.i64.wrap ((M.get 6)+1))).set 7 (IntKind.i64.wrap ((IntKind.i64.wrap ((M.get 7) - (eP ((code.getD ((M.get 6).toNat) dIns).op))))+(eQ ((code.getD ((M.get 6).toNat) dIns).op))))) (k+1) T54 S ((code.getD ((M.get 6).toNat) dIns).op) ((code.getD ((M.get 6).toNat) dIns).n) 0 0 _ hM55 hS (by assumption) (by have h_:=hst_.2;simp only [popA,if_neg h8,if_neg h26,if_neg h48] at h_;exact h_) hl) ?_
        rintro _ T56 ⟨hM57,rfl⟩
        refine RN.go 16 [.own 2,.own 2,.own 2,.own 2] λ _=>RN.em (eQ ((code.getD ((M.get 6).toNat) dIns).op) > 0) 116 (λ h58=>?_) λ h58=>?_
        ·refine RN.go 8 [] λ _=>RN.ctK [] [0] (set_any (IntKind.i64.wrap ((IntKind.i64.wrap (16+(M.get 7))) - (eP ((code.getD ((M.get 6).toNat) dIns).op)))) ((execV S ((code.getD ((M.get 6).toNat) dIns).op) ((code.getD ((M.get 6).toNat) dIns).n) 0 0 (((M.set 8 (IntKind.i64.wrap ((M.get 8) - 1))).set 6 (IntKind.i64.wrap ((M.get 6)+1))).set 7 (IntKind.i64.wrap ((IntKind.i64.wrap ((M.get 7) - (eP ((code.getD ((M.get 6).toNat) dIns).op))))+(eQ ((code.getD ((M.get 6).toNat) dIns).op)))))).v) hM57 hst_.1.1) ?_
         rintro _ T59 hM60
         refine RN.go 3 [] λ _=>RN.draw [6] [0,1,3,4]<|RD.go [0,1,3,4] [0,3,4,1,2,5] [.own 2,.own 2,.own 2,.own 2,.own 1]<|RD.one 6 (RDO.ev [0,1,3,4] [.own 2,.own 2,.own 2,.own 2] λ _=>?_)
         refine RD.go [0,1,3,4] [7] []<|RD.fin<|RN.go 1 [] λ _=>RN.ret [.own 2,.own 2,.own 2,.own 2] [] [0] (v:=.tuple #[.bool (decide ((code.getD ((M.get 6).toNat) dIns).op=21)),.agg #[vI ((execV S ((code.getD ((M.get 6).toNat) dIns).op) ((code.getD ((M.get 6).toNat) dIns).n) 0 0 (((M.set 8 (IntKind.i64.wrap ((M.get 8) - 1))).set 6 (IntKind.i64.wrap ((M.get 6)+1))).set 7 (IntKind.i64.wrap ((IntKind.i64.wrap ((M.get 7) - (eP ((code.getD ((M.get 6).toNat) dIns).op))))+(eQ ((code.getD ((M.get 6).toNat) dIns).op)))))).e.t),vI ((execV S ((code.getD ((M.get 6).toNat) dIns).op) ((code.getD ((M.get 6).toNat) dIns).n) 0 0 (((M.set 8 (IntKind.i64.wrap ((M.get 8) - 1))).set 6 (IntKind.i64.wrap ((M.get 6)+1))).set 7 (IntKind.i64.wrap ((IntKind.i64.wrap ((M.get 7) - (eP ((code.getD ((M.get 6).toNat) dIns).op))))+(eQ ((code.getD ((M.get 6).toNat) dIns).op)))))).e.i),vI ((execV S ((code.getD ((M.get 6).toNat) dIns).op) ((code.getD ((M.get 6).toNat) dIns).n) 0 0 (((M.set 8 (IntKind.i64.wrap ((M.get 8) - 1))).set 6 (IntKind.i64.wrap ((M.get 6)+1))).set 7 (IntKind.i64.wrap ((IntKind.i64.wrap ((M.get 7) - (eP ((code.getD ((M.get 6).toNat) dIns).op))))+(eQ ((code.getD ((M.get 6).toNat) dIns).op)))))).e.k),vI ((execV S ((code.getD ((M.get 6).toNat) dIns).op) ((code.getD ((M.get 6).toNat) dIns).n) 0 0 (((M.set 8 (IntKind.i64.wrap ((M.get 8) - 1))).set 6 (IntKind.i64.wrap ((M.get 6)+1))).set 7 (IntKind.i64.wrap ((IntKind.i64.wrap ((M.get 7) - (eP ((code.getD ((M.get 6).toNat) dIns).op))))+(eQ ((code.getD ((M.get 6).toNat) dIns).op)))))).e.v)],.bool ((execV S ((code.getD ((M.get 6).toNat) dIns).op) ((code.getD ((M.get 6).toNat) dIns).n) 0 0 (((M.set 8 (IntKind.i64.wrap ((M.get 8) - 1))).set 6 (IntKind.i64.wrap ((M.get 6)+1))).set 7 (IntKind.i64.wrap ((IntKind.i64.wrap ((M.get 7) - (eP ((code.getD ((M.get 6).toNat) dIns).op))))+(eQ ((code.getD ((M.get 6).toNat) dIns).op)))))).em)]) (H':=(ap [] [T59])) ?_
         refine ⟨T59,rfl,?_⟩
         have hr:runsV code n M:=⟨h2,h3,h4,h5⟩
         refine ⟨?_,?_⟩
         ·simp only [stepV,endV,if_pos hr,pushV,stepI,popA,popB,memP,codeA,if_neg h8,if_neg h26,if_neg h48,if_pos h58];exact hM60.weak (by omega)
         ·first | (simp only [stepV,endV,if_pos hr,pushV,stepI,popA,popB,memP,codeA,if_neg h8,if_neg h26,if_neg h48,if_pos h58];done) | (simp only [stepV,endV,if_pos hr,pushV,stepI,popA,popB,memP,codeA,if_neg h8,if_neg h26,if_neg h48,if_pos h58];rfl)
        ·refine RN.go 4 [] λ _=>RN.draw [6] [0,1,3,4]<|RD.go [0,1,3,4] [0,3,4,1,2,5] [.own 2,.own 2,.own 2,.own 2,.own 1]<|RD.one 6 (RDO.ev [0,1,3,4] [.own 2,.own 2,.own 2,.own 2] λ _=>?_)
         refine RD.go [0,1,3,4] [7] []<|RD.fin<|RN.go 1 [] λ _=>RN.ret [.own 2,.own 2,.own 2,.own 2] [] [0] (v:=.tuple #[.bool (decide ((code.getD ((M.get 6).toNat) dIns).op=21)),.agg #[vI ((execV S ((code.getD ((M.get 6).toNat) dIns).op) ((code.getD ((M.get 6).toNat) dIns).n) 0 0 (((M.set 8 (IntKind.i64.wrap ((M.get 8) - 1))).set 6 (IntKind.i64.wrap ((M.get 6)+1))).set 7 (IntKind.i64.wrap ((IntKind.i64.wrap ((M.get 7) - (eP ((code.getD ((M.get 6).toNat) dIns).op))))+(eQ ((code.getD ((M.get 6).toNat) dIns).op)))))).e.t),vI ((execV S ((code.getD ((M.get 6).toNat) dIns).op) ((code.getD ((M.get 6).toNat) dIns).n) 0 0 (((M.set 8 (IntKind.i64.wrap ((M.get 8) - 1))).set 6 (IntKind.i64.wrap ((M.get 6)+1))).set 7 (IntKind.i64.wrap ((IntKind.i64.wrap ((M.get 7) - (eP ((code.getD ((M.get 6).toNat) dIns).op))))+(eQ ((code.getD ((M.get 6).toNat) dIns).op)))))).e.i),vI ((execV S ((code.getD ((M.get 6).toNat) dIns).op) ((code.getD ((M.get 6).toNat) dIns).n) 0 0 (((M.set 8 (IntKind.i64.wrap ((M.get 8) - 1))).set 6 (IntKind.i64.wrap ((M.get 6)+1))).set 7 (IntKind.i64.wrap ((IntKind.i64.wrap ((M.get 7) - (eP ((code.getD ((M.get 6).toNat) dIns).op))))+(eQ ((code.getD ((M.get 6).toNat) dIns).op)))))).e.k),vI ((execV S ((code.getD ((M.get 6).toNat) dIns).op) ((code.getD ((M.get 6).toNat) dIns).n) 0 0 (((M.set 8 (IntKind.i64.wrap ((M.get 8) - 1))).set 6 (IntKind.i64.wrap ((M.get 6)+1))).set 7 (IntKind.i64.wrap ((IntKind.i64.wrap ((M.get 7) - (eP ((code.getD ((M.get 6).toNat) dIns).op))))+(eQ ((code.getD ((M.get 6).toNat) dIns).op)))))).e.v)],.bool ((execV S ((code.getD ((M.get 6).toNat) dIns).op) ((code.getD ((M.get 6).toNat) dIns).n) 0 0 (((M.set 8 (IntKind.i64.wrap ((M.get 8) - 1))).set 6 (IntKind.i64.wrap ((M.get 6)+1))).set 7 (IntKind.i64.wrap ((IntKind.i64.wrap ((M.get 7) - (eP ((code.getD ((M.get 6).toNat) dIns).op))))+(eQ ((code.getD ((M.get 6).toNat) dIns).op)))))).em)]) (H':=(ap [] [T56])) ?_
         refine ⟨T56,rfl,?_⟩
         have hr:runsV code n M:=⟨h2,h3,h4,h5⟩
         refine ⟨?_,?_⟩
         ·simp only [stepV,endV,if_pos hr,pushV,stepI,popA,popB,memP,codeA,if_neg h8,if_neg h26,if_neg h48,if_neg h58];exact hM57.weak (by omega)
         ·first | (simp only [stepV,endV,if_pos hr,pushV,stepI,popA,popB,memP,codeA,if_neg h8,if_neg h26,if_neg h48,if_neg h58];done) | (simp only [stepV,endV,if_pos hr,pushV,stepI,popA,popB,memP,codeA,if_neg h8,if_neg h26,if_neg h48,if_neg h58];rfl)
    ·refine RN.go 9 [.own 0,.own 0,.own 0,.own 0] λ _=>RN.ret [.own 0,.own 0,.own 0,.own 0] [] [0] (v:=.tuple #[.bool true,.agg #[vI 0,vI 0,vI 0,vI 0],.bool false]) (H':=(ap [] [T])) ?_
     refine ⟨T,rfl,?_⟩
     have hr:¬ runsV code n M:=λ hr_=>h5 hr_.2.2.2
     refine ⟨?_,?_⟩
     ·simp only [stepV,endV,if_neg hr];exact hM.weak (by omega)
     ·first | (simp only [stepV,endV,if_neg hr];done) | (simp only [stepV,endV,if_neg hr];rfl)
theorem vstep_nil (mb:Nat) (M:MemS) (k:Nat) (T:HL) (S:Setup) (code:List Ins) (A:Option Addr) (cc:Nat) (e0 e1 e2:Int) (F:HL) (hM:MemK K D mb M (k+6) T)  (hl:DLo D):Sp Tryz.prog 80 #[.iface K.tid (vP mb 0),(Setup.v S),.agg #[.slice A 0 cc,vI e0,vI e1,vI e2]] (ap [] [T]) F (λ u H'=>∃ x,H'=ap [] [x] /\ (MemK K D mb ((stepV S code 0 M).M) k x /\ u=.tuple #[.bool (endV code 0 M),.agg #[vI ((stepV S code 0 M).e.t),vI ((stepV S code 0 M).e.i),vI ((stepV S code 0 M).e.k),vI ((stepV S code 0 M).e.v)],.bool ((stepV S code 0 M).em)])):=by
 refine Sp.run Tryz.func80 rfl mn (A:=[]) (Ts:=[T]) rfl λ w0=>?_
 refine RN.go 22 [] λ n1=>RN.cpK (get_any 6 hM (hl 6 (by decide) (by decide)) (sub_ap 0))<|RN.go 1 [] λ _=>RN.cpK (get_any 7 hM (hl 7 (by decide) (by decide)) (sub_ap 0))<|RN.go 1 [] λ _=>RN.cpK (get_any 8 hM (hl 8 (by decide) (by decide)) (sub_ap 0))<|RN.go 11 [] λ _=>RN.em (M.get 8 < 1) 29 (λ h2=>?_) λ h2=>?_
 ·refine RN.go 31 [.own 0,.own 0,.own 0,.own 0] λ _=>RN.ret [.own 0,.own 0,.own 0,.own 0] [] [0] (v:=.tuple #[.bool true,.agg #[vI 0,vI 0,vI 0,vI 0],.bool false]) (H':=(ap [] [T])) ?_
  refine ⟨T,rfl,?_⟩
  have hr:¬ runsV code 0 M:=λ hr_=>hr_.1 h2
  refine ⟨?_,?_⟩
  ·simp only [stepV,endV,if_neg hr];exact hM.weak (by omega)
  ·first | (simp only [stepV,endV,if_neg hr];done) | (simp only [stepV,endV,if_neg hr];rfl)
 ·refine RN.go 4 [] λ _=>RN.em (M.get 6 < 0) 33 (λ h3=>?_) λ h3=>?_
  ·refine RN.go 27 [.own 0,.own 0,.own 0,.own 0] λ _=>RN.ret [.own 0,.own 0,.own 0,.own 0] [] [0] (v:=.tuple #[.bool true,.agg #[vI 0,vI 0,vI 0,vI 0],.bool false]) (H':=(ap [] [T])) ?_
   refine ⟨T,rfl,?_⟩
   have hr:¬ runsV code 0 M:=λ hr_=>hr_.2.1 h3
   refine ⟨?_,?_⟩
   ·simp only [stepV,endV,if_neg hr];exact hM.weak (by omega)
   ·first | (simp only [stepV,endV,if_neg hr];done) | (simp only [stepV,endV,if_neg hr];rfl)
  ·refine RN.go 7 [.own 1] λ _=>RN.em (M.get 6 >= 0) 40 (λ h4=>?_) λ h4=>?_
   ·refine RN.go 20 [.own 0,.own 0,.own 0,.own 0] λ _=>RN.ret [.own 0,.own 0,.own 0,.own 0] [] [0] (v:=.tuple #[.bool true,.agg #[vI 0,vI 0,vI 0,vI 0],.bool false]) (H':=(ap [] [T])) ?_
    refine ⟨T,rfl,?_⟩
    have hr:¬ runsV code 0 M:=λ hr_=>hr_.2.2.1 (by simpa using h4)
    refine ⟨?_,?_⟩
    ·simp only [stepV,endV,if_neg hr];exact hM.weak (by omega)
    ·first | (simp only [stepV,endV,if_neg hr];done) | (simp only [stepV,endV,if_neg hr];rfl)
   ·exact absurd (show M.get 6 >= 0 by omega) h4
theorem vstep_any (mb:Nat) (M:MemS) (k:Nat) (T:HL) (S:Setup) (code:List Ins) (A:Option Addr) (n cc:Nat) (e0 e1 e2:Int) (F:HL) (hM:MemK K D mb M (k+6) T) (hS:SetN S) (hE:EffIn F) (hc:CodeIn F code A n) (hst:StD D S code n M) (hl:DLo D):Sp Tryz.prog 80 #[.iface K.tid (vP mb 0),(Setup.v S),.agg #[.slice A n cc,vI e0,vI e1,vI e2]] (ap [] [T]) F (λ u H'=>∃ x,H'=ap [] [x] /\ (MemK K D mb (stepV S code n M).M k x /\ u=.tuple #[.bool (endV code n M),.agg #[vI ((stepV S code n M).e.t),vI ((stepV S code n M).e.i),vI ((stepV S code n M).e.k),vI ((stepV S code n M).e.v)],.bool ((stepV S code n M).em)])):=by
 cases hc with
 | nil=>exact vstep_nil mb M k T S code A cc e0 e1 e2 F hM hl
 | mk b R n h h1 h2=>exact vstep_code mb M k T S code b R n cc e0 e1 e2 F hM hS hE h h1 h2 hst hl
end Go.Proofs.YtkhifpbokgabbaaGreatDoor
