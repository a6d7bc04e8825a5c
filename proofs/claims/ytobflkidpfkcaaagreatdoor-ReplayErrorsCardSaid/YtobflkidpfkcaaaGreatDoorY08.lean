import Derived.Test.YtobflkidpfkcaaaGreatDoorY07
set_option maxHeartbeats 4000000
set_option maxRecDepth 100000
set_option linter.unusedSimpArgs false
set_option linter.unusedVariables false
namespace Go.Proofs.YtobflkidpfkcaaaGreatDoor
open Go.RowKit
theorem Eb (mb:Nat) (M:MemS) (k:Nat) (T:HL) (A:Option Addr) (n c:Nat) (e0 e1 e2 a b d:Int) (F:HL) (hM:MemH mb M (k+5) T) :Sp Tryz.prog 201 #[.iface 114 (vP mb 0),.agg #[.slice A n c,vI e0,vI e1,vI e2],vI 0,vI a,vI b,vI d] (ap [] [T]) F (λ u H'=>∃ x,H'=ap [] [x] /\ (MemH mb (aN e0 d a b M) k x /\ u=.bool (!(decide (e0 < 0))))):=by
 refine Sp.run Tryz.func201 rfl mn (A:=[]) (Ts:=[T]) rfl λ w0=>?_
 refine ae 28 [.own 0] λ n1=>RN.em (e0 < 0) 29 (λ h2=>?_) λ h2=>?_
 ·refine ae 6 [] λ _=>RN.ret [] [] [0] (v:=.bool false) (H':=(ap [] [T])) ?_
  refine ⟨T,rfl,?_⟩
  refine ⟨?_,?_⟩
  ·simp only [aN,if_pos h2];exact hM.weak (by omega)
  ·rw [decide_eq_true h2];rfl
 ·refine ae 4 [] λ _=>RN.draw [8] []<|ag [] [0,1,2,3,5,4,6,7] [.own 0]<|RD.one 8 (RDO.ct [] [] [0] (ak 6 e0 hM) ?_)
  rintro _ T3 hM4
  refine RD.fin<|ae 4 [] λ _=>RN.ct [] [0] (ak 7 0 hM4) ?_
  rintro _ T5 hM6
  refine ae 6 [] λ _=>RN.ct [] [0] (ak 8 d hM6) ?_
  rintro _ T7 hM8
  refine ae 6 [] λ _=>RN.ct [] [0] (ak 9 a hM8) ?_
  rintro _ T9 hM10
  refine ae 6 [] λ _=>RN.ct [] [0] (ak 10 b hM10) ?_
  rintro _ T11 hM12
  refine ae 7 [] λ _=>RN.ret [] [] [0] (v:=.bool true) (H':=(ap [] [T11])) ?_
  refine ⟨T11,rfl,?_⟩
  refine ⟨?_,?_⟩
  ·simp only [aN,if_neg h2];exact hM12.weak (by omega)
  ·rw [decide_eq_false h2];rfl
theorem Ec (mb:Nat) (M:MemS) (k:Nat) (T:HL) (A:Option Addr) (n c:Nat) (e0 e1 e2 a b d:Int) (F:HL) (hM:MemH mb M (k+5) T) :Sp Tryz.prog 201 #[.iface 114 (vP mb 0),.agg #[.slice A n c,vI e0,vI e1,vI e2],vI 1,vI a,vI b,vI d] (ap [] [T]) F (λ u H'=>∃ x,H'=ap [] [x] /\ (MemH mb (aN e1 d a b M) k x /\ u=.bool (!(decide (e1 < 0))))):=by
 refine Sp.run Tryz.func201 rfl mn (A:=[]) (Ts:=[T]) rfl λ w0=>?_
 refine ae 28 [.own 0] λ n1=>RN.em (e1 < 0) 29 (λ h2=>?_) λ h2=>?_
 ·refine ae 6 [] λ _=>RN.ret [] [] [0] (v:=.bool false) (H':=(ap [] [T])) ?_
  refine ⟨T,rfl,?_⟩
  refine ⟨?_,?_⟩
  ·simp only [aN,if_pos h2];exact hM.weak (by omega)
  ·rw [decide_eq_true h2];rfl
 ·refine ae 4 [] λ _=>RN.draw [8] []<|ag [] [0,1,2,3,5,4,6,7] [.own 0]<|RD.one 8 (RDO.ct [] [] [0] (ak 6 e1 hM) ?_)
  rintro _ T3 hM4
  refine RD.fin<|ae 4 [] λ _=>RN.ct [] [0] (ak 7 0 hM4) ?_
  rintro _ T5 hM6
  refine ae 6 [] λ _=>RN.ct [] [0] (ak 8 d hM6) ?_
  rintro _ T7 hM8
  refine ae 6 [] λ _=>RN.ct [] [0] (ak 9 a hM8) ?_
  rintro _ T9 hM10
  refine ae 6 [] λ _=>RN.ct [] [0] (ak 10 b hM10) ?_
  rintro _ T11 hM12
  refine ae 7 [] λ _=>RN.ret [] [] [0] (v:=.bool true) (H':=(ap [] [T11])) ?_
  refine ⟨T11,rfl,?_⟩
  refine ⟨?_,?_⟩
  ·simp only [aN,if_neg h2];exact hM12.weak (by omega)
  ·rw [decide_eq_false h2];rfl
theorem Ed (mb:Nat) (M:MemS) (k:Nat) (T:HL) (A:Option Addr) (n c:Nat) (e0 e1 e2 a b d:Int) (F:HL) (hM:MemH mb M (k+5) T) :Sp Tryz.prog 201 #[.iface 114 (vP mb 0),.agg #[.slice A n c,vI e0,vI e1,vI e2],vI 2,vI a,vI b,vI d] (ap [] [T]) F (λ u H'=>∃ x,H'=ap [] [x] /\ (MemH mb (aN e2 d a b M) k x /\ u=.bool (!(decide (e2 < 0))))):=by
 refine Sp.run Tryz.func201 rfl mn (A:=[]) (Ts:=[T]) rfl λ w0=>?_
 refine ae 28 [.own 0] λ n1=>RN.em (e2 < 0) 29 (λ h2=>?_) λ h2=>?_
 ·refine ae 6 [] λ _=>RN.ret [] [] [0] (v:=.bool false) (H':=(ap [] [T])) ?_
  refine ⟨T,rfl,?_⟩
  refine ⟨?_,?_⟩
  ·simp only [aN,if_pos h2];exact hM.weak (by omega)
  ·rw [decide_eq_true h2];rfl
 ·refine ae 4 [] λ _=>RN.draw [8] []<|ag [] [0,1,2,3,5,4,6,7] [.own 0]<|RD.one 8 (RDO.ct [] [] [0] (ak 6 e2 hM) ?_)
  rintro _ T3 hM4
  refine RD.fin<|ae 4 [] λ _=>RN.ct [] [0] (ak 7 0 hM4) ?_
  rintro _ T5 hM6
  refine ae 6 [] λ _=>RN.ct [] [0] (ak 8 d hM6) ?_
  rintro _ T7 hM8
  refine ae 6 [] λ _=>RN.ct [] [0] (ak 9 a hM8) ?_
  rintro _ T9 hM10
  refine ae 6 [] λ _=>RN.ct [] [0] (ak 10 b hM10) ?_
  rintro _ T11 hM12
  refine ae 7 [] λ _=>RN.ret [] [] [0] (v:=.bool true) (H':=(ap [] [T11])) ?_
  refine ⟨T11,rfl,?_⟩
  refine ⟨?_,?_⟩
  ·simp only [aN,if_neg h2];exact hM12.weak (by omega)
  ·rw [decide_eq_false h2];rfl
theorem Ee {op n sp:Int} (h:eK op n sp=true):1 <= op /\ op <= 21:=by
 unfold eK at h
 by_cases h1:op < 1
 ·rw [if_pos h1] at h;cases h
 ·rw [if_neg h1] at h
  by_cases h2:op > 21
  ·rw [if_pos h2] at h;cases h
  ·omega
theorem xX (mb:Nat) (M:MemS) (k:Nat) (T:HL) (S:Setup) (code:List Ins) (b R n cc:Nat) (e0 e1 e2:Int) (F:HL) (hM:MemH mb M (k+6) T) (hS:SetN S) (hE:dg F) (hc:(b,.rows 2 R (Mx code) 176 (0,0)) ∈ F) (hnR:n <= R) (hn2:n <= 1000000):Sp Tryz.prog 202 #[.iface 114 (vP mb 0),(Setup.v S),.agg #[vS b 0 n cc,vI e0,vI e1,vI e2]] (ap [] [T]) F (λ u H'=>∃ x,H'=ap [] [x] /\ (MemH mb ((al S code n M).M) k x /\ u=.tuple #[.bool (bu code n M),.agg #[vI ((al S code n M).e.t),vI ((al S code n M).e.i),vI ((al S code n M).e.k),vI ((al S code n M).e.v)],.bool ((al S code n M).em)])):=by
 refine Sp.run Tryz.func202 rfl (mc hc (mc hE mn)) (A:=[]) (Ts:=[T]) rfl λ w0=>?_
 refine ae 22 [] λ n1=>aj (az 6 hM (av 0))<|ae 1 [] λ _=>aj (az 7 hM (av 0))<|ae 1 [] λ _=>aj (az 8 hM (av 0))<|ae 11 [] λ _=>RN.em (M.get 8 < 1) 29 (λ h2=>?_) λ h2=>?_
 ·refine ae 31 [.own 0,.own 0,.own 0,.own 0] λ _=>RN.ret [.own 0,.own 0,.own 0,.own 0] [] [0] (v:=.tuple #[.bool true,.agg #[vI 0,vI 0,vI 0,vI 0],.bool false]) (H':=(ap [] [T])) ?_
  refine ⟨T,rfl,?_⟩
  have hr:¬ dQ code n M:=λ hr_=>hr_.1 h2
  refine ⟨?_,?_⟩
  ·simp only [al,bu,if_neg hr];exact hM.weak (by omega)
  ·first | (simp only [al,bu,if_neg hr];done) | (simp only [al,bu,if_neg hr];rfl)
 ·refine ae 4 [] λ _=>RN.em (M.get 6 < 0) 33 (λ h3=>?_) λ h3=>?_
  ·refine ae 27 [.own 0,.own 0,.own 0,.own 0] λ _=>RN.ret [.own 0,.own 0,.own 0,.own 0] [] [0] (v:=.tuple #[.bool true,.agg #[vI 0,vI 0,vI 0,vI 0],.bool false]) (H':=(ap [] [T])) ?_
   refine ⟨T,rfl,?_⟩
   have hr:¬ dQ code n M:=λ hr_=>hr_.2.1 h3
   refine ⟨?_,?_⟩
   ·simp only [al,bu,if_neg hr];exact hM.weak (by omega)
   ·first | (simp only [al,bu,if_neg hr];done) | (simp only [al,bu,if_neg hr];rfl)
  ·refine ae 7 [.own 1] λ _=>RN.em (M.get 6 >= (n:Int)) 40 (λ h4=>?_) λ h4=>?_
   ·refine ae 20 [.own 0,.own 0,.own 0,.own 0] λ _=>RN.ret [.own 0,.own 0,.own 0,.own 0] [] [0] (v:=.tuple #[.bool true,.agg #[vI 0,vI 0,vI 0,vI 0],.bool false]) (H':=(ap [] [T])) ?_
    refine ⟨T,rfl,?_⟩
    have hr:¬ dQ code n M:=λ hr_=>hr_.2.2.1 h4
    refine ⟨?_,?_⟩
    ·simp only [al,bu,if_neg hr];exact hM.weak (by omega)
    ·first | (simp only [al,bu,if_neg hr];done) | (simp only [al,bu,if_neg hr];rfl)
   ·refine ai 6 [.own 1,.ix ((M.get 6).toNat),.rorow 0 ((M.get 6).toNat) 0,.rorow 0 ((M.get 6).toNat) 1] [((0+((M.get 6).toNat) * 2)+1)=((M.get 6).toNat) * 2+1 /\ ((M.get 6).toNat) < R,(0+((M.get 6).toNat) * 2)=((M.get 6).toNat) * 2+0 /\ ((M.get 6).toNat) < R,M.get 6=(((M.get 6).toNat:Nat):Int) /\ (M.get 6).toNat < n] λ _=>aj (H3 ((code.getD ((M.get 6).toNat) dIns).op) ((code.getD ((M.get 6).toNat) dIns).n) (M.get 7) _ (aw hE))<|ae 4 [] λ _=>uO (eK ((code.getD ((M.get 6).toNat) dIns).op) ((code.getD ((M.get 6).toNat) dIns).n) (M.get 7)) 49 (λ h5=>?_) λ h5=>?_
    ·have ho:=Ee h5
     refine ai 15 [.own 1,.ix ((M.get 6).toNat),.rorow 0 ((M.get 6).toNat) 0,.rorow 0 ((M.get 6).toNat) 1,.own 0,.own 0] [((0+((M.get 6).toNat) * 2)+1)=((M.get 6).toNat) * 2+1 /\ ((M.get 6).toNat) < R,(0+((M.get 6).toNat) * 2)=((M.get 6).toNat) * 2+0 /\ ((M.get 6).toNat) < R,M.get 6=(((M.get 6).toNat:Nat):Int) /\ (M.get 6).toNat < n] λ n6=>RN.draw [] []<|aJ [] [0,5,1,6,2,7,3,8,4,9,10,11] [.own 0,.own 0,.ix (((code.getD ((M.get 6).toNat) dIns).op).toNat),.ix (((code.getD ((M.get 6).toNat) dIns).op).toNat),.rorow 1 (((code.getD ((M.get 6).toNat) dIns).op).toNat) 0,.rorow 1 (((code.getD ((M.get 6).toNat) dIns).op).toNat) 1] [((0+(((code.getD ((M.get 6).toNat) dIns).op).toNat) * 3)+1)=(((code.getD ((M.get 6).toNat) dIns).op).toNat) * 3+1 /\ (((code.getD ((M.get 6).toNat) dIns).op).toNat) < 22,(0+(((code.getD ((M.get 6).toNat) dIns).op).toNat) * 3)=(((code.getD ((M.get 6).toNat) dIns).op).toNat) * 3+0 /\ (((code.getD ((M.get 6).toNat) dIns).op).toNat) < 22,(code.getD ((M.get 6).toNat) dIns).op=((((code.getD ((M.get 6).toNat) dIns).op).toNat:Nat):Int) /\ ((code.getD ((M.get 6).toNat) dIns).op).toNat < 22,(code.getD ((M.get 6).toNat) dIns).op=((((code.getD ((M.get 6).toNat) dIns).op).toNat:Nat):Int) /\ ((code.getD ((M.get 6).toNat) dIns).op).toNat < 22]<|RD.fin<|ae 38 [.own 0,.own 0,.own 0,.own 0] λ n7=>RN.em (eP ((code.getD ((M.get 6).toNat) dIns).op)=2) 74 (λ h8=>?_) λ h8=>?_
     ·refine ae 10 [] λ _=>aj (az (IntKind.i64.wrap ((IntKind.i64.wrap ((IntKind.i64.wrap (16+(M.get 7))) - (eP ((code.getD ((M.get 6).toNat) dIns).op))))+1)) hM (av 0))<|ae 9 [.own 0] λ _=>aj (az (IntKind.i64.wrap ((IntKind.i64.wrap (16+(M.get 7))) - (eP ((code.getD ((M.get 6).toNat) dIns).op)))) hM (av 0))<|ae 12 [.own 0] λ _=>RN.ct [] [0] (ak 8 (IntKind.i64.wrap ((M.get 8) - 1)) hM) ?_
      rintro _ T9 hM10
      refine ae 7 [] λ _=>RN.ct [] [0] (ak 6 (IntKind.i64.wrap ((M.get 6)+1)) hM10) ?_
      rintro _ T11 hM12
      refine ae 10 [] λ _=>RN.en (eP ((code.getD ((M.get 6).toNat) dIns).op)=eQ ((code.getD ((M.get 6).toNat) dIns).op)) 97 (λ h13=>?_) λ h13=>?_
      ·refine ae 10 ([.own 1]++ow 4 16++[.own 0,.own 0,.own 0]) λ _=>RN.ct [] [0] (jC mb ((M.set 8 (IntKind.i64.wrap ((M.get 8) - 1))).set 6 (IntKind.i64.wrap ((M.get 6)+1))) (k+2) T11 S ((code.getD ((M.get 6).toNat) dIns).op) ((code.getD ((M.get 6).toNat) dIns).n) (M.get (IntKind.i64.wrap ((IntKind.i64.wrap (16+(M.get 7))) - (eP ((code.getD ((M.get 6).toNat) dIns).op))))) (M.get (IntKind.i64.wrap ((IntKind.i64.wrap ((IntKind.i64.wrap (16+(M.get 7))) - (eP ((code.getD ((M.get 6).toNat) dIns).op))))+1))) _ hM12 hS (by assumption)) ?_
       rintro _ T14 ⟨hM15,rfl⟩
       refine ae 16 [.own 2,.own 2,.own 2,.own 2] λ _=>RN.em (eQ ((code.getD ((M.get 6).toNat) dIns).op) > 0) 116 (λ h16=>?_) λ h16=>?_
       ·refine ae 8 [] λ _=>RN.ct [] [0] (ak (IntKind.i64.wrap ((IntKind.i64.wrap (16+(M.get 7))) - (eP ((code.getD ((M.get 6).toNat) dIns).op)))) ((aF S ((code.getD ((M.get 6).toNat) dIns).op) ((code.getD ((M.get 6).toNat) dIns).n) (M.get (IntKind.i64.wrap ((IntKind.i64.wrap (16+(M.get 7))) - (eP ((code.getD ((M.get 6).toNat) dIns).op))))) (M.get (IntKind.i64.wrap ((IntKind.i64.wrap ((IntKind.i64.wrap (16+(M.get 7))) - (eP ((code.getD ((M.get 6).toNat) dIns).op))))+1))) ((M.set 8 (IntKind.i64.wrap ((M.get 8) - 1))).set 6 (IntKind.i64.wrap ((M.get 6)+1)))).v) hM15) ?_
        rintro _ T17 hM18
        refine ae 3 [] λ _=>RN.draw [6] [0,1,3,4]<|ag [0,1,3,4] [0,3,4,1,2,5] [.own 2,.own 2,.own 2,.own 2,.own 1]<|RD.one 6 (RDO.ev [0,1,3,4] [.own 2,.own 2,.own 2,.own 2] λ _=>?_)
        refine ag [0,1,3,4] [7] []<|RD.fin<|ae 1 [] λ _=>RN.ret [.own 2,.own 2,.own 2,.own 2] [] [0] (v:=.tuple #[.bool (decide ((code.getD ((M.get 6).toNat) dIns).op=21)),.agg #[vI ((aF S ((code.getD ((M.get 6).toNat) dIns).op) ((code.getD ((M.get 6).toNat) dIns).n) (M.get (IntKind.i64.wrap ((IntKind.i64.wrap (16+(M.get 7))) - (eP ((code.getD ((M.get 6).toNat) dIns).op))))) (M.get (IntKind.i64.wrap ((IntKind.i64.wrap ((IntKind.i64.wrap (16+(M.get 7))) - (eP ((code.getD ((M.get 6).toNat) dIns).op))))+1))) ((M.set 8 (IntKind.i64.wrap ((M.get 8) - 1))).set 6 (IntKind.i64.wrap ((M.get 6)+1)))).e.t),vI ((aF S ((code.getD ((M.get 6).toNat) dIns).op) ((code.getD ((M.get 6).toNat) dIns).n) (M.get (IntKind.i64.wrap ((IntKind.i64.wrap (16+(M.get 7))) - (eP ((code.getD ((M.get 6).toNat) dIns).op))))) (M.get (IntKind.i64.wrap ((IntKind.i64.wrap ((IntKind.i64.wrap (16+(M.get 7))) - (eP ((code.getD ((M.get 6).toNat) dIns).op))))+1))) ((M.set 8 (IntKind.i64.wrap ((M.get 8) - 1))).set 6 (IntKind.i64.wrap ((M.get 6)+1)))).e.i),vI ((aF S ((code.getD ((M.get 6).toNat) dIns).op) ((code.getD ((M.get 6).toNat) dIns).n) (M.get (IntKind.i64.wrap ((IntKind.i64.wrap (16+(M.get 7))) - (eP ((code.getD ((M.get 6).toNat) dIns).op))))) (M.get (IntKind.i64.wrap ((IntKind.i64.wrap ((IntKind.i64.wrap (16+(M.get 7))) - (eP ((code.getD ((M.get 6).toNat) dIns).op))))+1))) ((M.set 8 (IntKind.i64.wrap ((M.get 8) - 1))).set 6 (IntKind.i64.wrap ((M.get 6)+1)))).e.k),vI ((aF S ((code.getD ((M.get 6).toNat) dIns).op) ((code.getD ((M.get 6).toNat) dIns).n) (M.get (IntKind.i64.wrap ((IntKind.i64.wrap (16+(M.get 7))) - (eP ((code.getD ((M.get 6).toNat) dIns).op))))) (M.get (IntKind.i64.wrap ((IntKind.i64.wrap ((IntKind.i64.wrap (16+(M.get 7))) - (eP ((code.getD ((M.get 6).toNat) dIns).op))))+1))) ((M.set 8 (IntKind.i64.wrap ((M.get 8) - 1))).set 6 (IntKind.i64.wrap ((M.get 6)+1)))).e.v)],.bool ((aF S ((code.getD ((M.get 6).toNat) dIns).op) ((code.getD ((M.get 6).toNat) dIns).n) (M.get (IntKind.i64.wrap ((IntKind.i64.wrap (16+(M.get 7))) - (eP ((code.getD ((M.get 6).toNat) dIns).op))))) (M.get (IntKind.i64.wrap ((IntKind.i64.wrap ((IntKind.i64.wrap (16+(M.get 7))) - (eP ((code.getD ((M.get 6).toNat) dIns).op))))+1))) ((M.set 8 (IntKind.i64.wrap ((M.get 8) - 1))).set 6 (IntKind.i64.wrap ((M.get 6)+1)))).em)]) (H':=(ap [] [T17])) ?_
        refine ⟨T17,rfl,?_⟩
        have hr:dQ code n M:=⟨h2,h3,h4,h5⟩
        refine ⟨?_,?_⟩
        ·simp only [al,bu,if_pos hr,cj,bW,dU,dV,dC,bm,if_pos h8,if_pos h13,if_pos h16];exact hM18.weak (by omega)
        ·first | (simp only [al,bu,if_pos hr,cj,bW,dU,dV,dC,bm,if_pos h8,if_pos h13,if_pos h16];done) | (simp only [al,bu,if_pos hr,cj,bW,dU,dV,dC,bm,if_pos h8,if_pos h13,if_pos h16];rfl)
       ·refine ae 4 [] λ _=>RN.draw [6] [0,1,3,4]<|ag [0,1,3,4] [0,3,4,1,2,5] [.own 2,.own 2,.own 2,.own 2,.own 1]<|RD.one 6 (RDO.ev [0,1,3,4] [.own 2,.own 2,.own 2,.own 2] λ _=>?_)
        refine ag [0,1,3,4] [7] []<|RD.fin<|ae 1 [] λ _=>RN.ret [.own 2,.own 2,.own 2,.own 2] [] [0] (v:=.tuple #[.bool (decide ((code.getD ((M.get 6).toNat) dIns).op=21)),.agg #[vI ((aF S ((code.getD ((M.get 6).toNat) dIns).op) ((code.getD ((M.get 6).toNat) dIns).n) (M.get (IntKind.i64.wrap ((IntKind.i64.wrap (16+(M.get 7))) - (eP ((code.getD ((M.get 6).toNat) dIns).op))))) (M.get (IntKind.i64.wrap ((IntKind.i64.wrap ((IntKind.i64.wrap (16+(M.get 7))) - (eP ((code.getD ((M.get 6).toNat) dIns).op))))+1))) ((M.set 8 (IntKind.i64.wrap ((M.get 8) - 1))).set 6 (IntKind.i64.wrap ((M.get 6)+1)))).e.t),vI ((aF S ((code.getD ((M.get 6).toNat) dIns).op) ((code.getD ((M.get 6).toNat) dIns).n) (M.get (IntKind.i64.wrap ((IntKind.i64.wrap (16+(M.get 7))) - (eP ((code.getD ((M.get 6).toNat) dIns).op))))) (M.get (IntKind.i64.wrap ((IntKind.i64.wrap ((IntKind.i64.wrap (16+(M.get 7))) - (eP ((code.getD ((M.get 6).toNat) dIns).op))))+1))) ((M.set 8 (IntKind.i64.wrap ((M.get 8) - 1))).set 6 (IntKind.i64.wrap ((M.get 6)+1)))).e.i),vI ((aF S ((code.getD ((M.get 6).toNat) dIns).op) ((code.getD ((M.get 6).toNat) dIns).n) (M.get (IntKind.i64.wrap ((IntKind.i64.wrap (16+(M.get 7))) - (eP ((code.getD ((M.get 6).toNat) dIns).op))))) (M.get (IntKind.i64.wrap ((IntKind.i64.wrap ((IntKind.i64.wrap (16+(M.get 7))) - (eP ((code.getD ((M.get 6).toNat) dIns).op))))+1))) ((M.set 8 (IntKind.i64.wrap ((M.get 8) - 1))).set 6 (IntKind.i64.wrap ((M.get 6)+1)))).e.k),vI ((aF S ((code.getD ((M.get 6).toNat) dIns).op) ((code.getD ((M.get 6).toNat) dIns).n) (M.get (IntKind.i64.wrap ((IntKind.i64.wrap (16+(M.get 7))) - (eP ((code.getD ((M.get 6).toNat) dIns).op))))) (M.get (IntKind.i64.wrap ((IntKind.i64.wrap ((IntKind.i64.wrap (16+(M.get 7))) - (eP ((code.getD ((M.get 6).toNat) dIns).op))))+1))) ((M.set 8 (IntKind.i64.wrap ((M.get 8) - 1))).set 6 (IntKind.i64.wrap ((M.get 6)+1)))).e.v)],.bool ((aF S ((code.getD ((M.get 6).toNat) dIns).op) ((code.getD ((M.get 6).toNat) dIns).n) (M.get (IntKind.i64.wrap ((IntKind.i64.wrap (16+(M.get 7))) - (eP ((code.getD ((M.get 6).toNat) dIns).op))))) (M.get (IntKind.i64.wrap ((IntKind.i64.wrap ((IntKind.i64.wrap (16+(M.get 7))) - (eP ((code.getD ((M.get 6).toNat) dIns).op))))+1))) ((M.set 8 (IntKind.i64.wrap ((M.get 8) - 1))).set 6 (IntKind.i64.wrap ((M.get 6)+1)))).em)]) (H':=(ap [] [T14])) ?_
        refine ⟨T14,rfl,?_⟩
        have hr:dQ code n M:=⟨h2,h3,h4,h5⟩
        refine ⟨?_,?_⟩
        ·simp only [al,bu,if_pos hr,cj,bW,dU,dV,dC,bm,if_pos h8,if_pos h13,if_neg h16];exact hM15.weak (by omega)
        ·first | (simp only [al,bu,if_pos hr,cj,bW,dU,dV,dC,bm,if_pos h8,if_pos h13,if_neg h16];done) | (simp only [al,bu,if_pos hr,cj,bW,dU,dV,dC,bm,if_pos h8,if_pos h13,if_neg h16];rfl)
      ·refine ae 8 [] λ _=>RN.ct [] [0] (ak 7 (IntKind.i64.wrap ((IntKind.i64.wrap ((M.get 7) - (eP ((code.getD ((M.get 6).toNat) dIns).op))))+(eQ ((code.getD ((M.get 6).toNat) dIns).op)))) hM12) ?_
       rintro _ T19 hM20
       refine ae 9 ([.own 1]++ow 4 16++[.own 0,.own 0,.own 0]) λ _=>RN.ct [] [0] (jC mb (((M.set 8 (IntKind.i64.wrap ((M.get 8) - 1))).set 6 (IntKind.i64.wrap ((M.get 6)+1))).set 7 (IntKind.i64.wrap ((IntKind.i64.wrap ((M.get 7) - (eP ((code.getD ((M.get 6).toNat) dIns).op))))+(eQ ((code.getD ((M.get 6).toNat) dIns).op))))) (k+1) T19 S ((code.getD ((M.get 6).toNat) dIns).op) ((code.getD ((M.get 6).toNat) dIns).n) (M.get (IntKind.i64.wrap ((IntKind.i64.wrap (16+(M.get 7))) - (eP ((code.getD ((M.get 6).toNat) dIns).op))))) (M.get (IntKind.i64.wrap ((IntKind.i64.wrap ((IntKind.i64.wrap (16+(M.get 7))) - (eP ((code.getD ((M.get 6).toNat) dIns).op))))+1))) _ hM20 hS (by assumption)) ?_
       rintro _ T21 ⟨hM22,rfl⟩
       refine ae 16 [.own 2,.own 2,.own 2,.own 2] λ _=>RN.em (eQ ((code.getD ((M.get 6).toNat) dIns).op) > 0) 116 (λ h23=>?_) λ h23=>?_
       ·refine ae 8 [] λ _=>RN.ct [] [0] (ak (IntKind.i64.wrap ((IntKind.i64.wrap (16+(M.get 7))) - (eP ((code.getD ((M.get 6).toNat) dIns).op)))) ((aF S ((code.getD ((M.get 6).toNat) dIns).op) ((code.getD ((M.get 6).toNat) dIns).n) (M.get (IntKind.i64.wrap ((IntKind.i64.wrap (16+(M.get 7))) - (eP ((code.getD ((M.get 6).toNat) dIns).op))))) (M.get (IntKind.i64.wrap ((IntKind.i64.wrap ((IntKind.i64.wrap (16+(M.get 7))) - (eP ((code.getD ((M.get 6).toNat) dIns).op))))+1))) (((M.set 8 (IntKind.i64.wrap ((M.get 8) - 1))).set 6 (IntKind.i64.wrap ((M.get 6)+1))).set 7 (IntKind.i64.wrap ((IntKind.i64.wrap ((M.get 7) - (eP ((code.getD ((M.get 6).toNat) dIns).op))))+(eQ ((code.getD ((M.get 6).toNat) dIns).op)))))).v) hM22) ?_
        rintro _ T24 hM25
        refine ae 3 [] λ _=>RN.draw [6] [0,1,3,4]<|ag [0,1,3,4] [0,3,4,1,2,5] [.own 2,.own 2,.own 2,.own 2,.own 1]<|RD.one 6 (RDO.ev [0,1,3,4] [.own 2,.own 2,.own 2,.own 2] λ _=>?_)
        refine ag [0,1,3,4] [7] []<|RD.fin<|ae 1 [] λ _=>RN.ret [.own 2,.own 2,.own 2,.own 2] [] [0] (v:=.tuple #[.bool (decide ((code.getD ((M.get 6).toNat) dIns).op=21)),.agg #[vI ((aF S ((code.getD ((M.get 6).toNat) dIns).op) ((code.getD ((M.get 6).toNat) dIns).n) (M.get (IntKind.i64.wrap ((IntKind.i64.wrap (16+(M.get 7))) - (eP ((code.getD ((M.get 6).toNat) dIns).op))))) (M.get (IntKind.i64.wrap ((IntKind.i64.wrap ((IntKind.i64.wrap (16+(M.get 7))) - (eP ((code.getD ((M.get 6).toNat) dIns).op))))+1))) (((M.set 8 (IntKind.i64.wrap ((M.get 8) - 1))).set 6 (IntKind.i64.wrap ((M.get 6)+1))).set 7 (IntKind.i64.wrap ((IntKind.i64.wrap ((M.get 7) - (eP ((code.getD ((M.get 6).toNat) dIns).op))))+(eQ ((code.getD ((M.get 6).toNat) dIns).op)))))).e.t),vI ((aF S ((code.getD ((M.get 6).toNat) dIns).op) ((code.getD ((M.get 6).toNat) dIns).n) (M.get (IntKind.i64.wrap ((IntKind.i64.wrap (16+(M.get 7))) - (eP ((code.getD ((M.get 6).toNat) dIns).op))))) (M.get (IntKind.i64.wrap ((IntKind.i64.wrap ((IntKind.i64.wrap (16+(M.get 7))) - (eP ((code.getD ((M.get 6).toNat) dIns).op))))+1))) (((M.set 8 (IntKind.i64.wrap ((M.get 8) - 1))).set 6 (IntKind.i64.wrap ((M.get 6)+1))).set 7 (IntKind.i64.wrap ((IntKind.i64.wrap ((M.get 7) - (eP ((code.getD ((M.get 6).toNat) dIns).op))))+(eQ ((code.getD ((M.get 6).toNat) dIns).op)))))).e.i),vI ((aF S ((code.getD ((M.get 6).toNat) dIns).op) ((code.getD ((M.get 6).toNat) dIns).n) (M.get (IntKind.i64.wrap ((IntKind.i64.wrap (16+(M.get 7))) - (eP ((code.getD ((M.get 6).toNat) dIns).op))))) (M.get (IntKind.i64.wrap ((IntKind.i64.wrap ((IntKind.i64.wrap (16+(M.get 7))) - (eP ((code.getD ((M.get 6).toNat) dIns).op))))+1))) (((M.set 8 (IntKind.i64.wrap ((M.get 8) - 1))).set 6 (IntKind.i64.wrap ((M.get 6)+1))).set 7 (IntKind.i64.wrap ((IntKind.i64.wrap ((M.get 7) - (eP ((code.getD ((M.get 6).toNat) dIns).op))))+(eQ ((code.getD ((M.get 6).toNat) dIns).op)))))).e.k),vI ((aF S ((code.getD ((M.get 6).toNat) dIns).op) ((code.getD ((M.get 6).toNat) dIns).n) (M.get (IntKind.i64.wrap ((IntKind.i64.wrap (16+(M.get 7))) - (eP ((code.getD ((M.get 6).toNat) dIns).op))))) (M.get (IntKind.i64.wrap ((IntKind.i64.wrap ((IntKind.i64.wrap (16+(M.get 7))) - (eP ((code.getD ((M.get 6).toNat) dIns).op))))+1))) (((M.set 8 (IntKind.i64.wrap ((M.get 8) - 1))).set 6 (IntKind.i64.wrap ((M.get 6)+1))).set 7 (IntKind.i64.wrap ((IntKind.i64.wrap ((M.get 7) - (eP ((code.getD ((M.get 6).toNat) dIns).op))))+(eQ ((code.getD ((M.get 6).toNat) dIns).op)))))).e.v)],.bool ((aF S ((code.getD ((M.get 6).toNat) dIns).op) ((code.getD ((M.get 6).toNat) dIns).n) (M.get (IntKind.i64.wrap ((IntKind.i64.wrap (16+(M.get 7))) - (eP ((code.getD ((M.get 6).toNat) dIns).op))))) (M.get (IntKind.i64.wrap ((IntKind.i64.wrap ((IntKind.i64.wrap (16+(M.get 7))) - (eP ((code.getD ((M.get 6).toNat) dIns).op))))+1))) (((M.set 8 (IntKind.i64.wrap ((M.get 8) - 1))).set 6 (IntKind.i64.wrap ((M.get 6)+1))).set 7 (IntKind.i64.wrap ((IntKind.i64.wrap ((M.get 7) - (eP ((code.getD ((M.get 6).toNat) dIns).op))))+(eQ ((code.getD ((M.get 6).toNat) dIns).op)))))).em)]) (H':=(ap [] [T24])) ?_
        refine ⟨T24,rfl,?_⟩
        have hr:dQ code n M:=⟨h2,h3,h4,h5⟩
        refine ⟨?_,?_⟩
        ·simp only [al,bu,if_pos hr,cj,bW,dU,dV,dC,bm,if_pos h8,if_neg h13,if_pos h23];exact hM25.weak (by omega)
        ·first | (simp only [al,bu,if_pos hr,cj,bW,dU,dV,dC,bm,if_pos h8,if_neg h13,if_pos h23];done) | (simp only [al,bu,if_pos hr,cj,bW,dU,dV,dC,bm,if_pos h8,if_neg h13,if_pos h23];rfl)
       ·refine ae 4 [] λ _=>RN.draw [6] [0,1,3,4]<|ag [0,1,3,4] [0,3,4,1,2,5] [.own 2,.own 2,.own 2,.own 2,.own 1]<|RD.one 6 (RDO.ev [0,1,3,4] [.own 2,.own 2,.own 2,.own 2] λ _=>?_)
        refine ag [0,1,3,4] [7] []<|RD.fin<|ae 1 [] λ _=>RN.ret [.own 2,.own 2,.own 2,.own 2] [] [0] (v:=.tuple #[.bool (decide ((code.getD ((M.get 6).toNat) dIns).op=21)),.agg #[vI ((aF S ((code.getD ((M.get 6).toNat) dIns).op) ((code.getD ((M.get 6).toNat) dIns).n) (M.get (IntKind.i64.wrap ((IntKind.i64.wrap (16+(M.get 7))) - (eP ((code.getD ((M.get 6).toNat) dIns).op))))) (M.get (IntKind.i64.wrap ((IntKind.i64.wrap ((IntKind.i64.wrap (16+(M.get 7))) - (eP ((code.getD ((M.get 6).toNat) dIns).op))))+1))) (((M.set 8 (IntKind.i64.wrap ((M.get 8) - 1))).set 6 (IntKind.i64.wrap ((M.get 6)+1))).set 7 (IntKind.i64.wrap ((IntKind.i64.wrap ((M.get 7) - (eP ((code.getD ((M.get 6).toNat) dIns).op))))+(eQ ((code.getD ((M.get 6).toNat) dIns).op)))))).e.t),vI ((aF S ((code.getD ((M.get 6).toNat) dIns).op) ((code.getD ((M.get 6).toNat) dIns).n) (M.get (IntKind.i64.wrap ((IntKind.i64.wrap (16+(M.get 7))) - (eP ((code.getD ((M.get 6).toNat) dIns).op))))) (M.get (IntKind.i64.wrap ((IntKind.i64.wrap ((IntKind.i64.wrap (16+(M.get 7))) - (eP ((code.getD ((M.get 6).toNat) dIns).op))))+1))) (((M.set 8 (IntKind.i64.wrap ((M.get 8) - 1))).set 6 (IntKind.i64.wrap ((M.get 6)+1))).set 7 (IntKind.i64.wrap ((IntKind.i64.wrap ((M.get 7) - (eP ((code.getD ((M.get 6).toNat) dIns).op))))+(eQ ((code.getD ((M.get 6).toNat) dIns).op)))))).e.i),vI ((aF S ((code.getD ((M.get 6).toNat) dIns).op) ((code.getD ((M.get 6).toNat) dIns).n) (M.get (IntKind.i64.wrap ((IntKind.i64.wrap (16+(M.get 7))) - (eP ((code.getD ((M.get 6).toNat) dIns).op))))) (M.get (IntKind.i64.wrap ((IntKind.i64.wrap ((IntKind.i64.wrap (16+(M.get 7))) - (eP ((code.getD ((M.get 6).toNat) dIns).op))))+1))) (((M.set 8 (IntKind.i64.wrap ((M.get 8) - 1))).set 6 (IntKind.i64.wrap ((M.get 6)+1))).set 7 (IntKind.i64.wrap ((IntKind.i64.wrap ((M.get 7) - (eP ((code.getD ((M.get 6).toNat) dIns).op))))+(eQ ((code.getD ((M.get 6).toNat) dIns).op)))))).e.k),vI ((aF S ((code.getD ((M.get 6).toNat) dIns).op) ((code.getD ((M.get 6).toNat) dIns).n) (M.get (IntKind.i64.wrap ((IntKind.i64.wrap (16+(M.get 7))) - (eP ((code.getD ((M.get 6).toNat) dIns).op))))) (M.get (IntKind.i64.wrap ((IntKind.i64.wrap ((IntKind.i64.wrap (16+(M.get 7))) - (eP ((code.getD ((M.get 6).toNat) dIns).op))))+1))) (((M.set 8 (IntKind.i64.wrap ((M.get 8) - 1))).set 6 (IntKind.i64.wrap ((M.get 6)+1))).set 7 (IntKind.i64.wrap ((IntKind.i64.wrap ((M.get 7) - (eP ((code.getD ((M.get 6).toNat) dIns).op))))+(eQ ((code.getD ((M.get 6).toNat) dIns).op)))))).e.v)],.bool ((aF S ((code.getD ((M.get 6).toNat) dIns).op) ((code.getD ((M.get 6).toNat) dIns).n) (M.get (IntKind.i64.wrap ((IntKind.i64.wrap (16+(M.get 7))) - (eP ((code.getD ((M.get 6).toNat) dIns).op))))) (M.get (IntKind.i64.wrap ((IntKind.i64.wrap ((IntKind.i64.wrap (16+(M.get 7))) - (eP ((code.getD ((M.get 6).toNat) dIns).op))))+1))) (((M.set 8 (IntKind.i64.wrap ((M.get 8) - 1))).set 6 (IntKind.i64.wrap ((M.get 6)+1))).set 7 (IntKind.i64.wrap ((IntKind.i64.wrap ((M.get 7) - (eP ((code.getD ((M.get 6).toNat) dIns).op))))+(eQ ((code.getD ((M.get 6).toNat) dIns).op)))))).em)]) (H':=(ap [] [T21])) ?_
        refine ⟨T21,rfl,?_⟩
        have hr:dQ code n M:=⟨h2,h3,h4,h5⟩
        refine ⟨?_,?_⟩
        ·simp only [al,bu,if_pos hr,cj,bW,dU,dV,dC,bm,if_pos h8,if_neg h13,if_neg h23];exact hM22.weak (by omega)
        ·first | (simp only [al,bu,if_pos hr,cj,bW,dU,dV,dC,bm,if_pos h8,if_neg h13,if_neg h23];done) | (simp only [al,bu,if_pos hr,cj,bW,dU,dV,dC,bm,if_pos h8,if_neg h13,if_neg h23];rfl)
     ·refine ae 9 [] λ _=>RN.em (eP ((code.getD ((M.get 6).toNat) dIns).op)=1) 76 (λ h26=>?_) λ h26=>?_
      ·refine ae 11 [] λ _=>aj (az (IntKind.i64.wrap ((IntKind.i64.wrap (16+(M.get 7))) - (eP ((code.getD ((M.get 6).toNat) dIns).op)))) hM (av 0))<|ae 12 [.own 0] λ _=>RN.ct [] [0] (ak 8 (IntKind.i64.wrap ((M.get 8) - 1)) hM) ?_
       rintro _ T27 hM28
       refine ae 7 [] λ _=>RN.ct [] [0] (ak 6 (IntKind.i64.wrap ((M.get 6)+1)) hM28) ?_
       rintro _ T29 hM30
       refine ae 10 [] λ _=>RN.en (eP ((code.getD ((M.get 6).toNat) dIns).op)=eQ ((code.getD ((M.get 6).toNat) dIns).op)) 97 (λ h31=>?_) λ h31=>?_
       ·refine ae 10 ([.own 1]++ow 4 16++[.own 0,.own 0,.own 0]) λ _=>RN.ct [] [0] (jC mb ((M.set 8 (IntKind.i64.wrap ((M.get 8) - 1))).set 6 (IntKind.i64.wrap ((M.get 6)+1))) (k+2) T29 S ((code.getD ((M.get 6).toNat) dIns).op) ((code.getD ((M.get 6).toNat) dIns).n) (M.get (IntKind.i64.wrap ((IntKind.i64.wrap (16+(M.get 7))) - (eP ((code.getD ((M.get 6).toNat) dIns).op))))) 0 _ hM30 hS (by assumption)) ?_
        rintro _ T32 ⟨hM33,rfl⟩
        refine ae 16 [.own 2,.own 2,.own 2,.own 2] λ _=>RN.em (eQ ((code.getD ((M.get 6).toNat) dIns).op) > 0) 116 (λ h34=>?_) λ h34=>?_
        ·refine ae 8 [] λ _=>RN.ct [] [0] (ak (IntKind.i64.wrap ((IntKind.i64.wrap (16+(M.get 7))) - (eP ((code.getD ((M.get 6).toNat) dIns).op)))) ((aF S ((code.getD ((M.get 6).toNat) dIns).op) ((code.getD ((M.get 6).toNat) dIns).n) (M.get (IntKind.i64.wrap ((IntKind.i64.wrap (16+(M.get 7))) - (eP ((code.getD ((M.get 6).toNat) dIns).op))))) 0 ((M.set 8 (IntKind.i64.wrap ((M.get 8) - 1))).set 6 (IntKind.i64.wrap ((M.get 6)+1)))).v) hM33) ?_
         rintro _ T35 hM36
         refine ae 3 [] λ _=>RN.draw [6] [0,1,3,4]<|ag [0,1,3,4] [0,3,4,1,2,5] [.own 2,.own 2,.own 2,.own 2,.own 1]<|RD.one 6 (RDO.ev [0,1,3,4] [.own 2,.own 2,.own 2,.own 2] λ _=>?_)
         refine ag [0,1,3,4] [7] []<|RD.fin<|ae 1 [] λ _=>RN.ret [.own 2,.own 2,.own 2,.own 2] [] [0] (v:=.tuple #[.bool (decide ((code.getD ((M.get 6).toNat) dIns).op=21)),.agg #[vI ((aF S ((code.getD ((M.get 6).toNat) dIns).op) ((code.getD ((M.get 6).toNat) dIns).n) (M.get (IntKind.i64.wrap ((IntKind.i64.wrap (16+(M.get 7))) - (eP ((code.getD ((M.get 6).toNat) dIns).op))))) 0 ((M.set 8 (IntKind.i64.wrap ((M.get 8) - 1))).set 6 (IntKind.i64.wrap ((M.get 6)+1)))).e.t),vI ((aF S ((code.getD ((M.get 6).toNat) dIns).op) ((code.getD ((M.get 6).toNat) dIns).n) (M.get (IntKind.i64.wrap ((IntKind.i64.wrap (16+(M.get 7))) - (eP ((code.getD ((M.get 6).toNat) dIns).op))))) 0 ((M.set 8 (IntKind.i64.wrap ((M.get 8) - 1))).set 6 (IntKind.i64.wrap ((M.get 6)+1)))).e.i),vI ((aF S ((code.getD ((M.get 6).toNat) dIns).op) ((code.getD ((M.get 6).toNat) dIns).n) (M.get (IntKind.i64.wrap ((IntKind.i64.wrap (16+(M.get 7))) - (eP ((code.getD ((M.get 6).toNat) dIns).op))))) 0 ((M.set 8 (IntKind.i64.wrap ((M.get 8) - 1))).set 6 (IntKind.i64.wrap ((M.get 6)+1)))).e.k),vI ((aF S ((code.getD ((M.get 6).toNat) dIns).op) ((code.getD ((M.get 6).toNat) dIns).n) (M.get (IntKind.i64.wrap ((IntKind.i64.wrap (16+(M.get 7))) - (eP ((code.getD ((M.get 6).toNat) dIns).op))))) 0 ((M.set 8 (IntKind.i64.wrap ((M.get 8) - 1))).set 6 (IntKind.i64.wrap ((M.get 6)+1)))).e.v)],.bool ((aF S ((code.getD ((M.get 6).toNat) dIns).op) ((code.getD ((M.get 6).toNat) dIns).n) (M.get (IntKind.i64.wrap ((IntKind.i64.wrap (16+(M.get 7))) - (eP ((code.getD ((M.get 6).toNat) dIns).op))))) 0 ((M.set 8 (IntKind.i64.wrap ((M.get 8) - 1))).set 6 (IntKind.i64.wrap ((M.get 6)+1)))).em)]) (H':=(ap [] [T35])) ?_
         refine ⟨T35,rfl,?_⟩
         have hr:dQ code n M:=⟨h2,h3,h4,h5⟩
         refine ⟨?_,?_⟩
         ·simp only [al,bu,if_pos hr,cj,bW,dU,dV,dC,bm,if_neg h8,if_pos h26,if_pos h31,if_pos h34];exact hM36.weak (by omega)
         ·first | (simp only [al,bu,if_pos hr,cj,bW,dU,dV,dC,bm,if_neg h8,if_pos h26,if_pos h31,if_pos h34];done) | (simp only [al,bu,if_pos hr,cj,bW,dU,dV,dC,bm,if_neg h8,if_pos h26,if_pos h31,if_pos h34];rfl)
        ·refine ae 4 [] λ _=>RN.draw [6] [0,1,3,4]<|ag [0,1,3,4] [0,3,4,1,2,5] [.own 2,.own 2,.own 2,.own 2,.own 1]<|RD.one 6 (RDO.ev [0,1,3,4] [.own 2,.own 2,.own 2,.own 2] λ _=>?_)
         refine ag [0,1,3,4] [7] []<|RD.fin<|ae 1 [] λ _=>RN.ret [.own 2,.own 2,.own 2,.own 2] [] [0] (v:=.tuple #[.bool (decide ((code.getD ((M.get 6).toNat) dIns).op=21)),.agg #[vI ((aF S ((code.getD ((M.get 6).toNat) dIns).op) ((code.getD ((M.get 6).toNat) dIns).n) (M.get (IntKind.i64.wrap ((IntKind.i64.wrap (16+(M.get 7))) - (eP ((code.getD ((M.get 6).toNat) dIns).op))))) 0 ((M.set 8 (IntKind.i64.wrap ((M.get 8) - 1))).set 6 (IntKind.i64.wrap ((M.get 6)+1)))).e.t),vI ((aF S ((code.getD ((M.get 6).toNat) dIns).op) ((code.getD ((M.get 6).toNat) dIns).n) (M.get (IntKind.i64.wrap ((IntKind.i64.wrap (16+(M.get 7))) - (eP ((code.getD ((M.get 6).toNat) dIns).op))))) 0 ((M.set 8 (IntKind.i64.wrap ((M.get 8) - 1))).set 6 (IntKind.i64.wrap ((M.get 6)+1)))).e.i),vI ((aF S ((code.getD ((M.get 6).toNat) dIns).op) ((code.getD ((M.get 6).toNat) dIns).n) (M.get (IntKind.i64.wrap ((IntKind.i64.wrap (16+(M.get 7))) - (eP ((code.getD ((M.get 6).toNat) dIns).op))))) 0 ((M.set 8 (IntKind.i64.wrap ((M.get 8) - 1))).set 6 (IntKind.i64.wrap ((M.get 6)+1)))).e.k),vI ((aF S ((code.getD ((M.get 6).toNat) dIns).op) ((code.getD ((M.get 6).toNat) dIns).n) (M.get (IntKind.i64.wrap ((IntKind.i64.wrap (16+(M.get 7))) - (eP ((code.getD ((M.get 6).toNat) dIns).op))))) 0 ((M.set 8 (IntKind.i64.wrap ((M.get 8) - 1))).set 6 (IntKind.i64.wrap ((M.get 6)+1)))).e.v)],.bool ((aF S ((code.getD ((M.get 6).toNat) dIns).op) ((code.getD ((M.get 6).toNat) dIns).n) (M.get (IntKind.i64.wrap ((IntKind.i64.wrap (16+(M.get 7))) - (eP ((code.getD ((M.get 6).toNat) dIns).op))))) 0 ((M.set 8 (IntKind.i64.wrap ((M.get 8) - 1))).set 6 (IntKind.i64.wrap ((M.get 6)+1)))).em)]) (H':=(ap [] [T32])) ?_
         refine ⟨T32,rfl,?_⟩
         have hr:dQ code n M:=⟨h2,h3,h4,h5⟩
         refine ⟨?_,?_⟩
         ·simp only [al,bu,if_pos hr,cj,bW,dU,dV,dC,bm,if_neg h8,if_pos h26,if_pos h31,if_neg h34];exact hM33.weak (by omega)
         ·first | (simp only [al,bu,if_pos hr,cj,bW,dU,dV,dC,bm,if_neg h8,if_pos h26,if_pos h31,if_neg h34];done) | (simp only [al,bu,if_pos hr,cj,bW,dU,dV,dC,bm,if_neg h8,if_pos h26,if_pos h31,if_neg h34];rfl)
       ·refine ae 8 [] λ _=>RN.ct [] [0] (ak 7 (IntKind.i64.wrap ((IntKind.i64.wrap ((M.get 7) - (eP ((code.getD ((M.get 6).toNat) dIns).op))))+(eQ ((code.getD ((M.get 6).toNat) dIns).op)))) hM30) ?_
        rintro _ T37 hM38
        refine ae 9 ([.own 1]++ow 4 16++[.own 0,.own 0,.own 0]) λ _=>RN.ct [] [0] (jC mb (((M.set 8 (IntKind.i64.wrap ((M.get 8) - 1))).set 6 (IntKind.i64.wrap ((M.get 6)+1))).set 7 (IntKind.i64.wrap ((IntKind.i64.wrap ((M.get 7) - (eP ((code.getD ((M.get 6).toNat) dIns).op))))+(eQ ((code.getD ((M.get 6).toNat) dIns).op))))) (k+1) T37 S ((code.getD ((M.get 6).toNat) dIns).op) ((code.getD ((M.get 6).toNat) dIns).n) (M.get (IntKind.i64.wrap ((IntKind.i64.wrap (16+(M.get 7))) - (eP ((code.getD ((M.get 6).toNat) dIns).op))))) 0 _ hM38 hS (by assumption)) ?_
        rintro _ T39 ⟨hM40,rfl⟩
        refine ae 16 [.own 2,.own 2,.own 2,.own 2] λ _=>RN.em (eQ ((code.getD ((M.get 6).toNat) dIns).op) > 0) 116 (λ h41=>?_) λ h41=>?_
        ·refine ae 8 [] λ _=>RN.ct [] [0] (ak (IntKind.i64.wrap ((IntKind.i64.wrap (16+(M.get 7))) - (eP ((code.getD ((M.get 6).toNat) dIns).op)))) ((aF S ((code.getD ((M.get 6).toNat) dIns).op) ((code.getD ((M.get 6).toNat) dIns).n) (M.get (IntKind.i64.wrap ((IntKind.i64.wrap (16+(M.get 7))) - (eP ((code.getD ((M.get 6).toNat) dIns).op))))) 0 (((M.set 8 (IntKind.i64.wrap ((M.get 8) - 1))).set 6 (IntKind.i64.wrap ((M.get 6)+1))).set 7 (IntKind.i64.wrap ((IntKind.i64.wrap ((M.get 7) - (eP ((code.getD ((M.get 6).toNat) dIns).op))))+(eQ ((code.getD ((M.get 6).toNat) dIns).op)))))).v) hM40) ?_
         rintro _ T42 hM43
         refine ae 3 [] λ _=>RN.draw [6] [0,1,3,4]<|ag [0,1,3,4] [0,3,4,1,2,5] [.own 2,.own 2,.own 2,.own 2,.own 1]<|RD.one 6 (RDO.ev [0,1,3,4] [.own 2,.own 2,.own 2,.own 2] λ _=>?_)
         refine ag [0,1,3,4] [7] []<|RD.fin<|ae 1 [] λ _=>RN.ret [.own 2,.own 2,.own 2,.own 2] [] [0] (v:=.tuple #[.bool (decide ((code.getD ((M.get 6).toNat) dIns).op=21)),.agg #[vI ((aF S ((code.getD ((M.get 6).toNat) dIns).op) ((code.getD ((M.get 6).toNat) dIns).n) (M.get (IntKind.i64.wrap ((IntKind.i64.wrap (16+(M.get 7))) - (eP ((code.getD ((M.get 6).toNat) dIns).op))))) 0 (((M.set 8 (IntKind.i64.wrap ((M.get 8) - 1))).set 6 (IntKind.i64.wrap ((M.get 6)+1))).set 7 (IntKind.i64.wrap ((IntKind.i64.wrap ((M.get 7) - (eP ((code.getD ((M.get 6).toNat) dIns).op))))+(eQ ((code.getD ((M.get 6).toNat) dIns).op)))))).e.t),vI ((aF S ((code.getD ((M.get 6).toNat) dIns).op) ((code.getD ((M.get 6).toNat) dIns).n) (M.get (IntKind.i64.wrap ((IntKind.i64.wrap (16+(M.get 7))) - (eP ((code.getD ((M.get 6).toNat) dIns).op))))) 0 (((M.set 8 (IntKind.i64.wrap ((M.get 8) - 1))).set 6 (IntKind.i64.wrap ((M.get 6)+1))).set 7 (IntKind.i64.wrap ((IntKind.i64.wrap ((M.get 7) - (eP ((code.getD ((M.get 6).toNat) dIns).op))))+(eQ ((code.getD ((M.get 6).toNat) dIns).op)))))).e.i),vI ((aF S ((code.getD ((M.get 6).toNat) dIns).op) ((code.getD ((M.get 6).toNat) dIns).n) (M.get (IntKind.i64.wrap ((IntKind.i64.wrap (16+(M.get 7))) - (eP ((code.getD ((M.get 6).toNat) dIns).op))))) 0 (((M.set 8 (IntKind.i64.wrap ((M.get 8) - 1))).set 6 (IntKind.i64.wrap ((M.get 6)+1))).set 7 (IntKind.i64.wrap ((IntKind.i64.wrap ((M.get 7) - (eP ((code.getD ((M.get 6).toNat) dIns).op))))+(eQ ((code.getD ((M.get 6).toNat) dIns).op)))))).e.k),vI ((aF S ((code.getD ((M.get 6).toNat) dIns).op) ((code.getD ((M.get 6).toNat) dIns).n) (M.get (IntKind.i64.wrap ((IntKind.i64.wrap (16+(M.get 7))) - (eP ((code.getD ((M.get 6).toNat) dIns).op))))) 0 (((M.set 8 (IntKind.i64.wrap ((M.get 8) - 1))).set 6 (IntKind.i64.wrap ((M.get 6)+1))).set 7 (IntKind.i64.wrap ((IntKind.i64.wrap ((M.get 7) - (eP ((code.getD ((M.get 6).toNat) dIns).op))))+(eQ ((code.getD ((M.get 6).toNat) dIns).op)))))).e.v)],.bool ((aF S ((code.getD ((M.get 6).toNat) dIns).op) ((code.getD ((M.get 6).toNat) dIns).n) (M.get (IntKind.i64.wrap ((IntKind.i64.wrap (16+(M.get 7))) - (eP ((code.getD ((M.get 6).toNat) dIns).op))))) 0 (((M.set 8 (IntKind.i64.wrap ((M.get 8) - 1))).set 6 (IntKind.i64.wrap ((M.get 6)+1))).set 7 (IntKind.i64.wrap ((IntKind.i64.wrap ((M.get 7) - (eP ((code.getD ((M.get 6).toNat) dIns).op))))+(eQ ((code.getD ((M.get 6).toNat) dIns).op)))))).em)]) (H':=(ap [] [T42])) ?_
         refine ⟨T42,rfl,?_⟩
         have hr:dQ code n M:=⟨h2,h3,h4,h5⟩
         refine ⟨?_,?_⟩
         ·simp only [al,bu,if_pos hr,cj,bW,dU,dV,dC,bm,if_neg h8,if_pos h26,if_neg h31,if_pos h41];exact hM43.weak (by omega)
         ·first | (simp only [al,bu,if_pos hr,cj,bW,dU,dV,dC,bm,if_neg h8,if_pos h26,if_neg h31,if_pos h41];done) | (simp only [al,bu,if_pos hr,cj,bW,dU,dV,dC,bm,if_neg h8,if_pos h26,if_neg h31,if_pos h41];rfl)
        ·refine ae 4 [] λ _=>RN.draw [6] [0,1,3,4]<|ag [0,1,3,4] [0,3,4,1,2,5] [.own 2,.own 2,.own 2,.own 2,.own 1]<|RD.one 6 (RDO.ev [0,1,3,4] [.own 2,.own 2,.own 2,.own 2] λ _=>?_)
         refine ag [0,1,3,4] [7] []<|RD.fin<|ae 1 [] λ _=>RN.ret [.own 2,.own 2,.own 2,.own 2] [] [0] (v:=.tuple #[.bool (decide ((code.getD ((M.get 6).toNat) dIns).op=21)),.agg #[vI ((aF S ((code.getD ((M.get 6).toNat) dIns).op) ((code.getD ((M.get 6).toNat) dIns).n) (M.get (IntKind.i64.wrap ((IntKind.i64.wrap (16+(M.get 7))) - (eP ((code.getD ((M.get 6).toNat) dIns).op))))) 0 (((M.set 8 (IntKind.i64.wrap ((M.get 8) - 1))).set 6 (IntKind.i64.wrap ((M.get 6)+1))).set 7 (IntKind.i64.wrap ((IntKind.i64.wrap ((M.get 7) - (eP ((code.getD ((M.get 6).toNat) dIns).op))))+(eQ ((code.getD ((M.get 6).toNat) dIns).op)))))).e.t),vI ((aF S ((code.getD ((M.get 6).toNat) dIns).op) ((code.getD ((M.get 6).toNat) dIns).n) (M.get (IntKind.i64.wrap ((IntKind.i64.wrap (16+(M.get 7))) - (eP ((code.getD ((M.get 6).toNat) dIns).op))))) 0 (((M.set 8 (IntKind.i64.wrap ((M.get 8) - 1))).set 6 (IntKind.i64.wrap ((M.get 6)+1))).set 7 (IntKind.i64.wrap ((IntKind.i64.wrap ((M.get 7) - (eP ((code.getD ((M.get 6).toNat) dIns).op))))+(eQ ((code.getD ((M.get 6).toNat) dIns).op)))))).e.i),vI ((aF S ((code.getD ((M.get 6).toNat) dIns).op) ((code.getD ((M.get 6).toNat) dIns).n) (M.get (IntKind.i64.wrap ((IntKind.i64.wrap (16+(M.get 7))) - (eP ((code.getD ((M.get 6).toNat) dIns).op))))) 0 (((M.set 8 (IntKind.i64.wrap ((M.get 8) - 1))).set 6 (IntKind.i64.wrap ((M.get 6)+1))).set 7 (IntKind.i64.wrap ((IntKind.i64.wrap ((M.get 7) - (eP ((code.getD ((M.get 6).toNat) dIns).op))))+(eQ ((code.getD ((M.get 6).toNat) dIns).op)))))).e.k),vI ((aF S ((code.getD ((M.get 6).toNat) dIns).op) ((code.getD ((M.get 6).toNat) dIns).n) (M.get (IntKind.i64.wrap ((IntKind.i64.wrap (16+(M.get 7))) - (eP ((code.getD ((M.get 6).toNat) dIns).op))))) 0 (((M.set 8 (IntKind.i64.wrap ((M.get 8) - 1))).set 6 (IntKind.i64.wrap ((M.get 6)+1))).set 7 (IntKind.i64.wrap ((IntKind.i64.wrap ((M.get 7) - (eP ((code.getD ((M.get 6).toNat) dIns).op))))+(eQ ((code.getD ((M.get 6).toNat) dIns).op)))))).e.v)],.bool ((aF S ((code.getD ((M.get 6).toNat) dIns).op) ((code.getD ((M.get 6).toNat) dIns).n) (M.get (IntKind.i64.wrap ((IntKind.i64.wrap (16+(M.get 7))) - (eP ((code.getD ((M.get 6).toNat) dIns).op))))) 0 (((M.set 8 (IntKind.i64.wrap ((M.get 8) - 1))).set 6 (IntKind.i64.wrap ((M.get 6)+1))).set 7 (IntKind.i64.wrap ((IntKind.i64.wrap ((M.get 7) - (eP ((code.getD ((M.get 6).toNat) dIns).op))))+(eQ ((code.getD ((M.get 6).toNat) dIns).op)))))).em)]) (H':=(ap [] [T39])) ?_
         refine ⟨T39,rfl,?_⟩
         have hr:dQ code n M:=⟨h2,h3,h4,h5⟩
         refine ⟨?_,?_⟩
         ·simp only [al,bu,if_pos hr,cj,bW,dU,dV,dC,bm,if_neg h8,if_pos h26,if_neg h31,if_neg h41];exact hM40.weak (by omega)
         ·first | (simp only [al,bu,if_pos hr,cj,bW,dU,dV,dC,bm,if_neg h8,if_pos h26,if_neg h31,if_neg h41];done) | (simp only [al,bu,if_pos hr,cj,bW,dU,dV,dC,bm,if_neg h8,if_pos h26,if_neg h31,if_neg h41];rfl)
      ·refine ae 15 [] λ _=>RN.ct [] [0] (ak 8 (IntKind.i64.wrap ((M.get 8) - 1)) hM) ?_
       rintro _ T44 hM45
       refine ae 7 [] λ _=>RN.ct [] [0] (ak 6 (IntKind.i64.wrap ((M.get 6)+1)) hM45) ?_
       rintro _ T46 hM47
       refine ae 10 [] λ _=>RN.en (eP ((code.getD ((M.get 6).toNat) dIns).op)=eQ ((code.getD ((M.get 6).toNat) dIns).op)) 97 (λ h48=>?_) λ h48=>?_
       ·refine ae 10 ([.own 1]++ow 4 16++[.own 0,.own 0,.own 0]) λ _=>RN.ct [] [0] (jC mb ((M.set 8 (IntKind.i64.wrap ((M.get 8) - 1))).set 6 (IntKind.i64.wrap ((M.get 6)+1))) (k+2) T46 S ((code.getD ((M.get 6).toNat) dIns).op) ((code.getD ((M.get 6).toNat) dIns).n) 0 0 _ hM47 hS (by assumption)) ?_
        rintro _ T49 ⟨hM50,rfl⟩
        refine ae 16 [.own 2,.own 2,.own 2,.own 2] λ _=>RN.em (eQ ((code.getD ((M.get 6).toNat) dIns).op) > 0) 116 (λ h51=>?_) λ h51=>?_
        ·refine ae 8 [] λ _=>RN.ct [] [0] (ak (IntKind.i64.wrap ((IntKind.i64.wrap (16+(M.get 7))) - (eP ((code.getD ((M.get 6).toNat) dIns).op)))) ((aF S ((code.getD ((M.get 6).toNat) dIns).op) ((code.getD ((M.get 6).toNat) dIns).n) 0 0 ((M.set 8 (IntKind.i64.wrap ((M.get 8) - 1))).set 6 (IntKind.i64.wrap ((M.get 6)+1)))).v) hM50) ?_
         rintro _ T52 hM53
         refine ae 3 [] λ _=>RN.draw [6] [0,1,3,4]<|ag [0,1,3,4] [0,3,4,1,2,5] [.own 2,.own 2,.own 2,.own 2,.own 1]<|RD.one 6 (RDO.ev [0,1,3,4] [.own 2,.own 2,.own 2,.own 2] λ _=>?_)
         refine ag [0,1,3,4] [7] []<|RD.fin<|ae 1 [] λ _=>RN.ret [.own 2,.own 2,.own 2,.own 2] [] [0] (v:=.tuple #[.bool (decide ((code.getD ((M.get 6).toNat) dIns).op=21)),.agg #[vI ((aF S ((code.getD ((M.get 6).toNat) dIns).op) ((code.getD ((M.get 6).toNat) dIns).n) 0 0 ((M.set 8 (IntKind.i64.wrap ((M.get 8) - 1))).set 6 (IntKind.i64.wrap ((M.get 6)+1)))).e.t),vI ((aF S ((code.getD ((M.get 6).toNat) dIns).op) ((code.getD ((M.get 6).toNat) dIns).n) 0 0 ((M.set 8 (IntKind.i64.wrap ((M.get 8) - 1))).set 6 (IntKind.i64.wrap ((M.get 6)+1)))).e.i),vI ((aF S ((code.getD ((M.get 6).toNat) dIns).op) ((code.getD ((M.get 6).toNat) dIns).n) 0 0 ((M.set 8 (IntKind.i64.wrap ((M.get 8) - 1))).set 6 (IntKind.i64.wrap ((M.get 6)+1)))).e.k),vI ((aF S ((code.getD ((M.get 6).toNat) dIns).op) ((code.getD ((M.get 6).toNat) dIns).n) 0 0 ((M.set 8 (IntKind.i64.wrap ((M.get 8) - 1))).set 6 (IntKind.i64.wrap ((M.get 6)+1)))).e.v)],.bool ((aF S ((code.getD ((M.get 6).toNat) dIns).op) ((code.getD ((M.get 6).toNat) dIns).n) 0 0 ((M.set 8 (IntKind.i64.wrap ((M.get 8) - 1))).set 6 (IntKind.i64.wrap ((M.get 6)+1)))).em)]) (H':=(ap [] [T52])) ?_
         refine ⟨T52,rfl,?_⟩
         have hr:dQ code n M:=⟨h2,h3,h4,h5⟩
         refine ⟨?_,?_⟩
         ·simp only [al,bu,if_pos hr,cj,bW,dU,dV,dC,bm,if_neg h8,if_neg h26,if_pos h48,if_pos h51];exact hM53.weak (by omega)
         ·first | (simp only [al,bu,if_pos hr,cj,bW,dU,dV,dC,bm,if_neg h8,if_neg h26,if_pos h48,if_pos h51];done) | (simp only [al,bu,if_pos hr,cj,bW,dU,dV,dC,bm,if_neg h8,if_neg h26,if_pos h48,if_pos h51];rfl)
        ·refine ae 4 [] λ _=>RN.draw [6] [0,1,3,4]<|ag [0,1,3,4] [0,3,4,1,2,5] [.own 2,.own 2,.own 2,.own 2,.own 1]<|RD.one 6 (RDO.ev [0,1,3,4] [.own 2,.own 2,.own 2,.own 2] λ _=>?_)
         refine ag [0,1,3,4] [7] []<|RD.fin<|ae 1 [] λ _=>RN.ret [.own 2,.own 2,.own 2,.own 2] [] [0] (v:=.tuple #[.bool (decide ((code.getD ((M.get 6).toNat) dIns).op=21)),.agg #[vI ((aF S ((code.getD ((M.get 6).toNat) dIns).op) ((code.getD ((M.get 6).toNat) dIns).n) 0 0 ((M.set 8 (IntKind.i64.wrap ((M.get 8) - 1))).set 6 (IntKind.i64.wrap ((M.get 6)+1)))).e.t),vI ((aF S ((code.getD ((M.get 6).toNat) dIns).op) ((code.getD ((M.get 6).toNat) dIns).n) 0 0 ((M.set 8 (IntKind.i64.wrap ((M.get 8) - 1))).set 6 (IntKind.i64.wrap ((M.get 6)+1)))).e.i),vI ((aF S ((code.getD ((M.get 6).toNat) dIns).op) ((code.getD ((M.get 6).toNat) dIns).n) 0 0 ((M.set 8 (IntKind.i64.wrap ((M.get 8) - 1))).set 6 (IntKind.i64.wrap ((M.get 6)+1)))).e.k),vI ((aF S ((code.getD ((M.get 6).toNat) dIns).op) ((code.getD ((M.get 6).toNat) dIns).n) 0 0 ((M.set 8 (IntKind.i64.wrap ((M.get 8) - 1))).set 6 (IntKind.i64.wrap ((M.get 6)+1)))).e.v)],.bool ((aF S ((code.getD ((M.get 6).toNat) dIns).op) ((code.getD ((M.get 6).toNat) dIns).n) 0 0 ((M.set 8 (IntKind.i64.wrap ((M.get 8) - 1))).set 6 (IntKind.i64.wrap ((M.get 6)+1)))).em)]) (H':=(ap [] [T49])) ?_
         refine ⟨T49,rfl,?_⟩
         have hr:dQ code n M:=⟨h2,h3,h4,h5⟩
         refine ⟨?_,?_⟩
         ·simp only [al,bu,if_pos hr,cj,bW,dU,dV,dC,bm,if_neg h8,if_neg h26,if_pos h48,if_neg h51];exact hM50.weak (by omega)
         ·first | (simp only [al,bu,if_pos hr,cj,bW,dU,dV,dC,bm,if_neg h8,if_neg h26,if_pos h48,if_neg h51];done) | (simp only [al,bu,if_pos hr,cj,bW,dU,dV,dC,bm,if_neg h8,if_neg h26,if_pos h48,if_neg h51];rfl)
       ·refine ae 8 [] λ _=>RN.ct [] [0] (ak 7 (IntKind.i64.wrap ((IntKind.i64.wrap ((M.get 7) - (eP ((code.getD ((M.get 6).toNat) dIns).op))))+(eQ ((code.getD ((M.get 6).toNat) dIns).op)))) hM47) ?_
        rintro _ T54 hM55
        refine ae 9 ([.own 1]++ow 4 16++[.own 0,.own 0,.own 0]) λ _=>RN.ct [] [0] (jC mb (((M.set 8 (IntKind.i64.wrap ((M.get 8) - 1))).set 6 (IntKind.i64.wrap ((M.get 6)+1))).set 7 (IntKind.i64.wrap ((IntKind.i64.wrap ((M.get 7) - (eP ((code.getD ((M.get 6).toNat) dIns).op))))+(eQ ((code.getD ((M.get 6).toNat) dIns).op))))) (k+1) T54 S ((code.getD ((M.get 6).toNat) dIns).op) ((code.getD ((M.get 6).toNat) dIns).n) 0 0 _ hM55 hS (by assumption)) ?_
        rintro _ T56 ⟨hM57,rfl⟩
        refine ae 16 [.own 2,.own 2,.own 2,.own 2] λ _=>RN.em (eQ ((code.getD ((M.get 6).toNat) dIns).op) > 0) 116 (λ h58=>?_) λ h58=>?_
        ·refine ae 8 [] λ _=>RN.ct [] [0] (ak (IntKind.i64.wrap ((IntKind.i64.wrap (16+(M.get 7))) - (eP ((code.getD ((M.get 6).toNat) dIns).op)))) ((aF S ((code.getD ((M.get 6).toNat) dIns).op) ((code.getD ((M.get 6).toNat) dIns).n) 0 0 (((M.set 8 (IntKind.i64.wrap ((M.get 8) - 1))).set 6 (IntKind.i64.wrap ((M.get 6)+1))).set 7 (IntKind.i64.wrap ((IntKind.i64.wrap ((M.get 7) - (eP ((code.getD ((M.get 6).toNat) dIns).op))))+(eQ ((code.getD ((M.get 6).toNat) dIns).op)))))).v) hM57) ?_
         rintro _ T59 hM60
         refine ae 3 [] λ _=>RN.draw [6] [0,1,3,4]<|ag [0,1,3,4] [0,3,4,1,2,5] [.own 2,.own 2,.own 2,.own 2,.own 1]<|RD.one 6 (RDO.ev [0,1,3,4] [.own 2,.own 2,.own 2,.own 2] λ _=>?_)
         refine ag [0,1,3,4] [7] []<|RD.fin<|ae 1 [] λ _=>RN.ret [.own 2,.own 2,.own 2,.own 2] [] [0] (v:=.tuple #[.bool (decide ((code.getD ((M.get 6).toNat) dIns).op=21)),.agg #[vI ((aF S ((code.getD ((M.get 6).toNat) dIns).op) ((code.getD ((M.get 6).toNat) dIns).n) 0 0 (((M.set 8 (IntKind.i64.wrap ((M.get 8) - 1))).set 6 (IntKind.i64.wrap ((M.get 6)+1))).set 7 (IntKind.i64.wrap ((IntKind.i64.wrap ((M.get 7) - (eP ((code.getD ((M.get 6).toNat) dIns).op))))+(eQ ((code.getD ((M.get 6).toNat) dIns).op)))))).e.t),vI ((aF S ((code.getD ((M.get 6).toNat) dIns).op) ((code.getD ((M.get 6).toNat) dIns).n) 0 0 (((M.set 8 (IntKind.i64.wrap ((M.get 8) - 1))).set 6 (IntKind.i64.wrap ((M.get 6)+1))).set 7 (IntKind.i64.wrap ((IntKind.i64.wrap ((M.get 7) - (eP ((code.getD ((M.get 6).toNat) dIns).op))))+(eQ ((code.getD ((M.get 6).toNat) dIns).op)))))).e.i),vI ((aF S ((code.getD ((M.get 6).toNat) dIns).op) ((code.getD ((M.get 6).toNat) dIns).n) 0 0 (((M.set 8 (IntKind.i64.wrap ((M.get 8) - 1))).set 6 (IntKind.i64.wrap ((M.get 6)+1))).set 7 (IntKind.i64.wrap ((IntKind.i64.wrap ((M.get 7) - (eP ((code.getD ((M.get 6).toNat) dIns).op))))+(eQ ((code.getD ((M.get 6).toNat) dIns).op)))))).e.k),vI ((aF S ((code.getD ((M.get 6).toNat) dIns).op) ((code.getD ((M.get 6).toNat) dIns).n) 0 0 (((M.set 8 (IntKind.i64.wrap ((M.get 8) - 1))).set 6 (IntKind.i64.wrap ((M.get 6)+1))).set 7 (IntKind.i64.wrap ((IntKind.i64.wrap ((M.get 7) - (eP ((code.getD ((M.get 6).toNat) dIns).op))))+(eQ ((code.getD ((M.get 6).toNat) dIns).op)))))).e.v)],.bool ((aF S ((code.getD ((M.get 6).toNat) dIns).op) ((code.getD ((M.get 6).toNat) dIns).n) 0 0 (((M.set 8 (IntKind.i64.wrap ((M.get 8) - 1))).set 6 (IntKind.i64.wrap ((M.get 6)+1))).set 7 (IntKind.i64.wrap ((IntKind.i64.wrap ((M.get 7) - (eP ((code.getD ((M.get 6).toNat) dIns).op))))+(eQ ((code.getD ((M.get 6).toNat) dIns).op)))))).em)]) (H':=(ap [] [T59])) ?_
         refine ⟨T59,rfl,?_⟩
         have hr:dQ code n M:=⟨h2,h3,h4,h5⟩
         refine ⟨?_,?_⟩
         ·simp only [al,bu,if_pos hr,cj,bW,dU,dV,dC,bm,if_neg h8,if_neg h26,if_neg h48,if_pos h58];exact hM60.weak (by omega)
         ·first | (simp only [al,bu,if_pos hr,cj,bW,dU,dV,dC,bm,if_neg h8,if_neg h26,if_neg h48,if_pos h58];done) | (simp only [al,bu,if_pos hr,cj,bW,dU,dV,dC,bm,if_neg h8,if_neg h26,if_neg h48,if_pos h58];rfl)
        ·refine ae 4 [] λ _=>RN.draw [6] [0,1,3,4]<|ag [0,1,3,4] [0,3,4,1,2,5] [.own 2,.own 2,.own 2,.own 2,.own 1]<|RD.one 6 (RDO.ev [0,1,3,4] [.own 2,.own 2,.own 2,.own 2] λ _=>?_)
         refine ag [0,1,3,4] [7] []<|RD.fin<|ae 1 [] λ _=>RN.ret [.own 2,.own 2,.own 2,.own 2] [] [0] (v:=.tuple #[.bool (decide ((code.getD ((M.get 6).toNat) dIns).op=21)),.agg #[vI ((aF S ((code.getD ((M.get 6).toNat) dIns).op) ((code.getD ((M.get 6).toNat) dIns).n) 0 0 (((M.set 8 (IntKind.i64.wrap ((M.get 8) - 1))).set 6 (IntKind.i64.wrap ((M.get 6)+1))).set 7 (IntKind.i64.wrap ((IntKind.i64.wrap ((M.get 7) - (eP ((code.getD ((M.get 6).toNat) dIns).op))))+(eQ ((code.getD ((M.get 6).toNat) dIns).op)))))).e.t),vI ((aF S ((code.getD ((M.get 6).toNat) dIns).op) ((code.getD ((M.get 6).toNat) dIns).n) 0 0 (((M.set 8 (IntKind.i64.wrap ((M.get 8) - 1))).set 6 (IntKind.i64.wrap ((M.get 6)+1))).set 7 (IntKind.i64.wrap ((IntKind.i64.wrap ((M.get 7) - (eP ((code.getD ((M.get 6).toNat) dIns).op))))+(eQ ((code.getD ((M.get 6).toNat) dIns).op)))))).e.i),vI ((aF S ((code.getD ((M.get 6).toNat) dIns).op) ((code.getD ((M.get 6).toNat) dIns).n) 0 0 (((M.set 8 (IntKind.i64.wrap ((M.get 8) - 1))).set 6 (IntKind.i64.wrap ((M.get 6)+1))).set 7 (IntKind.i64.wrap ((IntKind.i64.wrap ((M.get 7) - (eP ((code.getD ((M.get 6).toNat) dIns).op))))+(eQ ((code.getD ((M.get 6).toNat) dIns).op)))))).e.k),vI ((aF S ((code.getD ((M.get 6).toNat) dIns).op) ((code.getD ((M.get 6).toNat) dIns).n) 0 0 (((M.set 8 (IntKind.i64.wrap ((M.get 8) - 1))).set 6 (IntKind.i64.wrap ((M.get 6)+1))).set 7 (IntKind.i64.wrap ((IntKind.i64.wrap ((M.get 7) - (eP ((code.getD ((M.get 6).toNat) dIns).op))))+(eQ ((code.getD ((M.get 6).toNat) dIns).op)))))).e.v)],.bool ((aF S ((code.getD ((M.get 6).toNat) dIns).op) ((code.getD ((M.get 6).toNat) dIns).n) 0 0 (((M.set 8 (IntKind.i64.wrap ((M.get 8) - 1))).set 6 (IntKind.i64.wrap ((M.get 6)+1))).set 7 (IntKind.i64.wrap ((IntKind.i64.wrap ((M.get 7) - (eP ((code.getD ((M.get 6).toNat) dIns).op))))+(eQ ((code.getD ((M.get 6).toNat) dIns).op)))))).em)]) (H':=(ap [] [T56])) ?_
         refine ⟨T56,rfl,?_⟩
         have hr:dQ code n M:=⟨h2,h3,h4,h5⟩
         refine ⟨?_,?_⟩
         ·simp only [al,bu,if_pos hr,cj,bW,dU,dV,dC,bm,if_neg h8,if_neg h26,if_neg h48,if_neg h58];exact hM57.weak (by omega)
         ·first | (simp only [al,bu,if_pos hr,cj,bW,dU,dV,dC,bm,if_neg h8,if_neg h26,if_neg h48,if_neg h58];done) | (simp only [al,bu,if_pos hr,cj,bW,dU,dV,dC,bm,if_neg h8,if_neg h26,if_neg h48,if_neg h58];rfl)
    ·refine ae 9 [.own 0,.own 0,.own 0,.own 0] λ _=>RN.ret [.own 0,.own 0,.own 0,.own 0] [] [0] (v:=.tuple #[.bool true,.agg #[vI 0,vI 0,vI 0,vI 0],.bool false]) (H':=(ap [] [T])) ?_
     refine ⟨T,rfl,?_⟩
     have hr:¬ dQ code n M:=λ hr_=>h5 hr_.2.2.2
     refine ⟨?_,?_⟩
     ·simp only [al,bu,if_neg hr];exact hM.weak (by omega)
     ·first | (simp only [al,bu,if_neg hr];done) | (simp only [al,bu,if_neg hr];rfl)
theorem BQ (mb:Nat) (M:MemS) (k:Nat) (T:HL) (S:Setup) (code:List Ins) (A:Option Addr) (cc:Nat) (e0 e1 e2:Int) (F:HL) (hM:MemH mb M (k+6) T) :Sp Tryz.prog 202 #[.iface 114 (vP mb 0),(Setup.v S),.agg #[.slice A 0 cc,vI e0,vI e1,vI e2]] (ap [] [T]) F (λ u H'=>∃ x,H'=ap [] [x] /\ (MemH mb ((al S code 0 M).M) k x /\ u=.tuple #[.bool (bu code 0 M),.agg #[vI ((al S code 0 M).e.t),vI ((al S code 0 M).e.i),vI ((al S code 0 M).e.k),vI ((al S code 0 M).e.v)],.bool ((al S code 0 M).em)])):=by
 refine Sp.run Tryz.func202 rfl mn (A:=[]) (Ts:=[T]) rfl λ w0=>?_
 refine ae 22 [] λ n1=>aj (az 6 hM (av 0))<|ae 1 [] λ _=>aj (az 7 hM (av 0))<|ae 1 [] λ _=>aj (az 8 hM (av 0))<|ae 11 [] λ _=>RN.em (M.get 8 < 1) 29 (λ h2=>?_) λ h2=>?_
 ·refine ae 31 [.own 0,.own 0,.own 0,.own 0] λ _=>RN.ret [.own 0,.own 0,.own 0,.own 0] [] [0] (v:=.tuple #[.bool true,.agg #[vI 0,vI 0,vI 0,vI 0],.bool false]) (H':=(ap [] [T])) ?_
  refine ⟨T,rfl,?_⟩
  have hr:¬ dQ code 0 M:=λ hr_=>hr_.1 h2
  refine ⟨?_,?_⟩
  ·simp only [al,bu,if_neg hr];exact hM.weak (by omega)
  ·first | (simp only [al,bu,if_neg hr];done) | (simp only [al,bu,if_neg hr];rfl)
 ·refine ae 4 [] λ _=>RN.em (M.get 6 < 0) 33 (λ h3=>?_) λ h3=>?_
  ·refine ae 27 [.own 0,.own 0,.own 0,.own 0] λ _=>RN.ret [.own 0,.own 0,.own 0,.own 0] [] [0] (v:=.tuple #[.bool true,.agg #[vI 0,vI 0,vI 0,vI 0],.bool false]) (H':=(ap [] [T])) ?_
   refine ⟨T,rfl,?_⟩
   have hr:¬ dQ code 0 M:=λ hr_=>hr_.2.1 h3
   refine ⟨?_,?_⟩
   ·simp only [al,bu,if_neg hr];exact hM.weak (by omega)
   ·first | (simp only [al,bu,if_neg hr];done) | (simp only [al,bu,if_neg hr];rfl)
  ·refine ae 7 [.own 1] λ _=>RN.em (M.get 6 >= 0) 40 (λ h4=>?_) λ h4=>?_
   ·refine ae 20 [.own 0,.own 0,.own 0,.own 0] λ _=>RN.ret [.own 0,.own 0,.own 0,.own 0] [] [0] (v:=.tuple #[.bool true,.agg #[vI 0,vI 0,vI 0,vI 0],.bool false]) (H':=(ap [] [T])) ?_
    refine ⟨T,rfl,?_⟩
    have hr:¬ dQ code 0 M:=λ hr_=>hr_.2.2.1 (by simpa using h4)
    refine ⟨?_,?_⟩
    ·simp only [al,bu,if_neg hr];exact hM.weak (by omega)
    ·first | (simp only [al,bu,if_neg hr];done) | (simp only [al,bu,if_neg hr];rfl)
   ·exact absurd (show M.get 6 >= 0 by omega) h4
theorem gZ (mb:Nat) (M:MemS) (k:Nat) (T:HL) (S:Setup) (code:List Ins) (A:Option Addr) (n cc:Nat) (e0 e1 e2:Int) (F:HL) (hM:MemH mb M (k+6) T) (hS:SetN S) (hE:dg F) (hc:CodeIn F code A n):Sp Tryz.prog 202 #[.iface 114 (vP mb 0),(Setup.v S),.agg #[.slice A n cc,vI e0,vI e1,vI e2]] (ap [] [T]) F (λ u H'=>∃ x,H'=ap [] [x] /\ (MemH mb (al S code n M).M k x /\ u=.tuple #[.bool (bu code n M),.agg #[vI ((al S code n M).e.t),vI ((al S code n M).e.i),vI ((al S code n M).e.k),vI ((al S code n M).e.v)],.bool ((al S code n M).em)])):=by
 cases hc with
 | nil=>exact BQ mb M k T S code A cc e0 e1 e2 F hM
 | mk b R n h h1 h2=>exact xX mb M k T S code b R n cc e0 e1 e2 F hM hS hE h h1 h2
end Go.Proofs.YtobflkidpfkcaaaGreatDoor
