import Derived.Test.YthoijjeddhfcnaaGreatDoorZ09
set_option maxHeartbeats 4000000
set_option maxRecDepth 100000
set_option linter.unusedSimpArgs false
set_option linter.unusedVariables false
namespace Go.Proofs.YthoijjeddhfcnaaGreatDoor
open IntKind
open Go.RowKit
theorem DX(mb:Nat)(M:MemS)(k:Nat)(T:HL)(A:Option Addr)(n c:Nat)(e0 e1 e2 a b d:Int)(F:HL)(hM:MemH mb M (k+5) T) :Sp Tryz.prog 167 #[.iface 41 (vP mb 0),.agg #[.slice A n c,vI e0,vI e1,vI e2],vI 0,vI a,vI b,vI d] (ap [] [T]) F (λ u H'=>∃x,H'=ap [] [x] /\ (MemH mb (aU e0 d a b M) k x /\ u=.bool (!(decide (e0<0))))):=by
 refine Sp.run Tryz.func167 rfl mn (A:=[]) (Ts:=[T]) rfl λ w0=>?_
 refine aa 28 [.own 0] λ n1=>RN.em (e0<0) 29 (λ h2=>?_) λ h2=>?_
 ·refine aa 6 [] λ _=>RN.ret [] [] [0] (v:=.bool false) (H':=(ap [] [T])) ?_
  refine⟨T,rfl,?_⟩
  refine⟨?_,?_⟩
  ·simp only[aU,if_pos h2];exact hM.weak (by omega)
  ·rw[decide_eq_true h2];rfl
 ·refine aa 4 [] λ _=>RN.draw [8] []<|af [] [0,1,2,3,5,4,6,7] [.own 0]<|RD.one 8 (RDO.ct [] [] [0] (ak 6 e0 hM) ?_)
  rintro _ T3 C_
  refine RD.fin<|aa 4 [] λ _=>RN.ct [] [0] (ak 7 0 C_) ?_
  rintro _ T5 P5
  refine aa 6 [] λ _=>RN.ct [] [0] (ak 8 d P5) ?_
  rintro _ T7 P4
  refine aa 6 [] λ _=>RN.ct [] [0] (ak 9 a P4) ?_
  rintro _ T9 PV
  refine aa 6 [] λ _=>RN.ct [] [0] (ak 10 b PV) ?_
  rintro _ Pp IF
  refine aa 7 [] λ _=>RN.ret [] [] [0] (v:=.bool true) (H':=(ap [] [Pp])) ?_
  refine⟨Pp,rfl,?_⟩
  refine⟨?_,?_⟩
  ·simp only[aU,if_neg h2];exact IF.weak (by omega)
  ·rw[decide_eq_false h2];rfl
theorem DY(mb:Nat)(M:MemS)(k:Nat)(T:HL)(A:Option Addr)(n c:Nat)(e0 e1 e2 a b d:Int)(F:HL)(hM:MemH mb M (k+5) T) :Sp Tryz.prog 167 #[.iface 41 (vP mb 0),.agg #[.slice A n c,vI e0,vI e1,vI e2],vI 1,vI a,vI b,vI d] (ap [] [T]) F (λ u H'=>∃x,H'=ap [] [x] /\ (MemH mb (aU e1 d a b M) k x /\ u=.bool (!(decide (e1<0))))):=by
 refine Sp.run Tryz.func167 rfl mn (A:=[]) (Ts:=[T]) rfl λ w0=>?_
 refine aa 28 [.own 0] λ n1=>RN.em (e1<0) 29 (λ h2=>?_) λ h2=>?_
 ·refine aa 6 [] λ _=>RN.ret [] [] [0] (v:=.bool false) (H':=(ap [] [T])) ?_
  refine⟨T,rfl,?_⟩
  refine⟨?_,?_⟩
  ·simp only[aU,if_pos h2];exact hM.weak (by omega)
  ·rw[decide_eq_true h2];rfl
 ·refine aa 4 [] λ _=>RN.draw [8] []<|af [] [0,1,2,3,5,4,6,7] [.own 0]<|RD.one 8 (RDO.ct [] [] [0] (ak 6 e1 hM) ?_)
  rintro _ T3 C_
  refine RD.fin<|aa 4 [] λ _=>RN.ct [] [0] (ak 7 0 C_) ?_
  rintro _ T5 P5
  refine aa 6 [] λ _=>RN.ct [] [0] (ak 8 d P5) ?_
  rintro _ T7 P4
  refine aa 6 [] λ _=>RN.ct [] [0] (ak 9 a P4) ?_
  rintro _ T9 PV
  refine aa 6 [] λ _=>RN.ct [] [0] (ak 10 b PV) ?_
  rintro _ Pp IF
  refine aa 7 [] λ _=>RN.ret [] [] [0] (v:=.bool true) (H':=(ap [] [Pp])) ?_
  refine⟨Pp,rfl,?_⟩
  refine⟨?_,?_⟩
  ·simp only[aU,if_neg h2];exact IF.weak (by omega)
  ·rw[decide_eq_false h2];rfl
theorem DZ(mb:Nat)(M:MemS)(k:Nat)(T:HL)(A:Option Addr)(n c:Nat)(e0 e1 e2 a b d:Int)(F:HL)(hM:MemH mb M (k+5) T) :Sp Tryz.prog 167 #[.iface 41 (vP mb 0),.agg #[.slice A n c,vI e0,vI e1,vI e2],vI 2,vI a,vI b,vI d] (ap [] [T]) F (λ u H'=>∃x,H'=ap [] [x] /\ (MemH mb (aU e2 d a b M) k x /\ u=.bool (!(decide (e2<0))))):=by
 refine Sp.run Tryz.func167 rfl mn (A:=[]) (Ts:=[T]) rfl λ w0=>?_
 refine aa 28 [.own 0] λ n1=>RN.em (e2<0) 29 (λ h2=>?_) λ h2=>?_
 ·refine aa 6 [] λ _=>RN.ret [] [] [0] (v:=.bool false) (H':=(ap [] [T])) ?_
  refine⟨T,rfl,?_⟩
  refine⟨?_,?_⟩
  ·simp only[aU,if_pos h2];exact hM.weak (by omega)
  ·rw[decide_eq_true h2];rfl
 ·refine aa 4 [] λ _=>RN.draw [8] []<|af [] [0,1,2,3,5,4,6,7] [.own 0]<|RD.one 8 (RDO.ct [] [] [0] (ak 6 e2 hM) ?_)
  rintro _ T3 C_
  refine RD.fin<|aa 4 [] λ _=>RN.ct [] [0] (ak 7 0 C_) ?_
  rintro _ T5 P5
  refine aa 6 [] λ _=>RN.ct [] [0] (ak 8 d P5) ?_
  rintro _ T7 P4
  refine aa 6 [] λ _=>RN.ct [] [0] (ak 9 a P4) ?_
  rintro _ T9 PV
  refine aa 6 [] λ _=>RN.ct [] [0] (ak 10 b PV) ?_
  rintro _ Pp IF
  refine aa 7 [] λ _=>RN.ret [] [] [0] (v:=.bool true) (H':=(ap [] [Pp])) ?_
  refine⟨Pp,rfl,?_⟩
  refine⟨?_,?_⟩
  ·simp only[aU,if_neg h2];exact IF.weak (by omega)
  ·rw[decide_eq_false h2];rfl
theorem D1{op n sp:Int}(h:eY op n sp=true):1 <= op /\ op <= 21:=by
 unfold eY at h
 by_cases h1:op<1
 ·rw[if_pos h1] at h;cases h
 ·rw[if_neg h1] at h
  by_cases h2:op>21
  ·rw[if_pos h2] at h;cases h
  ·omega
theorem xF(mb:Nat)(M:MemS)(k:Nat)(T:HL)(S:Setup)(code:List Ins)(b R n cc:Nat)(e0 e1 e2:Int)(F:HL)(hM:MemH mb M (k+6) T)(hS:SetN S)(hE:fv F)(hc:(b,.rows 2 R (MQ code) 98 (0,0))∈F)(hnR:n <= R)(hn2:n <= 1000000):Sp Tryz.prog 168 #[.iface 41 (vP mb 0),(Setup.v S),.agg #[vS b 0 n cc,vI e0,vI e1,vI e2]] (ap [] [T]) F (λ u H'=>∃x,H'=ap [] [x] /\ (MemH mb ((ao S code n M).M) k x /\ u=.tuple #[.bool (bE code n M),.agg #[vI ((ao S code n M).e.t),vI ((ao S code n M).e.i),vI ((ao S code n M).e.k),vI ((ao S code n M).e.v)],.bool ((ao S code n M).em)])):=by
 refine Sp.run Tryz.func168 rfl (mc hc (mc hE mn)) (A:=[]) (Ts:=[T]) rfl λ w0=>?_
 refine aa 22 [] λ n1=>al (aB 6 hM (aS 0))<|aa 1 [] λ _=>al (aB 7 hM (aS 0))<|aa 1 [] λ _=>al (aB 8 hM (aS 0))<|aa 11 [] λ _=>RN.em (M.get 8<1) 29 (λ h2=>?_) λ h2=>?_
 ·refine aa 31 [.own 0,.own 0,.own 0,.own 0] λ _=>RN.ret [.own 0,.own 0,.own 0,.own 0] [] [0] (v:=.tuple #[.bool true,.agg #[vI 0,vI 0,vI 0,vI 0],.bool false]) (H':=(ap [] [T])) ?_
  refine⟨T,rfl,?_⟩
  have hr:¬ c7 code n M:=λ RH=>RH.1 h2
  refine⟨?_,?_⟩
  ·simp only[ao,bE,if_neg hr];exact hM.weak (by omega)
  ·first|(simp only[ao,bE,if_neg hr];try rfl;done)
 ·refine aa 4 [] λ _=>RN.em (M.get 6<0) 33 (λ h3=>?_) λ h3=>?_
  ·refine aa 27 [.own 0,.own 0,.own 0,.own 0] λ _=>RN.ret [.own 0,.own 0,.own 0,.own 0] [] [0] (v:=.tuple #[.bool true,.agg #[vI 0,vI 0,vI 0,vI 0],.bool false]) (H':=(ap [] [T])) ?_
   refine⟨T,rfl,?_⟩
   have hr:¬ c7 code n M:=λ RH=>RH.2.1 h3
   refine⟨?_,?_⟩
   ·simp only[ao,bE,if_neg hr];exact hM.weak (by omega)
   ·first|(simp only[ao,bE,if_neg hr];try rfl;done)
  ·refine aa 7 [.own 1] λ _=>RN.em (M.get 6 >= (n:Int)) 40 (λ h4=>?_) λ h4=>?_
   ·refine aa 20 [.own 0,.own 0,.own 0,.own 0] λ _=>RN.ret [.own 0,.own 0,.own 0,.own 0] [] [0] (v:=.tuple #[.bool true,.agg #[vI 0,vI 0,vI 0,vI 0],.bool false]) (H':=(ap [] [T])) ?_
    refine⟨T,rfl,?_⟩
    have hr:¬ c7 code n M:=λ RH=>RH.2.2.1 h4
    refine⟨?_,?_⟩
    ·simp only[ao,bE,if_neg hr];exact hM.weak (by omega)
    ·first|(simp only[ao,bE,if_neg hr];try rfl;done)
   ·refine aq 6 [.own 1,.ix ((M.get 6).toNat),.rorow 0 ((M.get 6).toNat) 0,.rorow 0 ((M.get 6).toNat) 1] [((0+((M.get 6).toNat)*2)+1)=((M.get 6).toNat)*2+1 /\ ((M.get 6).toNat)<R,(0+((M.get 6).toNat)*2)=((M.get 6).toNat)*2+0 /\ ((M.get 6).toNat)<R,M.get 6=(((M.get 6).toNat:Nat):Int) /\ (M.get 6).toNat<n] λ _=>al (HV ((code.getD ((M.get 6).toNat) dIns).op) ((code.getD ((M.get 6).toNat) dIns).n) (M.get 7) _ (bK hE))<|aa 4 [] λ _=>rC (eY ((code.getD ((M.get 6).toNat) dIns).op) ((code.getD ((M.get 6).toNat) dIns).n) (M.get 7)) 49 (λ h5=>?_) λ h5=>?_
    ·have ho:=D1 h5
     refine aq 15 [.own 1,.ix ((M.get 6).toNat),.rorow 0 ((M.get 6).toNat) 0,.rorow 0 ((M.get 6).toNat) 1,.own 0,.own 0] [((0+((M.get 6).toNat)*2)+1)=((M.get 6).toNat)*2+1 /\ ((M.get 6).toNat)<R,(0+((M.get 6).toNat)*2)=((M.get 6).toNat)*2+0 /\ ((M.get 6).toNat)<R,M.get 6=(((M.get 6).toNat:Nat):Int) /\ (M.get 6).toNat<n] λ n6=>RN.draw [] []<|aL [] [0,5,1,6,2,7,3,8,4,9,10,11] [.own 0,.own 0,.ix (((code.getD ((M.get 6).toNat) dIns).op).toNat),.ix (((code.getD ((M.get 6).toNat) dIns).op).toNat),.rorow 1 (((code.getD ((M.get 6).toNat) dIns).op).toNat) 0,.rorow 1 (((code.getD ((M.get 6).toNat) dIns).op).toNat) 1] [((0+(((code.getD ((M.get 6).toNat) dIns).op).toNat)*3)+1)=(((code.getD ((M.get 6).toNat) dIns).op).toNat)*3+1 /\ (((code.getD ((M.get 6).toNat) dIns).op).toNat)<22,(0+(((code.getD ((M.get 6).toNat) dIns).op).toNat)*3)=(((code.getD ((M.get 6).toNat) dIns).op).toNat)*3+0 /\ (((code.getD ((M.get 6).toNat) dIns).op).toNat)<22,(code.getD ((M.get 6).toNat) dIns).op=((((code.getD ((M.get 6).toNat) dIns).op).toNat:Nat):Int) /\ ((code.getD ((M.get 6).toNat) dIns).op).toNat<22,(code.getD ((M.get 6).toNat) dIns).op=((((code.getD ((M.get 6).toNat) dIns).op).toNat:Nat):Int) /\ ((code.getD ((M.get 6).toNat) dIns).op).toNat<22]<|RD.fin<|aa 38 [.own 0,.own 0,.own 0,.own 0] λ n7=>RN.em (eP ((code.getD ((M.get 6).toNat) dIns).op)=2) 74 (λ h8=>?_) λ h8=>?_
     ·refine aa 10 [] λ _=>al (aB (i64.wrap ((i64.wrap ((i64.wrap (16+(M.get 7)))-(eP ((code.getD ((M.get 6).toNat) dIns).op))))+1)) hM (aS 0))<|aa 9 [.own 0] λ _=>al (aB (i64.wrap ((i64.wrap (16+(M.get 7)))-(eP ((code.getD ((M.get 6).toNat) dIns).op)))) hM (aS 0))<|aa 12 [.own 0] λ _=>RN.ct [] [0] (ak 8 (i64.wrap ((M.get 8)-1)) hM) ?_
      rintro _ T9 PV
      refine aa 7 [] λ _=>RN.ct [] [0] (ak 6 (i64.wrap ((M.get 6)+1)) PV) ?_
      rintro _ Pp IF
      refine aa 10 [] λ _=>RN.en (eP ((code.getD ((M.get 6).toNat) dIns).op)=eQ ((code.getD ((M.get 6).toNat) dIns).op)) 97 (λ Qd=>?_) λ Qd=>?_
      ·refine aa 10 ([.own 1]++ow 4 16++[.own 0,.own 0,.own 0]) λ _=>RN.ct [] [0] (jk mb ((M.set 8 (i64.wrap ((M.get 8)-1))).set 6 (i64.wrap ((M.get 6)+1))) (k+2) Pp S ((code.getD ((M.get 6).toNat) dIns).op) ((code.getD ((M.get 6).toNat) dIns).n) (M.get (i64.wrap ((i64.wrap (16+(M.get 7)))-(eP ((code.getD ((M.get 6).toNat) dIns).op))))) (M.get (i64.wrap ((i64.wrap ((i64.wrap (16+(M.get 7)))-(eP ((code.getD ((M.get 6).toNat) dIns).op))))+1))) _ IF hS (by assumption)) ?_
       rintro _ Sk ⟨RB,rfl⟩
       refine aa 16 [.own 2,.own 2,.own 2,.own 2] λ _=>RN.em (eQ ((code.getD ((M.get 6).toNat) dIns).op)>0) 116 (λ PZ=>?_) λ PZ=>?_
       ·refine aa 8 [] λ _=>RN.ct [] [0] (ak (i64.wrap ((i64.wrap (16+(M.get 7)))-(eP ((code.getD ((M.get 6).toNat) dIns).op)))) ((aH S ((code.getD ((M.get 6).toNat) dIns).op) ((code.getD ((M.get 6).toNat) dIns).n) (M.get (i64.wrap ((i64.wrap (16+(M.get 7)))-(eP ((code.getD ((M.get 6).toNat) dIns).op))))) (M.get (i64.wrap ((i64.wrap ((i64.wrap (16+(M.get 7)))-(eP ((code.getD ((M.get 6).toNat) dIns).op))))+1))) ((M.set 8 (i64.wrap ((M.get 8)-1))).set 6 (i64.wrap ((M.get 6)+1)))).v) RB) ?_
        rintro _ Q7 Qm
        refine aa 3 [] λ _=>RN.draw [6] [0,1,3,4]<|af [0,1,3,4] [0,3,4,1,2,5] [.own 2,.own 2,.own 2,.own 2,.own 1]<|RD.one 6 (RDO.ev [0,1,3,4] [.own 2,.own 2,.own 2,.own 2] λ _=>?_)
        refine af [0,1,3,4] [7] []<|RD.fin<|aa 1 [] λ _=>RN.ret [.own 2,.own 2,.own 2,.own 2] [] [0] (v:=.tuple #[.bool (decide ((code.getD ((M.get 6).toNat) dIns).op=21)),.agg #[vI ((aH S ((code.getD ((M.get 6).toNat) dIns).op) ((code.getD ((M.get 6).toNat) dIns).n) (M.get (i64.wrap ((i64.wrap (16+(M.get 7)))-(eP ((code.getD ((M.get 6).toNat) dIns).op))))) (M.get (i64.wrap ((i64.wrap ((i64.wrap (16+(M.get 7)))-(eP ((code.getD ((M.get 6).toNat) dIns).op))))+1))) ((M.set 8 (i64.wrap ((M.get 8)-1))).set 6 (i64.wrap ((M.get 6)+1)))).e.t),vI ((aH S ((code.getD ((M.get 6).toNat) dIns).op) ((code.getD ((M.get 6).toNat) dIns).n) (M.get (i64.wrap ((i64.wrap (16+(M.get 7)))-(eP ((code.getD ((M.get 6).toNat) dIns).op))))) (M.get (i64.wrap ((i64.wrap ((i64.wrap (16+(M.get 7)))-(eP ((code.getD ((M.get 6).toNat) dIns).op))))+1))) ((M.set 8 (i64.wrap ((M.get 8)-1))).set 6 (i64.wrap ((M.get 6)+1)))).e.i),vI ((aH S ((code.getD ((M.get 6).toNat) dIns).op) ((code.getD ((M.get 6).toNat) dIns).n) (M.get (i64.wrap ((i64.wrap (16+(M.get 7)))-(eP ((code.getD ((M.get 6).toNat) dIns).op))))) (M.get (i64.wrap ((i64.wrap ((i64.wrap (16+(M.get 7)))-(eP ((code.getD ((M.get 6).toNat) dIns).op))))+1))) ((M.set 8 (i64.wrap ((M.get 8)-1))).set 6 (i64.wrap ((M.get 6)+1)))).e.k),vI ((aH S ((code.getD ((M.get 6).toNat) dIns).op) ((code.getD ((M.get 6).toNat) dIns).n) (M.get (i64.wrap ((i64.wrap (16+(M.get 7)))-(eP ((code.getD ((M.get 6).toNat) dIns).op))))) (M.get (i64.wrap ((i64.wrap ((i64.wrap (16+(M.get 7)))-(eP ((code.getD ((M.get 6).toNat) dIns).op))))+1))) ((M.set 8 (i64.wrap ((M.get 8)-1))).set 6 (i64.wrap ((M.get 6)+1)))).e.v)],.bool ((aH S ((code.getD ((M.get 6).toNat) dIns).op) ((code.getD ((M.get 6).toNat) dIns).n) (M.get (i64.wrap ((i64.wrap (16+(M.get 7)))-(eP ((code.getD ((M.get 6).toNat) dIns).op))))) (M.get (i64.wrap ((i64.wrap ((i64.wrap (16+(M.get 7)))-(eP ((code.getD ((M.get 6).toNat) dIns).op))))+1))) ((M.set 8 (i64.wrap ((M.get 8)-1))).set 6 (i64.wrap ((M.get 6)+1)))).em)]) (H':=(ap [] [Q7])) ?_
        refine⟨Q7,rfl,?_⟩
        have hr:c7 code n M:=⟨h2,h3,h4,h5⟩
        refine⟨?_,?_⟩
        ·simp only[ao,bE,if_pos hr,cz,bQ,dC,dQ,dw,aX,if_pos h8,if_pos Qd,if_pos PZ];exact Qm.weak (by omega)
        ·first|(simp only[ao,bE,if_pos hr,cz,bQ,dC,dQ,dw,aX,if_pos h8,if_pos Qd,if_pos PZ];try rfl;done)
       ·refine aa 4 [] λ _=>RN.draw [6] [0,1,3,4]<|af [0,1,3,4] [0,3,4,1,2,5] [.own 2,.own 2,.own 2,.own 2,.own 1]<|RD.one 6 (RDO.ev [0,1,3,4] [.own 2,.own 2,.own 2,.own 2] λ _=>?_)
        refine af [0,1,3,4] [7] []<|RD.fin<|aa 1 [] λ _=>RN.ret [.own 2,.own 2,.own 2,.own 2] [] [0] (v:=.tuple #[.bool (decide ((code.getD ((M.get 6).toNat) dIns).op=21)),.agg #[vI ((aH S ((code.getD ((M.get 6).toNat) dIns).op) ((code.getD ((M.get 6).toNat) dIns).n) (M.get (i64.wrap ((i64.wrap (16+(M.get 7)))-(eP ((code.getD ((M.get 6).toNat) dIns).op))))) (M.get (i64.wrap ((i64.wrap ((i64.wrap (16+(M.get 7)))-(eP ((code.getD ((M.get 6).toNat) dIns).op))))+1))) ((M.set 8 (i64.wrap ((M.get 8)-1))).set 6 (i64.wrap ((M.get 6)+1)))).e.t),vI ((aH S ((code.getD ((M.get 6).toNat) dIns).op) ((code.getD ((M.get 6).toNat) dIns).n) (M.get (i64.wrap ((i64.wrap (16+(M.get 7)))-(eP ((code.getD ((M.get 6).toNat) dIns).op))))) (M.get (i64.wrap ((i64.wrap ((i64.wrap (16+(M.get 7)))-(eP ((code.getD ((M.get 6).toNat) dIns).op))))+1))) ((M.set 8 (i64.wrap ((M.get 8)-1))).set 6 (i64.wrap ((M.get 6)+1)))).e.i),vI ((aH S ((code.getD ((M.get 6).toNat) dIns).op) ((code.getD ((M.get 6).toNat) dIns).n) (M.get (i64.wrap ((i64.wrap (16+(M.get 7)))-(eP ((code.getD ((M.get 6).toNat) dIns).op))))) (M.get (i64.wrap ((i64.wrap ((i64.wrap (16+(M.get 7)))-(eP ((code.getD ((M.get 6).toNat) dIns).op))))+1))) ((M.set 8 (i64.wrap ((M.get 8)-1))).set 6 (i64.wrap ((M.get 6)+1)))).e.k),vI ((aH S ((code.getD ((M.get 6).toNat) dIns).op) ((code.getD ((M.get 6).toNat) dIns).n) (M.get (i64.wrap ((i64.wrap (16+(M.get 7)))-(eP ((code.getD ((M.get 6).toNat) dIns).op))))) (M.get (i64.wrap ((i64.wrap ((i64.wrap (16+(M.get 7)))-(eP ((code.getD ((M.get 6).toNat) dIns).op))))+1))) ((M.set 8 (i64.wrap ((M.get 8)-1))).set 6 (i64.wrap ((M.get 6)+1)))).e.v)],.bool ((aH S ((code.getD ((M.get 6).toNat) dIns).op) ((code.getD ((M.get 6).toNat) dIns).n) (M.get (i64.wrap ((i64.wrap (16+(M.get 7)))-(eP ((code.getD ((M.get 6).toNat) dIns).op))))) (M.get (i64.wrap ((i64.wrap ((i64.wrap (16+(M.get 7)))-(eP ((code.getD ((M.get 6).toNat) dIns).op))))+1))) ((M.set 8 (i64.wrap ((M.get 8)-1))).set 6 (i64.wrap ((M.get 6)+1)))).em)]) (H':=(ap [] [Sk])) ?_
        refine⟨Sk,rfl,?_⟩
        have hr:c7 code n M:=⟨h2,h3,h4,h5⟩
        refine⟨?_,?_⟩
        ·simp only[ao,bE,if_pos hr,cz,bQ,dC,dQ,dw,aX,if_pos h8,if_pos Qd,if_neg PZ];exact RB.weak (by omega)
        ·first|(simp only[ao,bE,if_pos hr,cz,bQ,dC,dQ,dw,aX,if_pos h8,if_pos Qd,if_neg PZ];try rfl;done)
      ·refine aa 8 [] λ _=>RN.ct [] [0] (ak 7 (i64.wrap ((i64.wrap ((M.get 7)-(eP ((code.getD ((M.get 6).toNat) dIns).op))))+(eQ ((code.getD ((M.get 6).toNat) dIns).op)))) IF) ?_
       rintro _ RS Rz
       refine aa 9 ([.own 1]++ow 4 16++[.own 0,.own 0,.own 0]) λ _=>RN.ct [] [0] (jk mb (((M.set 8 (i64.wrap ((M.get 8)-1))).set 6 (i64.wrap ((M.get 6)+1))).set 7 (i64.wrap ((i64.wrap ((M.get 7)-(eP ((code.getD ((M.get 6).toNat) dIns).op))))+(eQ ((code.getD ((M.get 6).toNat) dIns).op))))) (k+1) RS S ((code.getD ((M.get 6).toNat) dIns).op) ((code.getD ((M.get 6).toNat) dIns).n) (M.get (i64.wrap ((i64.wrap (16+(M.get 7)))-(eP ((code.getD ((M.get 6).toNat) dIns).op))))) (M.get (i64.wrap ((i64.wrap ((i64.wrap (16+(M.get 7)))-(eP ((code.getD ((M.get 6).toNat) dIns).op))))+1))) _ Rz hS (by assumption)) ?_
       rintro _ Yp ⟨R7,rfl⟩
       refine aa 16 [.own 2,.own 2,.own 2,.own 2] λ _=>RN.em (eQ ((code.getD ((M.get 6).toNat) dIns).op)>0) 116 (λ Ye=>?_) λ Ye=>?_
       ·refine aa 8 [] λ _=>RN.ct [] [0] (ak (i64.wrap ((i64.wrap (16+(M.get 7)))-(eP ((code.getD ((M.get 6).toNat) dIns).op)))) ((aH S ((code.getD ((M.get 6).toNat) dIns).op) ((code.getD ((M.get 6).toNat) dIns).n) (M.get (i64.wrap ((i64.wrap (16+(M.get 7)))-(eP ((code.getD ((M.get 6).toNat) dIns).op))))) (M.get (i64.wrap ((i64.wrap ((i64.wrap (16+(M.get 7)))-(eP ((code.getD ((M.get 6).toNat) dIns).op))))+1))) (((M.set 8 (i64.wrap ((M.get 8)-1))).set 6 (i64.wrap ((M.get 6)+1))).set 7 (i64.wrap ((i64.wrap ((M.get 7)-(eP ((code.getD ((M.get 6).toNat) dIns).op))))+(eQ ((code.getD ((M.get 6).toNat) dIns).op)))))).v) R7) ?_
        rintro _ Va S9
        refine aa 3 [] λ _=>RN.draw [6] [0,1,3,4]<|af [0,1,3,4] [0,3,4,1,2,5] [.own 2,.own 2,.own 2,.own 2,.own 1]<|RD.one 6 (RDO.ev [0,1,3,4] [.own 2,.own 2,.own 2,.own 2] λ _=>?_)
        refine af [0,1,3,4] [7] []<|RD.fin<|aa 1 [] λ _=>RN.ret [.own 2,.own 2,.own 2,.own 2] [] [0] (v:=.tuple #[.bool (decide ((code.getD ((M.get 6).toNat) dIns).op=21)),.agg #[vI ((aH S ((code.getD ((M.get 6).toNat) dIns).op) ((code.getD ((M.get 6).toNat) dIns).n) (M.get (i64.wrap ((i64.wrap (16+(M.get 7)))-(eP ((code.getD ((M.get 6).toNat) dIns).op))))) (M.get (i64.wrap ((i64.wrap ((i64.wrap (16+(M.get 7)))-(eP ((code.getD ((M.get 6).toNat) dIns).op))))+1))) (((M.set 8 (i64.wrap ((M.get 8)-1))).set 6 (i64.wrap ((M.get 6)+1))).set 7 (i64.wrap ((i64.wrap ((M.get 7)-(eP ((code.getD ((M.get 6).toNat) dIns).op))))+(eQ ((code.getD ((M.get 6).toNat) dIns).op)))))).e.t),vI ((aH S ((code.getD ((M.get 6).toNat) dIns).op) ((code.getD ((M.get 6).toNat) dIns).n) (M.get (i64.wrap ((i64.wrap (16+(M.get 7)))-(eP ((code.getD ((M.get 6).toNat) dIns).op))))) (M.get (i64.wrap ((i64.wrap ((i64.wrap (16+(M.get 7)))-(eP ((code.getD ((M.get 6).toNat) dIns).op))))+1))) (((M.set 8 (i64.wrap ((M.get 8)-1))).set 6 (i64.wrap ((M.get 6)+1))).set 7 (i64.wrap ((i64.wrap ((M.get 7)-(eP ((code.getD ((M.get 6).toNat) dIns).op))))+(eQ ((code.getD ((M.get 6).toNat) dIns).op)))))).e.i),vI ((aH S ((code.getD ((M.get 6).toNat) dIns).op) ((code.getD ((M.get 6).toNat) dIns).n) (M.get (i64.wrap ((i64.wrap (16+(M.get 7)))-(eP ((code.getD ((M.get 6).toNat) dIns).op))))) (M.get (i64.wrap ((i64.wrap ((i64.wrap (16+(M.get 7)))-(eP ((code.getD ((M.get 6).toNat) dIns).op))))+1))) (((M.set 8 (i64.wrap ((M.get 8)-1))).set 6 (i64.wrap ((M.get 6)+1))).set 7 (i64.wrap ((i64.wrap ((M.get 7)-(eP ((code.getD ((M.get 6).toNat) dIns).op))))+(eQ ((code.getD ((M.get 6).toNat) dIns).op)))))).e.k),vI ((aH S ((code.getD ((M.get 6).toNat) dIns).op) ((code.getD ((M.get 6).toNat) dIns).n) (M.get (i64.wrap ((i64.wrap (16+(M.get 7)))-(eP ((code.getD ((M.get 6).toNat) dIns).op))))) (M.get (i64.wrap ((i64.wrap ((i64.wrap (16+(M.get 7)))-(eP ((code.getD ((M.get 6).toNat) dIns).op))))+1))) (((M.set 8 (i64.wrap ((M.get 8)-1))).set 6 (i64.wrap ((M.get 6)+1))).set 7 (i64.wrap ((i64.wrap ((M.get 7)-(eP ((code.getD ((M.get 6).toNat) dIns).op))))+(eQ ((code.getD ((M.get 6).toNat) dIns).op)))))).e.v)],.bool ((aH S ((code.getD ((M.get 6).toNat) dIns).op) ((code.getD ((M.get 6).toNat) dIns).n) (M.get (i64.wrap ((i64.wrap (16+(M.get 7)))-(eP ((code.getD ((M.get 6).toNat) dIns).op))))) (M.get (i64.wrap ((i64.wrap ((i64.wrap (16+(M.get 7)))-(eP ((code.getD ((M.get 6).toNat) dIns).op))))+1))) (((M.set 8 (i64.wrap ((M.get 8)-1))).set 6 (i64.wrap ((M.get 6)+1))).set 7 (i64.wrap ((i64.wrap ((M.get 7)-(eP ((code.getD ((M.get 6).toNat) dIns).op))))+(eQ ((code.getD ((M.get 6).toNat) dIns).op)))))).em)]) (H':=(ap [] [Va])) ?_
        refine⟨Va,rfl,?_⟩
        have hr:c7 code n M:=⟨h2,h3,h4,h5⟩
        refine⟨?_,?_⟩
        ·simp only[ao,bE,if_pos hr,cz,bQ,dC,dQ,dw,aX,if_pos h8,if_neg Qd,if_pos Ye];exact S9.weak (by omega)
        ·first|(simp only[ao,bE,if_pos hr,cz,bQ,dC,dQ,dw,aX,if_pos h8,if_neg Qd,if_pos Ye];try rfl;done)
       ·refine aa 4 [] λ _=>RN.draw [6] [0,1,3,4]<|af [0,1,3,4] [0,3,4,1,2,5] [.own 2,.own 2,.own 2,.own 2,.own 1]<|RD.one 6 (RDO.ev [0,1,3,4] [.own 2,.own 2,.own 2,.own 2] λ _=>?_)
        refine af [0,1,3,4] [7] []<|RD.fin<|aa 1 [] λ _=>RN.ret [.own 2,.own 2,.own 2,.own 2] [] [0] (v:=.tuple #[.bool (decide ((code.getD ((M.get 6).toNat) dIns).op=21)),.agg #[vI ((aH S ((code.getD ((M.get 6).toNat) dIns).op) ((code.getD ((M.get 6).toNat) dIns).n) (M.get (i64.wrap ((i64.wrap (16+(M.get 7)))-(eP ((code.getD ((M.get 6).toNat) dIns).op))))) (M.get (i64.wrap ((i64.wrap ((i64.wrap (16+(M.get 7)))-(eP ((code.getD ((M.get 6).toNat) dIns).op))))+1))) (((M.set 8 (i64.wrap ((M.get 8)-1))).set 6 (i64.wrap ((M.get 6)+1))).set 7 (i64.wrap ((i64.wrap ((M.get 7)-(eP ((code.getD ((M.get 6).toNat) dIns).op))))+(eQ ((code.getD ((M.get 6).toNat) dIns).op)))))).e.t),vI ((aH S ((code.getD ((M.get 6).toNat) dIns).op) ((code.getD ((M.get 6).toNat) dIns).n) (M.get (i64.wrap ((i64.wrap (16+(M.get 7)))-(eP ((code.getD ((M.get 6).toNat) dIns).op))))) (M.get (i64.wrap ((i64.wrap ((i64.wrap (16+(M.get 7)))-(eP ((code.getD ((M.get 6).toNat) dIns).op))))+1))) (((M.set 8 (i64.wrap ((M.get 8)-1))).set 6 (i64.wrap ((M.get 6)+1))).set 7 (i64.wrap ((i64.wrap ((M.get 7)-(eP ((code.getD ((M.get 6).toNat) dIns).op))))+(eQ ((code.getD ((M.get 6).toNat) dIns).op)))))).e.i),vI ((aH S ((code.getD ((M.get 6).toNat) dIns).op) ((code.getD ((M.get 6).toNat) dIns).n) (M.get (i64.wrap ((i64.wrap (16+(M.get 7)))-(eP ((code.getD ((M.get 6).toNat) dIns).op))))) (M.get (i64.wrap ((i64.wrap ((i64.wrap (16+(M.get 7)))-(eP ((code.getD ((M.get 6).toNat) dIns).op))))+1))) (((M.set 8 (i64.wrap ((M.get 8)-1))).set 6 (i64.wrap ((M.get 6)+1))).set 7 (i64.wrap ((i64.wrap ((M.get 7)-(eP ((code.getD ((M.get 6).toNat) dIns).op))))+(eQ ((code.getD ((M.get 6).toNat) dIns).op)))))).e.k),vI ((aH S ((code.getD ((M.get 6).toNat) dIns).op) ((code.getD ((M.get 6).toNat) dIns).n) (M.get (i64.wrap ((i64.wrap (16+(M.get 7)))-(eP ((code.getD ((M.get 6).toNat) dIns).op))))) (M.get (i64.wrap ((i64.wrap ((i64.wrap (16+(M.get 7)))-(eP ((code.getD ((M.get 6).toNat) dIns).op))))+1))) (((M.set 8 (i64.wrap ((M.get 8)-1))).set 6 (i64.wrap ((M.get 6)+1))).set 7 (i64.wrap ((i64.wrap ((M.get 7)-(eP ((code.getD ((M.get 6).toNat) dIns).op))))+(eQ ((code.getD ((M.get 6).toNat) dIns).op)))))).e.v)],.bool ((aH S ((code.getD ((M.get 6).toNat) dIns).op) ((code.getD ((M.get 6).toNat) dIns).n) (M.get (i64.wrap ((i64.wrap (16+(M.get 7)))-(eP ((code.getD ((M.get 6).toNat) dIns).op))))) (M.get (i64.wrap ((i64.wrap ((i64.wrap (16+(M.get 7)))-(eP ((code.getD ((M.get 6).toNat) dIns).op))))+1))) (((M.set 8 (i64.wrap ((M.get 8)-1))).set 6 (i64.wrap ((M.get 6)+1))).set 7 (i64.wrap ((i64.wrap ((M.get 7)-(eP ((code.getD ((M.get 6).toNat) dIns).op))))+(eQ ((code.getD ((M.get 6).toNat) dIns).op)))))).em)]) (H':=(ap [] [Yp])) ?_
        refine⟨Yp,rfl,?_⟩
        have hr:c7 code n M:=⟨h2,h3,h4,h5⟩
        refine⟨?_,?_⟩
        ·simp only[ao,bE,if_pos hr,cz,bQ,dC,dQ,dw,aX,if_pos h8,if_neg Qd,if_neg Ye];exact R7.weak (by omega)
        ·first|(simp only[ao,bE,if_pos hr,cz,bQ,dC,dQ,dw,aX,if_pos h8,if_neg Qd,if_neg Ye];try rfl;done)
     ·refine aa 9 [] λ _=>RN.em (eP ((code.getD ((M.get 6).toNat) dIns).op)=1) 76 (λ P_=>?_) λ P_=>?_
      ·refine aa 11 [] λ _=>al (aB (i64.wrap ((i64.wrap (16+(M.get 7)))-(eP ((code.getD ((M.get 6).toNat) dIns).op)))) hM (aS 0))<|aa 12 [.own 0] λ _=>RN.ct [] [0] (ak 8 (i64.wrap ((M.get 8)-1)) hM) ?_
       rintro _ RO Qu
       refine aa 7 [] λ _=>RN.ct [] [0] (ak 6 (i64.wrap ((M.get 6)+1)) Qu) ?_
       rintro _ U9 Qt
       refine aa 10 [] λ _=>RN.en (eP ((code.getD ((M.get 6).toNat) dIns).op)=eQ ((code.getD ((M.get 6).toNat) dIns).op)) 97 (λ RE=>?_) λ RE=>?_
       ·refine aa 10 ([.own 1]++ow 4 16++[.own 0,.own 0,.own 0]) λ _=>RN.ct [] [0] (jk mb ((M.set 8 (i64.wrap ((M.get 8)-1))).set 6 (i64.wrap ((M.get 6)+1))) (k+2) U9 S ((code.getD ((M.get 6).toNat) dIns).op) ((code.getD ((M.get 6).toNat) dIns).n) (M.get (i64.wrap ((i64.wrap (16+(M.get 7)))-(eP ((code.getD ((M.get 6).toNat) dIns).op))))) 0 _ Qt hS (by assumption)) ?_
        rintro _ U8 ⟨R6,rfl⟩
        refine aa 16 [.own 2,.own 2,.own 2,.own 2] λ _=>RN.em (eQ ((code.getD ((M.get 6).toNat) dIns).op)>0) 116 (λ Uu=>?_) λ Uu=>?_
        ·refine aa 8 [] λ _=>RN.ct [] [0] (ak (i64.wrap ((i64.wrap (16+(M.get 7)))-(eP ((code.getD ((M.get 6).toNat) dIns).op)))) ((aH S ((code.getD ((M.get 6).toNat) dIns).op) ((code.getD ((M.get 6).toNat) dIns).n) (M.get (i64.wrap ((i64.wrap (16+(M.get 7)))-(eP ((code.getD ((M.get 6).toNat) dIns).op))))) 0 ((M.set 8 (i64.wrap ((M.get 8)-1))).set 6 (i64.wrap ((M.get 6)+1)))).v) R6) ?_
         rintro _ WO S8
         refine aa 3 [] λ _=>RN.draw [6] [0,1,3,4]<|af [0,1,3,4] [0,3,4,1,2,5] [.own 2,.own 2,.own 2,.own 2,.own 1]<|RD.one 6 (RDO.ev [0,1,3,4] [.own 2,.own 2,.own 2,.own 2] λ _=>?_)
         refine af [0,1,3,4] [7] []<|RD.fin<|aa 1 [] λ _=>RN.ret [.own 2,.own 2,.own 2,.own 2] [] [0] (v:=.tuple #[.bool (decide ((code.getD ((M.get 6).toNat) dIns).op=21)),.agg #[vI ((aH S ((code.getD ((M.get 6).toNat) dIns).op) ((code.getD ((M.get 6).toNat) dIns).n) (M.get (i64.wrap ((i64.wrap (16+(M.get 7)))-(eP ((code.getD ((M.get 6).toNat) dIns).op))))) 0 ((M.set 8 (i64.wrap ((M.get 8)-1))).set 6 (i64.wrap ((M.get 6)+1)))).e.t),vI ((aH S ((code.getD ((M.get 6).toNat) dIns).op) ((code.getD ((M.get 6).toNat) dIns).n) (M.get (i64.wrap ((i64.wrap (16+(M.get 7)))-(eP ((code.getD ((M.get 6).toNat) dIns).op))))) 0 ((M.set 8 (i64.wrap ((M.get 8)-1))).set 6 (i64.wrap ((M.get 6)+1)))).e.i),vI ((aH S ((code.getD ((M.get 6).toNat) dIns).op) ((code.getD ((M.get 6).toNat) dIns).n) (M.get (i64.wrap ((i64.wrap (16+(M.get 7)))-(eP ((code.getD ((M.get 6).toNat) dIns).op))))) 0 ((M.set 8 (i64.wrap ((M.get 8)-1))).set 6 (i64.wrap ((M.get 6)+1)))).e.k),vI ((aH S ((code.getD ((M.get 6).toNat) dIns).op) ((code.getD ((M.get 6).toNat) dIns).n) (M.get (i64.wrap ((i64.wrap (16+(M.get 7)))-(eP ((code.getD ((M.get 6).toNat) dIns).op))))) 0 ((M.set 8 (i64.wrap ((M.get 8)-1))).set 6 (i64.wrap ((M.get 6)+1)))).e.v)],.bool ((aH S ((code.getD ((M.get 6).toNat) dIns).op) ((code.getD ((M.get 6).toNat) dIns).n) (M.get (i64.wrap ((i64.wrap (16+(M.get 7)))-(eP ((code.getD ((M.get 6).toNat) dIns).op))))) 0 ((M.set 8 (i64.wrap ((M.get 8)-1))).set 6 (i64.wrap ((M.get 6)+1)))).em)]) (H':=(ap [] [WO])) ?_
         refine⟨WO,rfl,?_⟩
         have hr:c7 code n M:=⟨h2,h3,h4,h5⟩
         refine⟨?_,?_⟩
         ·simp only[ao,bE,if_pos hr,cz,bQ,dC,dQ,dw,aX,if_neg h8,if_pos P_,if_pos RE,if_pos Uu];exact S8.weak (by omega)
         ·first|(simp only[ao,bE,if_pos hr,cz,bQ,dC,dQ,dw,aX,if_neg h8,if_pos P_,if_pos RE,if_pos Uu];try rfl;done)
        ·refine aa 4 [] λ _=>RN.draw [6] [0,1,3,4]<|af [0,1,3,4] [0,3,4,1,2,5] [.own 2,.own 2,.own 2,.own 2,.own 1]<|RD.one 6 (RDO.ev [0,1,3,4] [.own 2,.own 2,.own 2,.own 2] λ _=>?_)
         refine af [0,1,3,4] [7] []<|RD.fin<|aa 1 [] λ _=>RN.ret [.own 2,.own 2,.own 2,.own 2] [] [0] (v:=.tuple #[.bool (decide ((code.getD ((M.get 6).toNat) dIns).op=21)),.agg #[vI ((aH S ((code.getD ((M.get 6).toNat) dIns).op) ((code.getD ((M.get 6).toNat) dIns).n) (M.get (i64.wrap ((i64.wrap (16+(M.get 7)))-(eP ((code.getD ((M.get 6).toNat) dIns).op))))) 0 ((M.set 8 (i64.wrap ((M.get 8)-1))).set 6 (i64.wrap ((M.get 6)+1)))).e.t),vI ((aH S ((code.getD ((M.get 6).toNat) dIns).op) ((code.getD ((M.get 6).toNat) dIns).n) (M.get (i64.wrap ((i64.wrap (16+(M.get 7)))-(eP ((code.getD ((M.get 6).toNat) dIns).op))))) 0 ((M.set 8 (i64.wrap ((M.get 8)-1))).set 6 (i64.wrap ((M.get 6)+1)))).e.i),vI ((aH S ((code.getD ((M.get 6).toNat) dIns).op) ((code.getD ((M.get 6).toNat) dIns).n) (M.get (i64.wrap ((i64.wrap (16+(M.get 7)))-(eP ((code.getD ((M.get 6).toNat) dIns).op))))) 0 ((M.set 8 (i64.wrap ((M.get 8)-1))).set 6 (i64.wrap ((M.get 6)+1)))).e.k),vI ((aH S ((code.getD ((M.get 6).toNat) dIns).op) ((code.getD ((M.get 6).toNat) dIns).n) (M.get (i64.wrap ((i64.wrap (16+(M.get 7)))-(eP ((code.getD ((M.get 6).toNat) dIns).op))))) 0 ((M.set 8 (i64.wrap ((M.get 8)-1))).set 6 (i64.wrap ((M.get 6)+1)))).e.v)],.bool ((aH S ((code.getD ((M.get 6).toNat) dIns).op) ((code.getD ((M.get 6).toNat) dIns).n) (M.get (i64.wrap ((i64.wrap (16+(M.get 7)))-(eP ((code.getD ((M.get 6).toNat) dIns).op))))) 0 ((M.set 8 (i64.wrap ((M.get 8)-1))).set 6 (i64.wrap ((M.get 6)+1)))).em)]) (H':=(ap [] [U8])) ?_
         refine⟨U8,rfl,?_⟩
         have hr:c7 code n M:=⟨h2,h3,h4,h5⟩
         refine⟨?_,?_⟩
         ·simp only[ao,bE,if_pos hr,cz,bQ,dC,dQ,dw,aX,if_neg h8,if_pos P_,if_pos RE,if_neg Uu];exact R6.weak (by omega)
         ·first|(simp only[ao,bE,if_pos hr,cz,bQ,dC,dQ,dw,aX,if_neg h8,if_pos P_,if_pos RE,if_neg Uu];try rfl;done)
       ·refine aa 8 [] λ _=>RN.ct [] [0] (ak 7 (i64.wrap ((i64.wrap ((M.get 7)-(eP ((code.getD ((M.get 6).toNat) dIns).op))))+(eQ ((code.getD ((M.get 6).toNat) dIns).op)))) Qt) ?_
        rintro _ T37 S7
        refine aa 9 ([.own 1]++ow 4 16++[.own 0,.own 0,.own 0]) λ _=>RN.ct [] [0] (jk mb (((M.set 8 (i64.wrap ((M.get 8)-1))).set 6 (i64.wrap ((M.get 6)+1))).set 7 (i64.wrap ((i64.wrap ((M.get 7)-(eP ((code.getD ((M.get 6).toNat) dIns).op))))+(eQ ((code.getD ((M.get 6).toNat) dIns).op))))) (k+1) T37 S ((code.getD ((M.get 6).toNat) dIns).op) ((code.getD ((M.get 6).toNat) dIns).n) (M.get (i64.wrap ((i64.wrap (16+(M.get 7)))-(eP ((code.getD ((M.get 6).toNat) dIns).op))))) 0 _ S7 hS (by assumption)) ?_
        rintro _ Uy ⟨QO,rfl⟩
        refine aa 16 [.own 2,.own 2,.own 2,.own 2] λ _=>RN.em (eQ ((code.getD ((M.get 6).toNat) dIns).op)>0) 116 (λ P9=>?_) λ P9=>?_
        ·refine aa 8 [] λ _=>RN.ct [] [0] (ak (i64.wrap ((i64.wrap (16+(M.get 7)))-(eP ((code.getD ((M.get 6).toNat) dIns).op)))) ((aH S ((code.getD ((M.get 6).toNat) dIns).op) ((code.getD ((M.get 6).toNat) dIns).n) (M.get (i64.wrap ((i64.wrap (16+(M.get 7)))-(eP ((code.getD ((M.get 6).toNat) dIns).op))))) 0 (((M.set 8 (i64.wrap ((M.get 8)-1))).set 6 (i64.wrap ((M.get 6)+1))).set 7 (i64.wrap ((i64.wrap ((M.get 7)-(eP ((code.getD ((M.get 6).toNat) dIns).op))))+(eQ ((code.getD ((M.get 6).toNat) dIns).op)))))).v) QO) ?_
         rintro _ U7 S6
         refine aa 3 [] λ _=>RN.draw [6] [0,1,3,4]<|af [0,1,3,4] [0,3,4,1,2,5] [.own 2,.own 2,.own 2,.own 2,.own 1]<|RD.one 6 (RDO.ev [0,1,3,4] [.own 2,.own 2,.own 2,.own 2] λ _=>?_)
         refine af [0,1,3,4] [7] []<|RD.fin<|aa 1 [] λ _=>RN.ret [.own 2,.own 2,.own 2,.own 2] [] [0] (v:=.tuple #[.bool (decide ((code.getD ((M.get 6).toNat) dIns).op=21)),.agg #[vI ((aH S ((code.getD ((M.get 6).toNat) dIns).op) ((code.getD ((M.get 6).toNat) dIns).n) (M.get (i64.wrap ((i64.wrap (16+(M.get 7)))-(eP ((code.getD ((M.get 6).toNat) dIns).op))))) 0 (((M.set 8 (i64.wrap ((M.get 8)-1))).set 6 (i64.wrap ((M.get 6)+1))).set 7 (i64.wrap ((i64.wrap ((M.get 7)-(eP ((code.getD ((M.get 6).toNat) dIns).op))))+(eQ ((code.getD ((M.get 6).toNat) dIns).op)))))).e.t),vI ((aH S ((code.getD ((M.get 6).toNat) dIns).op) ((code.getD ((M.get 6).toNat) dIns).n) (M.get (i64.wrap ((i64.wrap (16+(M.get 7)))-(eP ((code.getD ((M.get 6).toNat) dIns).op))))) 0 (((M.set 8 (i64.wrap ((M.get 8)-1))).set 6 (i64.wrap ((M.get 6)+1))).set 7 (i64.wrap ((i64.wrap ((M.get 7)-(eP ((code.getD ((M.get 6).toNat) dIns).op))))+(eQ ((code.getD ((M.get 6).toNat) dIns).op)))))).e.i),vI ((aH S ((code.getD ((M.get 6).toNat) dIns).op) ((code.getD ((M.get 6).toNat) dIns).n) (M.get (i64.wrap ((i64.wrap (16+(M.get 7)))-(eP ((code.getD ((M.get 6).toNat) dIns).op))))) 0 (((M.set 8 (i64.wrap ((M.get 8)-1))).set 6 (i64.wrap ((M.get 6)+1))).set 7 (i64.wrap ((i64.wrap ((M.get 7)-(eP ((code.getD ((M.get 6).toNat) dIns).op))))+(eQ ((code.getD ((M.get 6).toNat) dIns).op)))))).e.k),vI ((aH S ((code.getD ((M.get 6).toNat) dIns).op) ((code.getD ((M.get 6).toNat) dIns).n) (M.get (i64.wrap ((i64.wrap (16+(M.get 7)))-(eP ((code.getD ((M.get 6).toNat) dIns).op))))) 0 (((M.set 8 (i64.wrap ((M.get 8)-1))).set 6 (i64.wrap ((M.get 6)+1))).set 7 (i64.wrap ((i64.wrap ((M.get 7)-(eP ((code.getD ((M.get 6).toNat) dIns).op))))+(eQ ((code.getD ((M.get 6).toNat) dIns).op)))))).e.v)],.bool ((aH S ((code.getD ((M.get 6).toNat) dIns).op) ((code.getD ((M.get 6).toNat) dIns).n) (M.get (i64.wrap ((i64.wrap (16+(M.get 7)))-(eP ((code.getD ((M.get 6).toNat) dIns).op))))) 0 (((M.set 8 (i64.wrap ((M.get 8)-1))).set 6 (i64.wrap ((M.get 6)+1))).set 7 (i64.wrap ((i64.wrap ((M.get 7)-(eP ((code.getD ((M.get 6).toNat) dIns).op))))+(eQ ((code.getD ((M.get 6).toNat) dIns).op)))))).em)]) (H':=(ap [] [U7])) ?_
         refine⟨U7,rfl,?_⟩
         have hr:c7 code n M:=⟨h2,h3,h4,h5⟩
         refine⟨?_,?_⟩
         ·simp only[ao,bE,if_pos hr,cz,bQ,dC,dQ,dw,aX,if_neg h8,if_pos P_,if_neg RE,if_pos P9];exact S6.weak (by omega)
         ·first|(simp only[ao,bE,if_pos hr,cz,bQ,dC,dQ,dw,aX,if_neg h8,if_pos P_,if_neg RE,if_pos P9];try rfl;done)
        ·refine aa 4 [] λ _=>RN.draw [6] [0,1,3,4]<|af [0,1,3,4] [0,3,4,1,2,5] [.own 2,.own 2,.own 2,.own 2,.own 1]<|RD.one 6 (RDO.ev [0,1,3,4] [.own 2,.own 2,.own 2,.own 2] λ _=>?_)
         refine af [0,1,3,4] [7] []<|RD.fin<|aa 1 [] λ _=>RN.ret [.own 2,.own 2,.own 2,.own 2] [] [0] (v:=.tuple #[.bool (decide ((code.getD ((M.get 6).toNat) dIns).op=21)),.agg #[vI ((aH S ((code.getD ((M.get 6).toNat) dIns).op) ((code.getD ((M.get 6).toNat) dIns).n) (M.get (i64.wrap ((i64.wrap (16+(M.get 7)))-(eP ((code.getD ((M.get 6).toNat) dIns).op))))) 0 (((M.set 8 (i64.wrap ((M.get 8)-1))).set 6 (i64.wrap ((M.get 6)+1))).set 7 (i64.wrap ((i64.wrap ((M.get 7)-(eP ((code.getD ((M.get 6).toNat) dIns).op))))+(eQ ((code.getD ((M.get 6).toNat) dIns).op)))))).e.t),vI ((aH S ((code.getD ((M.get 6).toNat) dIns).op) ((code.getD ((M.get 6).toNat) dIns).n) (M.get (i64.wrap ((i64.wrap (16+(M.get 7)))-(eP ((code.getD ((M.get 6).toNat) dIns).op))))) 0 (((M.set 8 (i64.wrap ((M.get 8)-1))).set 6 (i64.wrap ((M.get 6)+1))).set 7 (i64.wrap ((i64.wrap ((M.get 7)-(eP ((code.getD ((M.get 6).toNat) dIns).op))))+(eQ ((code.getD ((M.get 6).toNat) dIns).op)))))).e.i),vI ((aH S ((code.getD ((M.get 6).toNat) dIns).op) ((code.getD ((M.get 6).toNat) dIns).n) (M.get (i64.wrap ((i64.wrap (16+(M.get 7)))-(eP ((code.getD ((M.get 6).toNat) dIns).op))))) 0 (((M.set 8 (i64.wrap ((M.get 8)-1))).set 6 (i64.wrap ((M.get 6)+1))).set 7 (i64.wrap ((i64.wrap ((M.get 7)-(eP ((code.getD ((M.get 6).toNat) dIns).op))))+(eQ ((code.getD ((M.get 6).toNat) dIns).op)))))).e.k),vI ((aH S ((code.getD ((M.get 6).toNat) dIns).op) ((code.getD ((M.get 6).toNat) dIns).n) (M.get (i64.wrap ((i64.wrap (16+(M.get 7)))-(eP ((code.getD ((M.get 6).toNat) dIns).op))))) 0 (((M.set 8 (i64.wrap ((M.get 8)-1))).set 6 (i64.wrap ((M.get 6)+1))).set 7 (i64.wrap ((i64.wrap ((M.get 7)-(eP ((code.getD ((M.get 6).toNat) dIns).op))))+(eQ ((code.getD ((M.get 6).toNat) dIns).op)))))).e.v)],.bool ((aH S ((code.getD ((M.get 6).toNat) dIns).op) ((code.getD ((M.get 6).toNat) dIns).n) (M.get (i64.wrap ((i64.wrap (16+(M.get 7)))-(eP ((code.getD ((M.get 6).toNat) dIns).op))))) 0 (((M.set 8 (i64.wrap ((M.get 8)-1))).set 6 (i64.wrap ((M.get 6)+1))).set 7 (i64.wrap ((i64.wrap ((M.get 7)-(eP ((code.getD ((M.get 6).toNat) dIns).op))))+(eQ ((code.getD ((M.get 6).toNat) dIns).op)))))).em)]) (H':=(ap [] [Uy])) ?_
         refine⟨Uy,rfl,?_⟩
         have hr:c7 code n M:=⟨h2,h3,h4,h5⟩
         refine⟨?_,?_⟩
         ·simp only[ao,bE,if_pos hr,cz,bQ,dC,dQ,dw,aX,if_neg h8,if_pos P_,if_neg RE,if_neg P9];exact QO.weak (by omega)
         ·first|(simp only[ao,bE,if_pos hr,cz,bQ,dC,dQ,dw,aX,if_neg h8,if_pos P_,if_neg RE,if_neg P9];try rfl;done)
      ·refine aa 15 [] λ _=>RN.ct [] [0] (ak 8 (i64.wrap ((M.get 8)-1)) hM) ?_
       rintro _ Ym S5
       refine aa 7 [] λ _=>RN.ct [] [0] (ak 6 (i64.wrap ((M.get 6)+1)) S5) ?_
       rintro _ T46 X6
       refine aa 10 [] λ _=>RN.en (eP ((code.getD ((M.get 6).toNat) dIns).op)=eQ ((code.getD ((M.get 6).toNat) dIns).op)) 97 (λ Qn=>?_) λ Qn=>?_
       ·refine aa 10 ([.own 1]++ow 4 16++[.own 0,.own 0,.own 0]) λ _=>RN.ct [] [0] (jk mb ((M.set 8 (i64.wrap ((M.get 8)-1))).set 6 (i64.wrap ((M.get 6)+1))) (k+2) T46 S ((code.getD ((M.get 6).toNat) dIns).op) ((code.getD ((M.get 6).toNat) dIns).n) 0 0 _ X6 hS (by assumption)) ?_
        rintro _ Ux ⟨QN,rfl⟩
        refine aa 16 [.own 2,.own 2,.own 2,.own 2] λ _=>RN.em (eQ ((code.getD ((M.get 6).toNat) dIns).op)>0) 116 (λ R9=>?_) λ R9=>?_
        ·refine aa 8 [] λ _=>RN.ct [] [0] (ak (i64.wrap ((i64.wrap (16+(M.get 7)))-(eP ((code.getD ((M.get 6).toNat) dIns).op)))) ((aH S ((code.getD ((M.get 6).toNat) dIns).op) ((code.getD ((M.get 6).toNat) dIns).n) 0 0 ((M.set 8 (i64.wrap ((M.get 8)-1))).set 6 (i64.wrap ((M.get 6)+1)))).v) QN) ?_
         rintro _ U6 S4
         refine aa 3 [] λ _=>RN.draw [6] [0,1,3,4]<|af [0,1,3,4] [0,3,4,1,2,5] [.own 2,.own 2,.own 2,.own 2,.own 1]<|RD.one 6 (RDO.ev [0,1,3,4] [.own 2,.own 2,.own 2,.own 2] λ _=>?_)
         refine af [0,1,3,4] [7] []<|RD.fin<|aa 1 [] λ _=>RN.ret [.own 2,.own 2,.own 2,.own 2] [] [0] (v:=.tuple #[.bool (decide ((code.getD ((M.get 6).toNat) dIns).op=21)),.agg #[vI ((aH S ((code.getD ((M.get 6).toNat) dIns).op) ((code.getD ((M.get 6).toNat) dIns).n) 0 0 ((M.set 8 (i64.wrap ((M.get 8)-1))).set 6 (i64.wrap ((M.get 6)+1)))).e.t),vI ((aH S ((code.getD ((M.get 6).toNat) dIns).op) ((code.getD ((M.get 6).toNat) dIns).n) 0 0 ((M.set 8 (i64.wrap ((M.get 8)-1))).set 6 (i64.wrap ((M.get 6)+1)))).e.i),vI ((aH S ((code.getD ((M.get 6).toNat) dIns).op) ((code.getD ((M.get 6).toNat) dIns).n) 0 0 ((M.set 8 (i64.wrap ((M.get 8)-1))).set 6 (i64.wrap ((M.get 6)+1)))).e.k),vI ((aH S ((code.getD ((M.get 6).toNat) dIns).op) ((code.getD ((M.get 6).toNat) dIns).n) 0 0 ((M.set 8 (i64.wrap ((M.get 8)-1))).set 6 (i64.wrap ((M.get 6)+1)))).e.v)],.bool ((aH S ((code.getD ((M.get 6).toNat) dIns).op) ((code.getD ((M.get 6).toNat) dIns).n) 0 0 ((M.set 8 (i64.wrap ((M.get 8)-1))).set 6 (i64.wrap ((M.get 6)+1)))).em)]) (H':=(ap [] [U6])) ?_
         refine⟨U6,rfl,?_⟩
         have hr:c7 code n M:=⟨h2,h3,h4,h5⟩
         refine⟨?_,?_⟩
         ·simp only[ao,bE,if_pos hr,cz,bQ,dC,dQ,dw,aX,if_neg h8,if_neg P_,if_pos Qn,if_pos R9];exact S4.weak (by omega)
         ·first|(simp only[ao,bE,if_pos hr,cz,bQ,dC,dQ,dw,aX,if_neg h8,if_neg P_,if_pos Qn,if_pos R9];try rfl;done)
        ·refine aa 4 [] λ _=>RN.draw [6] [0,1,3,4]<|af [0,1,3,4] [0,3,4,1,2,5] [.own 2,.own 2,.own 2,.own 2,.own 1]<|RD.one 6 (RDO.ev [0,1,3,4] [.own 2,.own 2,.own 2,.own 2] λ _=>?_)
         refine af [0,1,3,4] [7] []<|RD.fin<|aa 1 [] λ _=>RN.ret [.own 2,.own 2,.own 2,.own 2] [] [0] (v:=.tuple #[.bool (decide ((code.getD ((M.get 6).toNat) dIns).op=21)),.agg #[vI ((aH S ((code.getD ((M.get 6).toNat) dIns).op) ((code.getD ((M.get 6).toNat) dIns).n) 0 0 ((M.set 8 (i64.wrap ((M.get 8)-1))).set 6 (i64.wrap ((M.get 6)+1)))).e.t),vI ((aH S ((code.getD ((M.get 6).toNat) dIns).op) ((code.getD ((M.get 6).toNat) dIns).n) 0 0 ((M.set 8 (i64.wrap ((M.get 8)-1))).set 6 (i64.wrap ((M.get 6)+1)))).e.i),vI ((aH S ((code.getD ((M.get 6).toNat) dIns).op) ((code.getD ((M.get 6).toNat) dIns).n) 0 0 ((M.set 8 (i64.wrap ((M.get 8)-1))).set 6 (i64.wrap ((M.get 6)+1)))).e.k),vI ((aH S ((code.getD ((M.get 6).toNat) dIns).op) ((code.getD ((M.get 6).toNat) dIns).n) 0 0 ((M.set 8 (i64.wrap ((M.get 8)-1))).set 6 (i64.wrap ((M.get 6)+1)))).e.v)],.bool ((aH S ((code.getD ((M.get 6).toNat) dIns).op) ((code.getD ((M.get 6).toNat) dIns).n) 0 0 ((M.set 8 (i64.wrap ((M.get 8)-1))).set 6 (i64.wrap ((M.get 6)+1)))).em)]) (H':=(ap [] [Ux])) ?_
         refine⟨Ux,rfl,?_⟩
         have hr:c7 code n M:=⟨h2,h3,h4,h5⟩
         refine⟨?_,?_⟩
         ·simp only[ao,bE,if_pos hr,cz,bQ,dC,dQ,dw,aX,if_neg h8,if_neg P_,if_pos Qn,if_neg R9];exact QN.weak (by omega)
         ·first|(simp only[ao,bE,if_pos hr,cz,bQ,dC,dQ,dw,aX,if_neg h8,if_neg P_,if_pos Qn,if_neg R9];try rfl;done)
       ·refine aa 8 [] λ _=>RN.ct [] [0] (ak 7 (i64.wrap ((i64.wrap ((M.get 7)-(eP ((code.getD ((M.get 6).toNat) dIns).op))))+(eQ ((code.getD ((M.get 6).toNat) dIns).op)))) X6) ?_
        rintro _ Yl S3
        refine aa 9 ([.own 1]++ow 4 16++[.own 0,.own 0,.own 0]) λ _=>RN.ct [] [0] (jk mb (((M.set 8 (i64.wrap ((M.get 8)-1))).set 6 (i64.wrap ((M.get 6)+1))).set 7 (i64.wrap ((i64.wrap ((M.get 7)-(eP ((code.getD ((M.get 6).toNat) dIns).op))))+(eQ ((code.getD ((M.get 6).toNat) dIns).op))))) (k+1) Yl S ((code.getD ((M.get 6).toNat) dIns).op) ((code.getD ((M.get 6).toNat) dIns).n) 0 0 _ S3 hS (by assumption)) ?_
        rintro _ Yk ⟨Uk,rfl⟩
        refine aa 16 [.own 2,.own 2,.own 2,.own 2] λ _=>RN.em (eQ ((code.getD ((M.get 6).toNat) dIns).op)>0) 116 (λ Ya=>?_) λ Ya=>?_
        ·refine aa 8 [] λ _=>RN.ct [] [0] (ak (i64.wrap ((i64.wrap (16+(M.get 7)))-(eP ((code.getD ((M.get 6).toNat) dIns).op)))) ((aH S ((code.getD ((M.get 6).toNat) dIns).op) ((code.getD ((M.get 6).toNat) dIns).n) 0 0 (((M.set 8 (i64.wrap ((M.get 8)-1))).set 6 (i64.wrap ((M.get 6)+1))).set 7 (i64.wrap ((i64.wrap ((M.get 7)-(eP ((code.getD ((M.get 6).toNat) dIns).op))))+(eQ ((code.getD ((M.get 6).toNat) dIns).op)))))).v) Uk) ?_
         rintro _ T59 Wb
         refine aa 3 [] λ _=>RN.draw [6] [0,1,3,4]<|af [0,1,3,4] [0,3,4,1,2,5] [.own 2,.own 2,.own 2,.own 2,.own 1]<|RD.one 6 (RDO.ev [0,1,3,4] [.own 2,.own 2,.own 2,.own 2] λ _=>?_)
         refine af [0,1,3,4] [7] []<|RD.fin<|aa 1 [] λ _=>RN.ret [.own 2,.own 2,.own 2,.own 2] [] [0] (v:=.tuple #[.bool (decide ((code.getD ((M.get 6).toNat) dIns).op=21)),.agg #[vI ((aH S ((code.getD ((M.get 6).toNat) dIns).op) ((code.getD ((M.get 6).toNat) dIns).n) 0 0 (((M.set 8 (i64.wrap ((M.get 8)-1))).set 6 (i64.wrap ((M.get 6)+1))).set 7 (i64.wrap ((i64.wrap ((M.get 7)-(eP ((code.getD ((M.get 6).toNat) dIns).op))))+(eQ ((code.getD ((M.get 6).toNat) dIns).op)))))).e.t),vI ((aH S ((code.getD ((M.get 6).toNat) dIns).op) ((code.getD ((M.get 6).toNat) dIns).n) 0 0 (((M.set 8 (i64.wrap ((M.get 8)-1))).set 6 (i64.wrap ((M.get 6)+1))).set 7 (i64.wrap ((i64.wrap ((M.get 7)-(eP ((code.getD ((M.get 6).toNat) dIns).op))))+(eQ ((code.getD ((M.get 6).toNat) dIns).op)))))).e.i),vI ((aH S ((code.getD ((M.get 6).toNat) dIns).op) ((code.getD ((M.get 6).toNat) dIns).n) 0 0 (((M.set 8 (i64.wrap ((M.get 8)-1))).set 6 (i64.wrap ((M.get 6)+1))).set 7 (i64.wrap ((i64.wrap ((M.get 7)-(eP ((code.getD ((M.get 6).toNat) dIns).op))))+(eQ ((code.getD ((M.get 6).toNat) dIns).op)))))).e.k),vI ((aH S ((code.getD ((M.get 6).toNat) dIns).op) ((code.getD ((M.get 6).toNat) dIns).n) 0 0 (((M.set 8 (i64.wrap ((M.get 8)-1))).set 6 (i64.wrap ((M.get 6)+1))).set 7 (i64.wrap ((i64.wrap ((M.get 7)-(eP ((code.getD ((M.get 6).toNat) dIns).op))))+(eQ ((code.getD ((M.get 6).toNat) dIns).op)))))).e.v)],.bool ((aH S ((code.getD ((M.get 6).toNat) dIns).op) ((code.getD ((M.get 6).toNat) dIns).n) 0 0 (((M.set 8 (i64.wrap ((M.get 8)-1))).set 6 (i64.wrap ((M.get 6)+1))).set 7 (i64.wrap ((i64.wrap ((M.get 7)-(eP ((code.getD ((M.get 6).toNat) dIns).op))))+(eQ ((code.getD ((M.get 6).toNat) dIns).op)))))).em)]) (H':=(ap [] [T59])) ?_
         refine⟨T59,rfl,?_⟩
         have hr:c7 code n M:=⟨h2,h3,h4,h5⟩
         refine⟨?_,?_⟩
         ·simp only[ao,bE,if_pos hr,cz,bQ,dC,dQ,dw,aX,if_neg h8,if_neg P_,if_neg Qn,if_pos Ya];exact Wb.weak (by omega)
         ·first|(simp only[ao,bE,if_pos hr,cz,bQ,dC,dQ,dw,aX,if_neg h8,if_neg P_,if_neg Qn,if_pos Ya];try rfl;done)
        ·refine aa 4 [] λ _=>RN.draw [6] [0,1,3,4]<|af [0,1,3,4] [0,3,4,1,2,5] [.own 2,.own 2,.own 2,.own 2,.own 1]<|RD.one 6 (RDO.ev [0,1,3,4] [.own 2,.own 2,.own 2,.own 2] λ _=>?_)
         refine af [0,1,3,4] [7] []<|RD.fin<|aa 1 [] λ _=>RN.ret [.own 2,.own 2,.own 2,.own 2] [] [0] (v:=.tuple #[.bool (decide ((code.getD ((M.get 6).toNat) dIns).op=21)),.agg #[vI ((aH S ((code.getD ((M.get 6).toNat) dIns).op) ((code.getD ((M.get 6).toNat) dIns).n) 0 0 (((M.set 8 (i64.wrap ((M.get 8)-1))).set 6 (i64.wrap ((M.get 6)+1))).set 7 (i64.wrap ((i64.wrap ((M.get 7)-(eP ((code.getD ((M.get 6).toNat) dIns).op))))+(eQ ((code.getD ((M.get 6).toNat) dIns).op)))))).e.t),vI ((aH S ((code.getD ((M.get 6).toNat) dIns).op) ((code.getD ((M.get 6).toNat) dIns).n) 0 0 (((M.set 8 (i64.wrap ((M.get 8)-1))).set 6 (i64.wrap ((M.get 6)+1))).set 7 (i64.wrap ((i64.wrap ((M.get 7)-(eP ((code.getD ((M.get 6).toNat) dIns).op))))+(eQ ((code.getD ((M.get 6).toNat) dIns).op)))))).e.i),vI ((aH S ((code.getD ((M.get 6).toNat) dIns).op) ((code.getD ((M.get 6).toNat) dIns).n) 0 0 (((M.set 8 (i64.wrap ((M.get 8)-1))).set 6 (i64.wrap ((M.get 6)+1))).set 7 (i64.wrap ((i64.wrap ((M.get 7)-(eP ((code.getD ((M.get 6).toNat) dIns).op))))+(eQ ((code.getD ((M.get 6).toNat) dIns).op)))))).e.k),vI ((aH S ((code.getD ((M.get 6).toNat) dIns).op) ((code.getD ((M.get 6).toNat) dIns).n) 0 0 (((M.set 8 (i64.wrap ((M.get 8)-1))).set 6 (i64.wrap ((M.get 6)+1))).set 7 (i64.wrap ((i64.wrap ((M.get 7)-(eP ((code.getD ((M.get 6).toNat) dIns).op))))+(eQ ((code.getD ((M.get 6).toNat) dIns).op)))))).e.v)],.bool ((aH S ((code.getD ((M.get 6).toNat) dIns).op) ((code.getD ((M.get 6).toNat) dIns).n) 0 0 (((M.set 8 (i64.wrap ((M.get 8)-1))).set 6 (i64.wrap ((M.get 6)+1))).set 7 (i64.wrap ((i64.wrap ((M.get 7)-(eP ((code.getD ((M.get 6).toNat) dIns).op))))+(eQ ((code.getD ((M.get 6).toNat) dIns).op)))))).em)]) (H':=(ap [] [Yk])) ?_
         refine⟨Yk,rfl,?_⟩
         have hr:c7 code n M:=⟨h2,h3,h4,h5⟩
         refine⟨?_,?_⟩
         ·simp only[ao,bE,if_pos hr,cz,bQ,dC,dQ,dw,aX,if_neg h8,if_neg P_,if_neg Qn,if_neg Ya];exact Uk.weak (by omega)
         ·first|(simp only[ao,bE,if_pos hr,cz,bQ,dC,dQ,dw,aX,if_neg h8,if_neg P_,if_neg Qn,if_neg Ya];try rfl;done)
    ·refine aa 9 [.own 0,.own 0,.own 0,.own 0] λ _=>RN.ret [.own 0,.own 0,.own 0,.own 0] [] [0] (v:=.tuple #[.bool true,.agg #[vI 0,vI 0,vI 0,vI 0],.bool false]) (H':=(ap [] [T])) ?_
     refine⟨T,rfl,?_⟩
     have hr:¬ c7 code n M:=λ RH=>h5 RH.2.2.2
     refine⟨?_,?_⟩
     ·simp only[ao,bE,if_neg hr];exact hM.weak (by omega)
     ·first|(simp only[ao,bE,if_neg hr];try rfl;done)
theorem BA(mb:Nat)(M:MemS)(k:Nat)(T:HL)(S:Setup)(code:List Ins)(A:Option Addr)(cc:Nat)(e0 e1 e2:Int)(F:HL)(hM:MemH mb M (k+6) T) :Sp Tryz.prog 168 #[.iface 41 (vP mb 0),(Setup.v S),.agg #[.slice A 0 cc,vI e0,vI e1,vI e2]] (ap [] [T]) F (λ u H'=>∃x,H'=ap [] [x] /\ (MemH mb ((ao S code 0 M).M) k x /\ u=.tuple #[.bool (bE code 0 M),.agg #[vI ((ao S code 0 M).e.t),vI ((ao S code 0 M).e.i),vI ((ao S code 0 M).e.k),vI ((ao S code 0 M).e.v)],.bool ((ao S code 0 M).em)])):=by
 refine Sp.run Tryz.func168 rfl mn (A:=[]) (Ts:=[T]) rfl λ w0=>?_
 refine aa 22 [] λ n1=>al (aB 6 hM (aS 0))<|aa 1 [] λ _=>al (aB 7 hM (aS 0))<|aa 1 [] λ _=>al (aB 8 hM (aS 0))<|aa 11 [] λ _=>RN.em (M.get 8<1) 29 (λ h2=>?_) λ h2=>?_
 ·refine aa 31 [.own 0,.own 0,.own 0,.own 0] λ _=>RN.ret [.own 0,.own 0,.own 0,.own 0] [] [0] (v:=.tuple #[.bool true,.agg #[vI 0,vI 0,vI 0,vI 0],.bool false]) (H':=(ap [] [T])) ?_
  refine⟨T,rfl,?_⟩
  have hr:¬ c7 code 0 M:=λ RH=>RH.1 h2
  refine⟨?_,?_⟩
  ·simp only[ao,bE,if_neg hr];exact hM.weak (by omega)
  ·first|(simp only[ao,bE,if_neg hr];try rfl;done)
 ·refine aa 4 [] λ _=>RN.em (M.get 6<0) 33 (λ h3=>?_) λ h3=>?_
  ·refine aa 27 [.own 0,.own 0,.own 0,.own 0] λ _=>RN.ret [.own 0,.own 0,.own 0,.own 0] [] [0] (v:=.tuple #[.bool true,.agg #[vI 0,vI 0,vI 0,vI 0],.bool false]) (H':=(ap [] [T])) ?_
   refine⟨T,rfl,?_⟩
   have hr:¬ c7 code 0 M:=λ RH=>RH.2.1 h3
   refine⟨?_,?_⟩
   ·simp only[ao,bE,if_neg hr];exact hM.weak (by omega)
   ·first|(simp only[ao,bE,if_neg hr];try rfl;done)
  ·refine aa 7 [.own 1] λ _=>RN.em (M.get 6 >= 0) 40 (λ h4=>?_) λ h4=>?_
   ·refine aa 20 [.own 0,.own 0,.own 0,.own 0] λ _=>RN.ret [.own 0,.own 0,.own 0,.own 0] [] [0] (v:=.tuple #[.bool true,.agg #[vI 0,vI 0,vI 0,vI 0],.bool false]) (H':=(ap [] [T])) ?_
    refine⟨T,rfl,?_⟩
    have hr:¬ c7 code 0 M:=λ RH=>RH.2.2.1 (by simpa using h4)
    refine⟨?_,?_⟩
    ·simp only[ao,bE,if_neg hr];exact hM.weak (by omega)
    ·first|(simp only[ao,bE,if_neg hr];try rfl;done)
   ·exact absurd (show M.get 6 >= 0 by omega) h4
theorem gR(mb:Nat)(M:MemS)(k:Nat)(T:HL)(S:Setup)(code:List Ins)(A:Option Addr)(n cc:Nat)(e0 e1 e2:Int)(F:HL)(hM:MemH mb M (k+6) T)(hS:SetN S)(hE:fv F)(hc:CodeIn F code A n):Sp Tryz.prog 168 #[.iface 41 (vP mb 0),(Setup.v S),.agg #[.slice A n cc,vI e0,vI e1,vI e2]] (ap [] [T]) F (λ u H'=>∃x,H'=ap [] [x] /\ (MemH mb (ao S code n M).M k x /\ u=.tuple #[.bool (bE code n M),.agg #[vI ((ao S code n M).e.t),vI ((ao S code n M).e.i),vI ((ao S code n M).e.k),vI ((ao S code n M).e.v)],.bool ((ao S code n M).em)])):=by
 cases hc with
 | nil=>exact BA mb M k T S code A cc e0 e1 e2 F hM
 | mk b R n h h1 h2=>exact xF mb M k T S code b R n cc e0 e1 e2 F hM hS hE h h1 h2
end Go.Proofs.YthoijjeddhfcnaaGreatDoor
