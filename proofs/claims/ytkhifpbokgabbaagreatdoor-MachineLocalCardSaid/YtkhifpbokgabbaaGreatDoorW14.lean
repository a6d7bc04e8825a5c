import Derived.Test.YtkhifpbokgabbaaGreatDoorW13
set_option maxHeartbeats 4000000
set_option maxRecDepth 100000
set_option linter.unusedSimpArgs false
set_option linter.unusedVariables false
namespace Go.Proofs.YtkhifpbokgabbaaGreatDoor
open Go.RowKit
variable {K:Kd} {D:Int -> Prop}
theorem emit_v (mb:Nat) (M:MemS) (k:Nat) (T:HL) (kd v:Int) (F:HL) (hM:MemK K D mb M (k+2) T)  (hl:DLo D):Sp Tryz.prog 176 #[.iface K.tid (vP mb 0),vI kd,vI v] (ap [] [T]) F (λ u H'=>∃ x,H'=ap [] [x] /\ (MemK K D mb ((emitV kd v M).M) k x /\ u=.tuple #[.agg #[vI ((emitV kd v M).e.t),vI ((emitV kd v M).e.i),vI ((emitV kd v M).e.k),vI ((emitV kd v M).e.v)],.bool ((emitV kd v M).em)])):=by
 refine Sp.run Tryz.func176 rfl mn (A:=[]) (Ts:=[T]) rfl λ w0=>?_
 refine RN.go 9 [] λ n1=>RN.cpK (get_any 11 hM (hl 11 (by decide) (by decide)) (sub_ap 0))<|RN.go 10 [] λ _=>RN.em (M.get 11 >= 40) 14 (λ h2=>?_) λ h2=>?_
 ·refine RN.go 8 [.own 0,.own 0,.own 0,.own 0] λ _=>RN.ret [.own 0,.own 0,.own 0,.own 0] [] [0] (v:=.tuple #[.agg #[vI 0,vI 0,vI 0,vI 0],.bool false]) (H':=(ap [] [T])) ?_
  refine ⟨T,rfl,?_⟩
  refine ⟨?_,?_⟩
  ·simp only [emitV,if_pos h2];exact hM.weak (by omega)
  ·simp only [emitV,if_pos h2]
 ·refine RN.go 6 [] λ _=>RN.cpK (get_any 0 hM (hl 0 (by decide) (by decide)) (sub_ap 0))<|RN.go 6 [] λ _=>RN.cpK (get_any 12 hM (hl 12 (by decide) (by decide)) (sub_ap 0))<|RN.go 4 [] λ n3=>RN.dn 0 (.rows 1 4 (irow [M.get 12,M.get 0,kd,v]) 3 (0,0))<|RN.cp (hsum_any (⟨#[101,102,102,101,99,116]⟩) ([M.get 12,M.get 0,kd,v]) (n3+0) 4 _ (by decide) (Nat.le_of_ble_eq_true rfl) (Nat.le_of_ble_eq_true rfl) (in_ap 0))<|RN.go 9 [] λ _=>RN.ctK [] [0] (set_any 12 (IntKind.i64.wrap ((sumH (⟨#[101,102,102,101,99,116]⟩) ([M.get 12,M.get 0,kd,v])).fdiv 2)) hM (hl 12 (by decide) (by decide))) ?_
  rintro _ T4 hM5
  refine RN.go 7 [] λ _=>RN.ctK [] [0] (set_any 11 (IntKind.i64.wrap ((M.get 11)+1)) hM5 (hl 11 (by decide) (by decide))) ?_
  rintro _ T6 hM7
  refine RN.go 13 [.own 1,.own 1,.own 1,.own 1] λ _=>RN.ret [.own 1,.own 1,.own 1,.own 1] [] [0] (v:=.tuple #[.agg #[vI (M.get 0),vI (M.get 11),vI kd,vI v],.bool true]) (H':=(ap [] [T6])) ?_
  refine ⟨T6,rfl,?_⟩
  refine ⟨?_,?_⟩
  ·simp only [emitV,if_neg h2];exact hM7.weak (by omega)
  ·simp only [emitV,if_neg h2]
theorem oth3 (mb:Nat) (M:MemS) (k:Nat) (T:HL) (S:Setup) (n a b:Int) (F:HL) (hM:MemK K D mb M (k+1) T) (hS:SetN S) (hO:D (w64 (32+n))) (hl:DLo D):Sp Tryz.prog 169 #[.iface K.tid (vP mb 0),(Setup.v S),.agg #[vI n,vI a,vI b]] (ap [] [T]) F (λ u H'=>∃ x,H'=ap [] [x] /\ (MemK K D mb (M.set (w64 (32+n)) a) k x /\ u=.tuple #[vI 0,.agg #[vI 0,vI 0,vI 0,vI 0],.bool false])):=by
 have h1:=hS.pl
 have h2:=hS.nb
 refine Sp.run Tryz.func169 rfl mn (A:=[]) (Ts:=[T]) rfl λ w0=>?_
 refine RN.go 17 [.own 1,.own 1] λ n1=>RN.ctK [] [0] (set_any (IntKind.i64.wrap (32+n)) a hM hO) ?_
 rintro _ T2 hM3
 refine RN.go 10 [.own 0,.own 0,.own 0,.own 0] λ _=>RN.ret [.own 0,.own 0,.own 0,.own 0] [] [0] (v:=.tuple #[vI 0,.agg #[vI 0,vI 0,vI 0,vI 0],.bool false]) (H':=(ap [] [T2])) ?_
 refine ⟨T2,rfl,?_⟩
 refine ⟨?_,?_⟩
 ·first | (simp only [];exact hM3.weak (by omega)) | exact hM3.weak (by omega)
 ·first | rfl | (simp only [];done) | (simp only [];rfl)
theorem oth4 (mb:Nat) (M:MemS) (k:Nat) (T:HL) (S:Setup) (n a b:Int) (F:HL) (hM:MemK K D mb M (k+0) T) (hS:SetN S) (hO:0 <= bodyAt S a -> D (w64 (bodyAt S a+n))) (hl:DLo D):Sp Tryz.prog 170 #[.iface K.tid (vP mb 0),(Setup.v S),.agg #[vI n,vI a,vI b]] (ap [] [T]) F (λ u H'=>∃ x,H'=ap [] [x] /\ (MemK K D mb (M) k x /\ u=.tuple #[vI (if bodyAt S a >= 0 then M.get (w64 (bodyAt S a+n)) else 0),.agg #[vI 0,vI 0,vI 0,vI 0],.bool false])):=by
 have h1:=hS.pl
 have h2:=hS.nb
 refine Sp.run Tryz.func170 rfl mn (A:=[]) (Ts:=[T]) rfl λ w0=>?_
 refine RN.go 15 (ow 2 16++[.own 1]) λ n1=>RN.cp (lbody_any S a _ hS) ?_
 have hb2:=bodyAt_bd hS a
 refine RN.go 9 [] λ _=>RN.em (bodyAt S a >= 0) 15 (λ h3=>?_) λ h3=>?_
 ·refine RN.go 8 [.own 1] λ _=>RN.cpK (get_any (IntKind.i64.wrap ((bodyAt S a)+n)) hM (hO (by omega)) (sub_ap 0))<|RN.go 6 [.own 0,.own 0,.own 0,.own 0] λ _=>RN.ret [.own 0,.own 0,.own 0,.own 0] [] [0] (v:=.tuple #[vI (M.get (IntKind.i64.wrap ((bodyAt S a)+n))),.agg #[vI 0,vI 0,vI 0,vI 0],.bool false]) (H':=(ap [] [T])) ?_
  refine ⟨T,rfl,?_⟩
  refine ⟨?_,?_⟩
  ·first | (simp only [if_pos h3];exact hM.weak (by omega)) | exact hM.weak (by omega)
  ·first | rfl | (simp only [if_pos h3];done) | (simp only [if_pos h3];rfl)
 ·refine RN.go 11 [.own 0,.own 0,.own 0,.own 0] λ _=>RN.ret [.own 0,.own 0,.own 0,.own 0] [] [0] (v:=.tuple #[vI 0,.agg #[vI 0,vI 0,vI 0,vI 0],.bool false]) (H':=(ap [] [T])) ?_
  refine ⟨T,rfl,?_⟩
  refine ⟨?_,?_⟩
  ·first | (simp only [if_neg h3];exact hM.weak (by omega)) | exact hM.weak (by omega)
  ·first | rfl | (simp only [if_neg h3];done) | (simp only [if_neg h3];rfl)
theorem oth5 (mb:Nat) (M:MemS) (k:Nat) (T:HL) (S:Setup) (n a b:Int) (F:HL) (hM:MemK K D mb M (k+1) T) (hS:SetN S) (hO:0 <= bodyAt S a -> D (w64 (bodyAt S a+n))) (hl:DLo D):Sp Tryz.prog 171 #[.iface K.tid (vP mb 0),(Setup.v S),.agg #[vI n,vI a,vI b]] (ap [] [T]) F (λ u H'=>∃ x,H'=ap [] [x] /\ (MemK K D mb (if bodyAt S a >= 0 then M.set (w64 (bodyAt S a+n)) (limF n b) else M) k x /\ u=.tuple #[vI 0,.agg #[vI 0,vI 0,vI 0,vI 0],.bool false])):=by
 have h1:=hS.pl
 have h2:=hS.nb
 cases K
 all_goals
  refine Sp.run Tryz.func171 rfl mn (A:=[]) (Ts:=[T]) rfl λ w0=>?_
  refine RN.go 15 (ow 2 16++[.own 1]) λ n1=>RN.cp (lbody_any S a _ hS) ?_
  have hb2:=bodyAt_bd hS a
  refine RN.go 9 [] λ _=>RN.em (bodyAt S a >= 0) 15 (λ h3=>?_) λ h3=>?_
  ·refine RN.go 1 [] λ _=>RN.draw [13] []<|RD.go [] [0,1,2,5,7,3,6,8,10,4,11,12] [.own 1,.own 1,.own 1]<|RD.cp [] 9 (λ X_=>(limited_v n b  _))<|RD.one 13 (RDO.ct [] [] [0] (set_any (IntKind.i64.wrap ((bodyAt S a)+n)) (limF n b) hM (hO (by omega))) ?_)
   rintro _ T4 hM5
   refine RD.fin<|RN.go 9 [.own 0,.own 0,.own 0,.own 0] λ _=>RN.ret [.own 0,.own 0,.own 0,.own 0] [] [0] (v:=.tuple #[vI 0,.agg #[vI 0,vI 0,vI 0,vI 0],.bool false]) (H':=(ap [] [T4])) ?_
   refine ⟨T4,rfl,?_⟩
   refine ⟨?_,?_⟩
   ·first | (simp only [if_pos h3];exact hM5.weak (by omega)) | exact hM5.weak (by omega)
   ·first | rfl | (simp only [if_pos h3];done) | (simp only [if_pos h3];rfl)
  ·refine RN.go 11 [.own 0,.own 0,.own 0,.own 0] λ _=>RN.ret [.own 0,.own 0,.own 0,.own 0] [] [0] (v:=.tuple #[vI 0,.agg #[vI 0,vI 0,vI 0,vI 0],.bool false]) (H':=(ap [] [T])) ?_
   refine ⟨T,rfl,?_⟩
   refine ⟨?_,?_⟩
   ·first | (simp only [if_neg h3];exact hM.weak (by omega)) | exact hM.weak (by omega)
   ·first | rfl | (simp only [if_neg h3];done) | (simp only [if_neg h3];rfl)
theorem oth18 (mb:Nat) (M:MemS) (k:Nat) (T:HL) (S:Setup) (n a b:Int) (F:HL) (hM:MemK K D mb M (k+1) T) (hS:SetN S) (hl:DLo D):Sp Tryz.prog 173 #[.iface K.tid (vP mb 0),(Setup.v S),.agg #[vI n,vI a,vI b]] (ap [] [T]) F (λ u H'=>∃ x,H'=ap [] [x] /\ (MemK K D mb (M.set 6 n) k x /\ u=.tuple #[vI 0,.agg #[vI 0,vI 0,vI 0,vI 0],.bool false])):=by
 have h1:=hS.pl
 have h2:=hS.nb
 refine Sp.run Tryz.func173 rfl mn (A:=[]) (Ts:=[T]) rfl λ w0=>?_
 refine RN.go 14 [.own 1] λ n1=>RN.ctK [] [0] (set_any 6 n hM (hl 6 (by decide) (by decide))) ?_
 rintro _ T2 hM3
 refine RN.go 10 [.own 0,.own 0,.own 0,.own 0] λ _=>RN.ret [.own 0,.own 0,.own 0,.own 0] [] [0] (v:=.tuple #[vI 0,.agg #[vI 0,vI 0,vI 0,vI 0],.bool false]) (H':=(ap [] [T2])) ?_
 refine ⟨T2,rfl,?_⟩
 refine ⟨?_,?_⟩
 ·first | (simp only [];exact hM3.weak (by omega)) | exact hM3.weak (by omega)
 ·first | rfl | (simp only [];done) | (simp only [];rfl)
theorem oth19 (mb:Nat) (M:MemS) (k:Nat) (T:HL) (S:Setup) (n a b:Int) (F:HL) (hM:MemK K D mb M (k+1) T) (hS:SetN S) (hl:DLo D):Sp Tryz.prog 174 #[.iface K.tid (vP mb 0),(Setup.v S),.agg #[vI n,vI a,vI b]] (ap [] [T]) F (λ u H'=>∃ x,H'=ap [] [x] /\ (MemK K D mb (if a=0 then M.set 6 n else M) k x /\ u=.tuple #[vI 0,.agg #[vI 0,vI 0,vI 0,vI 0],.bool false])):=by
 have h1:=hS.pl
 have h2:=hS.nb
 refine Sp.run Tryz.func174 rfl mn (A:=[]) (Ts:=[T]) rfl λ w0=>?_
 refine RN.go 17 [.own 1] λ n1=>RN.em (a=0) 11 (λ h2=>?_) λ h2=>?_
 ·refine RN.go 5 [.own 1] λ _=>RN.ctK [] [0] (set_any 6 n hM (hl 6 (by decide) (by decide))) ?_
  rintro _ T3 hM4
  refine RN.go 10 [.own 0,.own 0,.own 0,.own 0] λ _=>RN.ret [.own 0,.own 0,.own 0,.own 0] [] [0] (v:=.tuple #[vI 0,.agg #[vI 0,vI 0,vI 0,vI 0],.bool false]) (H':=(ap [] [T3])) ?_
  refine ⟨T3,rfl,?_⟩
  refine ⟨?_,?_⟩
  ·first | (simp only [if_pos h2];exact hM4.weak (by omega)) | exact hM4.weak (by omega)
  ·first | rfl | (simp only [if_pos h2];done) | (simp only [if_pos h2];rfl)
 ·refine RN.go 11 [.own 0,.own 0,.own 0,.own 0] λ _=>RN.ret [.own 0,.own 0,.own 0,.own 0] [] [0] (v:=.tuple #[vI 0,.agg #[vI 0,vI 0,vI 0,vI 0],.bool false]) (H':=(ap [] [T])) ?_
  refine ⟨T,rfl,?_⟩
  refine ⟨?_,?_⟩
  ·first | (simp only [if_neg h2];exact hM.weak (by omega)) | exact hM.weak (by omega)
  ·first | rfl | (simp only [if_neg h2];done) | (simp only [if_neg h2];rfl)
theorem oth20 (mb:Nat) (M:MemS) (k:Nat) (T:HL) (S:Setup) (n a b:Int) (F:HL) (hM:MemK K D mb M (k+2) T) (hS:SetN S) (hl:DLo D):Sp Tryz.prog 175 #[.iface K.tid (vP mb 0),(Setup.v S),.agg #[vI n,vI a,vI b]] (ap [] [T]) F (λ u H'=>∃ x,H'=ap [] [x] /\ (MemK K D mb ((emitV a b M).M) k x /\ u=.tuple #[vI 0,.agg #[vI ((emitV a b M).e.t),vI ((emitV a b M).e.i),vI ((emitV a b M).e.k),vI ((emitV a b M).e.v)],.bool ((emitV a b M).em)])):=by
 have h1:=hS.pl
 have h2:=hS.nb
 refine Sp.run Tryz.func175 rfl mn (A:=[]) (Ts:=[T]) rfl λ w0=>?_
 refine RN.go 16 [.own 1,.own 1] λ n1=>RN.ct [] [0] (emit_v mb M k T a b _ hM hl) ?_
 rintro _ T2 ⟨hM3,rfl⟩
 refine RN.go 9 [.own 0,.own 0,.own 0,.own 0] λ n4=>RN.draw [3] [0,2,3]<|RD.go [0,2,3] [0,1,2] [.own 0,.own 0,.own 0,.own 0]<|RD.one 3 (RDO.ev [0,2,3] [.own 1,.own 1,.own 1,.own 1] λ _=>?_)
 refine RD.go [0,2,3] [4] []<|RD.fin<|RN.go 1 [] λ _=>RN.ret [.own 1,.own 1,.own 1,.own 1] [] [0] (v:=.tuple #[vI 0,.agg #[vI ((emitV a b M).e.t),vI ((emitV a b M).e.i),vI ((emitV a b M).e.k),vI ((emitV a b M).e.v)],.bool ((emitV a b M).em)]) (H':=(ap [] [T2])) ?_
 refine ⟨T2,rfl,?_⟩
 refine ⟨?_,?_⟩
 ·first | (simp only [];exact hM3.weak (by omega)) | exact hM3.weak (by omega)
 ·first | rfl | (simp only [];done) | (simp only [];rfl)
theorem oth21 (mb:Nat) (M:MemS) (k:Nat) (T:HL) (S:Setup) (n a b:Int) (F:HL) (hM:MemK K D mb M (k+0) T) (hS:SetN S) (hl:DLo D):Sp Tryz.prog 177 #[.iface K.tid (vP mb 0),(Setup.v S),.agg #[vI n,vI a,vI b]] (ap [] [T]) F (λ u H'=>∃ x,H'=ap [] [x] /\ (MemK K D mb (M) k x /\ u=.tuple #[vI 0,.agg #[vI 0,vI 0,vI 0,vI 0],.bool false])):=by
 have h1:=hS.pl
 have h2:=hS.nb
 refine Sp.run Tryz.func177 rfl mn (A:=[]) (Ts:=[T]) rfl λ w0=>?_
 refine RN.go 17 [.own 0,.own 0,.own 0,.own 0] λ n1=>RN.ret [.own 0,.own 0,.own 0,.own 0] [] [0] (v:=.tuple #[vI 0,.agg #[vI 0,vI 0,vI 0,vI 0],.bool false]) (H':=(ap [] [T])) ?_
 refine ⟨T,rfl,?_⟩
 refine ⟨?_,?_⟩
 ·first | (simp only [];exact hM.weak (by omega)) | exact hM.weak (by omega)
 ·first | rfl | (simp only [];done) | (simp only [];rfl)
theorem exec_any (mb:Nat) (M:MemS) (k:Nat) (T:HL) (S:Setup) (op n a b:Int) (F:HL) (hM:MemK K D mb M (k+2) T) (hS:SetN S) (ho:1 <= op /\ op <= 21) (hO:OpD D S op n a) (hl:DLo D):Sp Tryz.prog 116 #[vI op,.iface K.tid (vP mb 0),(Setup.v S),.agg #[vI n,vI a,vI b]] (ap [] [T]) F (λ u H'=>∃ x,H'=ap [] [x] /\ (MemK K D mb ((execV S op n a b M).M) k x /\ u=.tuple #[vI ((execV S op n a b M).v),.agg #[vI ((execV S op n a b M).e.t),vI ((execV S op n a b M).e.i),vI ((execV S op n a b M).e.k),vI ((execV S op n a b M).e.v)],.bool ((execV S op n a b M).em)])):=by
 refine Sp.run Tryz.func116 rfl mn (A:=[]) (Ts:=[T]) rfl λ w0=>?_
 refine RN.go 23 [] λ n1=>RN.em (op=1) 12 (λ h2=>?_) λ h2=>?_
 ·subst h2
  refine RN.go 5 [] λ _=>RN.draw [8] [1,2]<|RD.go [1,2] [0,2,3,6,4] [.own 1]<|RD.cp [1,2] 1 (λ X_=>(tab_1 _))<|RD.cp [1,2] 5 (λ X_=>(ld1 mb M _ T n _ hM (sub_apX 0)))<|RD.go [1,2] [7] []<|RD.one 8 (RDO.ev [1,2] [.own 0,.own 0,.own 0,.own 0] λ _=>?_)
  refine RD.go [1,2] [9] []<|RD.fin<|RN.go 1 [] λ _=>RN.ret [.own 0,.own 0,.own 0,.own 0] [] [0] (v:=.tuple #[vI n,.agg #[vI 0,vI 0,vI 0,vI 0],.bool false]) (H':=(ap [] [T])) ?_
  refine ⟨T,rfl,?_⟩
  exact ⟨hM.weak (by omega),rfl⟩
 ·refine RN.go 7 [] λ _=>RN.em (op=2) 12 (λ h3=>?_) λ h3=>?_
  ·subst h3
   refine RN.go 5 [] λ _=>RN.draw [8] [1,2]<|RD.go [1,2] [0,2,3,6,4] [.own 1]<|RD.cp [1,2] 1 (λ X_=>(tab_2 _))<|RD.cp [1,2] 5 (λ X_=>(ld2 mb M _ T n _ hM (sub_apX 0) (hO.1 (by decide))))<|RD.go [1,2] [7] []<|RD.one 8 (RDO.ev [1,2] [.own 0,.own 0,.own 0,.own 0] λ _=>?_)
   refine RD.go [1,2] [9] []<|RD.fin<|RN.go 1 [] λ _=>RN.ret [.own 0,.own 0,.own 0,.own 0] [] [0] (v:=.tuple #[vI (M.get (w64 (32+n))),.agg #[vI 0,vI 0,vI 0,vI 0],.bool false]) (H':=(ap [] [T])) ?_
   refine ⟨T,rfl,?_⟩
   exact ⟨hM.weak (by omega),rfl⟩
  ·refine RN.go 7 [] λ _=>RN.em (op=6) 12 (λ h4=>?_) λ h4=>?_
   ·subst h4
    refine RN.go 5 [] λ _=>RN.draw [8] [1,2]<|RD.go [1,2] [0,2,3,6,4] [.own 1]<|RD.cp [1,2] 1 (λ X_=>(tab_6 _))<|RD.cp [1,2] 5 (λ X_=>(ld3 mb M _ T n _ hM (sub_apX 0) hl))<|RD.go [1,2] [7] []<|RD.one 8 (RDO.ev [1,2] [.own 0,.own 0,.own 0,.own 0] λ _=>?_)
    refine RD.go [1,2] [9] []<|RD.fin<|RN.go 1 [] λ _=>RN.ret [.own 0,.own 0,.own 0,.own 0] [] [0] (v:=.tuple #[vI (M.get 9),.agg #[vI 0,vI 0,vI 0,vI 0],.bool false]) (H':=(ap [] [T])) ?_
    refine ⟨T,rfl,?_⟩
    exact ⟨hM.weak (by omega),rfl⟩
   ·refine RN.go 7 [] λ _=>RN.em (op=7) 12 (λ h5=>?_) λ h5=>?_
    ·subst h5
     refine RN.go 5 [] λ _=>RN.draw [8] [1,2]<|RD.go [1,2] [0,2,3,6,4] [.own 1]<|RD.cp [1,2] 1 (λ X_=>(tab_7 _))<|RD.cp [1,2] 5 (λ X_=>(ld4 mb M _ T n _ hM (sub_apX 0) hl))<|RD.go [1,2] [7] []<|RD.one 8 (RDO.ev [1,2] [.own 0,.own 0,.own 0,.own 0] λ _=>?_)
     refine RD.go [1,2] [9] []<|RD.fin<|RN.go 1 [] λ _=>RN.ret [.own 0,.own 0,.own 0,.own 0] [] [0] (v:=.tuple #[vI (M.get 10),.agg #[vI 0,vI 0,vI 0,vI 0],.bool false]) (H':=(ap [] [T])) ?_
     refine ⟨T,rfl,?_⟩
     exact ⟨hM.weak (by omega),rfl⟩
    ·refine RN.go 6 [] λ _=>RN.em (op=8) 12 (λ h6=>?_) λ h6=>?_
     ·subst h6
      refine RN.go 2 [] λ _=>RN.draw [8] [1,2]<|RD.go [1,2] [0,2,3,6,4] [.own 1]<|RD.cp [1,2] 1 (λ X_=>(tab_8 _))<|RD.cp [1,2] 5 (λ X_=>(ld5 mb M _ T n _ hM (sub_apX 0) hl))<|RD.go [1,2] [7] []<|RD.one 8 (RDO.ev [1,2] [.own 0,.own 0,.own 0,.own 0] λ _=>?_)
      refine RD.go [1,2] [9] []<|RD.fin<|RN.go 1 [] λ _=>RN.ret [.own 0,.own 0,.own 0,.own 0] [] [0] (v:=.tuple #[vI (M.get 0),.agg #[vI 0,vI 0,vI 0,vI 0],.bool false]) (H':=(ap [] [T])) ?_
      refine ⟨T,rfl,?_⟩
      exact ⟨hM.weak (by omega),rfl⟩
     ·refine RN.go 8 [] λ _=>RN.em (op=9) 25 (λ h7=>?_) λ h7=>?_
      ·subst h7
       refine RN.go 5 [] λ _=>RN.draw [9] [1,2]<|RD.go [1,2] [0,2,4,7,3,5] [.own 1,.own 1]<|RD.cp [1,2] 1 (λ X_=>(tab_9 _))<|RD.cp [1,2] 6 (λ X_=>(bin1 a b _))<|RD.go [1,2] [8] []<|RD.one 9 (RDO.ev [1,2] [.own 0,.own 0,.own 0,.own 0] λ _=>?_)
       refine RD.go [1,2] [10] []<|RD.fin<|RN.go 1 [] λ _=>RN.ret [.own 0,.own 0,.own 0,.own 0] [] [0] (v:=.tuple #[vI (satI (w64 (a+b))),.agg #[vI 0,vI 0,vI 0,vI 0],.bool false]) (H':=(ap [] [T])) ?_
       refine ⟨T,rfl,?_⟩
       exact ⟨hM.weak (by omega),rfl⟩
      ·refine RN.go 7 [] λ _=>RN.em (op=10) 25 (λ h8=>?_) λ h8=>?_
       ·subst h8
        refine RN.go 5 [] λ _=>RN.draw [9] [1,2]<|RD.go [1,2] [0,2,4,7,3,5] [.own 1,.own 1]<|RD.cp [1,2] 1 (λ X_=>(tab_10 _))<|RD.cp [1,2] 6 (λ X_=>(bin2 a b _))<|RD.go [1,2] [8] []<|RD.one 9 (RDO.ev [1,2] [.own 0,.own 0,.own 0,.own 0] λ _=>?_)
        refine RD.go [1,2] [10] []<|RD.fin<|RN.go 1 [] λ _=>RN.ret [.own 0,.own 0,.own 0,.own 0] [] [0] (v:=.tuple #[vI (satI (w64 (a - b))),.agg #[vI 0,vI 0,vI 0,vI 0],.bool false]) (H':=(ap [] [T])) ?_
        refine ⟨T,rfl,?_⟩
        exact ⟨hM.weak (by omega),rfl⟩
       ·refine RN.go 7 [] λ _=>RN.em (op=11) 25 (λ h9=>?_) λ h9=>?_
        ·subst h9
         refine RN.go 5 [] λ _=>RN.draw [9] [1,2]<|RD.go [1,2] [0,2,4,7,3,5] [.own 1,.own 1]<|RD.cp [1,2] 1 (λ X_=>(tab_11 _))<|RD.cp [1,2] 6 (λ X_=>(bin3 a b _))<|RD.go [1,2] [8] []<|RD.one 9 (RDO.ev [1,2] [.own 0,.own 0,.own 0,.own 0] λ _=>?_)
         refine RD.go [1,2] [10] []<|RD.fin<|RN.go 1 [] λ _=>RN.ret [.own 0,.own 0,.own 0,.own 0] [] [0] (v:=.tuple #[vI (satI (w64 (a * b))),.agg #[vI 0,vI 0,vI 0,vI 0],.bool false]) (H':=(ap [] [T])) ?_
         refine ⟨T,rfl,?_⟩
         exact ⟨hM.weak (by omega),rfl⟩
        ·refine RN.go 7 [] λ _=>RN.em (op=12) 25 (λ h10=>?_) λ h10=>?_
         ·subst h10
          refine RN.go 5 [] λ _=>RN.draw [9] [1,2]<|RD.go [1,2] [0,2,4,7,3,5] [.own 1,.own 1]<|RD.cp [1,2] 1 (λ X_=>(tab_12 _))<|RD.cp [1,2] 6 (λ X_=>(bin4 a b _))<|RD.go [1,2] [8] []<|RD.one 9 (RDO.ev [1,2] [.own 0,.own 0,.own 0,.own 0] λ _=>?_)
          refine RD.go [1,2] [10] []<|RD.fin<|RN.go 1 [] λ _=>RN.ret [.own 0,.own 0,.own 0,.own 0] [] [0] (v:=.tuple #[vI (if b=0 then 0 else satI (w64 (a.tdiv b))),.agg #[vI 0,vI 0,vI 0,vI 0],.bool false]) (H':=(ap [] [T])) ?_
          refine ⟨T,rfl,?_⟩
          exact ⟨hM.weak (by omega),rfl⟩
         ·refine RN.go 7 [] λ _=>RN.em (op=14) 25 (λ h11=>?_) λ h11=>?_
          ·subst h11
           refine RN.go 5 [] λ _=>RN.draw [9] [1,2]<|RD.go [1,2] [0,2,4,7,3,5] [.own 1,.own 1]<|RD.cp [1,2] 1 (λ X_=>(tab_14 _))<|RD.cp [1,2] 6 (λ X_=>(bin5 a b _))<|RD.go [1,2] [8] []<|RD.one 9 (RDO.ev [1,2] [.own 0,.own 0,.own 0,.own 0] λ _=>?_)
           refine RD.go [1,2] [10] []<|RD.fin<|RN.go 1 [] λ _=>RN.ret [.own 0,.own 0,.own 0,.own 0] [] [0] (v:=.tuple #[vI (boolI (decide (a < b))),.agg #[vI 0,vI 0,vI 0,vI 0],.bool false]) (H':=(ap [] [T])) ?_
           refine ⟨T,rfl,?_⟩
           exact ⟨hM.weak (by omega),rfl⟩
          ·refine RN.go 7 [] λ _=>RN.em (op=15) 25 (λ h12=>?_) λ h12=>?_
           ·subst h12
            refine RN.go 5 [] λ _=>RN.draw [9] [1,2]<|RD.go [1,2] [0,2,4,7,3,5] [.own 1,.own 1]<|RD.cp [1,2] 1 (λ X_=>(tab_15 _))<|RD.cp [1,2] 6 (λ X_=>(bin6 a b _))<|RD.go [1,2] [8] []<|RD.one 9 (RDO.ev [1,2] [.own 0,.own 0,.own 0,.own 0] λ _=>?_)
            refine RD.go [1,2] [10] []<|RD.fin<|RN.go 1 [] λ _=>RN.ret [.own 0,.own 0,.own 0,.own 0] [] [0] (v:=.tuple #[vI (boolI (decide (a <= b))),.agg #[vI 0,vI 0,vI 0,vI 0],.bool false]) (H':=(ap [] [T])) ?_
            refine ⟨T,rfl,?_⟩
            exact ⟨hM.weak (by omega),rfl⟩
           ·refine RN.go 6 [] λ _=>RN.em (op=16) 25 (λ h13=>?_) λ h13=>?_
            ·subst h13
             refine RN.go 2 [] λ _=>RN.draw [9] [1,2]<|RD.go [1,2] [0,2,4,7,3,5] [.own 1,.own 1]<|RD.cp [1,2] 1 (λ X_=>(tab_16 _))<|RD.cp [1,2] 6 (λ X_=>(bin7 a b _))<|RD.go [1,2] [8] []<|RD.one 9 (RDO.ev [1,2] [.own 0,.own 0,.own 0,.own 0] λ _=>?_)
             refine RD.go [1,2] [10] []<|RD.fin<|RN.go 1 [] λ _=>RN.ret [.own 0,.own 0,.own 0,.own 0] [] [0] (v:=.tuple #[vI (boolI (decide (a=b))),.agg #[vI 0,vI 0,vI 0,vI 0],.bool false]) (H':=(ap [] [T])) ?_
             refine ⟨T,rfl,?_⟩
             exact ⟨hM.weak (by omega),rfl⟩
            ·refine RN.go 8 [] λ _=>RN.em (op=13) 41 (λ h14=>?_) λ h14=>?_
             ·subst h14
              refine RN.go 5 [] λ _=>RN.draw [7] [1,2]<|RD.go [1,2] [0,2,5,3] [.own 1]<|RD.cp [1,2] 1 (λ X_=>(tab_13 _))<|RD.cp [1,2] 4 (λ X_=>(un1 a _))<|RD.go [1,2] [6] []<|RD.one 7 (RDO.ev [1,2] [.own 0,.own 0,.own 0,.own 0] λ _=>?_)
              refine RD.go [1,2] [8] []<|RD.fin<|RN.go 1 [] λ _=>RN.ret [.own 0,.own 0,.own 0,.own 0] [] [0] (v:=.tuple #[vI (satI (w64 (0 - a))),.agg #[vI 0,vI 0,vI 0,vI 0],.bool false]) (H':=(ap [] [T])) ?_
              refine ⟨T,rfl,?_⟩
              exact ⟨hM.weak (by omega),rfl⟩
             ·refine RN.go 6 [] λ _=>RN.em (op=17) 41 (λ h15=>?_) λ h15=>?_
              ·subst h15
               refine RN.go 2 [] λ _=>RN.draw [7] [1,2]<|RD.go [1,2] [0,2,5,3] [.own 1]<|RD.cp [1,2] 1 (λ X_=>(tab_17 _))<|RD.cp [1,2] 4 (λ X_=>(un2 a _))<|RD.go [1,2] [6] []<|RD.one 7 (RDO.ev [1,2] [.own 0,.own 0,.own 0,.own 0] λ _=>?_)
               refine RD.go [1,2] [8] []<|RD.fin<|RN.go 1 [] λ _=>RN.ret [.own 0,.own 0,.own 0,.own 0] [] [0] (v:=.tuple #[vI (boolI (decide (a=0))),.agg #[vI 0,vI 0,vI 0,vI 0],.bool false]) (H':=(ap [] [T])) ?_
               refine ⟨T,rfl,?_⟩
               exact ⟨hM.weak (by omega),rfl⟩
              ·refine RN.go 5 [] λ _=>?_
               have h7:op=3 \/ op=4 \/ op=5 \/ op=18 \/ op=19 \/ op=20 \/ op=21:=by omega
               rcases h7 with rfl | rfl | rfl | rfl | rfl | rfl | rfl
               ·refine RN.draw [5,10] []<|RD.go [] [0,2,3,4] (ow 2 16++[.own 1,.own 1,.own 1])<|RD.cp [] 1 (λ X_=>(tab_3 _))<|RD.one 5 (RDO.ct [] [] [0] (oth3 mb M (k+1) T S n a b _ hM hS (hO.1 (by decide)) hl) ?_)
                rintro _ T16 ⟨hM17,rfl⟩
                refine RD.go [] [6,7,8,9] []<|RD.one 10 (RDO.ev [] [.own 0,.own 0,.own 0,.own 0] λ _=>?_)
                refine RD.go [] [11] []<|RD.fin<|RN.go 1 [] λ _=>RN.ret [.own 0,.own 0,.own 0,.own 0] [] [0] (v:=.tuple #[vI 0,.agg #[vI 0,vI 0,vI 0,vI 0],.bool false]) (H':=(ap [] [T16])) ?_
                refine ⟨T16,rfl,?_⟩
                exact ⟨hM17.weak (by omega),rfl⟩
               ·refine RN.draw [5,10] []<|RD.go [] [0,2,3,4] (ow 2 16++[.own 1,.own 1,.own 1])<|RD.cp [] 1 (λ X_=>(tab_4 _))<|RD.one 5 (RDO.ct [] [] [0] (oth4 mb M (k+2) T S n a b _ hM hS (hO.2 (by decide)) hl) ?_)
                rintro _ T18 ⟨hM19,rfl⟩
                refine RD.go [] [6,7,8,9] []<|RD.one 10 (RDO.ev [] [.own 0,.own 0,.own 0,.own 0] λ _=>?_)
                refine RD.go [] [11] []<|RD.fin<|RN.go 1 [] λ _=>RN.ret [.own 0,.own 0,.own 0,.own 0] [] [0] (v:=.tuple #[vI (if bodyAt S a >= 0 then M.get (w64 (bodyAt S a+n)) else 0),.agg #[vI 0,vI 0,vI 0,vI 0],.bool false]) (H':=(ap [] [T18])) ?_
                refine ⟨T18,rfl,?_⟩
                exact ⟨hM19.weak (by omega),rfl⟩
               ·refine RN.draw [5,10] []<|RD.go [] [0,2,3,4] (ow 2 16++[.own 1,.own 1,.own 1])<|RD.cp [] 1 (λ X_=>(tab_5 _))<|RD.one 5 (RDO.ct [] [] [0] (oth5 mb M (k+1) T S n a b _ hM hS (hO.2 (by decide)) hl) ?_)
                rintro _ T20 ⟨hM21,rfl⟩
                refine RD.go [] [6,7,8,9] []<|RD.one 10 (RDO.ev [] [.own 0,.own 0,.own 0,.own 0] λ _=>?_)
                refine RD.go [] [11] []<|RD.fin<|RN.go 1 [] λ _=>RN.ret [.own 0,.own 0,.own 0,.own 0] [] [0] (v:=.tuple #[vI 0,.agg #[vI 0,vI 0,vI 0,vI 0],.bool false]) (H':=(ap [] [T20])) ?_
                refine ⟨T20,rfl,?_⟩
                exact ⟨hM21.weak (by omega),rfl⟩
               ·refine RN.draw [5,10] []<|RD.go [] [0,2,3,4] (ow 2 16++[.own 1,.own 1,.own 1])<|RD.cp [] 1 (λ X_=>(tab_18 _))<|RD.one 5 (RDO.ct [] [] [0] (oth18 mb M (k+1) T S n a b _ hM hS hl) ?_)
                rintro _ T22 ⟨hM23,rfl⟩
                refine RD.go [] [6,7,8,9] []<|RD.one 10 (RDO.ev [] [.own 0,.own 0,.own 0,.own 0] λ _=>?_)
                refine RD.go [] [11] []<|RD.fin<|RN.go 1 [] λ _=>RN.ret [.own 0,.own 0,.own 0,.own 0] [] [0] (v:=.tuple #[vI 0,.agg #[vI 0,vI 0,vI 0,vI 0],.bool false]) (H':=(ap [] [T22])) ?_
                refine ⟨T22,rfl,?_⟩
                exact ⟨hM23.weak (by omega),rfl⟩
               ·refine RN.draw [5,10] []<|RD.go [] [0,2,3,4] (ow 2 16++[.own 1,.own 1,.own 1])<|RD.cp [] 1 (λ X_=>(tab_19 _))<|RD.one 5 (RDO.ct [] [] [0] (oth19 mb M (k+1) T S n a b _ hM hS hl) ?_)
                rintro _ T24 ⟨hM25,rfl⟩
                refine RD.go [] [6,7,8,9] []<|RD.one 10 (RDO.ev [] [.own 0,.own 0,.own 0,.own 0] λ _=>?_)
                refine RD.go [] [11] []<|RD.fin<|RN.go 1 [] λ _=>RN.ret [.own 0,.own 0,.own 0,.own 0] [] [0] (v:=.tuple #[vI 0,.agg #[vI 0,vI 0,vI 0,vI 0],.bool false]) (H':=(ap [] [T24])) ?_
                refine ⟨T24,rfl,?_⟩
                exact ⟨hM25.weak (by omega),rfl⟩
               ·refine RN.draw [5,10] []<|RD.go [] [0,2,3,4] (ow 2 16++[.own 1,.own 1,.own 1])<|RD.cp [] 1 (λ X_=>(tab_20 _))<|RD.one 5 (RDO.ct [] [] [0] (oth20 mb M k T S n a b _ hM hS hl) ?_)
                rintro _ T26 ⟨hM27,rfl⟩
                refine RD.go [] [6,7,8,9] []<|RD.one 10 (RDO.ev [] [.own 0,.own 0,.own 0,.own 0] λ _=>?_)
                refine RD.go [] [11] []<|RD.fin<|RN.go 1 [] λ _=>RN.ret [.own 0,.own 0,.own 0,.own 0] [] [0] (v:=.tuple #[vI 0,.agg #[vI ((emitV a b M).e.t),vI ((emitV a b M).e.i),vI ((emitV a b M).e.k),vI ((emitV a b M).e.v)],.bool ((emitV a b M).em)]) (H':=(ap [] [T26])) ?_
                refine ⟨T26,rfl,?_⟩
                exact ⟨hM27.weak (by omega),rfl⟩
               ·refine RN.draw [5,10] []<|RD.go [] [0,2,3,4] (ow 2 16++[.own 1,.own 1,.own 1])<|RD.cp [] 1 (λ X_=>(tab_21 _))<|RD.one 5 (RDO.ct [] [] [0] (oth21 mb M (k+2) T S n a b _ hM hS hl) ?_)
                rintro _ T28 ⟨hM29,rfl⟩
                refine RD.go [] [6,7,8,9] []<|RD.one 10 (RDO.ev [] [.own 0,.own 0,.own 0,.own 0] λ _=>?_)
                refine RD.go [] [11] []<|RD.fin<|RN.go 1 [] λ _=>RN.ret [.own 0,.own 0,.own 0,.own 0] [] [0] (v:=.tuple #[vI 0,.agg #[vI 0,vI 0,vI 0,vI 0],.bool false]) (H':=(ap [] [T28])) ?_
                refine ⟨T28,rfl,?_⟩
                exact ⟨hM29.weak (by omega),rfl⟩
end Go.Proofs.YtkhifpbokgabbaaGreatDoor
