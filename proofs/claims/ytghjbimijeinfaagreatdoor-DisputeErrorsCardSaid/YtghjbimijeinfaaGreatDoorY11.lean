import Derived.Test.YtghjbimijeinfaaGreatDoorY10
set_option maxHeartbeats 4000000
set_option maxRecDepth 100000
set_option linter.unusedSimpArgs false
set_option linter.unusedVariables false
namespace Go.Proofs.YtghjbimijeinfaaGreatDoor
open Go.RowKit
theorem Kl (mb:Nat) (M:MemS) (k:Nat) (T:HL) (kd v:Int) (F:HL) (hM:MemH mb M (k+2) T) :Sp Tryz.prog 301 #[.iface 40 (vP mb 0),vI kd,vI v] (ap [] [T]) F (λ u H'=>∃ x,H'=ap [] [x] /\ (MemH mb ((cH kd v M).M) k x /\ u=.tuple #[.agg #[vI ((cH kd v M).e.t),vI ((cH kd v M).e.i),vI ((cH kd v M).e.k),vI ((cH kd v M).e.v)],.bool ((cH kd v M).em)])):=by
 refine Sp.run Tryz.func301 rfl mn (A:=[]) (Ts:=[T]) rfl λ w0=>?_
 refine ae 9 [] λ n1=>aj (aw 11 hM (aA 0))<|ae 10 [] λ _=>RN.em (M.get 11 >= 40) 14 (λ h2=>?_) λ h2=>?_
 ·refine ae 8 [.own 0,.own 0,.own 0,.own 0] λ _=>RN.ret [.own 0,.own 0,.own 0,.own 0] [] [0] (v:=.tuple #[.agg #[vI 0,vI 0,vI 0,vI 0],.bool false]) (H':=(ap [] [T])) ?_
  refine ⟨T,rfl,?_⟩
  refine ⟨?_,?_⟩
  ·simp only [cH,if_pos h2];exact hM.weak (by omega)
  ·simp only [cH,if_pos h2]
 ·refine ae 6 [] λ _=>aj (aw 0 hM (aA 0))<|ae 6 [] λ _=>aj (aw 12 hM (aA 0))<|ae 4 [] λ n3=>RN.dn 0 (.rows 1 4 (aL [M.get 12,M.get 0,kd,v]) 3 (0,0))<|aj (pU (⟨#[101,102,102,101,99,116]⟩) ([M.get 12,M.get 0,kd,v]) (n3+0) 4 _ (by decide) (Nat.le_of_ble_eq_true rfl) (Nat.le_of_ble_eq_true rfl) (aB 0))<|ae 9 [] λ _=>RN.ct [] [0] (ai 12 (IntKind.i64.wrap ((tM (⟨#[101,102,102,101,99,116]⟩) ([M.get 12,M.get 0,kd,v])).fdiv 2)) hM) ?_
  rintro _ T4 hM5
  refine ae 7 [] λ _=>RN.ct [] [0] (ai 11 (IntKind.i64.wrap ((M.get 11)+1)) hM5) ?_
  rintro _ T6 hM7
  refine ae 13 [.own 1,.own 1,.own 1,.own 1] λ _=>RN.ret [.own 1,.own 1,.own 1,.own 1] [] [0] (v:=.tuple #[.agg #[vI (M.get 0),vI (M.get 11),vI kd,vI v],.bool true]) (H':=(ap [] [T6])) ?_
  refine ⟨T6,rfl,?_⟩
  refine ⟨?_,?_⟩
  ·simp only [cH,if_neg h2];exact hM7.weak (by omega)
  ·simp only [cH,if_neg h2]
theorem NO (mb:Nat) (M:MemS) (k:Nat) (T:HL) (S:Setup) (n a b:Int) (F:HL) (hM:MemH mb M (k+1) T) (hS:SetN S):Sp Tryz.prog 294 #[.iface 40 (vP mb 0),(Setup.v S),.agg #[vI n,vI a,vI b]] (ap [] [T]) F (λ u H'=>∃ x,H'=ap [] [x] /\ (MemH mb (M.set (aY (32+n)) a) k x /\ u=.tuple #[vI 0,.agg #[vI 0,vI 0,vI 0,vI 0],.bool false])):=by
 have h1:=hS.pl
 have h2:=hS.nb
 refine Sp.run Tryz.func294 rfl mn (A:=[]) (Ts:=[T]) rfl λ w0=>?_
 refine ae 17 [.own 1,.own 1] λ n1=>RN.ct [] [0] (ai (IntKind.i64.wrap (32+n)) a hM) ?_
 rintro _ T2 hM3
 refine ae 10 [.own 0,.own 0,.own 0,.own 0] λ _=>RN.ret [.own 0,.own 0,.own 0,.own 0] [] [0] (v:=.tuple #[vI 0,.agg #[vI 0,vI 0,vI 0,vI 0],.bool false]) (H':=(ap [] [T2])) ?_
 refine ⟨T2,rfl,?_⟩
 refine ⟨?_,?_⟩
 ·first | (simp only [];exact hM3.weak (by omega)) | exact hM3.weak (by omega)
 ·first | rfl | (simp only [];done) | (simp only [];rfl)
theorem NP (mb:Nat) (M:MemS) (k:Nat) (T:HL) (S:Setup) (n a b:Int) (F:HL) (hM:MemH mb M (k+0) T) (hS:SetN S):Sp Tryz.prog 295 #[.iface 40 (vP mb 0),(Setup.v S),.agg #[vI n,vI a,vI b]] (ap [] [T]) F (λ u H'=>∃ x,H'=ap [] [x] /\ (MemH mb (M) k x /\ u=.tuple #[vI (if af S a >= 0 then M.get (aY (af S a+n)) else 0),.agg #[vI 0,vI 0,vI 0,vI 0],.bool false])):=by
 have h1:=hS.pl
 have h2:=hS.nb
 refine Sp.run Tryz.func295 rfl mn (A:=[]) (Ts:=[T]) rfl λ w0=>?_
 refine ae 15 (ow 2 16++[.own 1]) λ n1=>aj (bS S a _ hS) ?_
 have hb2:=cB hS a
 refine ae 9 [] λ _=>RN.em (af S a >= 0) 15 (λ h3=>?_) λ h3=>?_
 ·refine ae 8 [.own 1] λ _=>aj (aw (IntKind.i64.wrap ((af S a)+n)) hM (aA 0))<|ae 6 [.own 0,.own 0,.own 0,.own 0] λ _=>RN.ret [.own 0,.own 0,.own 0,.own 0] [] [0] (v:=.tuple #[vI (M.get (IntKind.i64.wrap ((af S a)+n))),.agg #[vI 0,vI 0,vI 0,vI 0],.bool false]) (H':=(ap [] [T])) ?_
  refine ⟨T,rfl,?_⟩
  refine ⟨?_,?_⟩
  ·first | (simp only [if_pos h3];exact hM.weak (by omega)) | exact hM.weak (by omega)
  ·first | rfl | (simp only [if_pos h3];done) | (simp only [if_pos h3];rfl)
 ·refine ae 11 [.own 0,.own 0,.own 0,.own 0] λ _=>RN.ret [.own 0,.own 0,.own 0,.own 0] [] [0] (v:=.tuple #[vI 0,.agg #[vI 0,vI 0,vI 0,vI 0],.bool false]) (H':=(ap [] [T])) ?_
  refine ⟨T,rfl,?_⟩
  refine ⟨?_,?_⟩
  ·first | (simp only [if_neg h3];exact hM.weak (by omega)) | exact hM.weak (by omega)
  ·first | rfl | (simp only [if_neg h3];done) | (simp only [if_neg h3];rfl)
theorem NQ (mb:Nat) (M:MemS) (k:Nat) (T:HL) (S:Setup) (n a b:Int) (F:HL) (hM:MemH mb M (k+1) T) (hS:SetN S):Sp Tryz.prog 296 #[.iface 40 (vP mb 0),(Setup.v S),.agg #[vI n,vI a,vI b]] (ap [] [T]) F (λ u H'=>∃ x,H'=ap [] [x] /\ (MemH mb (if af S a >= 0 then M.set (aY (af S a+n)) (mU n b) else M) k x /\ u=.tuple #[vI 0,.agg #[vI 0,vI 0,vI 0,vI 0],.bool false])):=by
 have h1:=hS.pl
 have h2:=hS.nb
 refine Sp.run Tryz.func296 rfl mn (A:=[]) (Ts:=[T]) rfl λ w0=>?_
 refine ae 15 (ow 2 16++[.own 1]) λ n1=>aj (bS S a _ hS) ?_
 have hb2:=cB hS a
 refine ae 9 [] λ _=>RN.em (af S a >= 0) 15 (λ h3=>?_) λ h3=>?_
 ·refine ae 1 [] λ _=>RN.draw [13] []<|ag [] [0,1,2,5,7,3,6,8,10,4,11,12] [.own 1,.own 1,.own 1]<|ar [] 9 (λ X_=>(Bn n b  _))<|RD.one 13 (RDO.ct [] [] [0] (ai (IntKind.i64.wrap ((af S a)+n)) (mU n b) hM) ?_)
  rintro _ T4 hM5
  refine RD.fin<|ae 9 [.own 0,.own 0,.own 0,.own 0] λ _=>RN.ret [.own 0,.own 0,.own 0,.own 0] [] [0] (v:=.tuple #[vI 0,.agg #[vI 0,vI 0,vI 0,vI 0],.bool false]) (H':=(ap [] [T4])) ?_
  refine ⟨T4,rfl,?_⟩
  refine ⟨?_,?_⟩
  ·first | (simp only [if_pos h3];exact hM5.weak (by omega)) | exact hM5.weak (by omega)
  ·first | rfl | (simp only [if_pos h3];done) | (simp only [if_pos h3];rfl)
 ·refine ae 11 [.own 0,.own 0,.own 0,.own 0] λ _=>RN.ret [.own 0,.own 0,.own 0,.own 0] [] [0] (v:=.tuple #[vI 0,.agg #[vI 0,vI 0,vI 0,vI 0],.bool false]) (H':=(ap [] [T])) ?_
  refine ⟨T,rfl,?_⟩
  refine ⟨?_,?_⟩
  ·first | (simp only [if_neg h3];exact hM.weak (by omega)) | exact hM.weak (by omega)
  ·first | rfl | (simp only [if_neg h3];done) | (simp only [if_neg h3];rfl)
theorem Mj (mb:Nat) (M:MemS) (k:Nat) (T:HL) (S:Setup) (n a b:Int) (F:HL) (hM:MemH mb M (k+1) T) (hS:SetN S):Sp Tryz.prog 298 #[.iface 40 (vP mb 0),(Setup.v S),.agg #[vI n,vI a,vI b]] (ap [] [T]) F (λ u H'=>∃ x,H'=ap [] [x] /\ (MemH mb (M.set 6 n) k x /\ u=.tuple #[vI 0,.agg #[vI 0,vI 0,vI 0,vI 0],.bool false])):=by
 have h1:=hS.pl
 have h2:=hS.nb
 refine Sp.run Tryz.func298 rfl mn (A:=[]) (Ts:=[T]) rfl λ w0=>?_
 refine ae 14 [.own 1] λ n1=>RN.ct [] [0] (ai 6 n hM) ?_
 rintro _ T2 hM3
 refine ae 10 [.own 0,.own 0,.own 0,.own 0] λ _=>RN.ret [.own 0,.own 0,.own 0,.own 0] [] [0] (v:=.tuple #[vI 0,.agg #[vI 0,vI 0,vI 0,vI 0],.bool false]) (H':=(ap [] [T2])) ?_
 refine ⟨T2,rfl,?_⟩
 refine ⟨?_,?_⟩
 ·first | (simp only [];exact hM3.weak (by omega)) | exact hM3.weak (by omega)
 ·first | rfl | (simp only [];done) | (simp only [];rfl)
theorem Ml (mb:Nat) (M:MemS) (k:Nat) (T:HL) (S:Setup) (n a b:Int) (F:HL) (hM:MemH mb M (k+1) T) (hS:SetN S):Sp Tryz.prog 299 #[.iface 40 (vP mb 0),(Setup.v S),.agg #[vI n,vI a,vI b]] (ap [] [T]) F (λ u H'=>∃ x,H'=ap [] [x] /\ (MemH mb (if a=0 then M.set 6 n else M) k x /\ u=.tuple #[vI 0,.agg #[vI 0,vI 0,vI 0,vI 0],.bool false])):=by
 have h1:=hS.pl
 have h2:=hS.nb
 refine Sp.run Tryz.func299 rfl mn (A:=[]) (Ts:=[T]) rfl λ w0=>?_
 refine ae 17 [.own 1] λ n1=>RN.em (a=0) 11 (λ h2=>?_) λ h2=>?_
 ·refine ae 5 [.own 1] λ _=>RN.ct [] [0] (ai 6 n hM) ?_
  rintro _ T3 hM4
  refine ae 10 [.own 0,.own 0,.own 0,.own 0] λ _=>RN.ret [.own 0,.own 0,.own 0,.own 0] [] [0] (v:=.tuple #[vI 0,.agg #[vI 0,vI 0,vI 0,vI 0],.bool false]) (H':=(ap [] [T3])) ?_
  refine ⟨T3,rfl,?_⟩
  refine ⟨?_,?_⟩
  ·first | (simp only [if_pos h2];exact hM4.weak (by omega)) | exact hM4.weak (by omega)
  ·first | rfl | (simp only [if_pos h2];done) | (simp only [if_pos h2];rfl)
 ·refine ae 11 [.own 0,.own 0,.own 0,.own 0] λ _=>RN.ret [.own 0,.own 0,.own 0,.own 0] [] [0] (v:=.tuple #[vI 0,.agg #[vI 0,vI 0,vI 0,vI 0],.bool false]) (H':=(ap [] [T])) ?_
  refine ⟨T,rfl,?_⟩
  refine ⟨?_,?_⟩
  ·first | (simp only [if_neg h2];exact hM.weak (by omega)) | exact hM.weak (by omega)
  ·first | rfl | (simp only [if_neg h2];done) | (simp only [if_neg h2];rfl)
theorem Mm (mb:Nat) (M:MemS) (k:Nat) (T:HL) (S:Setup) (n a b:Int) (F:HL) (hM:MemH mb M (k+2) T) (hS:SetN S):Sp Tryz.prog 300 #[.iface 40 (vP mb 0),(Setup.v S),.agg #[vI n,vI a,vI b]] (ap [] [T]) F (λ u H'=>∃ x,H'=ap [] [x] /\ (MemH mb ((cH a b M).M) k x /\ u=.tuple #[vI 0,.agg #[vI ((cH a b M).e.t),vI ((cH a b M).e.i),vI ((cH a b M).e.k),vI ((cH a b M).e.v)],.bool ((cH a b M).em)])):=by
 have h1:=hS.pl
 have h2:=hS.nb
 refine Sp.run Tryz.func300 rfl mn (A:=[]) (Ts:=[T]) rfl λ w0=>?_
 refine ae 16 [.own 1,.own 1] λ n1=>RN.ct [] [0] (Kl mb M k T a b _ hM) ?_
 rintro _ T2 ⟨hM3,rfl⟩
 refine ae 9 [.own 0,.own 0,.own 0,.own 0] λ n4=>RN.draw [3] [0,2,3]<|ag [0,2,3] [0,1,2] [.own 0,.own 0,.own 0,.own 0]<|RD.one 3 (RDO.ev [0,2,3] [.own 1,.own 1,.own 1,.own 1] λ _=>?_)
 refine ag [0,2,3] [4] []<|RD.fin<|ae 1 [] λ _=>RN.ret [.own 1,.own 1,.own 1,.own 1] [] [0] (v:=.tuple #[vI 0,.agg #[vI ((cH a b M).e.t),vI ((cH a b M).e.i),vI ((cH a b M).e.k),vI ((cH a b M).e.v)],.bool ((cH a b M).em)]) (H':=(ap [] [T2])) ?_
 refine ⟨T2,rfl,?_⟩
 refine ⟨?_,?_⟩
 ·first | (simp only [];exact hM3.weak (by omega)) | exact hM3.weak (by omega)
 ·first | rfl | (simp only [];done) | (simp only [];rfl)
theorem Mn (mb:Nat) (M:MemS) (k:Nat) (T:HL) (S:Setup) (n a b:Int) (F:HL) (hM:MemH mb M (k+0) T) (hS:SetN S):Sp Tryz.prog 302 #[.iface 40 (vP mb 0),(Setup.v S),.agg #[vI n,vI a,vI b]] (ap [] [T]) F (λ u H'=>∃ x,H'=ap [] [x] /\ (MemH mb (M) k x /\ u=.tuple #[vI 0,.agg #[vI 0,vI 0,vI 0,vI 0],.bool false])):=by
 have h1:=hS.pl
 have h2:=hS.nb
 refine Sp.run Tryz.func302 rfl mn (A:=[]) (Ts:=[T]) rfl λ w0=>?_
 refine ae 17 [.own 0,.own 0,.own 0,.own 0] λ n1=>RN.ret [.own 0,.own 0,.own 0,.own 0] [] [0] (v:=.tuple #[vI 0,.agg #[vI 0,vI 0,vI 0,vI 0],.bool false]) (H':=(ap [] [T])) ?_
 refine ⟨T,rfl,?_⟩
 refine ⟨?_,?_⟩
 ·first | (simp only [];exact hM.weak (by omega)) | exact hM.weak (by omega)
 ·first | rfl | (simp only [];done) | (simp only [];rfl)
theorem jo (mb:Nat) (M:MemS) (k:Nat) (T:HL) (S:Setup) (op n a b:Int) (F:HL) (hM:MemH mb M (k+2) T) (hS:SetN S) (ho:1 <= op /\ op <= 21):Sp Tryz.prog 201 #[vI op,.iface 40 (vP mb 0),(Setup.v S),.agg #[vI n,vI a,vI b]] (ap [] [T]) F (λ u H'=>∃ x,H'=ap [] [x] /\ (MemH mb ((aD S op n a b M).M) k x /\ u=.tuple #[vI ((aD S op n a b M).v),.agg #[vI ((aD S op n a b M).e.t),vI ((aD S op n a b M).e.i),vI ((aD S op n a b M).e.k),vI ((aD S op n a b M).e.v)],.bool ((aD S op n a b M).em)])):=by
 refine Sp.run Tryz.func201 rfl mn (A:=[]) (Ts:=[T]) rfl λ w0=>?_
 refine ae 23 [] λ n1=>RN.em (op=1) 12 (λ h2=>?_) λ h2=>?_
 ·subst h2
  refine ae 5 [] λ _=>RN.draw [8] [1,2]<|ag [1,2] [0,2,3,6,4] [.own 1]<|ar [1,2] 1 (λ X_=>(Ma _))<|ar [1,2] 5 (λ X_=>(ld1 mb M _ T n _ hM (aR 0)))<|ag [1,2] [7] []<|RD.one 8 (RDO.ev [1,2] [.own 0,.own 0,.own 0,.own 0] λ _=>?_)
  refine ag [1,2] [9] []<|RD.fin<|ae 1 [] λ _=>RN.ret [.own 0,.own 0,.own 0,.own 0] [] [0] (v:=.tuple #[vI n,.agg #[vI 0,vI 0,vI 0,vI 0],.bool false]) (H':=(ap [] [T])) ?_
  refine ⟨T,rfl,?_⟩
  exact ⟨hM.weak (by omega),rfl⟩
 ·refine ae 7 [] λ _=>RN.em (op=2) 12 (λ h3=>?_) λ h3=>?_
  ·subst h3
   refine ae 5 [] λ _=>RN.draw [8] [1,2]<|ag [1,2] [0,2,3,6,4] [.own 1]<|ar [1,2] 1 (λ X_=>(Mb _))<|ar [1,2] 5 (λ X_=>(ld2 mb M _ T n _ hM (aR 0)))<|ag [1,2] [7] []<|RD.one 8 (RDO.ev [1,2] [.own 0,.own 0,.own 0,.own 0] λ _=>?_)
   refine ag [1,2] [9] []<|RD.fin<|ae 1 [] λ _=>RN.ret [.own 0,.own 0,.own 0,.own 0] [] [0] (v:=.tuple #[vI (M.get (aY (32+n))),.agg #[vI 0,vI 0,vI 0,vI 0],.bool false]) (H':=(ap [] [T])) ?_
   refine ⟨T,rfl,?_⟩
   exact ⟨hM.weak (by omega),rfl⟩
  ·refine ae 7 [] λ _=>RN.em (op=6) 12 (λ h4=>?_) λ h4=>?_
   ·subst h4
    refine ae 5 [] λ _=>RN.draw [8] [1,2]<|ag [1,2] [0,2,3,6,4] [.own 1]<|ar [1,2] 1 (λ X_=>(Mc _))<|ar [1,2] 5 (λ X_=>(ld3 mb M _ T n _ hM (aR 0)))<|ag [1,2] [7] []<|RD.one 8 (RDO.ev [1,2] [.own 0,.own 0,.own 0,.own 0] λ _=>?_)
    refine ag [1,2] [9] []<|RD.fin<|ae 1 [] λ _=>RN.ret [.own 0,.own 0,.own 0,.own 0] [] [0] (v:=.tuple #[vI (M.get 9),.agg #[vI 0,vI 0,vI 0,vI 0],.bool false]) (H':=(ap [] [T])) ?_
    refine ⟨T,rfl,?_⟩
    exact ⟨hM.weak (by omega),rfl⟩
   ·refine ae 7 [] λ _=>RN.em (op=7) 12 (λ h5=>?_) λ h5=>?_
    ·subst h5
     refine ae 5 [] λ _=>RN.draw [8] [1,2]<|ag [1,2] [0,2,3,6,4] [.own 1]<|ar [1,2] 1 (λ X_=>(Md _))<|ar [1,2] 5 (λ X_=>(ld4 mb M _ T n _ hM (aR 0)))<|ag [1,2] [7] []<|RD.one 8 (RDO.ev [1,2] [.own 0,.own 0,.own 0,.own 0] λ _=>?_)
     refine ag [1,2] [9] []<|RD.fin<|ae 1 [] λ _=>RN.ret [.own 0,.own 0,.own 0,.own 0] [] [0] (v:=.tuple #[vI (M.get 10),.agg #[vI 0,vI 0,vI 0,vI 0],.bool false]) (H':=(ap [] [T])) ?_
     refine ⟨T,rfl,?_⟩
     exact ⟨hM.weak (by omega),rfl⟩
    ·refine ae 6 [] λ _=>RN.em (op=8) 12 (λ h6=>?_) λ h6=>?_
     ·subst h6
      refine ae 2 [] λ _=>RN.draw [8] [1,2]<|ag [1,2] [0,2,3,6,4] [.own 1]<|ar [1,2] 1 (λ X_=>(Me _))<|ar [1,2] 5 (λ X_=>(ld5 mb M _ T n _ hM (aR 0)))<|ag [1,2] [7] []<|RD.one 8 (RDO.ev [1,2] [.own 0,.own 0,.own 0,.own 0] λ _=>?_)
      refine ag [1,2] [9] []<|RD.fin<|ae 1 [] λ _=>RN.ret [.own 0,.own 0,.own 0,.own 0] [] [0] (v:=.tuple #[vI (M.get 0),.agg #[vI 0,vI 0,vI 0,vI 0],.bool false]) (H':=(ap [] [T])) ?_
      refine ⟨T,rfl,?_⟩
      exact ⟨hM.weak (by omega),rfl⟩
     ·refine ae 8 [] λ _=>RN.em (op=9) 25 (λ h7=>?_) λ h7=>?_
      ·subst h7
       refine ae 5 [] λ _=>RN.draw [9] [1,2]<|ag [1,2] [0,2,4,7,3,5] [.own 1,.own 1]<|ar [1,2] 1 (λ X_=>(Mf _))<|ar [1,2] 6 (λ X_=>(NH a b _))<|ag [1,2] [8] []<|RD.one 9 (RDO.ev [1,2] [.own 0,.own 0,.own 0,.own 0] λ _=>?_)
       refine ag [1,2] [10] []<|RD.fin<|ae 1 [] λ _=>RN.ret [.own 0,.own 0,.own 0,.own 0] [] [0] (v:=.tuple #[vI (kF (aY (a+b))),.agg #[vI 0,vI 0,vI 0,vI 0],.bool false]) (H':=(ap [] [T])) ?_
       refine ⟨T,rfl,?_⟩
       exact ⟨hM.weak (by omega),rfl⟩
      ·refine ae 7 [] λ _=>RN.em (op=10) 25 (λ h8=>?_) λ h8=>?_
       ·subst h8
        refine ae 5 [] λ _=>RN.draw [9] [1,2]<|ag [1,2] [0,2,4,7,3,5] [.own 1,.own 1]<|ar [1,2] 1 (λ X_=>(J8 _))<|ar [1,2] 6 (λ X_=>(NI a b _))<|ag [1,2] [8] []<|RD.one 9 (RDO.ev [1,2] [.own 0,.own 0,.own 0,.own 0] λ _=>?_)
        refine ag [1,2] [10] []<|RD.fin<|ae 1 [] λ _=>RN.ret [.own 0,.own 0,.own 0,.own 0] [] [0] (v:=.tuple #[vI (kF (aY (a - b))),.agg #[vI 0,vI 0,vI 0,vI 0],.bool false]) (H':=(ap [] [T])) ?_
        refine ⟨T,rfl,?_⟩
        exact ⟨hM.weak (by omega),rfl⟩
       ·refine ae 7 [] λ _=>RN.em (op=11) 25 (λ h9=>?_) λ h9=>?_
        ·subst h9
         refine ae 5 [] λ _=>RN.draw [9] [1,2]<|ag [1,2] [0,2,4,7,3,5] [.own 1,.own 1]<|ar [1,2] 1 (λ X_=>(J9 _))<|ar [1,2] 6 (λ X_=>(NJ a b _))<|ag [1,2] [8] []<|RD.one 9 (RDO.ev [1,2] [.own 0,.own 0,.own 0,.own 0] λ _=>?_)
         refine ag [1,2] [10] []<|RD.fin<|ae 1 [] λ _=>RN.ret [.own 0,.own 0,.own 0,.own 0] [] [0] (v:=.tuple #[vI (kF (aY (a * b))),.agg #[vI 0,vI 0,vI 0,vI 0],.bool false]) (H':=(ap [] [T])) ?_
         refine ⟨T,rfl,?_⟩
         exact ⟨hM.weak (by omega),rfl⟩
        ·refine ae 7 [] λ _=>RN.em (op=12) 25 (λ h10=>?_) λ h10=>?_
         ·subst h10
          refine ae 5 [] λ _=>RN.draw [9] [1,2]<|ag [1,2] [0,2,4,7,3,5] [.own 1,.own 1]<|ar [1,2] 1 (λ X_=>(Ka _))<|ar [1,2] 6 (λ X_=>(NK a b _))<|ag [1,2] [8] []<|RD.one 9 (RDO.ev [1,2] [.own 0,.own 0,.own 0,.own 0] λ _=>?_)
          refine ag [1,2] [10] []<|RD.fin<|ae 1 [] λ _=>RN.ret [.own 0,.own 0,.own 0,.own 0] [] [0] (v:=.tuple #[vI (if b=0 then 0 else kF (aY (a.tdiv b))),.agg #[vI 0,vI 0,vI 0,vI 0],.bool false]) (H':=(ap [] [T])) ?_
          refine ⟨T,rfl,?_⟩
          exact ⟨hM.weak (by omega),rfl⟩
         ·refine ae 7 [] λ _=>RN.em (op=14) 25 (λ h11=>?_) λ h11=>?_
          ·subst h11
           refine ae 5 [] λ _=>RN.draw [9] [1,2]<|ag [1,2] [0,2,4,7,3,5] [.own 1,.own 1]<|ar [1,2] 1 (λ X_=>(Kb _))<|ar [1,2] 6 (λ X_=>(NL a b _))<|ag [1,2] [8] []<|RD.one 9 (RDO.ev [1,2] [.own 0,.own 0,.own 0,.own 0] λ _=>?_)
           refine ag [1,2] [10] []<|RD.fin<|ae 1 [] λ _=>RN.ret [.own 0,.own 0,.own 0,.own 0] [] [0] (v:=.tuple #[vI (gq (decide (a < b))),.agg #[vI 0,vI 0,vI 0,vI 0],.bool false]) (H':=(ap [] [T])) ?_
           refine ⟨T,rfl,?_⟩
           exact ⟨hM.weak (by omega),rfl⟩
          ·refine ae 7 [] λ _=>RN.em (op=15) 25 (λ h12=>?_) λ h12=>?_
           ·subst h12
            refine ae 5 [] λ _=>RN.draw [9] [1,2]<|ag [1,2] [0,2,4,7,3,5] [.own 1,.own 1]<|ar [1,2] 1 (λ X_=>(Kd _))<|ar [1,2] 6 (λ X_=>(NM a b _))<|ag [1,2] [8] []<|RD.one 9 (RDO.ev [1,2] [.own 0,.own 0,.own 0,.own 0] λ _=>?_)
            refine ag [1,2] [10] []<|RD.fin<|ae 1 [] λ _=>RN.ret [.own 0,.own 0,.own 0,.own 0] [] [0] (v:=.tuple #[vI (gq (decide (a <= b))),.agg #[vI 0,vI 0,vI 0,vI 0],.bool false]) (H':=(ap [] [T])) ?_
            refine ⟨T,rfl,?_⟩
            exact ⟨hM.weak (by omega),rfl⟩
           ·refine ae 6 [] λ _=>RN.em (op=16) 25 (λ h13=>?_) λ h13=>?_
            ·subst h13
             refine ae 2 [] λ _=>RN.draw [9] [1,2]<|ag [1,2] [0,2,4,7,3,5] [.own 1,.own 1]<|ar [1,2] 1 (λ X_=>(Ke _))<|ar [1,2] 6 (λ X_=>(NN a b _))<|ag [1,2] [8] []<|RD.one 9 (RDO.ev [1,2] [.own 0,.own 0,.own 0,.own 0] λ _=>?_)
             refine ag [1,2] [10] []<|RD.fin<|ae 1 [] λ _=>RN.ret [.own 0,.own 0,.own 0,.own 0] [] [0] (v:=.tuple #[vI (gq (decide (a=b))),.agg #[vI 0,vI 0,vI 0,vI 0],.bool false]) (H':=(ap [] [T])) ?_
             refine ⟨T,rfl,?_⟩
             exact ⟨hM.weak (by omega),rfl⟩
            ·refine ae 8 [] λ _=>RN.em (op=13) 41 (λ h14=>?_) λ h14=>?_
             ·subst h14
              refine ae 5 [] λ _=>RN.draw [7] [1,2]<|ag [1,2] [0,2,5,3] [.own 1]<|ar [1,2] 1 (λ X_=>(Kf _))<|ar [1,2] 4 (λ X_=>(un1 a _))<|ag [1,2] [6] []<|RD.one 7 (RDO.ev [1,2] [.own 0,.own 0,.own 0,.own 0] λ _=>?_)
              refine ag [1,2] [8] []<|RD.fin<|ae 1 [] λ _=>RN.ret [.own 0,.own 0,.own 0,.own 0] [] [0] (v:=.tuple #[vI (kF (aY (0 - a))),.agg #[vI 0,vI 0,vI 0,vI 0],.bool false]) (H':=(ap [] [T])) ?_
              refine ⟨T,rfl,?_⟩
              exact ⟨hM.weak (by omega),rfl⟩
             ·refine ae 6 [] λ _=>RN.em (op=17) 41 (λ h15=>?_) λ h15=>?_
              ·subst h15
               refine ae 2 [] λ _=>RN.draw [7] [1,2]<|ag [1,2] [0,2,5,3] [.own 1]<|ar [1,2] 1 (λ X_=>(Kg _))<|ar [1,2] 4 (λ X_=>(un2 a _))<|ag [1,2] [6] []<|RD.one 7 (RDO.ev [1,2] [.own 0,.own 0,.own 0,.own 0] λ _=>?_)
               refine ag [1,2] [8] []<|RD.fin<|ae 1 [] λ _=>RN.ret [.own 0,.own 0,.own 0,.own 0] [] [0] (v:=.tuple #[vI (gq (decide (a=0))),.agg #[vI 0,vI 0,vI 0,vI 0],.bool false]) (H':=(ap [] [T])) ?_
               refine ⟨T,rfl,?_⟩
               exact ⟨hM.weak (by omega),rfl⟩
              ·refine ae 5 [] λ _=>?_
               have h7:op=3 \/ op=4 \/ op=5 \/ op=18 \/ op=19 \/ op=20 \/ op=21:=by omega
               rcases h7 with rfl | rfl | rfl | rfl | rfl | rfl | rfl
               ·refine RN.draw [5,10] []<|ag [] [0,2,3,4] (ow 2 16++[.own 1,.own 1,.own 1])<|ar [] 1 (λ X_=>(Mg _))<|RD.one 5 (RDO.ct [] [] [0] (NO mb M (k+1) T S n a b _ hM hS) ?_)
                rintro _ T16 ⟨hM17,rfl⟩
                refine ag [] [6,7,8,9] []<|RD.one 10 (RDO.ev [] [.own 0,.own 0,.own 0,.own 0] λ _=>?_)
                refine ag [] [11] []<|RD.fin<|ae 1 [] λ _=>RN.ret [.own 0,.own 0,.own 0,.own 0] [] [0] (v:=.tuple #[vI 0,.agg #[vI 0,vI 0,vI 0,vI 0],.bool false]) (H':=(ap [] [T16])) ?_
                refine ⟨T16,rfl,?_⟩
                exact ⟨hM17.weak (by omega),rfl⟩
               ·refine RN.draw [5,10] []<|ag [] [0,2,3,4] (ow 2 16++[.own 1,.own 1,.own 1])<|ar [] 1 (λ X_=>(Mh _))<|RD.one 5 (RDO.ct [] [] [0] (NP mb M (k+2) T S n a b _ hM hS) ?_)
                rintro _ T18 ⟨hM19,rfl⟩
                refine ag [] [6,7,8,9] []<|RD.one 10 (RDO.ev [] [.own 0,.own 0,.own 0,.own 0] λ _=>?_)
                refine ag [] [11] []<|RD.fin<|ae 1 [] λ _=>RN.ret [.own 0,.own 0,.own 0,.own 0] [] [0] (v:=.tuple #[vI (if af S a >= 0 then M.get (aY (af S a+n)) else 0),.agg #[vI 0,vI 0,vI 0,vI 0],.bool false]) (H':=(ap [] [T18])) ?_
                refine ⟨T18,rfl,?_⟩
                exact ⟨hM19.weak (by omega),rfl⟩
               ·refine RN.draw [5,10] []<|ag [] [0,2,3,4] (ow 2 16++[.own 1,.own 1,.own 1])<|ar [] 1 (λ X_=>(Mi _))<|RD.one 5 (RDO.ct [] [] [0] (NQ mb M (k+1) T S n a b _ hM hS) ?_)
                rintro _ T20 ⟨hM21,rfl⟩
                refine ag [] [6,7,8,9] []<|RD.one 10 (RDO.ev [] [.own 0,.own 0,.own 0,.own 0] λ _=>?_)
                refine ag [] [11] []<|RD.fin<|ae 1 [] λ _=>RN.ret [.own 0,.own 0,.own 0,.own 0] [] [0] (v:=.tuple #[vI 0,.agg #[vI 0,vI 0,vI 0,vI 0],.bool false]) (H':=(ap [] [T20])) ?_
                refine ⟨T20,rfl,?_⟩
                exact ⟨hM21.weak (by omega),rfl⟩
               ·refine RN.draw [5,10] []<|ag [] [0,2,3,4] (ow 2 16++[.own 1,.own 1,.own 1])<|ar [] 1 (λ X_=>(Kh _))<|RD.one 5 (RDO.ct [] [] [0] (Mj mb M (k+1) T S n a b _ hM hS) ?_)
                rintro _ T22 ⟨hM23,rfl⟩
                refine ag [] [6,7,8,9] []<|RD.one 10 (RDO.ev [] [.own 0,.own 0,.own 0,.own 0] λ _=>?_)
                refine ag [] [11] []<|RD.fin<|ae 1 [] λ _=>RN.ret [.own 0,.own 0,.own 0,.own 0] [] [0] (v:=.tuple #[vI 0,.agg #[vI 0,vI 0,vI 0,vI 0],.bool false]) (H':=(ap [] [T22])) ?_
                refine ⟨T22,rfl,?_⟩
                exact ⟨hM23.weak (by omega),rfl⟩
               ·refine RN.draw [5,10] []<|ag [] [0,2,3,4] (ow 2 16++[.own 1,.own 1,.own 1])<|ar [] 1 (λ X_=>(Ki _))<|RD.one 5 (RDO.ct [] [] [0] (Ml mb M (k+1) T S n a b _ hM hS) ?_)
                rintro _ T24 ⟨hM25,rfl⟩
                refine ag [] [6,7,8,9] []<|RD.one 10 (RDO.ev [] [.own 0,.own 0,.own 0,.own 0] λ _=>?_)
                refine ag [] [11] []<|RD.fin<|ae 1 [] λ _=>RN.ret [.own 0,.own 0,.own 0,.own 0] [] [0] (v:=.tuple #[vI 0,.agg #[vI 0,vI 0,vI 0,vI 0],.bool false]) (H':=(ap [] [T24])) ?_
                refine ⟨T24,rfl,?_⟩
                exact ⟨hM25.weak (by omega),rfl⟩
               ·refine RN.draw [5,10] []<|ag [] [0,2,3,4] (ow 2 16++[.own 1,.own 1,.own 1])<|ar [] 1 (λ X_=>(Kj _))<|RD.one 5 (RDO.ct [] [] [0] (Mm mb M k T S n a b _ hM hS) ?_)
                rintro _ T26 ⟨hM27,rfl⟩
                refine ag [] [6,7,8,9] []<|RD.one 10 (RDO.ev [] [.own 0,.own 0,.own 0,.own 0] λ _=>?_)
                refine ag [] [11] []<|RD.fin<|ae 1 [] λ _=>RN.ret [.own 0,.own 0,.own 0,.own 0] [] [0] (v:=.tuple #[vI 0,.agg #[vI ((cH a b M).e.t),vI ((cH a b M).e.i),vI ((cH a b M).e.k),vI ((cH a b M).e.v)],.bool ((cH a b M).em)]) (H':=(ap [] [T26])) ?_
                refine ⟨T26,rfl,?_⟩
                exact ⟨hM27.weak (by omega),rfl⟩
               ·refine RN.draw [5,10] []<|ag [] [0,2,3,4] (ow 2 16++[.own 1,.own 1,.own 1])<|ar [] 1 (λ X_=>(Kk _))<|RD.one 5 (RDO.ct [] [] [0] (Mn mb M (k+2) T S n a b _ hM hS) ?_)
                rintro _ T28 ⟨hM29,rfl⟩
                refine ag [] [6,7,8,9] []<|RD.one 10 (RDO.ev [] [.own 0,.own 0,.own 0,.own 0] λ _=>?_)
                refine ag [] [11] []<|RD.fin<|ae 1 [] λ _=>RN.ret [.own 0,.own 0,.own 0,.own 0] [] [0] (v:=.tuple #[vI 0,.agg #[vI 0,vI 0,vI 0,vI 0],.bool false]) (H':=(ap [] [T28])) ?_
                refine ⟨T28,rfl,?_⟩
                exact ⟨hM29.weak (by omega),rfl⟩
end Go.Proofs.YtghjbimijeinfaaGreatDoor
