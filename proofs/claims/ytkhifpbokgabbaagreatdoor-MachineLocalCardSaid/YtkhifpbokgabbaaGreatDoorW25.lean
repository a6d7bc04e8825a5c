import Derived.Test.YtkhifpbokgabbaaGreatDoorW24
set_option maxHeartbeats 4000000
set_option maxRecDepth 100000
set_option linter.unusedSimpArgs false
set_option linter.unusedVariables false
namespace Go.Proofs.YtkhifpbokgabbaaGreatDoor
open Go.RowKit
theorem NdH.three {x y z:Nd} {T U V:HL} (h:NdH x T) (h2:NdH y U) (h3:NdH z V) {k n:Int} {s:ByteArray} {q c:Nat}:NdH (.mk k n s (some ⟨q,0,none⟩) c [x,y,z]) ((q,.rows 4 3 (nrow [x,y,z]) 70 (0,0)) :: (V++(U++T))):=λ F hF =>
 .node k n s q 3 c [x,y,z] [] (hF _ (by simp)) (Nat.le_refl _) λ w hw=>by
  simp only [List.mem_cons,List.not_mem_nil,or_false] at hw
  rcases hw with rfl | rfl | rfl
  ·exact h F λ z hz=>hF z (by simp [hz])
  ·exact h2 F λ z hz=>hF z (by simp [hz])
  ·exact h3 F λ z hz=>hF z (by simp [hz])
theorem stm_step (g c i n:Nat) (A:Option Addr) (d:Int) (hd:-10 <= d /\ d <= 1000) (hi:i <= n) (hn:n <= 60) (F:HL) (hG:GIn F A n) (ih:0 < d -> ∀ (i:Nat) (F:HL),i <= n -> GIn F A n -> GenS 42 #[vP g 0,vI (d - 1),vI 2] (Ht (2 * (d - 1).toNat+6)) g c n A i F):Sp Tryz.prog 67 #[vP g 0,vI d] [(g,.lit [.slice A n c,vI (i:Int)] 113 (0,0))] F (λ u H'=>∃ x:Nd × Nat × HL,H'=ap [(g,.lit [.slice A n c,vI (x.2.1:Int)] 113 (0,0))] [x.2.2] /\ (u=ndV x.1 /\ x.2.1 <= n /\ Ht (2 * d.toNat+5) x.1 /\ NdH x.1 x.2.2)):=by
 refine Sp.run Tryz.func67 rfl mn (A:=[(g,.lit [.slice A n c,vI (i:Int)] 113 (0,0))]) (Ts:=[]) rfl λ w0=>?_
 refine RN.go 8 [] λ n1=>RN.ct [1] [] (pick_any g c i n A 10 (by omega) (by omega) hn _ hG.up) ?_
 rintro _ ⟨k2,i3⟩ ⟨rfl,hk4,hi5⟩
 dsimp only at hk4 hi5
 refine RN.go 10 [] λ _=>RN.em (d <= 0) 16 (λ h6=>?_) λ h6=>?_
 ·refine RN.goP 21 [.nw] [0 <= (k2:Int) /\ (0:Int) < 7 /\ (k2:Int) <= 9223372036854775807] λ _=>RN.em ((k2:Int) % 7=0) 20 (λ h7=>?_) λ h7=>?_
  ·refine RN.go 5 [] λ _=>RN.draw [2,6,7,8] []<|RD.go [] [1,5] []<|RD.two 0 2 ?_ ?_
   ·refine RDO.ev [] [] λ n9=>RD.one 2 (RDO.ct [] [1] [] (pick_any g c i3 n A 4 (by omega) (by omega) hn _ hG.up) ?_)
    rintro _ ⟨k10,i11⟩ ⟨rfl,hk12,hi13⟩
    dsimp only at hk12 hi13
    refine RD.dn 1 (.rows 1 4 (strow vsL) 9 (0,0))<|RD.goP [] [3] [.ix k10] [(k10:Int)=((k10:Nat):Int) /\ k10 < 4]<|RD.two 4 6 ?_ ?_
    ·refine RDO.evP [] [.row 1 k10 0] [(0+k10 * 1)=k10 * 1+0 /\ k10 < 4] λ _=>RD.one 6 (RDO.ct [] [0] [] (int_any (g:=g) (c:=c) hn 1000 2 (by omega) (by omega) (by omega) i11 _ (by omega) hG.up) ?_)
     rintro _ ⟨x14,i15,T16⟩ ⟨rfl,hi17,hg18,hT19⟩
     dsimp only at hi17 hg18 hT19
     refine RD.one 7 (RDO.ct [] (Hp:=[]) (Tp:=[]) [] [] (one_any 1 (vsL.getD k10 ⟨#[]⟩) x14 _) ?_)
     rintro _ q20 rfl
     refine RD.one 8 (RDO.ev [] [.own 3,.own 3,.own 3,.own 3] λ _=>?_)
     refine RD.fin<|RN.go 1 [] λ _=>RN.ret [.own 3,.own 3,.own 3,.own 3] [1,0] [0] (v:=.agg #[vI 1,vI 0,.string (vsL.getD k10 ⟨#[]⟩),vS q20 0 1 1]) (H':=(ap [(g,.lit [.slice A n c,vI (i15:Int)] 113 (0,0)),(q20,.rows 4 1 (nrow [x14]) 70 (0,0))] [T16])) ?_
     exact ⟨(.mk 1 0 (vsL.getD k10 ⟨#[]⟩) (some ⟨q20,0,none⟩) 1 [x14],i15,(q20,.rows 4 1 (nrow [x14]) 70 (0,0)) :: (T16)),(by simp [ap]),rfl,(by dsimp only;omega),.one hg18 (by omega),.one hT19⟩
    ·refine RDO.ct [] [0] [] (int_any (g:=g) (c:=c) hn 1000 2 (by omega) (by omega) (by omega) i11 _ (by omega) hG.up) ?_
     rintro _ ⟨x21,i22,T23⟩ ⟨rfl,hi24,hg25,hT26⟩
     dsimp only at hi24 hg25 hT26
     refine RD.one 4 (RDO.evP [] [.row 1 k10 0] [(0+k10 * 1)=k10 * 1+0 /\ k10 < 4] λ _=>?_)
     refine RD.one 7 (RDO.ct [] (Hp:=[]) (Tp:=[]) [] [] (one_any 1 (vsL.getD k10 ⟨#[]⟩) x21 _) ?_)
     rintro _ q27 rfl
     refine RD.one 8 (RDO.ev [] [.own 3,.own 3,.own 3,.own 3] λ _=>?_)
     refine RD.fin<|RN.go 1 [] λ _=>RN.ret [.own 3,.own 3,.own 3,.own 3] [1,0] [0] (v:=.agg #[vI 1,vI 0,.string (vsL.getD k10 ⟨#[]⟩),vS q27 0 1 1]) (H':=(ap [(g,.lit [.slice A n c,vI (i22:Int)] 113 (0,0)),(q27,.rows 4 1 (nrow [x21]) 70 (0,0))] [T23])) ?_
     exact ⟨(.mk 1 0 (vsL.getD k10 ⟨#[]⟩) (some ⟨q27,0,none⟩) 1 [x21],i22,(q27,.rows 4 1 (nrow [x21]) 70 (0,0)) :: (T23)),(by simp [ap]),rfl,(by dsimp only;omega),.one hg25 (by omega),.one hT26⟩
   ·refine RDO.ct [] [0] [] (pick_any g c i3 n A 4 (by omega) (by omega) hn _ hG.up) ?_
    rintro _ ⟨k28,i29⟩ ⟨rfl,hk30,hi31⟩
    dsimp only at hk30 hi31
    refine RD.two 0 6 ?_ ?_
    ·refine RDO.ev [] [] λ n32=>RD.dn 0 (.rows 1 4 (strow vsL) 9 (0,0))<|RD.goP [] [3] [.ix k28] [(k28:Int)=((k28:Nat):Int) /\ k28 < 4]<|RD.two 4 6 ?_ ?_
     ·refine RDO.evP [] [.row 0 k28 0] [(0+k28 * 1)=k28 * 1+0 /\ k28 < 4] λ _=>RD.one 6 (RDO.ct [] [1] [] (int_any (g:=g) (c:=c) hn 1000 2 (by omega) (by omega) (by omega) i29 _ (by omega) hG.up) ?_)
      rintro _ ⟨x33,i34,T35⟩ ⟨rfl,hi36,hg37,hT38⟩
      dsimp only at hi36 hg37 hT38
      refine RD.one 7 (RDO.ct [] (Hp:=[]) (Tp:=[]) [] [] (one_any 1 (vsL.getD k28 ⟨#[]⟩) x33 _) ?_)
      rintro _ q39 rfl
      refine RD.one 8 (RDO.ev [] [.own 3,.own 3,.own 3,.own 3] λ _=>?_)
      refine RD.fin<|RN.go 1 [] λ _=>RN.ret [.own 3,.own 3,.own 3,.own 3] [1,0] [0] (v:=.agg #[vI 1,vI 0,.string (vsL.getD k28 ⟨#[]⟩),vS q39 0 1 1]) (H':=(ap [(g,.lit [.slice A n c,vI (i34:Int)] 113 (0,0)),(q39,.rows 4 1 (nrow [x33]) 70 (0,0))] [T35])) ?_
      exact ⟨(.mk 1 0 (vsL.getD k28 ⟨#[]⟩) (some ⟨q39,0,none⟩) 1 [x33],i34,(q39,.rows 4 1 (nrow [x33]) 70 (0,0)) :: (T35)),(by simp [ap]),rfl,(by dsimp only;omega),.one hg37 (by omega),.one hT38⟩
     ·refine RDO.ct [] [1] [] (int_any (g:=g) (c:=c) hn 1000 2 (by omega) (by omega) (by omega) i29 _ (by omega) hG.up) ?_
      rintro _ ⟨x40,i41,T42⟩ ⟨rfl,hi43,hg44,hT45⟩
      dsimp only at hi43 hg44 hT45
      refine RD.one 4 (RDO.evP [] [.row 1 k28 0] [(0+k28 * 1)=k28 * 1+0 /\ k28 < 4] λ _=>?_)
      refine RD.one 7 (RDO.ct [] (Hp:=[]) (Tp:=[]) [] [] (one_any 1 (vsL.getD k28 ⟨#[]⟩) x40 _) ?_)
      rintro _ q46 rfl
      refine RD.one 8 (RDO.ev [] [.own 3,.own 3,.own 3,.own 3] λ _=>?_)
      refine RD.fin<|RN.go 1 [] λ _=>RN.ret [.own 3,.own 3,.own 3,.own 3] [1,0] [0] (v:=.agg #[vI 1,vI 0,.string (vsL.getD k28 ⟨#[]⟩),vS q46 0 1 1]) (H':=(ap [(g,.lit [.slice A n c,vI (i41:Int)] 113 (0,0)),(q46,.rows 4 1 (nrow [x40]) 70 (0,0))] [T42])) ?_
      exact ⟨(.mk 1 0 (vsL.getD k28 ⟨#[]⟩) (some ⟨q46,0,none⟩) 1 [x40],i41,(q46,.rows 4 1 (nrow [x40]) 70 (0,0)) :: (T42)),(by simp [ap]),rfl,(by dsimp only;omega),.one hg44 (by omega),.one hT45⟩
    ·refine RDO.ct [] [0] [] (int_any (g:=g) (c:=c) hn 1000 2 (by omega) (by omega) (by omega) i29 _ (by omega) hG.up) ?_
     rintro _ ⟨x47,i48,T49⟩ ⟨rfl,hi50,hg51,hT52⟩
     dsimp only at hi50 hg51 hT52
     refine RD.one 0 (RDO.ev [] [] λ n53=>?_)
     refine RD.dn 0 (.rows 1 4 (strow vsL) 9 (0,0))<|RD.goP [] [3] [.ix k28] [(k28:Int)=((k28:Nat):Int) /\ k28 < 4]<|RD.one 4 (RDO.evP [] [.row 0 k28 0] [(0+k28 * 1)=k28 * 1+0 /\ k28 < 4] λ _=>?_)
     refine RD.one 7 (RDO.ct [] (Hp:=[]) (Tp:=[]) [] [] (one_any 1 (vsL.getD k28 ⟨#[]⟩) x47 _) ?_)
     rintro _ q54 rfl
     refine RD.one 8 (RDO.ev [] [.own 3,.own 3,.own 3,.own 3] λ _=>?_)
     refine RD.fin<|RN.go 1 [] λ _=>RN.ret [.own 3,.own 3,.own 3,.own 3] [2,0] [0] (v:=.agg #[vI 1,vI 0,.string (vsL.getD k28 ⟨#[]⟩),vS q54 0 1 1]) (H':=(ap [(g,.lit [.slice A n c,vI (i48:Int)] 113 (0,0)),(q54,.rows 4 1 (nrow [x47]) 70 (0,0))] [T49])) ?_
     exact ⟨(.mk 1 0 (vsL.getD k28 ⟨#[]⟩) (some ⟨q54,0,none⟩) 1 [x47],i48,(q54,.rows 4 1 (nrow [x47]) 70 (0,0)) :: (T49)),(by simp [ap]),rfl,(by dsimp only;omega),.one hg51 (by omega),.one hT52⟩
  ·refine RN.go 6 [] λ _=>RN.em ((k2:Int) % 7=1) 20 (λ h55=>?_) λ h55=>?_
   ·refine RN.go 2 [] λ _=>RN.draw [2,6,7,8] []<|RD.go [] [1,5] []<|RD.two 0 2 ?_ ?_
    ·refine RDO.ev [] [] λ n57=>RD.one 2 (RDO.ct [] [1] [] (pick_any g c i3 n A 4 (by omega) (by omega) hn _ hG.up) ?_)
     rintro _ ⟨k58,i59⟩ ⟨rfl,hk60,hi61⟩
     dsimp only at hk60 hi61
     refine RD.dn 1 (.rows 1 4 (strow vsL) 9 (0,0))<|RD.goP [] [3] [.ix k58] [(k58:Int)=((k58:Nat):Int) /\ k58 < 4]<|RD.two 4 6 ?_ ?_
     ·refine RDO.evP [] [.row 1 k58 0] [(0+k58 * 1)=k58 * 1+0 /\ k58 < 4] λ _=>RD.one 6 (RDO.ct [] [0] [] (int_any (g:=g) (c:=c) hn 1000 2 (by omega) (by omega) (by omega) i59 _ (by omega) hG.up) ?_)
      rintro _ ⟨x62,i63,T64⟩ ⟨rfl,hi65,hg66,hT67⟩
      dsimp only at hi65 hg66 hT67
      refine RD.one 7 (RDO.ct [] (Hp:=[]) (Tp:=[]) [] [] (one_any 1 (vsL.getD k58 ⟨#[]⟩) x62 _) ?_)
      rintro _ q68 rfl
      refine RD.one 8 (RDO.ev [] [.own 3,.own 3,.own 3,.own 3] λ _=>?_)
      refine RD.fin<|RN.go 1 [] λ _=>RN.ret [.own 3,.own 3,.own 3,.own 3] [1,0] [0] (v:=.agg #[vI 1,vI 0,.string (vsL.getD k58 ⟨#[]⟩),vS q68 0 1 1]) (H':=(ap [(g,.lit [.slice A n c,vI (i63:Int)] 113 (0,0)),(q68,.rows 4 1 (nrow [x62]) 70 (0,0))] [T64])) ?_
      exact ⟨(.mk 1 0 (vsL.getD k58 ⟨#[]⟩) (some ⟨q68,0,none⟩) 1 [x62],i63,(q68,.rows 4 1 (nrow [x62]) 70 (0,0)) :: (T64)),(by simp [ap]),rfl,(by dsimp only;omega),.one hg66 (by omega),.one hT67⟩
     ·refine RDO.ct [] [0] [] (int_any (g:=g) (c:=c) hn 1000 2 (by omega) (by omega) (by omega) i59 _ (by omega) hG.up) ?_
      rintro _ ⟨x69,i70,T71⟩ ⟨rfl,hi72,hg73,hT74⟩
      dsimp only at hi72 hg73 hT74
      refine RD.one 4 (RDO.evP [] [.row 1 k58 0] [(0+k58 * 1)=k58 * 1+0 /\ k58 < 4] λ _=>?_)
      refine RD.one 7 (RDO.ct [] (Hp:=[]) (Tp:=[]) [] [] (one_any 1 (vsL.getD k58 ⟨#[]⟩) x69 _) ?_)
      rintro _ q75 rfl
      refine RD.one 8 (RDO.ev [] [.own 3,.own 3,.own 3,.own 3] λ _=>?_)
      refine RD.fin<|RN.go 1 [] λ _=>RN.ret [.own 3,.own 3,.own 3,.own 3] [1,0] [0] (v:=.agg #[vI 1,vI 0,.string (vsL.getD k58 ⟨#[]⟩),vS q75 0 1 1]) (H':=(ap [(g,.lit [.slice A n c,vI (i70:Int)] 113 (0,0)),(q75,.rows 4 1 (nrow [x69]) 70 (0,0))] [T71])) ?_
      exact ⟨(.mk 1 0 (vsL.getD k58 ⟨#[]⟩) (some ⟨q75,0,none⟩) 1 [x69],i70,(q75,.rows 4 1 (nrow [x69]) 70 (0,0)) :: (T71)),(by simp [ap]),rfl,(by dsimp only;omega),.one hg73 (by omega),.one hT74⟩
    ·refine RDO.ct [] [0] [] (pick_any g c i3 n A 4 (by omega) (by omega) hn _ hG.up) ?_
     rintro _ ⟨k76,i77⟩ ⟨rfl,hk78,hi79⟩
     dsimp only at hk78 hi79
     refine RD.two 0 6 ?_ ?_
     ·refine RDO.ev [] [] λ n80=>RD.dn 0 (.rows 1 4 (strow vsL) 9 (0,0))<|RD.goP [] [3] [.ix k76] [(k76:Int)=((k76:Nat):Int) /\ k76 < 4]<|RD.two 4 6 ?_ ?_
      ·refine RDO.evP [] [.row 0 k76 0] [(0+k76 * 1)=k76 * 1+0 /\ k76 < 4] λ _=>RD.one 6 (RDO.ct [] [1] [] (int_any (g:=g) (c:=c) hn 1000 2 (by omega) (by omega) (by omega) i77 _ (by omega) hG.up) ?_)
       rintro _ ⟨x81,i82,T83⟩ ⟨rfl,hi84,hg85,hT86⟩
       dsimp only at hi84 hg85 hT86
       refine RD.one 7 (RDO.ct [] (Hp:=[]) (Tp:=[]) [] [] (one_any 1 (vsL.getD k76 ⟨#[]⟩) x81 _) ?_)
       rintro _ q87 rfl
       refine RD.one 8 (RDO.ev [] [.own 3,.own 3,.own 3,.own 3] λ _=>?_)
       refine RD.fin<|RN.go 1 [] λ _=>RN.ret [.own 3,.own 3,.own 3,.own 3] [1,0] [0] (v:=.agg #[vI 1,vI 0,.string (vsL.getD k76 ⟨#[]⟩),vS q87 0 1 1]) (H':=(ap [(g,.lit [.slice A n c,vI (i82:Int)] 113 (0,0)),(q87,.rows 4 1 (nrow [x81]) 70 (0,0))] [T83])) ?_
       exact ⟨(.mk 1 0 (vsL.getD k76 ⟨#[]⟩) (some ⟨q87,0,none⟩) 1 [x81],i82,(q87,.rows 4 1 (nrow [x81]) 70 (0,0)) :: (T83)),(by simp [ap]),rfl,(by dsimp only;omega),.one hg85 (by omega),.one hT86⟩
      ·refine RDO.ct [] [1] [] (int_any (g:=g) (c:=c) hn 1000 2 (by omega) (by omega) (by omega) i77 _ (by omega) hG.up) ?_
       rintro _ ⟨x88,i89,T90⟩ ⟨rfl,hi91,hg92,hT93⟩
       dsimp only at hi91 hg92 hT93
       refine RD.one 4 (RDO.evP [] [.row 1 k76 0] [(0+k76 * 1)=k76 * 1+0 /\ k76 < 4] λ _=>?_)
       refine RD.one 7 (RDO.ct [] (Hp:=[]) (Tp:=[]) [] [] (one_any 1 (vsL.getD k76 ⟨#[]⟩) x88 _) ?_)
       rintro _ q94 rfl
       refine RD.one 8 (RDO.ev [] [.own 3,.own 3,.own 3,.own 3] λ _=>?_)
       refine RD.fin<|RN.go 1 [] λ _=>RN.ret [.own 3,.own 3,.own 3,.own 3] [1,0] [0] (v:=.agg #[vI 1,vI 0,.string (vsL.getD k76 ⟨#[]⟩),vS q94 0 1 1]) (H':=(ap [(g,.lit [.slice A n c,vI (i89:Int)] 113 (0,0)),(q94,.rows 4 1 (nrow [x88]) 70 (0,0))] [T90])) ?_
       exact ⟨(.mk 1 0 (vsL.getD k76 ⟨#[]⟩) (some ⟨q94,0,none⟩) 1 [x88],i89,(q94,.rows 4 1 (nrow [x88]) 70 (0,0)) :: (T90)),(by simp [ap]),rfl,(by dsimp only;omega),.one hg92 (by omega),.one hT93⟩
     ·refine RDO.ct [] [0] [] (int_any (g:=g) (c:=c) hn 1000 2 (by omega) (by omega) (by omega) i77 _ (by omega) hG.up) ?_
      rintro _ ⟨x95,i96,T97⟩ ⟨rfl,hi98,hg99,hT100⟩
      dsimp only at hi98 hg99 hT100
      refine RD.one 0 (RDO.ev [] [] λ n101=>?_)
      refine RD.dn 0 (.rows 1 4 (strow vsL) 9 (0,0))<|RD.goP [] [3] [.ix k76] [(k76:Int)=((k76:Nat):Int) /\ k76 < 4]<|RD.one 4 (RDO.evP [] [.row 0 k76 0] [(0+k76 * 1)=k76 * 1+0 /\ k76 < 4] λ _=>?_)
      refine RD.one 7 (RDO.ct [] (Hp:=[]) (Tp:=[]) [] [] (one_any 1 (vsL.getD k76 ⟨#[]⟩) x95 _) ?_)
      rintro _ q102 rfl
      refine RD.one 8 (RDO.ev [] [.own 3,.own 3,.own 3,.own 3] λ _=>?_)
      refine RD.fin<|RN.go 1 [] λ _=>RN.ret [.own 3,.own 3,.own 3,.own 3] [2,0] [0] (v:=.agg #[vI 1,vI 0,.string (vsL.getD k76 ⟨#[]⟩),vS q102 0 1 1]) (H':=(ap [(g,.lit [.slice A n c,vI (i96:Int)] 113 (0,0)),(q102,.rows 4 1 (nrow [x95]) 70 (0,0))] [T97])) ?_
      exact ⟨(.mk 1 0 (vsL.getD k76 ⟨#[]⟩) (some ⟨q102,0,none⟩) 1 [x95],i96,(q102,.rows 4 1 (nrow [x95]) 70 (0,0)) :: (T97)),(by simp [ap]),rfl,(by dsimp only;omega),.one hg99 (by omega),.one hT100⟩
   ·refine RN.go 8 [] λ _=>RN.em ((k2:Int) % 7=2) 31 (λ h103=>?_) λ h103=>?_
    ·refine RN.go 8 [] λ n104=>RN.ct [1] [] (pick_any g c i3 n A 6 (by omega) (by omega) hn _ hG.up) ?_
     rintro _ ⟨k105,i106⟩ ⟨rfl,hk107,hi108⟩
     dsimp only at hk107 hi108
     refine RN.dn 1 (.rows 1 6 (strow stL) 9 (0,0))<|RN.goP 8 [.ix k105,.row 1 k105 0] [(0+k105 * 1)=k105 * 1+0 /\ k105 < 6,(k105:Int)=((k105:Nat):Int) /\ k105 < 6] λ _=>RN.ct [0] [] (int_any (g:=g) (c:=c) hn 1000 1 (by omega) (by omega) (by omega) i106 _ (by omega) hG.up) ?_
     rintro _ ⟨x109,i110,T111⟩ ⟨rfl,hi112,hg113,hT114⟩
     dsimp only at hi112 hg113 hT114
     refine RN.go 5 [.own 0,.own 0,.own 0,.own 0] λ n115=>RN.draw [3,4,5] []<|RD.go [] [0,2] []<|RD.two 1 3 ?_ ?_
     ·refine RDO.ev [] [.own 0,.own 0,.own 0,.own 0] λ _=>RD.one 3 (RDO.ct [] [1] [] (int_any (g:=g) (c:=c) hn 1000 2 (by omega) (by omega) (by omega) i110 _ (by omega) hG.up) ?_)
      rintro _ ⟨x116,i117,T118⟩ ⟨rfl,hi119,hg120,hT121⟩
      dsimp only at hi119 hg120 hT121
      refine RD.one 4 (RDO.ct [] (Hp:=[]) (Tp:=[]) [] [] (two_any 2 (stL.getD k105 ⟨#[]⟩) x109 x116 _) ?_)
      rintro _ q122 rfl
      refine RD.one 5 (RDO.ev [] [.own 4,.own 4,.own 4,.own 4] λ _=>?_)
      refine RD.fin<|RN.go 1 [] λ _=>RN.ret [.own 4,.own 4,.own 4,.own 4] [1,0] [0,1] (v:=.agg #[vI 2,vI 0,.string (stL.getD k105 ⟨#[]⟩),vS q122 0 2 2]) (H':=(ap [(g,.lit [.slice A n c,vI (i117:Int)] 113 (0,0)),(q122,.rows 4 2 (nrow [x109,x116]) 70 (0,0))] [T118,T111])) ?_
      exact ⟨(.mk 2 0 (stL.getD k105 ⟨#[]⟩) (some ⟨q122,0,none⟩) 2 [x109,x116],i117,(q122,.rows 4 2 (nrow [x109,x116]) 70 (0,0)) :: (T118++T111)),(by simp [ap]),rfl,(by dsimp only;omega),.two hg113 hg120 (by omega) (by omega),.two hT114 hT121⟩
     ·refine RDO.ct [] [1] [] (int_any (g:=g) (c:=c) hn 1000 2 (by omega) (by omega) (by omega) i110 _ (by omega) hG.up) ?_
      rintro _ ⟨x123,i124,T125⟩ ⟨rfl,hi126,hg127,hT128⟩
      dsimp only at hi126 hg127 hT128
      refine RD.one 1 (RDO.ev [] [.own 1,.own 1,.own 1,.own 1] λ _=>?_)
      refine RD.one 4 (RDO.ct [] (Hp:=[]) (Tp:=[]) [] [] (two_any 2 (stL.getD k105 ⟨#[]⟩) x109 x123 _) ?_)
      rintro _ q129 rfl
      refine RD.one 5 (RDO.ev [] [.own 4,.own 4,.own 4,.own 4] λ _=>?_)
      refine RD.fin<|RN.go 1 [] λ _=>RN.ret [.own 4,.own 4,.own 4,.own 4] [1,0] [0,1] (v:=.agg #[vI 2,vI 0,.string (stL.getD k105 ⟨#[]⟩),vS q129 0 2 2]) (H':=(ap [(g,.lit [.slice A n c,vI (i124:Int)] 113 (0,0)),(q129,.rows 4 2 (nrow [x109,x123]) 70 (0,0))] [T125,T111])) ?_
      exact ⟨(.mk 2 0 (stL.getD k105 ⟨#[]⟩) (some ⟨q129,0,none⟩) 2 [x109,x123],i124,(q129,.rows 4 2 (nrow [x109,x123]) 70 (0,0)) :: (T125++T111)),(by simp [ap]),rfl,(by dsimp only;omega),.two hg113 hg127 (by omega) (by omega),.two hT114 hT128⟩
    ·refine RN.go 7 [] λ _=>RN.em ((k2:Int) % 7=3) 31 (λ h130=>?_) λ h130=>?_
     ·refine RN.go 8 [] λ n131=>RN.ct [1] [] (pick_any g c i3 n A 6 (by omega) (by omega) hn _ hG.up) ?_
      rintro _ ⟨k132,i133⟩ ⟨rfl,hk134,hi135⟩
      dsimp only at hk134 hi135
      refine RN.dn 1 (.rows 1 6 (strow stL) 9 (0,0))<|RN.goP 8 [.ix k132,.row 1 k132 0] [(0+k132 * 1)=k132 * 1+0 /\ k132 < 6,(k132:Int)=((k132:Nat):Int) /\ k132 < 6] λ _=>RN.ct [0] [] (int_any (g:=g) (c:=c) hn 1000 1 (by omega) (by omega) (by omega) i133 _ (by omega) hG.up) ?_
      rintro _ ⟨x136,i137,T138⟩ ⟨rfl,hi139,hg140,hT141⟩
      dsimp only at hi139 hg140 hT141
      refine RN.go 5 [.own 0,.own 0,.own 0,.own 0] λ n142=>RN.draw [3,4,5] []<|RD.go [] [0,2] []<|RD.two 1 3 ?_ ?_
      ·refine RDO.ev [] [.own 0,.own 0,.own 0,.own 0] λ _=>RD.one 3 (RDO.ct [] [1] [] (int_any (g:=g) (c:=c) hn 1000 2 (by omega) (by omega) (by omega) i137 _ (by omega) hG.up) ?_)
       rintro _ ⟨x143,i144,T145⟩ ⟨rfl,hi146,hg147,hT148⟩
       dsimp only at hi146 hg147 hT148
       refine RD.one 4 (RDO.ct [] (Hp:=[]) (Tp:=[]) [] [] (two_any 2 (stL.getD k132 ⟨#[]⟩) x136 x143 _) ?_)
       rintro _ q149 rfl
       refine RD.one 5 (RDO.ev [] [.own 4,.own 4,.own 4,.own 4] λ _=>?_)
       refine RD.fin<|RN.go 1 [] λ _=>RN.ret [.own 4,.own 4,.own 4,.own 4] [1,0] [0,1] (v:=.agg #[vI 2,vI 0,.string (stL.getD k132 ⟨#[]⟩),vS q149 0 2 2]) (H':=(ap [(g,.lit [.slice A n c,vI (i144:Int)] 113 (0,0)),(q149,.rows 4 2 (nrow [x136,x143]) 70 (0,0))] [T145,T138])) ?_
       exact ⟨(.mk 2 0 (stL.getD k132 ⟨#[]⟩) (some ⟨q149,0,none⟩) 2 [x136,x143],i144,(q149,.rows 4 2 (nrow [x136,x143]) 70 (0,0)) :: (T145++T138)),(by simp [ap]),rfl,(by dsimp only;omega),.two hg140 hg147 (by omega) (by omega),.two hT141 hT148⟩
      ·refine RDO.ct [] [1] [] (int_any (g:=g) (c:=c) hn 1000 2 (by omega) (by omega) (by omega) i137 _ (by omega) hG.up) ?_
       rintro _ ⟨x150,i151,T152⟩ ⟨rfl,hi153,hg154,hT155⟩
       dsimp only at hi153 hg154 hT155
       refine RD.one 1 (RDO.ev [] [.own 1,.own 1,.own 1,.own 1] λ _=>?_)
       refine RD.one 4 (RDO.ct [] (Hp:=[]) (Tp:=[]) [] [] (two_any 2 (stL.getD k132 ⟨#[]⟩) x136 x150 _) ?_)
       rintro _ q156 rfl
       refine RD.one 5 (RDO.ev [] [.own 4,.own 4,.own 4,.own 4] λ _=>?_)
       refine RD.fin<|RN.go 1 [] λ _=>RN.ret [.own 4,.own 4,.own 4,.own 4] [1,0] [0,1] (v:=.agg #[vI 2,vI 0,.string (stL.getD k132 ⟨#[]⟩),vS q156 0 2 2]) (H':=(ap [(g,.lit [.slice A n c,vI (i151:Int)] 113 (0,0)),(q156,.rows 4 2 (nrow [x136,x150]) 70 (0,0))] [T152,T138])) ?_
       exact ⟨(.mk 2 0 (stL.getD k132 ⟨#[]⟩) (some ⟨q156,0,none⟩) 2 [x136,x150],i151,(q156,.rows 4 2 (nrow [x136,x150]) 70 (0,0)) :: (T152++T138)),(by simp [ap]),rfl,(by dsimp only;omega),.two hg140 hg154 (by omega) (by omega),.two hT141 hT155⟩
     ·refine RN.go 6 [] λ _=>RN.em ((k2:Int) % 7=4) 31 (λ h157=>?_) λ h157=>?_
      ·refine RN.go 5 [] λ n158=>RN.ct [1] [] (pick_any g c i3 n A 6 (by omega) (by omega) hn _ hG.up) ?_
       rintro _ ⟨k159,i160⟩ ⟨rfl,hk161,hi162⟩
       dsimp only at hk161 hi162
       refine RN.dn 1 (.rows 1 6 (strow stL) 9 (0,0))<|RN.goP 8 [.ix k159,.row 1 k159 0] [(0+k159 * 1)=k159 * 1+0 /\ k159 < 6,(k159:Int)=((k159:Nat):Int) /\ k159 < 6] λ _=>RN.ct [0] [] (int_any (g:=g) (c:=c) hn 1000 1 (by omega) (by omega) (by omega) i160 _ (by omega) hG.up) ?_
       rintro _ ⟨x163,i164,T165⟩ ⟨rfl,hi166,hg167,hT168⟩
       dsimp only at hi166 hg167 hT168
       refine RN.go 5 [.own 0,.own 0,.own 0,.own 0] λ n169=>RN.draw [3,4,5] []<|RD.go [] [0,2] []<|RD.two 1 3 ?_ ?_
       ·refine RDO.ev [] [.own 0,.own 0,.own 0,.own 0] λ _=>RD.one 3 (RDO.ct [] [1] [] (int_any (g:=g) (c:=c) hn 1000 2 (by omega) (by omega) (by omega) i164 _ (by omega) hG.up) ?_)
        rintro _ ⟨x170,i171,T172⟩ ⟨rfl,hi173,hg174,hT175⟩
        dsimp only at hi173 hg174 hT175
        refine RD.one 4 (RDO.ct [] (Hp:=[]) (Tp:=[]) [] [] (two_any 2 (stL.getD k159 ⟨#[]⟩) x163 x170 _) ?_)
        rintro _ q176 rfl
        refine RD.one 5 (RDO.ev [] [.own 4,.own 4,.own 4,.own 4] λ _=>?_)
        refine RD.fin<|RN.go 1 [] λ _=>RN.ret [.own 4,.own 4,.own 4,.own 4] [1,0] [0,1] (v:=.agg #[vI 2,vI 0,.string (stL.getD k159 ⟨#[]⟩),vS q176 0 2 2]) (H':=(ap [(g,.lit [.slice A n c,vI (i171:Int)] 113 (0,0)),(q176,.rows 4 2 (nrow [x163,x170]) 70 (0,0))] [T172,T165])) ?_
        exact ⟨(.mk 2 0 (stL.getD k159 ⟨#[]⟩) (some ⟨q176,0,none⟩) 2 [x163,x170],i171,(q176,.rows 4 2 (nrow [x163,x170]) 70 (0,0)) :: (T172++T165)),(by simp [ap]),rfl,(by dsimp only;omega),.two hg167 hg174 (by omega) (by omega),.two hT168 hT175⟩
       ·refine RDO.ct [] [1] [] (int_any (g:=g) (c:=c) hn 1000 2 (by omega) (by omega) (by omega) i164 _ (by omega) hG.up) ?_
        rintro _ ⟨x177,i178,T179⟩ ⟨rfl,hi180,hg181,hT182⟩
        dsimp only at hi180 hg181 hT182
        refine RD.one 1 (RDO.ev [] [.own 1,.own 1,.own 1,.own 1] λ _=>?_)
        refine RD.one 4 (RDO.ct [] (Hp:=[]) (Tp:=[]) [] [] (two_any 2 (stL.getD k159 ⟨#[]⟩) x163 x177 _) ?_)
        rintro _ q183 rfl
        refine RD.one 5 (RDO.ev [] [.own 4,.own 4,.own 4,.own 4] λ _=>?_)
        refine RD.fin<|RN.go 1 [] λ _=>RN.ret [.own 4,.own 4,.own 4,.own 4] [1,0] [0,1] (v:=.agg #[vI 2,vI 0,.string (stL.getD k159 ⟨#[]⟩),vS q183 0 2 2]) (H':=(ap [(g,.lit [.slice A n c,vI (i178:Int)] 113 (0,0)),(q183,.rows 4 2 (nrow [x163,x177]) 70 (0,0))] [T179,T165])) ?_
        exact ⟨(.mk 2 0 (stL.getD k159 ⟨#[]⟩) (some ⟨q183,0,none⟩) 2 [x163,x177],i178,(q183,.rows 4 2 (nrow [x163,x177]) 70 (0,0)) :: (T179++T165)),(by simp [ap]),rfl,(by dsimp only;omega),.two hg167 hg181 (by omega) (by omega),.two hT168 hT182⟩
      ·refine RN.go 7 [] λ _=>RN.em ((k2:Int) % 7=5) 47 (λ h184=>?_) λ h184=>?_
       ·refine RN.go 4 [] λ _=>RN.ct [0] [] (int_any (g:=g) (c:=c) hn 1000 0 (by omega) (by omega) (by omega) i3 _ (by omega) hG.up) ?_
        rintro _ ⟨x185,i186,T187⟩ ⟨rfl,hi188,hg189,hT190⟩
        dsimp only at hi188 hg189 hT190
        refine RN.go 5 [.own 0,.own 0,.own 0,.own 0] λ n191=>RN.draw [2,3,4] []<|RD.go [] [1] []<|RD.two 0 2 ?_ ?_
        ·refine RDO.ev [] [.own 0,.own 0,.own 0,.own 0] λ _=>RD.one 2 (RDO.ct [] [1] [] (int_any (g:=g) (c:=c) hn 1000 1 (by omega) (by omega) (by omega) i186 _ (by omega) hG.up) ?_)
         rintro _ ⟨x192,i193,T194⟩ ⟨rfl,hi195,hg196,hT197⟩
         dsimp only at hi195 hg196 hT197
         refine RD.one 3 (RDO.ct [] (Hp:=[]) (Tp:=[]) [] [] (two_any 5 ⟨#[]⟩ x185 x192 _) ?_)
         rintro _ q198 rfl
         refine RD.one 4 (RDO.ev [] [.own 3,.own 3,.own 3,.own 3] λ _=>?_)
         refine RD.fin<|RN.go 1 [] λ _=>RN.ret [.own 3,.own 3,.own 3,.own 3] [1,0] [0,1] (v:=.agg #[vI 5,vI 0,.string ⟨#[]⟩,vS q198 0 2 2]) (H':=(ap [(g,.lit [.slice A n c,vI (i193:Int)] 113 (0,0)),(q198,.rows 4 2 (nrow [x185,x192]) 70 (0,0))] [T194,T187])) ?_
         exact ⟨(.mk 5 0 ⟨#[]⟩ (some ⟨q198,0,none⟩) 2 [x185,x192],i193,(q198,.rows 4 2 (nrow [x185,x192]) 70 (0,0)) :: (T194++T187)),(by simp [ap]),rfl,(by dsimp only;omega),.two hg189 hg196 (by omega) (by omega),.two hT190 hT197⟩
        ·refine RDO.ct [] [1] [] (int_any (g:=g) (c:=c) hn 1000 1 (by omega) (by omega) (by omega) i186 _ (by omega) hG.up) ?_
         rintro _ ⟨x199,i200,T201⟩ ⟨rfl,hi202,hg203,hT204⟩
         dsimp only at hi202 hg203 hT204
         refine RD.one 0 (RDO.ev [] [.own 1,.own 1,.own 1,.own 1] λ _=>?_)
         refine RD.one 3 (RDO.ct [] (Hp:=[]) (Tp:=[]) [] [] (two_any 5 ⟨#[]⟩ x185 x199 _) ?_)
         rintro _ q205 rfl
         refine RD.one 4 (RDO.ev [] [.own 3,.own 3,.own 3,.own 3] λ _=>?_)
         refine RD.fin<|RN.go 1 [] λ _=>RN.ret [.own 3,.own 3,.own 3,.own 3] [1,0] [0,1] (v:=.agg #[vI 5,vI 0,.string ⟨#[]⟩,vS q205 0 2 2]) (H':=(ap [(g,.lit [.slice A n c,vI (i200:Int)] 113 (0,0)),(q205,.rows 4 2 (nrow [x185,x199]) 70 (0,0))] [T201,T187])) ?_
         exact ⟨(.mk 5 0 ⟨#[]⟩ (some ⟨q205,0,none⟩) 2 [x185,x199],i200,(q205,.rows 4 2 (nrow [x185,x199]) 70 (0,0)) :: (T201++T187)),(by simp [ap]),rfl,(by dsimp only;omega),.two hg189 hg203 (by omega) (by omega),.two hT190 hT204⟩
       ·refine RN.go 7 [] λ _=>RN.em ((k2:Int) % 7=6) 55 (λ h206=>?_) λ h206=>?_
        ·refine RN.go 5 [] λ _=>RN.ct [0] [] (pick_any g c i3 n A 3 (by omega) (by omega) hn _ hG.up) ?_
         rintro _ ⟨k207,i208⟩ ⟨rfl,hk209,hi210⟩
         dsimp only at hk209 hi210
         refine RN.go 3 [] λ _=>RN.em ((k207:Int) > 0) 59 (λ h211=>?_) λ h211=>?_
         ·refine RN.go 4 [] λ _=>RN.ct [0] [] (int_any (g:=g) (c:=c) hn 1000 1 (by omega) (by omega) (by omega) i208 _ (by omega) hG.up) ?_
          rintro _ ⟨x212,i213,T214⟩ ⟨rfl,hi215,hg216,hT217⟩
          dsimp only at hi215 hg216 hT217
          refine RN.ct (Hp:=[]) (Tp:=[]) [] [] (one_any 1 ⟨#[110]⟩ x212 _) ?_
          rintro _ q218 rfl
          refine RN.go 3 [.own 2,.own 2,.own 2,.own 2] λ _=>RN.ret [.own 2,.own 2,.own 2,.own 2] [1,0] [0] (v:=.agg #[vI 1,vI 0,.string ⟨#[110]⟩,vS q218 0 1 1]) (H':=(ap [(g,.lit [.slice A n c,vI (i213:Int)] 113 (0,0)),(q218,.rows 4 1 (nrow [x212]) 70 (0,0))] [T214])) ?_
          exact ⟨(.mk 1 0 ⟨#[110]⟩ (some ⟨q218,0,none⟩) 1 [x212],i213,(q218,.rows 4 1 (nrow [x212]) 70 (0,0)) :: (T214)),(by simp [ap]),rfl,(by dsimp only;omega),.one hg216 (by omega),.one hT217⟩
         ·refine RN.go 9 [.own 1,.own 1,.own 1,.own 1] λ _=>RN.ret [.own 1,.own 1,.own 1,.own 1] [0] [] (v:=.agg #[vI 6,vI 0,.string ⟨#[]⟩,.slice none 0 0]) (H':=(ap [(g,.lit [.slice A n c,vI (i208:Int)] 113 (0,0))] [])) ?_
          exact ⟨(.mk 6 0 ⟨#[]⟩ none 0 [],i208,[]),(by simp [ap]),rfl,(by dsimp only;omega),.zero,.zero⟩
        ·omega
 ·refine RN.go 17 [] λ _=>RN.em ((k2:Int)=0) 20 (λ h219=>?_) λ h219=>?_
  ·refine RN.go 5 [] λ _=>RN.draw [2,6,7,8] []<|RD.go [] [1,5] []<|RD.two 0 2 ?_ ?_
   ·refine RDO.ev [] [] λ n221=>RD.one 2 (RDO.ct [] [1] [] (pick_any g c i3 n A 4 (by omega) (by omega) hn _ hG.up) ?_)
    rintro _ ⟨k222,i223⟩ ⟨rfl,hk224,hi225⟩
    dsimp only at hk224 hi225
    refine RD.dn 1 (.rows 1 4 (strow vsL) 9 (0,0))<|RD.goP [] [3] [.ix k222] [(k222:Int)=((k222:Nat):Int) /\ k222 < 4]<|RD.two 4 6 ?_ ?_
    ·refine RDO.evP [] [.row 1 k222 0] [(0+k222 * 1)=k222 * 1+0 /\ k222 < 4] λ _=>RD.one 6 (RDO.ct [] [0] [] (int_any (g:=g) (c:=c) hn 1000 2 (by omega) (by omega) (by omega) i223 _ (by omega) hG.up) ?_)
     rintro _ ⟨x226,i227,T228⟩ ⟨rfl,hi229,hg230,hT231⟩
     dsimp only at hi229 hg230 hT231
     refine RD.one 7 (RDO.ct [] (Hp:=[]) (Tp:=[]) [] [] (one_any 1 (vsL.getD k222 ⟨#[]⟩) x226 _) ?_)
     rintro _ q232 rfl
     refine RD.one 8 (RDO.ev [] [.own 3,.own 3,.own 3,.own 3] λ _=>?_)
     refine RD.fin<|RN.go 1 [] λ _=>RN.ret [.own 3,.own 3,.own 3,.own 3] [1,0] [0] (v:=.agg #[vI 1,vI 0,.string (vsL.getD k222 ⟨#[]⟩),vS q232 0 1 1]) (H':=(ap [(g,.lit [.slice A n c,vI (i227:Int)] 113 (0,0)),(q232,.rows 4 1 (nrow [x226]) 70 (0,0))] [T228])) ?_
     exact ⟨(.mk 1 0 (vsL.getD k222 ⟨#[]⟩) (some ⟨q232,0,none⟩) 1 [x226],i227,(q232,.rows 4 1 (nrow [x226]) 70 (0,0)) :: (T228)),(by simp [ap]),rfl,(by dsimp only;omega),.one hg230 (by omega),.one hT231⟩
    ·refine RDO.ct [] [0] [] (int_any (g:=g) (c:=c) hn 1000 2 (by omega) (by omega) (by omega) i223 _ (by omega) hG.up) ?_
     rintro _ ⟨x233,i234,T235⟩ ⟨rfl,hi236,hg237,hT238⟩
     dsimp only at hi236 hg237 hT238
     refine RD.one 4 (RDO.evP [] [.row 1 k222 0] [(0+k222 * 1)=k222 * 1+0 /\ k222 < 4] λ _=>?_)
     refine RD.one 7 (RDO.ct [] (Hp:=[]) (Tp:=[]) [] [] (one_any 1 (vsL.getD k222 ⟨#[]⟩) x233 _) ?_)
     rintro _ q239 rfl
     refine RD.one 8 (RDO.ev [] [.own 3,.own 3,.own 3,.own 3] λ _=>?_)
     refine RD.fin<|RN.go 1 [] λ _=>RN.ret [.own 3,.own 3,.own 3,.own 3] [1,0] [0] (v:=.agg #[vI 1,vI 0,.string (vsL.getD k222 ⟨#[]⟩),vS q239 0 1 1]) (H':=(ap [(g,.lit [.slice A n c,vI (i234:Int)] 113 (0,0)),(q239,.rows 4 1 (nrow [x233]) 70 (0,0))] [T235])) ?_
     exact ⟨(.mk 1 0 (vsL.getD k222 ⟨#[]⟩) (some ⟨q239,0,none⟩) 1 [x233],i234,(q239,.rows 4 1 (nrow [x233]) 70 (0,0)) :: (T235)),(by simp [ap]),rfl,(by dsimp only;omega),.one hg237 (by omega),.one hT238⟩
   ·refine RDO.ct [] [0] [] (pick_any g c i3 n A 4 (by omega) (by omega) hn _ hG.up) ?_
    rintro _ ⟨k240,i241⟩ ⟨rfl,hk242,hi243⟩
    dsimp only at hk242 hi243
    refine RD.two 0 6 ?_ ?_
    ·refine RDO.ev [] [] λ n244=>RD.dn 0 (.rows 1 4 (strow vsL) 9 (0,0))<|RD.goP [] [3] [.ix k240] [(k240:Int)=((k240:Nat):Int) /\ k240 < 4]<|RD.two 4 6 ?_ ?_
     ·refine RDO.evP [] [.row 0 k240 0] [(0+k240 * 1)=k240 * 1+0 /\ k240 < 4] λ _=>RD.one 6 (RDO.ct [] [1] [] (int_any (g:=g) (c:=c) hn 1000 2 (by omega) (by omega) (by omega) i241 _ (by omega) hG.up) ?_)
      rintro _ ⟨x245,i246,T247⟩ ⟨rfl,hi248,hg249,hT250⟩
      dsimp only at hi248 hg249 hT250
      refine RD.one 7 (RDO.ct [] (Hp:=[]) (Tp:=[]) [] [] (one_any 1 (vsL.getD k240 ⟨#[]⟩) x245 _) ?_)
      rintro _ q251 rfl
      refine RD.one 8 (RDO.ev [] [.own 3,.own 3,.own 3,.own 3] λ _=>?_)
      refine RD.fin<|RN.go 1 [] λ _=>RN.ret [.own 3,.own 3,.own 3,.own 3] [1,0] [0] (v:=.agg #[vI 1,vI 0,.string (vsL.getD k240 ⟨#[]⟩),vS q251 0 1 1]) (H':=(ap [(g,.lit [.slice A n c,vI (i246:Int)] 113 (0,0)),(q251,.rows 4 1 (nrow [x245]) 70 (0,0))] [T247])) ?_
      exact ⟨(.mk 1 0 (vsL.getD k240 ⟨#[]⟩) (some ⟨q251,0,none⟩) 1 [x245],i246,(q251,.rows 4 1 (nrow [x245]) 70 (0,0)) :: (T247)),(by simp [ap]),rfl,(by dsimp only;omega),.one hg249 (by omega),.one hT250⟩
     ·refine RDO.ct [] [1] [] (int_any (g:=g) (c:=c) hn 1000 2 (by omega) (by omega) (by omega) i241 _ (by omega) hG.up) ?_
      rintro _ ⟨x252,i253,T254⟩ ⟨rfl,hi255,hg256,hT257⟩
      dsimp only at hi255 hg256 hT257
      refine RD.one 4 (RDO.evP [] [.row 1 k240 0] [(0+k240 * 1)=k240 * 1+0 /\ k240 < 4] λ _=>?_)
      refine RD.one 7 (RDO.ct [] (Hp:=[]) (Tp:=[]) [] [] (one_any 1 (vsL.getD k240 ⟨#[]⟩) x252 _) ?_)
      rintro _ q258 rfl
      refine RD.one 8 (RDO.ev [] [.own 3,.own 3,.own 3,.own 3] λ _=>?_)
      refine RD.fin<|RN.go 1 [] λ _=>RN.ret [.own 3,.own 3,.own 3,.own 3] [1,0] [0] (v:=.agg #[vI 1,vI 0,.string (vsL.getD k240 ⟨#[]⟩),vS q258 0 1 1]) (H':=(ap [(g,.lit [.slice A n c,vI (i253:Int)] 113 (0,0)),(q258,.rows 4 1 (nrow [x252]) 70 (0,0))] [T254])) ?_
      exact ⟨(.mk 1 0 (vsL.getD k240 ⟨#[]⟩) (some ⟨q258,0,none⟩) 1 [x252],i253,(q258,.rows 4 1 (nrow [x252]) 70 (0,0)) :: (T254)),(by simp [ap]),rfl,(by dsimp only;omega),.one hg256 (by omega),.one hT257⟩
    ·refine RDO.ct [] [0] [] (int_any (g:=g) (c:=c) hn 1000 2 (by omega) (by omega) (by omega) i241 _ (by omega) hG.up) ?_
     rintro _ ⟨x259,i260,T261⟩ ⟨rfl,hi262,hg263,hT264⟩
     dsimp only at hi262 hg263 hT264
     refine RD.one 0 (RDO.ev [] [] λ n265=>?_)
     refine RD.dn 0 (.rows 1 4 (strow vsL) 9 (0,0))<|RD.goP [] [3] [.ix k240] [(k240:Int)=((k240:Nat):Int) /\ k240 < 4]<|RD.one 4 (RDO.evP [] [.row 0 k240 0] [(0+k240 * 1)=k240 * 1+0 /\ k240 < 4] λ _=>?_)
     refine RD.one 7 (RDO.ct [] (Hp:=[]) (Tp:=[]) [] [] (one_any 1 (vsL.getD k240 ⟨#[]⟩) x259 _) ?_)
     rintro _ q266 rfl
     refine RD.one 8 (RDO.ev [] [.own 3,.own 3,.own 3,.own 3] λ _=>?_)
     refine RD.fin<|RN.go 1 [] λ _=>RN.ret [.own 3,.own 3,.own 3,.own 3] [2,0] [0] (v:=.agg #[vI 1,vI 0,.string (vsL.getD k240 ⟨#[]⟩),vS q266 0 1 1]) (H':=(ap [(g,.lit [.slice A n c,vI (i260:Int)] 113 (0,0)),(q266,.rows 4 1 (nrow [x259]) 70 (0,0))] [T261])) ?_
     exact ⟨(.mk 1 0 (vsL.getD k240 ⟨#[]⟩) (some ⟨q266,0,none⟩) 1 [x259],i260,(q266,.rows 4 1 (nrow [x259]) 70 (0,0)) :: (T261)),(by simp [ap]),rfl,(by dsimp only;omega),.one hg263 (by omega),.one hT264⟩
  ·refine RN.go 6 [] λ _=>RN.em ((k2:Int)=1) 20 (λ h267=>?_) λ h267=>?_
   ·refine RN.go 2 [] λ _=>RN.draw [2,6,7,8] []<|RD.go [] [1,5] []<|RD.two 0 2 ?_ ?_
    ·refine RDO.ev [] [] λ n269=>RD.one 2 (RDO.ct [] [1] [] (pick_any g c i3 n A 4 (by omega) (by omega) hn _ hG.up) ?_)
     rintro _ ⟨k270,i271⟩ ⟨rfl,hk272,hi273⟩
     dsimp only at hk272 hi273
     refine RD.dn 1 (.rows 1 4 (strow vsL) 9 (0,0))<|RD.goP [] [3] [.ix k270] [(k270:Int)=((k270:Nat):Int) /\ k270 < 4]<|RD.two 4 6 ?_ ?_
     ·refine RDO.evP [] [.row 1 k270 0] [(0+k270 * 1)=k270 * 1+0 /\ k270 < 4] λ _=>RD.one 6 (RDO.ct [] [0] [] (int_any (g:=g) (c:=c) hn 1000 2 (by omega) (by omega) (by omega) i271 _ (by omega) hG.up) ?_)
      rintro _ ⟨x274,i275,T276⟩ ⟨rfl,hi277,hg278,hT279⟩
      dsimp only at hi277 hg278 hT279
      refine RD.one 7 (RDO.ct [] (Hp:=[]) (Tp:=[]) [] [] (one_any 1 (vsL.getD k270 ⟨#[]⟩) x274 _) ?_)
      rintro _ q280 rfl
      refine RD.one 8 (RDO.ev [] [.own 3,.own 3,.own 3,.own 3] λ _=>?_)
      refine RD.fin<|RN.go 1 [] λ _=>RN.ret [.own 3,.own 3,.own 3,.own 3] [1,0] [0] (v:=.agg #[vI 1,vI 0,.string (vsL.getD k270 ⟨#[]⟩),vS q280 0 1 1]) (H':=(ap [(g,.lit [.slice A n c,vI (i275:Int)] 113 (0,0)),(q280,.rows 4 1 (nrow [x274]) 70 (0,0))] [T276])) ?_
      exact ⟨(.mk 1 0 (vsL.getD k270 ⟨#[]⟩) (some ⟨q280,0,none⟩) 1 [x274],i275,(q280,.rows 4 1 (nrow [x274]) 70 (0,0)) :: (T276)),(by simp [ap]),rfl,(by dsimp only;omega),.one hg278 (by omega),.one hT279⟩
     ·refine RDO.ct [] [0] [] (int_any (g:=g) (c:=c) hn 1000 2 (by omega) (by omega) (by omega) i271 _ (by omega) hG.up) ?_
      rintro _ ⟨x281,i282,T283⟩ ⟨rfl,hi284,hg285,hT286⟩
      dsimp only at hi284 hg285 hT286
      refine RD.one 4 (RDO.evP [] [.row 1 k270 0] [(0+k270 * 1)=k270 * 1+0 /\ k270 < 4] λ _=>?_)
      refine RD.one 7 (RDO.ct [] (Hp:=[]) (Tp:=[]) [] [] (one_any 1 (vsL.getD k270 ⟨#[]⟩) x281 _) ?_)
      rintro _ q287 rfl
      refine RD.one 8 (RDO.ev [] [.own 3,.own 3,.own 3,.own 3] λ _=>?_)
      refine RD.fin<|RN.go 1 [] λ _=>RN.ret [.own 3,.own 3,.own 3,.own 3] [1,0] [0] (v:=.agg #[vI 1,vI 0,.string (vsL.getD k270 ⟨#[]⟩),vS q287 0 1 1]) (H':=(ap [(g,.lit [.slice A n c,vI (i282:Int)] 113 (0,0)),(q287,.rows 4 1 (nrow [x281]) 70 (0,0))] [T283])) ?_
      exact ⟨(.mk 1 0 (vsL.getD k270 ⟨#[]⟩) (some ⟨q287,0,none⟩) 1 [x281],i282,(q287,.rows 4 1 (nrow [x281]) 70 (0,0)) :: (T283)),(by simp [ap]),rfl,(by dsimp only;omega),.one hg285 (by omega),.one hT286⟩
    ·refine RDO.ct [] [0] [] (pick_any g c i3 n A 4 (by omega) (by omega) hn _ hG.up) ?_
     rintro _ ⟨k288,i289⟩ ⟨rfl,hk290,hi291⟩
     dsimp only at hk290 hi291
     refine RD.two 0 6 ?_ ?_
     ·refine RDO.ev [] [] λ n292=>RD.dn 0 (.rows 1 4 (strow vsL) 9 (0,0))<|RD.goP [] [3] [.ix k288] [(k288:Int)=((k288:Nat):Int) /\ k288 < 4]<|RD.two 4 6 ?_ ?_
      ·refine RDO.evP [] [.row 0 k288 0] [(0+k288 * 1)=k288 * 1+0 /\ k288 < 4] λ _=>RD.one 6 (RDO.ct [] [1] [] (int_any (g:=g) (c:=c) hn 1000 2 (by omega) (by omega) (by omega) i289 _ (by omega) hG.up) ?_)
       rintro _ ⟨x293,i294,T295⟩ ⟨rfl,hi296,hg297,hT298⟩
       dsimp only at hi296 hg297 hT298
       refine RD.one 7 (RDO.ct [] (Hp:=[]) (Tp:=[]) [] [] (one_any 1 (vsL.getD k288 ⟨#[]⟩) x293 _) ?_)
       rintro _ q299 rfl
       refine RD.one 8 (RDO.ev [] [.own 3,.own 3,.own 3,.own 3] λ _=>?_)
       refine RD.fin<|RN.go 1 [] λ _=>RN.ret [.own 3,.own 3,.own 3,.own 3] [1,0] [0] (v:=.agg #[vI 1,vI 0,.string (vsL.getD k288 ⟨#[]⟩),vS q299 0 1 1]) (H':=(ap [(g,.lit [.slice A n c,vI (i294:Int)] 113 (0,0)),(q299,.rows 4 1 (nrow [x293]) 70 (0,0))] [T295])) ?_
       exact ⟨(.mk 1 0 (vsL.getD k288 ⟨#[]⟩) (some ⟨q299,0,none⟩) 1 [x293],i294,(q299,.rows 4 1 (nrow [x293]) 70 (0,0)) :: (T295)),(by simp [ap]),rfl,(by dsimp only;omega),.one hg297 (by omega),.one hT298⟩
      ·refine RDO.ct [] [1] [] (int_any (g:=g) (c:=c) hn 1000 2 (by omega) (by omega) (by omega) i289 _ (by omega) hG.up) ?_
       rintro _ ⟨x300,i301,T302⟩ ⟨rfl,hi303,hg304,hT305⟩
       dsimp only at hi303 hg304 hT305
       refine RD.one 4 (RDO.evP [] [.row 1 k288 0] [(0+k288 * 1)=k288 * 1+0 /\ k288 < 4] λ _=>?_)
       refine RD.one 7 (RDO.ct [] (Hp:=[]) (Tp:=[]) [] [] (one_any 1 (vsL.getD k288 ⟨#[]⟩) x300 _) ?_)
       rintro _ q306 rfl
       refine RD.one 8 (RDO.ev [] [.own 3,.own 3,.own 3,.own 3] λ _=>?_)
       refine RD.fin<|RN.go 1 [] λ _=>RN.ret [.own 3,.own 3,.own 3,.own 3] [1,0] [0] (v:=.agg #[vI 1,vI 0,.string (vsL.getD k288 ⟨#[]⟩),vS q306 0 1 1]) (H':=(ap [(g,.lit [.slice A n c,vI (i301:Int)] 113 (0,0)),(q306,.rows 4 1 (nrow [x300]) 70 (0,0))] [T302])) ?_
       exact ⟨(.mk 1 0 (vsL.getD k288 ⟨#[]⟩) (some ⟨q306,0,none⟩) 1 [x300],i301,(q306,.rows 4 1 (nrow [x300]) 70 (0,0)) :: (T302)),(by simp [ap]),rfl,(by dsimp only;omega),.one hg304 (by omega),.one hT305⟩
     ·refine RDO.ct [] [0] [] (int_any (g:=g) (c:=c) hn 1000 2 (by omega) (by omega) (by omega) i289 _ (by omega) hG.up) ?_
      rintro _ ⟨x307,i308,T309⟩ ⟨rfl,hi310,hg311,hT312⟩
      dsimp only at hi310 hg311 hT312
      refine RD.one 0 (RDO.ev [] [] λ n313=>?_)
      refine RD.dn 0 (.rows 1 4 (strow vsL) 9 (0,0))<|RD.goP [] [3] [.ix k288] [(k288:Int)=((k288:Nat):Int) /\ k288 < 4]<|RD.one 4 (RDO.evP [] [.row 0 k288 0] [(0+k288 * 1)=k288 * 1+0 /\ k288 < 4] λ _=>?_)
      refine RD.one 7 (RDO.ct [] (Hp:=[]) (Tp:=[]) [] [] (one_any 1 (vsL.getD k288 ⟨#[]⟩) x307 _) ?_)
      rintro _ q314 rfl
      refine RD.one 8 (RDO.ev [] [.own 3,.own 3,.own 3,.own 3] λ _=>?_)
      refine RD.fin<|RN.go 1 [] λ _=>RN.ret [.own 3,.own 3,.own 3,.own 3] [2,0] [0] (v:=.agg #[vI 1,vI 0,.string (vsL.getD k288 ⟨#[]⟩),vS q314 0 1 1]) (H':=(ap [(g,.lit [.slice A n c,vI (i308:Int)] 113 (0,0)),(q314,.rows 4 1 (nrow [x307]) 70 (0,0))] [T309])) ?_
      exact ⟨(.mk 1 0 (vsL.getD k288 ⟨#[]⟩) (some ⟨q314,0,none⟩) 1 [x307],i308,(q314,.rows 4 1 (nrow [x307]) 70 (0,0)) :: (T309)),(by simp [ap]),rfl,(by dsimp only;omega),.one hg311 (by omega),.one hT312⟩
   ·refine RN.go 8 [] λ _=>RN.em ((k2:Int)=2) 31 (λ h315=>?_) λ h315=>?_
    ·refine RN.go 8 [] λ n316=>RN.ct [1] [] (pick_any g c i3 n A 6 (by omega) (by omega) hn _ hG.up) ?_
     rintro _ ⟨k317,i318⟩ ⟨rfl,hk319,hi320⟩
     dsimp only at hk319 hi320
     refine RN.dn 1 (.rows 1 6 (strow stL) 9 (0,0))<|RN.goP 8 [.ix k317,.row 1 k317 0] [(0+k317 * 1)=k317 * 1+0 /\ k317 < 6,(k317:Int)=((k317:Nat):Int) /\ k317 < 6] λ _=>RN.ct [0] [] (int_any (g:=g) (c:=c) hn 1000 1 (by omega) (by omega) (by omega) i318 _ (by omega) hG.up) ?_
     rintro _ ⟨x321,i322,T323⟩ ⟨rfl,hi324,hg325,hT326⟩
     dsimp only at hi324 hg325 hT326
     refine RN.go 5 [.own 0,.own 0,.own 0,.own 0] λ n327=>RN.draw [3,4,5] []<|RD.go [] [0,2] []<|RD.two 1 3 ?_ ?_
     ·refine RDO.ev [] [.own 0,.own 0,.own 0,.own 0] λ _=>RD.one 3 (RDO.ct [] [1] [] (int_any (g:=g) (c:=c) hn 1000 2 (by omega) (by omega) (by omega) i322 _ (by omega) hG.up) ?_)
      rintro _ ⟨x328,i329,T330⟩ ⟨rfl,hi331,hg332,hT333⟩
      dsimp only at hi331 hg332 hT333
      refine RD.one 4 (RDO.ct [] (Hp:=[]) (Tp:=[]) [] [] (two_any 2 (stL.getD k317 ⟨#[]⟩) x321 x328 _) ?_)
      rintro _ q334 rfl
      refine RD.one 5 (RDO.ev [] [.own 4,.own 4,.own 4,.own 4] λ _=>?_)
      refine RD.fin<|RN.go 1 [] λ _=>RN.ret [.own 4,.own 4,.own 4,.own 4] [1,0] [0,1] (v:=.agg #[vI 2,vI 0,.string (stL.getD k317 ⟨#[]⟩),vS q334 0 2 2]) (H':=(ap [(g,.lit [.slice A n c,vI (i329:Int)] 113 (0,0)),(q334,.rows 4 2 (nrow [x321,x328]) 70 (0,0))] [T330,T323])) ?_
      exact ⟨(.mk 2 0 (stL.getD k317 ⟨#[]⟩) (some ⟨q334,0,none⟩) 2 [x321,x328],i329,(q334,.rows 4 2 (nrow [x321,x328]) 70 (0,0)) :: (T330++T323)),(by simp [ap]),rfl,(by dsimp only;omega),.two hg325 hg332 (by omega) (by omega),.two hT326 hT333⟩
     ·refine RDO.ct [] [1] [] (int_any (g:=g) (c:=c) hn 1000 2 (by omega) (by omega) (by omega) i322 _ (by omega) hG.up) ?_
      rintro _ ⟨x335,i336,T337⟩ ⟨rfl,hi338,hg339,hT340⟩
      dsimp only at hi338 hg339 hT340
      refine RD.one 1 (RDO.ev [] [.own 1,.own 1,.own 1,.own 1] λ _=>?_)
      refine RD.one 4 (RDO.ct [] (Hp:=[]) (Tp:=[]) [] [] (two_any 2 (stL.getD k317 ⟨#[]⟩) x321 x335 _) ?_)
      rintro _ q341 rfl
      refine RD.one 5 (RDO.ev [] [.own 4,.own 4,.own 4,.own 4] λ _=>?_)
      refine RD.fin<|RN.go 1 [] λ _=>RN.ret [.own 4,.own 4,.own 4,.own 4] [1,0] [0,1] (v:=.agg #[vI 2,vI 0,.string (stL.getD k317 ⟨#[]⟩),vS q341 0 2 2]) (H':=(ap [(g,.lit [.slice A n c,vI (i336:Int)] 113 (0,0)),(q341,.rows 4 2 (nrow [x321,x335]) 70 (0,0))] [T337,T323])) ?_
      exact ⟨(.mk 2 0 (stL.getD k317 ⟨#[]⟩) (some ⟨q341,0,none⟩) 2 [x321,x335],i336,(q341,.rows 4 2 (nrow [x321,x335]) 70 (0,0)) :: (T337++T323)),(by simp [ap]),rfl,(by dsimp only;omega),.two hg325 hg339 (by omega) (by omega),.two hT326 hT340⟩
    ·refine RN.go 7 [] λ _=>RN.em ((k2:Int)=3) 31 (λ h342=>?_) λ h342=>?_
     ·refine RN.go 8 [] λ n343=>RN.ct [1] [] (pick_any g c i3 n A 6 (by omega) (by omega) hn _ hG.up) ?_
      rintro _ ⟨k344,i345⟩ ⟨rfl,hk346,hi347⟩
      dsimp only at hk346 hi347
      refine RN.dn 1 (.rows 1 6 (strow stL) 9 (0,0))<|RN.goP 8 [.ix k344,.row 1 k344 0] [(0+k344 * 1)=k344 * 1+0 /\ k344 < 6,(k344:Int)=((k344:Nat):Int) /\ k344 < 6] λ _=>RN.ct [0] [] (int_any (g:=g) (c:=c) hn 1000 1 (by omega) (by omega) (by omega) i345 _ (by omega) hG.up) ?_
      rintro _ ⟨x348,i349,T350⟩ ⟨rfl,hi351,hg352,hT353⟩
      dsimp only at hi351 hg352 hT353
      refine RN.go 5 [.own 0,.own 0,.own 0,.own 0] λ n354=>RN.draw [3,4,5] []<|RD.go [] [0,2] []<|RD.two 1 3 ?_ ?_
      ·refine RDO.ev [] [.own 0,.own 0,.own 0,.own 0] λ _=>RD.one 3 (RDO.ct [] [1] [] (int_any (g:=g) (c:=c) hn 1000 2 (by omega) (by omega) (by omega) i349 _ (by omega) hG.up) ?_)
       rintro _ ⟨x355,i356,T357⟩ ⟨rfl,hi358,hg359,hT360⟩
       dsimp only at hi358 hg359 hT360
       refine RD.one 4 (RDO.ct [] (Hp:=[]) (Tp:=[]) [] [] (two_any 2 (stL.getD k344 ⟨#[]⟩) x348 x355 _) ?_)
       rintro _ q361 rfl
       refine RD.one 5 (RDO.ev [] [.own 4,.own 4,.own 4,.own 4] λ _=>?_)
       refine RD.fin<|RN.go 1 [] λ _=>RN.ret [.own 4,.own 4,.own 4,.own 4] [1,0] [0,1] (v:=.agg #[vI 2,vI 0,.string (stL.getD k344 ⟨#[]⟩),vS q361 0 2 2]) (H':=(ap [(g,.lit [.slice A n c,vI (i356:Int)] 113 (0,0)),(q361,.rows 4 2 (nrow [x348,x355]) 70 (0,0))] [T357,T350])) ?_
       exact ⟨(.mk 2 0 (stL.getD k344 ⟨#[]⟩) (some ⟨q361,0,none⟩) 2 [x348,x355],i356,(q361,.rows 4 2 (nrow [x348,x355]) 70 (0,0)) :: (T357++T350)),(by simp [ap]),rfl,(by dsimp only;omega),.two hg352 hg359 (by omega) (by omega),.two hT353 hT360⟩
      ·refine RDO.ct [] [1] [] (int_any (g:=g) (c:=c) hn 1000 2 (by omega) (by omega) (by omega) i349 _ (by omega) hG.up) ?_
       rintro _ ⟨x362,i363,T364⟩ ⟨rfl,hi365,hg366,hT367⟩
       dsimp only at hi365 hg366 hT367
       refine RD.one 1 (RDO.ev [] [.own 1,.own 1,.own 1,.own 1] λ _=>?_)
       refine RD.one 4 (RDO.ct [] (Hp:=[]) (Tp:=[]) [] [] (two_any 2 (stL.getD k344 ⟨#[]⟩) x348 x362 _) ?_)
       rintro _ q368 rfl
       refine RD.one 5 (RDO.ev [] [.own 4,.own 4,.own 4,.own 4] λ _=>?_)
       refine RD.fin<|RN.go 1 [] λ _=>RN.ret [.own 4,.own 4,.own 4,.own 4] [1,0] [0,1] (v:=.agg #[vI 2,vI 0,.string (stL.getD k344 ⟨#[]⟩),vS q368 0 2 2]) (H':=(ap [(g,.lit [.slice A n c,vI (i363:Int)] 113 (0,0)),(q368,.rows 4 2 (nrow [x348,x362]) 70 (0,0))] [T364,T350])) ?_
       exact ⟨(.mk 2 0 (stL.getD k344 ⟨#[]⟩) (some ⟨q368,0,none⟩) 2 [x348,x362],i363,(q368,.rows 4 2 (nrow [x348,x362]) 70 (0,0)) :: (T364++T350)),(by simp [ap]),rfl,(by dsimp only;omega),.two hg352 hg366 (by omega) (by omega),.two hT353 hT367⟩
     ·refine RN.go 6 [] λ _=>RN.em ((k2:Int)=4) 31 (λ h369=>?_) λ h369=>?_
      ·refine RN.go 5 [] λ n370=>RN.ct [1] [] (pick_any g c i3 n A 6 (by omega) (by omega) hn _ hG.up) ?_
       rintro _ ⟨k371,i372⟩ ⟨rfl,hk373,hi374⟩
       dsimp only at hk373 hi374
       refine RN.dn 1 (.rows 1 6 (strow stL) 9 (0,0))<|RN.goP 8 [.ix k371,.row 1 k371 0] [(0+k371 * 1)=k371 * 1+0 /\ k371 < 6,(k371:Int)=((k371:Nat):Int) /\ k371 < 6] λ _=>RN.ct [0] [] (int_any (g:=g) (c:=c) hn 1000 1 (by omega) (by omega) (by omega) i372 _ (by omega) hG.up) ?_
       rintro _ ⟨x375,i376,T377⟩ ⟨rfl,hi378,hg379,hT380⟩
       dsimp only at hi378 hg379 hT380
       refine RN.go 5 [.own 0,.own 0,.own 0,.own 0] λ n381=>RN.draw [3,4,5] []<|RD.go [] [0,2] []<|RD.two 1 3 ?_ ?_
       ·refine RDO.ev [] [.own 0,.own 0,.own 0,.own 0] λ _=>RD.one 3 (RDO.ct [] [1] [] (int_any (g:=g) (c:=c) hn 1000 2 (by omega) (by omega) (by omega) i376 _ (by omega) hG.up) ?_)
        rintro _ ⟨x382,i383,T384⟩ ⟨rfl,hi385,hg386,hT387⟩
        dsimp only at hi385 hg386 hT387
        refine RD.one 4 (RDO.ct [] (Hp:=[]) (Tp:=[]) [] [] (two_any 2 (stL.getD k371 ⟨#[]⟩) x375 x382 _) ?_)
        rintro _ q388 rfl
        refine RD.one 5 (RDO.ev [] [.own 4,.own 4,.own 4,.own 4] λ _=>?_)
        refine RD.fin<|RN.go 1 [] λ _=>RN.ret [.own 4,.own 4,.own 4,.own 4] [1,0] [0,1] (v:=.agg #[vI 2,vI 0,.string (stL.getD k371 ⟨#[]⟩),vS q388 0 2 2]) (H':=(ap [(g,.lit [.slice A n c,vI (i383:Int)] 113 (0,0)),(q388,.rows 4 2 (nrow [x375,x382]) 70 (0,0))] [T384,T377])) ?_
        exact ⟨(.mk 2 0 (stL.getD k371 ⟨#[]⟩) (some ⟨q388,0,none⟩) 2 [x375,x382],i383,(q388,.rows 4 2 (nrow [x375,x382]) 70 (0,0)) :: (T384++T377)),(by simp [ap]),rfl,(by dsimp only;omega),.two hg379 hg386 (by omega) (by omega),.two hT380 hT387⟩
       ·refine RDO.ct [] [1] [] (int_any (g:=g) (c:=c) hn 1000 2 (by omega) (by omega) (by omega) i376 _ (by omega) hG.up) ?_
        rintro _ ⟨x389,i390,T391⟩ ⟨rfl,hi392,hg393,hT394⟩
        dsimp only at hi392 hg393 hT394
        refine RD.one 1 (RDO.ev [] [.own 1,.own 1,.own 1,.own 1] λ _=>?_)
        refine RD.one 4 (RDO.ct [] (Hp:=[]) (Tp:=[]) [] [] (two_any 2 (stL.getD k371 ⟨#[]⟩) x375 x389 _) ?_)
        rintro _ q395 rfl
        refine RD.one 5 (RDO.ev [] [.own 4,.own 4,.own 4,.own 4] λ _=>?_)
        refine RD.fin<|RN.go 1 [] λ _=>RN.ret [.own 4,.own 4,.own 4,.own 4] [1,0] [0,1] (v:=.agg #[vI 2,vI 0,.string (stL.getD k371 ⟨#[]⟩),vS q395 0 2 2]) (H':=(ap [(g,.lit [.slice A n c,vI (i390:Int)] 113 (0,0)),(q395,.rows 4 2 (nrow [x375,x389]) 70 (0,0))] [T391,T377])) ?_
        exact ⟨(.mk 2 0 (stL.getD k371 ⟨#[]⟩) (some ⟨q395,0,none⟩) 2 [x375,x389],i390,(q395,.rows 4 2 (nrow [x375,x389]) 70 (0,0)) :: (T391++T377)),(by simp [ap]),rfl,(by dsimp only;omega),.two hg379 hg393 (by omega) (by omega),.two hT380 hT394⟩
      ·refine RN.go 7 [] λ _=>RN.em ((k2:Int)=5) 47 (λ h396=>?_) λ h396=>?_
       ·refine RN.go 4 [] λ _=>RN.ct [0] [] (int_any (g:=g) (c:=c) hn 1000 0 (by omega) (by omega) (by omega) i3 _ (by omega) hG.up) ?_
        rintro _ ⟨x397,i398,T399⟩ ⟨rfl,hi400,hg401,hT402⟩
        dsimp only at hi400 hg401 hT402
        refine RN.go 5 [.own 0,.own 0,.own 0,.own 0] λ n403=>RN.draw [2,3,4] []<|RD.go [] [1] []<|RD.two 0 2 ?_ ?_
        ·refine RDO.ev [] [.own 0,.own 0,.own 0,.own 0] λ _=>RD.one 2 (RDO.ct [] [1] [] (int_any (g:=g) (c:=c) hn 1000 1 (by omega) (by omega) (by omega) i398 _ (by omega) hG.up) ?_)
         rintro _ ⟨x404,i405,T406⟩ ⟨rfl,hi407,hg408,hT409⟩
         dsimp only at hi407 hg408 hT409
         refine RD.one 3 (RDO.ct [] (Hp:=[]) (Tp:=[]) [] [] (two_any 5 ⟨#[]⟩ x397 x404 _) ?_)
         rintro _ q410 rfl
         refine RD.one 4 (RDO.ev [] [.own 3,.own 3,.own 3,.own 3] λ _=>?_)
         refine RD.fin<|RN.go 1 [] λ _=>RN.ret [.own 3,.own 3,.own 3,.own 3] [1,0] [0,1] (v:=.agg #[vI 5,vI 0,.string ⟨#[]⟩,vS q410 0 2 2]) (H':=(ap [(g,.lit [.slice A n c,vI (i405:Int)] 113 (0,0)),(q410,.rows 4 2 (nrow [x397,x404]) 70 (0,0))] [T406,T399])) ?_
         exact ⟨(.mk 5 0 ⟨#[]⟩ (some ⟨q410,0,none⟩) 2 [x397,x404],i405,(q410,.rows 4 2 (nrow [x397,x404]) 70 (0,0)) :: (T406++T399)),(by simp [ap]),rfl,(by dsimp only;omega),.two hg401 hg408 (by omega) (by omega),.two hT402 hT409⟩
        ·refine RDO.ct [] [1] [] (int_any (g:=g) (c:=c) hn 1000 1 (by omega) (by omega) (by omega) i398 _ (by omega) hG.up) ?_
         rintro _ ⟨x411,i412,T413⟩ ⟨rfl,hi414,hg415,hT416⟩
         dsimp only at hi414 hg415 hT416
         refine RD.one 0 (RDO.ev [] [.own 1,.own 1,.own 1,.own 1] λ _=>?_)
         refine RD.one 3 (RDO.ct [] (Hp:=[]) (Tp:=[]) [] [] (two_any 5 ⟨#[]⟩ x397 x411 _) ?_)
         rintro _ q417 rfl
         refine RD.one 4 (RDO.ev [] [.own 3,.own 3,.own 3,.own 3] λ _=>?_)
         refine RD.fin<|RN.go 1 [] λ _=>RN.ret [.own 3,.own 3,.own 3,.own 3] [1,0] [0,1] (v:=.agg #[vI 5,vI 0,.string ⟨#[]⟩,vS q417 0 2 2]) (H':=(ap [(g,.lit [.slice A n c,vI (i412:Int)] 113 (0,0)),(q417,.rows 4 2 (nrow [x397,x411]) 70 (0,0))] [T413,T399])) ?_
         exact ⟨(.mk 5 0 ⟨#[]⟩ (some ⟨q417,0,none⟩) 2 [x397,x411],i412,(q417,.rows 4 2 (nrow [x397,x411]) 70 (0,0)) :: (T413++T399)),(by simp [ap]),rfl,(by dsimp only;omega),.two hg401 hg415 (by omega) (by omega),.two hT402 hT416⟩
       ·refine RN.go 7 [] λ _=>RN.em ((k2:Int)=6) 55 (λ h418=>?_) λ h418=>?_
        ·refine RN.go 5 [] λ _=>RN.ct [0] [] (pick_any g c i3 n A 3 (by omega) (by omega) hn _ hG.up) ?_
         rintro _ ⟨k419,i420⟩ ⟨rfl,hk421,hi422⟩
         dsimp only at hk421 hi422
         refine RN.go 3 [] λ _=>RN.em ((k419:Int) > 0) 59 (λ h423=>?_) λ h423=>?_
         ·refine RN.go 4 [] λ _=>RN.ct [0] [] (int_any (g:=g) (c:=c) hn 1000 1 (by omega) (by omega) (by omega) i420 _ (by omega) hG.up) ?_
          rintro _ ⟨x424,i425,T426⟩ ⟨rfl,hi427,hg428,hT429⟩
          dsimp only at hi427 hg428 hT429
          refine RN.ct (Hp:=[]) (Tp:=[]) [] [] (one_any 1 ⟨#[110]⟩ x424 _) ?_
          rintro _ q430 rfl
          refine RN.go 3 [.own 2,.own 2,.own 2,.own 2] λ _=>RN.ret [.own 2,.own 2,.own 2,.own 2] [1,0] [0] (v:=.agg #[vI 1,vI 0,.string ⟨#[110]⟩,vS q430 0 1 1]) (H':=(ap [(g,.lit [.slice A n c,vI (i425:Int)] 113 (0,0)),(q430,.rows 4 1 (nrow [x424]) 70 (0,0))] [T426])) ?_
          exact ⟨(.mk 1 0 ⟨#[110]⟩ (some ⟨q430,0,none⟩) 1 [x424],i425,(q430,.rows 4 1 (nrow [x424]) 70 (0,0)) :: (T426)),(by simp [ap]),rfl,(by dsimp only;omega),.one hg428 (by omega),.one hT429⟩
         ·refine RN.go 9 [.own 1,.own 1,.own 1,.own 1] λ _=>RN.ret [.own 1,.own 1,.own 1,.own 1] [0] [] (v:=.agg #[vI 6,vI 0,.string ⟨#[]⟩,.slice none 0 0]) (H':=(ap [(g,.lit [.slice A n c,vI (i420:Int)] 113 (0,0))] [])) ?_
          exact ⟨(.mk 6 0 ⟨#[]⟩ none 0 [],i420,[]),(by simp [ap]),rfl,(by dsimp only;omega),.zero,.zero⟩
        ·refine RN.go 7 [] λ _=>RN.em ((k2:Int)=7) 64 (λ h431=>?_) λ h431=>?_
         ·refine RN.go 4 [] λ _=>RN.ct [0] [] (bool_any (g:=g) (c:=c) hn 1000 1 (by omega) (by omega) (by omega) i3 _ (by omega) hG.up) ?_
          rintro _ ⟨x432,i433,T434⟩ ⟨rfl,hi435,hg436,hT437⟩
          dsimp only at hi435 hg436 hT437
          refine RN.go 5 [.own 0,.own 0,.own 0,.own 0] λ n438=>RN.draw [4,5,6] []<|RD.goP [] [1,2,3] [.nw] [I64 (d - 1)]<|RD.two 0 4 ?_ ?_
          ·refine RDO.ev [] [.own 0,.own 0,.own 0,.own 0] λ _=>RD.one 4 (RDO.ct [] [1] [] (ih (by omega) i433 _ (by omega) hG.up) ?_)
           rintro _ ⟨x439,i440,T441⟩ ⟨rfl,hi442,hg443,hT444⟩
           dsimp only at hi442 hg443 hT444
           refine RD.one 5 (RDO.ct [] (Hp:=[]) (Tp:=[]) [] [] (two_any 4 ⟨#[]⟩ x432 x439 _) ?_)
           rintro _ q445 rfl
           refine RD.one 6 (RDO.ev [] [.own 3,.own 3,.own 3,.own 3] λ _=>?_)
           refine RD.fin<|RN.go 1 [] λ _=>RN.ret [.own 3,.own 3,.own 3,.own 3] [1,0] [0,1] (v:=.agg #[vI 4,vI 0,.string ⟨#[]⟩,vS q445 0 2 2]) (H':=(ap [(g,.lit [.slice A n c,vI (i440:Int)] 113 (0,0)),(q445,.rows 4 2 (nrow [x432,x439]) 70 (0,0))] [T441,T434])) ?_
           exact ⟨(.mk 4 0 ⟨#[]⟩ (some ⟨q445,0,none⟩) 2 [x432,x439],i440,(q445,.rows 4 2 (nrow [x432,x439]) 70 (0,0)) :: (T441++T434)),(by simp [ap]),rfl,(by dsimp only;omega),.two hg436 hg443 (by omega) (by omega),.two hT437 hT444⟩
          ·refine RDO.ct [] [1] [] (ih (by omega) i433 _ (by omega) hG.up) ?_
           rintro _ ⟨x446,i447,T448⟩ ⟨rfl,hi449,hg450,hT451⟩
           dsimp only at hi449 hg450 hT451
           refine RD.one 0 (RDO.ev [] [.own 1,.own 1,.own 1,.own 1] λ _=>?_)
           refine RD.one 5 (RDO.ct [] (Hp:=[]) (Tp:=[]) [] [] (two_any 4 ⟨#[]⟩ x432 x446 _) ?_)
           rintro _ q452 rfl
           refine RD.one 6 (RDO.ev [] [.own 3,.own 3,.own 3,.own 3] λ _=>?_)
           refine RD.fin<|RN.go 1 [] λ _=>RN.ret [.own 3,.own 3,.own 3,.own 3] [1,0] [0,1] (v:=.agg #[vI 4,vI 0,.string ⟨#[]⟩,vS q452 0 2 2]) (H':=(ap [(g,.lit [.slice A n c,vI (i447:Int)] 113 (0,0)),(q452,.rows 4 2 (nrow [x432,x446]) 70 (0,0))] [T448,T434])) ?_
           exact ⟨(.mk 4 0 ⟨#[]⟩ (some ⟨q452,0,none⟩) 2 [x432,x446],i447,(q452,.rows 4 2 (nrow [x432,x446]) 70 (0,0)) :: (T448++T434)),(by simp [ap]),rfl,(by dsimp only;omega),.two hg436 hg450 (by omega) (by omega),.two hT437 hT451⟩
         ·refine RN.go 7 [] λ _=>RN.ct [0] [] (bool_any (g:=g) (c:=c) hn 1000 2 (by omega) (by omega) (by omega) i3 _ (by omega) hG.up) ?_
          rintro _ ⟨x453,i454,T455⟩ ⟨rfl,hi456,hg457,hT458⟩
          dsimp only at hi456 hg457 hT458
          refine RN.goP 9 [.own 0,.own 0,.own 0,.own 0,.nw] [I64 (d - 1)] λ n459=>RN.ct [1] [] (ih (by omega) i454 _ (by omega) hG.up) ?_
          rintro _ ⟨x460,i461,T462⟩ ⟨rfl,hi463,hg464,hT465⟩
          dsimp only at hi463 hg464 hT465
          refine RN.go 15 (ow 0 8) λ n466=>RN.ct [2] [] (pick_any g c i461 n A 2 (by omega) (by omega) hn _ hG.up) ?_
          rintro _ ⟨k467,i468⟩ ⟨rfl,hk469,hi470⟩
          dsimp only at hk469 hi470
          refine RN.go 3 [] λ _=>RN.em ((k467:Int)=1) 83 (λ h471=>?_) λ h471=>?_
          ·refine RN.goP 5 [.nw] [I64 (d - 1)] λ _=>RN.ct [0] [] (ih (by omega) i468 _ (by omega) hG.up) ?_
           rintro _ ⟨x472,i473,T474⟩ ⟨rfl,hi475,hg476,hT477⟩
           dsimp only at hi475 hg476 hT477
           refine RN.go 13 [.own 1,.own 1,.own 1,.own 1,.own 3,.own 3,.own 3,.own 3,.own 2,.own 2,.own 2,.own 2,.own 1,.own 1,.own 1,.own 1,.own 5,.own 5,.own 5,.own 5] λ n478=>RN.dn 0 (.rows 4 3 (nrow [x453,x460,x472]) 70 (0,0))<|RN.ret [.own 5,.own 5,.own 5,.own 5] [1,0] [0,1,2] (v:=.agg #[vI 3,vI 0,.string ⟨#[]⟩,vS (n478+0) 0 3 3]) (H':=(ap [(g,.lit [.slice A n c,vI (i473:Int)] 113 (0,0)),((n478+0),.rows 4 3 (nrow [x453,x460,x472]) 70 (0,0))] [T474,T462,T455])) ?_
           exact ⟨(.mk 3 0 ⟨#[]⟩ (some ⟨(n478+0),0,none⟩) 3 [x453,x460,x472],i473,((n478+0),.rows 4 3 (nrow [x453,x460,x472]) 70 (0,0)) :: (T474++(T462++T455))),(by simp [ap]),rfl,(by dsimp only;omega),.three hg457 hg464 hg476 (by omega) (by omega) (by omega),.three hT458 hT465 hT477⟩
          ·refine RN.go 13 [.own 3,.own 3,.own 3,.own 3,.own 2,.own 2,.own 2,.own 2,.own 1,.own 1,.own 1,.own 1,.own 5,.own 5,.own 5,.own 5] λ n479=>RN.dn 0 (.rows 4 3 (nrow [x453,x460,(.mk 7 0 ⟨#[]⟩ none 0 [])]) 70 (0,0))<|RN.ret [.own 5,.own 5,.own 5,.own 5] [1,0] [0,1] (v:=.agg #[vI 3,vI 0,.string ⟨#[]⟩,vS (n479+0) 0 3 3]) (H':=(ap [(g,.lit [.slice A n c,vI (i468:Int)] 113 (0,0)),((n479+0),.rows 4 3 (nrow [x453,x460,(.mk 7 0 ⟨#[]⟩ none 0 [])]) 70 (0,0))] [T462,T455])) ?_
           exact ⟨(.mk 3 0 ⟨#[]⟩ (some ⟨(n479+0),0,none⟩) 3 [x453,x460,(.mk 7 0 ⟨#[]⟩ none 0 [])],i468,((n479+0),.rows 4 3 (nrow [x453,x460,(.mk 7 0 ⟨#[]⟩ none 0 [])]) 70 (0,0)) :: ([]++(T462++T455))),(by simp [ap]),rfl,(by dsimp only;omega),.three hg457 hg464 (Ht.zero (h:=0)) (by omega) (by omega) (by omega),.three hT458 hT465 .zero⟩
end Go.Proofs.YtkhifpbokgabbaaGreatDoor
