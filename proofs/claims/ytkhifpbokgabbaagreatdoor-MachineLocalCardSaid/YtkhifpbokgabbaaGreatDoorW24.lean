import Derived.Test.YtkhifpbokgabbaaGreatDoorW23
set_option maxHeartbeats 4000000
set_option maxRecDepth 100000
set_option linter.unusedSimpArgs false
set_option linter.unusedVariables false
namespace Go.Proofs.YtkhifpbokgabbaaGreatDoor
open Go.RowKit
theorem bool_step (g c i n:Nat) (A:Option Addr) (d:Int) (hd:-10 <= d /\ d <= 1000) (hi:i <= n) (hn:n <= 60) (F:HL) (hG:GIn F A n) (ih:0 < d -> ∀ (i:Nat) (F:HL),i <= n -> GIn F A n -> GenS 108 #[vP g 0,vI (d - 1)] (Ht ((d - 1).toNat+2)) g c n A i F):Sp Tryz.prog 108 #[vP g 0,vI d] [(g,.lit [.slice A n c,vI (i:Int)] 113 (0,0))] F (λ u H'=>∃ x:Nd × Nat × HL,H'=ap [(g,.lit [.slice A n c,vI (x.2.1:Int)] 113 (0,0))] [x.2.2] /\ (u=ndV x.1 /\ x.2.1 <= n /\ Ht (d.toNat+2) x.1 /\ NdH x.1 x.2.2)):=by
 refine Sp.run Tryz.func108 rfl mn (A:=[(g,.lit [.slice A n c,vI (i:Int)] 113 (0,0))]) (Ts:=[]) rfl λ w0=>?_
 refine RN.go 8 [] λ n1=>RN.ct [1] [] (pick_any g c i n A 8 (by omega) (by omega) hn _ hG.up) ?_
 rintro _ ⟨k2,i3⟩ ⟨rfl,hk4,hi5⟩
 dsimp only at hk4 hi5
 refine RN.go 10 [] λ _=>RN.em (d <= 0) 13 (λ h6=>?_) λ h6=>?_
 ·refine RN.goP 20 [.nw] [0 <= (k2:Int) /\ (0:Int) < 4 /\ (k2:Int) <= 9223372036854775807] λ _=>RN.em ((k2:Int) % 4=0) 17 (λ h7=>?_) λ h7=>?_
  ·refine RN.go 4 [] λ _=>RN.ct [0] [] (pick_any g c i3 n A 2 (by omega) (by omega) hn _ hG.up) ?_
   rintro _ ⟨k8,i9⟩ ⟨rfl,hk10,hi11⟩
   dsimp only at hk10 hi11
   refine RN.go 4 [.own 1,.own 1,.own 1,.own 1] λ _=>RN.ret [.own 1,.own 1,.own 1,.own 1] [0] [] (v:=.agg #[vI 9,vI (k8:Int),.string ⟨#[]⟩,.slice none 0 0]) (H':=(ap [(g,.lit [.slice A n c,vI (i9:Int)] 113 (0,0))] [])) ?_
   exact ⟨(.mk 9 (k8:Int) ⟨#[]⟩ none 0 [],i9,[]),(by simp [ap]),rfl,(by dsimp only;omega),.zero,.zero⟩
  ·refine RN.go 8 [] λ _=>RN.em ((k2:Int) % 4=1) 22 (λ h12=>?_) λ h12=>?_
   ·refine RN.go 8 [] λ n13=>RN.ct [1] [] (pick_any g c i3 n A 6 (by omega) (by omega) hn _ hG.up) ?_
    rintro _ ⟨k14,i15⟩ ⟨rfl,hk16,hi17⟩
    dsimp only at hk16 hi17
    refine RN.dn 1 (.rows 1 6 (strow cmL) 9 (0,0))<|RN.goP 10 [.ix k14,.row 1 k14 0,.nw] [I64 (d - 1),(0+k14 * 1)=k14 * 1+0 /\ k14 < 6,(k14:Int)=((k14:Nat):Int) /\ k14 < 6] λ _=>RN.ct [0] [] (int_any (g:=g) (c:=c) hn 1000 (d - 1) (by omega) (by omega) (by omega) i15 _ (by omega) hG.up) ?_
    rintro _ ⟨x18,i19,T20⟩ ⟨rfl,hi21,hg22,hT23⟩
    dsimp only at hi21 hg22 hT23
    refine RN.go 5 [.own 0,.own 0,.own 0,.own 0] λ n24=>RN.draw [5,6,7] []<|RD.goP [] [0,2,3,4] [.nw] [I64 (d - 1)]<|RD.two 1 5 ?_ ?_
    ·refine RDO.ev [] [.own 0,.own 0,.own 0,.own 0] λ _=>RD.one 5 (RDO.ct [] [1] [] (int_any (g:=g) (c:=c) hn 1000 (d - 1) (by omega) (by omega) (by omega) i19 _ (by omega) hG.up) ?_)
     rintro _ ⟨x25,i26,T27⟩ ⟨rfl,hi28,hg29,hT30⟩
     dsimp only at hi28 hg29 hT30
     refine RD.one 6 (RDO.ct [] (Hp:=[]) (Tp:=[]) [] [] (two_any 14 (cmL.getD k14 ⟨#[]⟩) x18 x25 _) ?_)
     rintro _ q31 rfl
     refine RD.one 7 (RDO.ev [] [.own 4,.own 4,.own 4,.own 4] λ _=>?_)
     refine RD.fin<|RN.go 1 [] λ _=>RN.ret [.own 4,.own 4,.own 4,.own 4] [1,0] [0,1] (v:=.agg #[vI 14,vI 0,.string (cmL.getD k14 ⟨#[]⟩),vS q31 0 2 2]) (H':=(ap [(g,.lit [.slice A n c,vI (i26:Int)] 113 (0,0)),(q31,.rows 4 2 (nrow [x18,x25]) 70 (0,0))] [T27,T20])) ?_
     exact ⟨(.mk 14 0 (cmL.getD k14 ⟨#[]⟩) (some ⟨q31,0,none⟩) 2 [x18,x25],i26,(q31,.rows 4 2 (nrow [x18,x25]) 70 (0,0)) :: (T27++T20)),(by simp [ap]),rfl,(by dsimp only;omega),.two hg22 hg29 (by omega) (by omega),.two hT23 hT30⟩
    ·refine RDO.ct [] [1] [] (int_any (g:=g) (c:=c) hn 1000 (d - 1) (by omega) (by omega) (by omega) i19 _ (by omega) hG.up) ?_
     rintro _ ⟨x32,i33,T34⟩ ⟨rfl,hi35,hg36,hT37⟩
     dsimp only at hi35 hg36 hT37
     refine RD.one 1 (RDO.ev [] [.own 1,.own 1,.own 1,.own 1] λ _=>?_)
     refine RD.one 6 (RDO.ct [] (Hp:=[]) (Tp:=[]) [] [] (two_any 14 (cmL.getD k14 ⟨#[]⟩) x18 x32 _) ?_)
     rintro _ q38 rfl
     refine RD.one 7 (RDO.ev [] [.own 4,.own 4,.own 4,.own 4] λ _=>?_)
     refine RD.fin<|RN.go 1 [] λ _=>RN.ret [.own 4,.own 4,.own 4,.own 4] [1,0] [0,1] (v:=.agg #[vI 14,vI 0,.string (cmL.getD k14 ⟨#[]⟩),vS q38 0 2 2]) (H':=(ap [(g,.lit [.slice A n c,vI (i33:Int)] 113 (0,0)),(q38,.rows 4 2 (nrow [x18,x32]) 70 (0,0))] [T34,T20])) ?_
     exact ⟨(.mk 14 0 (cmL.getD k14 ⟨#[]⟩) (some ⟨q38,0,none⟩) 2 [x18,x32],i33,(q38,.rows 4 2 (nrow [x18,x32]) 70 (0,0)) :: (T34++T20)),(by simp [ap]),rfl,(by dsimp only;omega),.two hg22 hg36 (by omega) (by omega),.two hT23 hT37⟩
   ·refine RN.go 7 [] λ _=>RN.em ((k2:Int) % 4=2) 22 (λ h39=>?_) λ h39=>?_
    ·refine RN.go 8 [] λ n40=>RN.ct [1] [] (pick_any g c i3 n A 6 (by omega) (by omega) hn _ hG.up) ?_
     rintro _ ⟨k41,i42⟩ ⟨rfl,hk43,hi44⟩
     dsimp only at hk43 hi44
     refine RN.dn 1 (.rows 1 6 (strow cmL) 9 (0,0))<|RN.goP 10 [.ix k41,.row 1 k41 0,.nw] [I64 (d - 1),(0+k41 * 1)=k41 * 1+0 /\ k41 < 6,(k41:Int)=((k41:Nat):Int) /\ k41 < 6] λ _=>RN.ct [0] [] (int_any (g:=g) (c:=c) hn 1000 (d - 1) (by omega) (by omega) (by omega) i42 _ (by omega) hG.up) ?_
     rintro _ ⟨x45,i46,T47⟩ ⟨rfl,hi48,hg49,hT50⟩
     dsimp only at hi48 hg49 hT50
     refine RN.go 5 [.own 0,.own 0,.own 0,.own 0] λ n51=>RN.draw [5,6,7] []<|RD.goP [] [0,2,3,4] [.nw] [I64 (d - 1)]<|RD.two 1 5 ?_ ?_
     ·refine RDO.ev [] [.own 0,.own 0,.own 0,.own 0] λ _=>RD.one 5 (RDO.ct [] [1] [] (int_any (g:=g) (c:=c) hn 1000 (d - 1) (by omega) (by omega) (by omega) i46 _ (by omega) hG.up) ?_)
      rintro _ ⟨x52,i53,T54⟩ ⟨rfl,hi55,hg56,hT57⟩
      dsimp only at hi55 hg56 hT57
      refine RD.one 6 (RDO.ct [] (Hp:=[]) (Tp:=[]) [] [] (two_any 14 (cmL.getD k41 ⟨#[]⟩) x45 x52 _) ?_)
      rintro _ q58 rfl
      refine RD.one 7 (RDO.ev [] [.own 4,.own 4,.own 4,.own 4] λ _=>?_)
      refine RD.fin<|RN.go 1 [] λ _=>RN.ret [.own 4,.own 4,.own 4,.own 4] [1,0] [0,1] (v:=.agg #[vI 14,vI 0,.string (cmL.getD k41 ⟨#[]⟩),vS q58 0 2 2]) (H':=(ap [(g,.lit [.slice A n c,vI (i53:Int)] 113 (0,0)),(q58,.rows 4 2 (nrow [x45,x52]) 70 (0,0))] [T54,T47])) ?_
      exact ⟨(.mk 14 0 (cmL.getD k41 ⟨#[]⟩) (some ⟨q58,0,none⟩) 2 [x45,x52],i53,(q58,.rows 4 2 (nrow [x45,x52]) 70 (0,0)) :: (T54++T47)),(by simp [ap]),rfl,(by dsimp only;omega),.two hg49 hg56 (by omega) (by omega),.two hT50 hT57⟩
     ·refine RDO.ct [] [1] [] (int_any (g:=g) (c:=c) hn 1000 (d - 1) (by omega) (by omega) (by omega) i46 _ (by omega) hG.up) ?_
      rintro _ ⟨x59,i60,T61⟩ ⟨rfl,hi62,hg63,hT64⟩
      dsimp only at hi62 hg63 hT64
      refine RD.one 1 (RDO.ev [] [.own 1,.own 1,.own 1,.own 1] λ _=>?_)
      refine RD.one 6 (RDO.ct [] (Hp:=[]) (Tp:=[]) [] [] (two_any 14 (cmL.getD k41 ⟨#[]⟩) x45 x59 _) ?_)
      rintro _ q65 rfl
      refine RD.one 7 (RDO.ev [] [.own 4,.own 4,.own 4,.own 4] λ _=>?_)
      refine RD.fin<|RN.go 1 [] λ _=>RN.ret [.own 4,.own 4,.own 4,.own 4] [1,0] [0,1] (v:=.agg #[vI 14,vI 0,.string (cmL.getD k41 ⟨#[]⟩),vS q65 0 2 2]) (H':=(ap [(g,.lit [.slice A n c,vI (i60:Int)] 113 (0,0)),(q65,.rows 4 2 (nrow [x45,x59]) 70 (0,0))] [T61,T47])) ?_
      exact ⟨(.mk 14 0 (cmL.getD k41 ⟨#[]⟩) (some ⟨q65,0,none⟩) 2 [x45,x59],i60,(q65,.rows 4 2 (nrow [x45,x59]) 70 (0,0)) :: (T61++T47)),(by simp [ap]),rfl,(by dsimp only;omega),.two hg49 hg63 (by omega) (by omega),.two hT50 hT64⟩
    ·refine RN.go 7 [] λ _=>RN.em ((k2:Int) % 4=3) 22 (λ h66=>?_) λ h66=>?_
     ·refine RN.go 8 [] λ n67=>RN.ct [1] [] (pick_any g c i3 n A 6 (by omega) (by omega) hn _ hG.up) ?_
      rintro _ ⟨k68,i69⟩ ⟨rfl,hk70,hi71⟩
      dsimp only at hk70 hi71
      refine RN.dn 1 (.rows 1 6 (strow cmL) 9 (0,0))<|RN.goP 10 [.ix k68,.row 1 k68 0,.nw] [I64 (d - 1),(0+k68 * 1)=k68 * 1+0 /\ k68 < 6,(k68:Int)=((k68:Nat):Int) /\ k68 < 6] λ _=>RN.ct [0] [] (int_any (g:=g) (c:=c) hn 1000 (d - 1) (by omega) (by omega) (by omega) i69 _ (by omega) hG.up) ?_
      rintro _ ⟨x72,i73,T74⟩ ⟨rfl,hi75,hg76,hT77⟩
      dsimp only at hi75 hg76 hT77
      refine RN.go 5 [.own 0,.own 0,.own 0,.own 0] λ n78=>RN.draw [5,6,7] []<|RD.goP [] [0,2,3,4] [.nw] [I64 (d - 1)]<|RD.two 1 5 ?_ ?_
      ·refine RDO.ev [] [.own 0,.own 0,.own 0,.own 0] λ _=>RD.one 5 (RDO.ct [] [1] [] (int_any (g:=g) (c:=c) hn 1000 (d - 1) (by omega) (by omega) (by omega) i73 _ (by omega) hG.up) ?_)
       rintro _ ⟨x79,i80,T81⟩ ⟨rfl,hi82,hg83,hT84⟩
       dsimp only at hi82 hg83 hT84
       refine RD.one 6 (RDO.ct [] (Hp:=[]) (Tp:=[]) [] [] (two_any 14 (cmL.getD k68 ⟨#[]⟩) x72 x79 _) ?_)
       rintro _ q85 rfl
       refine RD.one 7 (RDO.ev [] [.own 4,.own 4,.own 4,.own 4] λ _=>?_)
       refine RD.fin<|RN.go 1 [] λ _=>RN.ret [.own 4,.own 4,.own 4,.own 4] [1,0] [0,1] (v:=.agg #[vI 14,vI 0,.string (cmL.getD k68 ⟨#[]⟩),vS q85 0 2 2]) (H':=(ap [(g,.lit [.slice A n c,vI (i80:Int)] 113 (0,0)),(q85,.rows 4 2 (nrow [x72,x79]) 70 (0,0))] [T81,T74])) ?_
       exact ⟨(.mk 14 0 (cmL.getD k68 ⟨#[]⟩) (some ⟨q85,0,none⟩) 2 [x72,x79],i80,(q85,.rows 4 2 (nrow [x72,x79]) 70 (0,0)) :: (T81++T74)),(by simp [ap]),rfl,(by dsimp only;omega),.two hg76 hg83 (by omega) (by omega),.two hT77 hT84⟩
      ·refine RDO.ct [] [1] [] (int_any (g:=g) (c:=c) hn 1000 (d - 1) (by omega) (by omega) (by omega) i73 _ (by omega) hG.up) ?_
       rintro _ ⟨x86,i87,T88⟩ ⟨rfl,hi89,hg90,hT91⟩
       dsimp only at hi89 hg90 hT91
       refine RD.one 1 (RDO.ev [] [.own 1,.own 1,.own 1,.own 1] λ _=>?_)
       refine RD.one 6 (RDO.ct [] (Hp:=[]) (Tp:=[]) [] [] (two_any 14 (cmL.getD k68 ⟨#[]⟩) x72 x86 _) ?_)
       rintro _ q92 rfl
       refine RD.one 7 (RDO.ev [] [.own 4,.own 4,.own 4,.own 4] λ _=>?_)
       refine RD.fin<|RN.go 1 [] λ _=>RN.ret [.own 4,.own 4,.own 4,.own 4] [1,0] [0,1] (v:=.agg #[vI 14,vI 0,.string (cmL.getD k68 ⟨#[]⟩),vS q92 0 2 2]) (H':=(ap [(g,.lit [.slice A n c,vI (i87:Int)] 113 (0,0)),(q92,.rows 4 2 (nrow [x72,x86]) 70 (0,0))] [T88,T74])) ?_
       exact ⟨(.mk 14 0 (cmL.getD k68 ⟨#[]⟩) (some ⟨q92,0,none⟩) 2 [x72,x86],i87,(q92,.rows 4 2 (nrow [x72,x86]) 70 (0,0)) :: (T88++T74)),(by simp [ap]),rfl,(by dsimp only;omega),.two hg76 hg90 (by omega) (by omega),.two hT77 hT91⟩
     ·omega
 ·refine RN.go 16 [] λ _=>RN.em ((k2:Int)=0) 17 (λ h93=>?_) λ h93=>?_
  ·refine RN.go 4 [] λ _=>RN.ct [0] [] (pick_any g c i3 n A 2 (by omega) (by omega) hn _ hG.up) ?_
   rintro _ ⟨k94,i95⟩ ⟨rfl,hk96,hi97⟩
   dsimp only at hk96 hi97
   refine RN.go 4 [.own 1,.own 1,.own 1,.own 1] λ _=>RN.ret [.own 1,.own 1,.own 1,.own 1] [0] [] (v:=.agg #[vI 9,vI (k94:Int),.string ⟨#[]⟩,.slice none 0 0]) (H':=(ap [(g,.lit [.slice A n c,vI (i95:Int)] 113 (0,0))] [])) ?_
   exact ⟨(.mk 9 (k94:Int) ⟨#[]⟩ none 0 [],i95,[]),(by simp [ap]),rfl,(by dsimp only;omega),.zero,.zero⟩
  ·refine RN.go 8 [] λ _=>RN.em ((k2:Int)=1) 22 (λ h98=>?_) λ h98=>?_
   ·refine RN.go 8 [] λ n99=>RN.ct [1] [] (pick_any g c i3 n A 6 (by omega) (by omega) hn _ hG.up) ?_
    rintro _ ⟨k100,i101⟩ ⟨rfl,hk102,hi103⟩
    dsimp only at hk102 hi103
    refine RN.dn 1 (.rows 1 6 (strow cmL) 9 (0,0))<|RN.goP 10 [.ix k100,.row 1 k100 0,.nw] [I64 (d - 1),(0+k100 * 1)=k100 * 1+0 /\ k100 < 6,(k100:Int)=((k100:Nat):Int) /\ k100 < 6] λ _=>RN.ct [0] [] (int_any (g:=g) (c:=c) hn 1000 (d - 1) (by omega) (by omega) (by omega) i101 _ (by omega) hG.up) ?_
    rintro _ ⟨x104,i105,T106⟩ ⟨rfl,hi107,hg108,hT109⟩
    dsimp only at hi107 hg108 hT109
    refine RN.go 5 [.own 0,.own 0,.own 0,.own 0] λ n110=>RN.draw [5,6,7] []<|RD.goP [] [0,2,3,4] [.nw] [I64 (d - 1)]<|RD.two 1 5 ?_ ?_
    ·refine RDO.ev [] [.own 0,.own 0,.own 0,.own 0] λ _=>RD.one 5 (RDO.ct [] [1] [] (int_any (g:=g) (c:=c) hn 1000 (d - 1) (by omega) (by omega) (by omega) i105 _ (by omega) hG.up) ?_)
     rintro _ ⟨x111,i112,T113⟩ ⟨rfl,hi114,hg115,hT116⟩
     dsimp only at hi114 hg115 hT116
     refine RD.one 6 (RDO.ct [] (Hp:=[]) (Tp:=[]) [] [] (two_any 14 (cmL.getD k100 ⟨#[]⟩) x104 x111 _) ?_)
     rintro _ q117 rfl
     refine RD.one 7 (RDO.ev [] [.own 4,.own 4,.own 4,.own 4] λ _=>?_)
     refine RD.fin<|RN.go 1 [] λ _=>RN.ret [.own 4,.own 4,.own 4,.own 4] [1,0] [0,1] (v:=.agg #[vI 14,vI 0,.string (cmL.getD k100 ⟨#[]⟩),vS q117 0 2 2]) (H':=(ap [(g,.lit [.slice A n c,vI (i112:Int)] 113 (0,0)),(q117,.rows 4 2 (nrow [x104,x111]) 70 (0,0))] [T113,T106])) ?_
     exact ⟨(.mk 14 0 (cmL.getD k100 ⟨#[]⟩) (some ⟨q117,0,none⟩) 2 [x104,x111],i112,(q117,.rows 4 2 (nrow [x104,x111]) 70 (0,0)) :: (T113++T106)),(by simp [ap]),rfl,(by dsimp only;omega),.two hg108 hg115 (by omega) (by omega),.two hT109 hT116⟩
    ·refine RDO.ct [] [1] [] (int_any (g:=g) (c:=c) hn 1000 (d - 1) (by omega) (by omega) (by omega) i105 _ (by omega) hG.up) ?_
     rintro _ ⟨x118,i119,T120⟩ ⟨rfl,hi121,hg122,hT123⟩
     dsimp only at hi121 hg122 hT123
     refine RD.one 1 (RDO.ev [] [.own 1,.own 1,.own 1,.own 1] λ _=>?_)
     refine RD.one 6 (RDO.ct [] (Hp:=[]) (Tp:=[]) [] [] (two_any 14 (cmL.getD k100 ⟨#[]⟩) x104 x118 _) ?_)
     rintro _ q124 rfl
     refine RD.one 7 (RDO.ev [] [.own 4,.own 4,.own 4,.own 4] λ _=>?_)
     refine RD.fin<|RN.go 1 [] λ _=>RN.ret [.own 4,.own 4,.own 4,.own 4] [1,0] [0,1] (v:=.agg #[vI 14,vI 0,.string (cmL.getD k100 ⟨#[]⟩),vS q124 0 2 2]) (H':=(ap [(g,.lit [.slice A n c,vI (i119:Int)] 113 (0,0)),(q124,.rows 4 2 (nrow [x104,x118]) 70 (0,0))] [T120,T106])) ?_
     exact ⟨(.mk 14 0 (cmL.getD k100 ⟨#[]⟩) (some ⟨q124,0,none⟩) 2 [x104,x118],i119,(q124,.rows 4 2 (nrow [x104,x118]) 70 (0,0)) :: (T120++T106)),(by simp [ap]),rfl,(by dsimp only;omega),.two hg108 hg122 (by omega) (by omega),.two hT109 hT123⟩
   ·refine RN.go 7 [] λ _=>RN.em ((k2:Int)=2) 22 (λ h125=>?_) λ h125=>?_
    ·refine RN.go 8 [] λ n126=>RN.ct [1] [] (pick_any g c i3 n A 6 (by omega) (by omega) hn _ hG.up) ?_
     rintro _ ⟨k127,i128⟩ ⟨rfl,hk129,hi130⟩
     dsimp only at hk129 hi130
     refine RN.dn 1 (.rows 1 6 (strow cmL) 9 (0,0))<|RN.goP 10 [.ix k127,.row 1 k127 0,.nw] [I64 (d - 1),(0+k127 * 1)=k127 * 1+0 /\ k127 < 6,(k127:Int)=((k127:Nat):Int) /\ k127 < 6] λ _=>RN.ct [0] [] (int_any (g:=g) (c:=c) hn 1000 (d - 1) (by omega) (by omega) (by omega) i128 _ (by omega) hG.up) ?_
     rintro _ ⟨x131,i132,T133⟩ ⟨rfl,hi134,hg135,hT136⟩
     dsimp only at hi134 hg135 hT136
     refine RN.go 5 [.own 0,.own 0,.own 0,.own 0] λ n137=>RN.draw [5,6,7] []<|RD.goP [] [0,2,3,4] [.nw] [I64 (d - 1)]<|RD.two 1 5 ?_ ?_
     ·refine RDO.ev [] [.own 0,.own 0,.own 0,.own 0] λ _=>RD.one 5 (RDO.ct [] [1] [] (int_any (g:=g) (c:=c) hn 1000 (d - 1) (by omega) (by omega) (by omega) i132 _ (by omega) hG.up) ?_)
      rintro _ ⟨x138,i139,T140⟩ ⟨rfl,hi141,hg142,hT143⟩
      dsimp only at hi141 hg142 hT143
      refine RD.one 6 (RDO.ct [] (Hp:=[]) (Tp:=[]) [] [] (two_any 14 (cmL.getD k127 ⟨#[]⟩) x131 x138 _) ?_)
      rintro _ q144 rfl
      refine RD.one 7 (RDO.ev [] [.own 4,.own 4,.own 4,.own 4] λ _=>?_)
      refine RD.fin<|RN.go 1 [] λ _=>RN.ret [.own 4,.own 4,.own 4,.own 4] [1,0] [0,1] (v:=.agg #[vI 14,vI 0,.string (cmL.getD k127 ⟨#[]⟩),vS q144 0 2 2]) (H':=(ap [(g,.lit [.slice A n c,vI (i139:Int)] 113 (0,0)),(q144,.rows 4 2 (nrow [x131,x138]) 70 (0,0))] [T140,T133])) ?_
      exact ⟨(.mk 14 0 (cmL.getD k127 ⟨#[]⟩) (some ⟨q144,0,none⟩) 2 [x131,x138],i139,(q144,.rows 4 2 (nrow [x131,x138]) 70 (0,0)) :: (T140++T133)),(by simp [ap]),rfl,(by dsimp only;omega),.two hg135 hg142 (by omega) (by omega),.two hT136 hT143⟩
     ·refine RDO.ct [] [1] [] (int_any (g:=g) (c:=c) hn 1000 (d - 1) (by omega) (by omega) (by omega) i132 _ (by omega) hG.up) ?_
      rintro _ ⟨x145,i146,T147⟩ ⟨rfl,hi148,hg149,hT150⟩
      dsimp only at hi148 hg149 hT150
      refine RD.one 1 (RDO.ev [] [.own 1,.own 1,.own 1,.own 1] λ _=>?_)
      refine RD.one 6 (RDO.ct [] (Hp:=[]) (Tp:=[]) [] [] (two_any 14 (cmL.getD k127 ⟨#[]⟩) x131 x145 _) ?_)
      rintro _ q151 rfl
      refine RD.one 7 (RDO.ev [] [.own 4,.own 4,.own 4,.own 4] λ _=>?_)
      refine RD.fin<|RN.go 1 [] λ _=>RN.ret [.own 4,.own 4,.own 4,.own 4] [1,0] [0,1] (v:=.agg #[vI 14,vI 0,.string (cmL.getD k127 ⟨#[]⟩),vS q151 0 2 2]) (H':=(ap [(g,.lit [.slice A n c,vI (i146:Int)] 113 (0,0)),(q151,.rows 4 2 (nrow [x131,x145]) 70 (0,0))] [T147,T133])) ?_
      exact ⟨(.mk 14 0 (cmL.getD k127 ⟨#[]⟩) (some ⟨q151,0,none⟩) 2 [x131,x145],i146,(q151,.rows 4 2 (nrow [x131,x145]) 70 (0,0)) :: (T147++T133)),(by simp [ap]),rfl,(by dsimp only;omega),.two hg135 hg149 (by omega) (by omega),.two hT136 hT150⟩
    ·refine RN.go 7 [] λ _=>RN.em ((k2:Int)=3) 22 (λ h152=>?_) λ h152=>?_
     ·refine RN.go 8 [] λ n153=>RN.ct [1] [] (pick_any g c i3 n A 6 (by omega) (by omega) hn _ hG.up) ?_
      rintro _ ⟨k154,i155⟩ ⟨rfl,hk156,hi157⟩
      dsimp only at hk156 hi157
      refine RN.dn 1 (.rows 1 6 (strow cmL) 9 (0,0))<|RN.goP 10 [.ix k154,.row 1 k154 0,.nw] [I64 (d - 1),(0+k154 * 1)=k154 * 1+0 /\ k154 < 6,(k154:Int)=((k154:Nat):Int) /\ k154 < 6] λ _=>RN.ct [0] [] (int_any (g:=g) (c:=c) hn 1000 (d - 1) (by omega) (by omega) (by omega) i155 _ (by omega) hG.up) ?_
      rintro _ ⟨x158,i159,T160⟩ ⟨rfl,hi161,hg162,hT163⟩
      dsimp only at hi161 hg162 hT163
      refine RN.go 5 [.own 0,.own 0,.own 0,.own 0] λ n164=>RN.draw [5,6,7] []<|RD.goP [] [0,2,3,4] [.nw] [I64 (d - 1)]<|RD.two 1 5 ?_ ?_
      ·refine RDO.ev [] [.own 0,.own 0,.own 0,.own 0] λ _=>RD.one 5 (RDO.ct [] [1] [] (int_any (g:=g) (c:=c) hn 1000 (d - 1) (by omega) (by omega) (by omega) i159 _ (by omega) hG.up) ?_)
       rintro _ ⟨x165,i166,T167⟩ ⟨rfl,hi168,hg169,hT170⟩
       dsimp only at hi168 hg169 hT170
       refine RD.one 6 (RDO.ct [] (Hp:=[]) (Tp:=[]) [] [] (two_any 14 (cmL.getD k154 ⟨#[]⟩) x158 x165 _) ?_)
       rintro _ q171 rfl
       refine RD.one 7 (RDO.ev [] [.own 4,.own 4,.own 4,.own 4] λ _=>?_)
       refine RD.fin<|RN.go 1 [] λ _=>RN.ret [.own 4,.own 4,.own 4,.own 4] [1,0] [0,1] (v:=.agg #[vI 14,vI 0,.string (cmL.getD k154 ⟨#[]⟩),vS q171 0 2 2]) (H':=(ap [(g,.lit [.slice A n c,vI (i166:Int)] 113 (0,0)),(q171,.rows 4 2 (nrow [x158,x165]) 70 (0,0))] [T167,T160])) ?_
       exact ⟨(.mk 14 0 (cmL.getD k154 ⟨#[]⟩) (some ⟨q171,0,none⟩) 2 [x158,x165],i166,(q171,.rows 4 2 (nrow [x158,x165]) 70 (0,0)) :: (T167++T160)),(by simp [ap]),rfl,(by dsimp only;omega),.two hg162 hg169 (by omega) (by omega),.two hT163 hT170⟩
      ·refine RDO.ct [] [1] [] (int_any (g:=g) (c:=c) hn 1000 (d - 1) (by omega) (by omega) (by omega) i159 _ (by omega) hG.up) ?_
       rintro _ ⟨x172,i173,T174⟩ ⟨rfl,hi175,hg176,hT177⟩
       dsimp only at hi175 hg176 hT177
       refine RD.one 1 (RDO.ev [] [.own 1,.own 1,.own 1,.own 1] λ _=>?_)
       refine RD.one 6 (RDO.ct [] (Hp:=[]) (Tp:=[]) [] [] (two_any 14 (cmL.getD k154 ⟨#[]⟩) x158 x172 _) ?_)
       rintro _ q178 rfl
       refine RD.one 7 (RDO.ev [] [.own 4,.own 4,.own 4,.own 4] λ _=>?_)
       refine RD.fin<|RN.go 1 [] λ _=>RN.ret [.own 4,.own 4,.own 4,.own 4] [1,0] [0,1] (v:=.agg #[vI 14,vI 0,.string (cmL.getD k154 ⟨#[]⟩),vS q178 0 2 2]) (H':=(ap [(g,.lit [.slice A n c,vI (i173:Int)] 113 (0,0)),(q178,.rows 4 2 (nrow [x158,x172]) 70 (0,0))] [T174,T160])) ?_
       exact ⟨(.mk 14 0 (cmL.getD k154 ⟨#[]⟩) (some ⟨q178,0,none⟩) 2 [x158,x172],i173,(q178,.rows 4 2 (nrow [x158,x172]) 70 (0,0)) :: (T174++T160)),(by simp [ap]),rfl,(by dsimp only;omega),.two hg162 hg176 (by omega) (by omega),.two hT163 hT177⟩
     ·refine RN.go 6 [] λ _=>RN.em ((k2:Int)=4) 22 (λ h179=>?_) λ h179=>?_
      ·refine RN.go 5 [] λ n180=>RN.ct [1] [] (pick_any g c i3 n A 6 (by omega) (by omega) hn _ hG.up) ?_
       rintro _ ⟨k181,i182⟩ ⟨rfl,hk183,hi184⟩
       dsimp only at hk183 hi184
       refine RN.dn 1 (.rows 1 6 (strow cmL) 9 (0,0))<|RN.goP 10 [.ix k181,.row 1 k181 0,.nw] [I64 (d - 1),(0+k181 * 1)=k181 * 1+0 /\ k181 < 6,(k181:Int)=((k181:Nat):Int) /\ k181 < 6] λ _=>RN.ct [0] [] (int_any (g:=g) (c:=c) hn 1000 (d - 1) (by omega) (by omega) (by omega) i182 _ (by omega) hG.up) ?_
       rintro _ ⟨x185,i186,T187⟩ ⟨rfl,hi188,hg189,hT190⟩
       dsimp only at hi188 hg189 hT190
       refine RN.go 5 [.own 0,.own 0,.own 0,.own 0] λ n191=>RN.draw [5,6,7] []<|RD.goP [] [0,2,3,4] [.nw] [I64 (d - 1)]<|RD.two 1 5 ?_ ?_
       ·refine RDO.ev [] [.own 0,.own 0,.own 0,.own 0] λ _=>RD.one 5 (RDO.ct [] [1] [] (int_any (g:=g) (c:=c) hn 1000 (d - 1) (by omega) (by omega) (by omega) i186 _ (by omega) hG.up) ?_)
        rintro _ ⟨x192,i193,T194⟩ ⟨rfl,hi195,hg196,hT197⟩
        dsimp only at hi195 hg196 hT197
        refine RD.one 6 (RDO.ct [] (Hp:=[]) (Tp:=[]) [] [] (two_any 14 (cmL.getD k181 ⟨#[]⟩) x185 x192 _) ?_)
        rintro _ q198 rfl
        refine RD.one 7 (RDO.ev [] [.own 4,.own 4,.own 4,.own 4] λ _=>?_)
        refine RD.fin<|RN.go 1 [] λ _=>RN.ret [.own 4,.own 4,.own 4,.own 4] [1,0] [0,1] (v:=.agg #[vI 14,vI 0,.string (cmL.getD k181 ⟨#[]⟩),vS q198 0 2 2]) (H':=(ap [(g,.lit [.slice A n c,vI (i193:Int)] 113 (0,0)),(q198,.rows 4 2 (nrow [x185,x192]) 70 (0,0))] [T194,T187])) ?_
        exact ⟨(.mk 14 0 (cmL.getD k181 ⟨#[]⟩) (some ⟨q198,0,none⟩) 2 [x185,x192],i193,(q198,.rows 4 2 (nrow [x185,x192]) 70 (0,0)) :: (T194++T187)),(by simp [ap]),rfl,(by dsimp only;omega),.two hg189 hg196 (by omega) (by omega),.two hT190 hT197⟩
       ·refine RDO.ct [] [1] [] (int_any (g:=g) (c:=c) hn 1000 (d - 1) (by omega) (by omega) (by omega) i186 _ (by omega) hG.up) ?_
        rintro _ ⟨x199,i200,T201⟩ ⟨rfl,hi202,hg203,hT204⟩
        dsimp only at hi202 hg203 hT204
        refine RD.one 1 (RDO.ev [] [.own 1,.own 1,.own 1,.own 1] λ _=>?_)
        refine RD.one 6 (RDO.ct [] (Hp:=[]) (Tp:=[]) [] [] (two_any 14 (cmL.getD k181 ⟨#[]⟩) x185 x199 _) ?_)
        rintro _ q205 rfl
        refine RD.one 7 (RDO.ev [] [.own 4,.own 4,.own 4,.own 4] λ _=>?_)
        refine RD.fin<|RN.go 1 [] λ _=>RN.ret [.own 4,.own 4,.own 4,.own 4] [1,0] [0,1] (v:=.agg #[vI 14,vI 0,.string (cmL.getD k181 ⟨#[]⟩),vS q205 0 2 2]) (H':=(ap [(g,.lit [.slice A n c,vI (i200:Int)] 113 (0,0)),(q205,.rows 4 2 (nrow [x185,x199]) 70 (0,0))] [T201,T187])) ?_
        exact ⟨(.mk 14 0 (cmL.getD k181 ⟨#[]⟩) (some ⟨q205,0,none⟩) 2 [x185,x199],i200,(q205,.rows 4 2 (nrow [x185,x199]) 70 (0,0)) :: (T201++T187)),(by simp [ap]),rfl,(by dsimp only;omega),.two hg189 hg203 (by omega) (by omega),.two hT190 hT204⟩
      ·refine RN.go 7 [] λ _=>RN.em ((k2:Int)=5) 43 (λ h206=>?_) λ h206=>?_
       ·refine RN.goP 6 [.nw] [I64 (d - 1)] λ _=>RN.ct [0] [] (ih (by omega) i3 _ (by omega) hG.up) ?_
        rintro _ ⟨x207,i208,T209⟩ ⟨rfl,hi210,hg211,hT212⟩
        dsimp only at hi210 hg211 hT212
        refine RN.ct (Hp:=[]) (Tp:=[]) [] [] (one_any 13 ⟨#[33]⟩ x207 _) ?_
        rintro _ q213 rfl
        refine RN.go 3 [.own 2,.own 2,.own 2,.own 2] λ _=>RN.ret [.own 2,.own 2,.own 2,.own 2] [1,0] [0] (v:=.agg #[vI 13,vI 0,.string ⟨#[33]⟩,vS q213 0 1 1]) (H':=(ap [(g,.lit [.slice A n c,vI (i208:Int)] 113 (0,0)),(q213,.rows 4 1 (nrow [x207]) 70 (0,0))] [T209])) ?_
        exact ⟨(.mk 13 0 ⟨#[33]⟩ (some ⟨q213,0,none⟩) 1 [x207],i208,(q213,.rows 4 1 (nrow [x207]) 70 (0,0)) :: (T209)),(by simp [ap]),rfl,(by dsimp only;omega),.one hg211 (by omega),.one hT212⟩
       ·refine RN.go 8 [] λ n214=>RN.ct [1] [] (pick_any g c i3 n A 2 (by omega) (by omega) hn _ hG.up) ?_
        rintro _ ⟨k215,i216⟩ ⟨rfl,hk217,hi218⟩
        dsimp only at hk217 hi218
        refine RN.dn 1 (.rows 1 2 (strow loL) 9 (0,0))<|RN.goP 10 [.ix k215,.row 1 k215 0,.nw] [I64 (d - 1),(0+k215 * 1)=k215 * 1+0 /\ k215 < 2,(k215:Int)=((k215:Nat):Int) /\ k215 < 2] λ _=>RN.ct [0] [] (ih (by omega) i216 _ (by omega) hG.up) ?_
        rintro _ ⟨x219,i220,T221⟩ ⟨rfl,hi222,hg223,hT224⟩
        dsimp only at hi222 hg223 hT224
        refine RN.go 5 [.own 0,.own 0,.own 0,.own 0] λ n225=>RN.draw [5,6,7] []<|RD.goP [] [0,2,3,4] [.nw] [I64 (d - 1)]<|RD.two 1 5 ?_ ?_
        ·refine RDO.ev [] [.own 0,.own 0,.own 0,.own 0] λ _=>RD.one 5 (RDO.ct [] [1] [] (ih (by omega) i220 _ (by omega) hG.up) ?_)
         rintro _ ⟨x226,i227,T228⟩ ⟨rfl,hi229,hg230,hT231⟩
         dsimp only at hi229 hg230 hT231
         refine RD.one 6 (RDO.ct [] (Hp:=[]) (Tp:=[]) [] [] (two_any 14 (loL.getD k215 ⟨#[]⟩) x219 x226 _) ?_)
         rintro _ q232 rfl
         refine RD.one 7 (RDO.ev [] [.own 4,.own 4,.own 4,.own 4] λ _=>?_)
         refine RD.fin<|RN.go 1 [] λ _=>RN.ret [.own 4,.own 4,.own 4,.own 4] [1,0] [0,1] (v:=.agg #[vI 14,vI 0,.string (loL.getD k215 ⟨#[]⟩),vS q232 0 2 2]) (H':=(ap [(g,.lit [.slice A n c,vI (i227:Int)] 113 (0,0)),(q232,.rows 4 2 (nrow [x219,x226]) 70 (0,0))] [T228,T221])) ?_
         exact ⟨(.mk 14 0 (loL.getD k215 ⟨#[]⟩) (some ⟨q232,0,none⟩) 2 [x219,x226],i227,(q232,.rows 4 2 (nrow [x219,x226]) 70 (0,0)) :: (T228++T221)),(by simp [ap]),rfl,(by dsimp only;omega),.two hg223 hg230 (by omega) (by omega),.two hT224 hT231⟩
        ·refine RDO.ct [] [1] [] (ih (by omega) i220 _ (by omega) hG.up) ?_
         rintro _ ⟨x233,i234,T235⟩ ⟨rfl,hi236,hg237,hT238⟩
         dsimp only at hi236 hg237 hT238
         refine RD.one 1 (RDO.ev [] [.own 1,.own 1,.own 1,.own 1] λ _=>?_)
         refine RD.one 6 (RDO.ct [] (Hp:=[]) (Tp:=[]) [] [] (two_any 14 (loL.getD k215 ⟨#[]⟩) x219 x233 _) ?_)
         rintro _ q239 rfl
         refine RD.one 7 (RDO.ev [] [.own 4,.own 4,.own 4,.own 4] λ _=>?_)
         refine RD.fin<|RN.go 1 [] λ _=>RN.ret [.own 4,.own 4,.own 4,.own 4] [1,0] [0,1] (v:=.agg #[vI 14,vI 0,.string (loL.getD k215 ⟨#[]⟩),vS q239 0 2 2]) (H':=(ap [(g,.lit [.slice A n c,vI (i234:Int)] 113 (0,0)),(q239,.rows 4 2 (nrow [x219,x233]) 70 (0,0))] [T235,T221])) ?_
         exact ⟨(.mk 14 0 (loL.getD k215 ⟨#[]⟩) (some ⟨q239,0,none⟩) 2 [x219,x233],i234,(q239,.rows 4 2 (nrow [x219,x233]) 70 (0,0)) :: (T235++T221)),(by simp [ap]),rfl,(by dsimp only;omega),.two hg223 hg237 (by omega) (by omega),.two hT224 hT238⟩
theorem bool_any {g c n:Nat} {A:Option Addr} (hn:n <= 60):∀ (m:Nat) (d:Int),d <= m -> -10 <= d -> m <= 1000 -> ∀ (i:Nat) (F:HL),i <= n -> GIn F A n -> GenS 108 #[vP g 0,vI d] (Ht (d.toNat+2)) g c n A i F
 | 0,d,h,h2,h3,i,F,hi,hG=>bool_step g c i n A d (by omega) hi hn F hG λ h=>absurd h (by omega)
 | m+1,d,h,h2,h3,i,F,hi,hG=>bool_step g c i n A d (by omega) hi hn F hG λ h i F hi hG=>bool_any hn m (d - 1) (by omega) (by omega) (by omega) i F hi hG
end Go.Proofs.YtkhifpbokgabbaaGreatDoor
