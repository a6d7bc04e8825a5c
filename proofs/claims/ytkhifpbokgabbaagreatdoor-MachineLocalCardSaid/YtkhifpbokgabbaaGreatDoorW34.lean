import Derived.Test.YtkhifpbokgabbaaGreatDoorW33
set_option maxHeartbeats 4000000
set_option maxRecDepth 100000
set_option linter.unusedSimpArgs false
set_option linter.unusedVariables false
namespace Go.Proofs.YtkhifpbokgabbaaGreatDoor
open Go.RowKit
theorem comp_any (x y z:Nd) (F:HL) (hx:Ht 10 x) (hy:Ht 10 y) (hw:Ht 10 z) (hN:NdIn F x) (hN2:NdIn F y) (hN3:NdIn F z) (hE:CefIn F):Sp Tryz.prog 14 #[.agg #[vI x.k,vI x.n,.string x.s,.slice x.A x.kids.length x.c,vI y.k,vI y.n,.string y.s,.slice y.A y.kids.length y.c,vI z.k,vI z.n,.string z.s,.slice z.A z.kids.length z.c]] [] F (λ u H'=>∃ x:List Ins × Option Addr × Nat × HL × Int × Int × Int × Int,H'=ap [] [x.2.2.2.1] /\ (u=.tuple #[.agg #[.slice x.2.1 x.1.length x.2.2.1,vI x.2.2.2.2.1,vI x.2.2.2.2.2.1,vI x.2.2.2.2.2.2.1],vI x.2.2.2.2.2.2.2] /\ SlIs insE 136 x.1 x.2.1 x.2.2.1 x.2.2.2.1 /\ zeroOff x.2.1 /\ x.1.length <= 400)):=by
 have egr:gr 10=147620:=by decide
 have hnil:([]:List Ins).length=0:=rfl
 refine Sp.run Tryz.func14 rfl (mc hE mn) (A:=[]) (Ts:=[]) rfl λ w0=>?_
 refine RN.go 20 (ow 3 12) λ n1=>RN.ct (Hp:=[]) (Tp:=[]) [] [] (vars_any x y z _ hx hy hw hN.up hN2.up hN3.up) ?_
 rintro _ ⟨nm2,A3,c4,T5⟩ ⟨rfl,hs6,hz7,hl8⟩
 dsimp only at hs6 hz7 hl8
 refine RN.go 5 [] λ _=>RN.dn 1 (.obj (smap []))<|RN.loop (σ:=Nat × List (ByteArray × Value)) (λ ⟨j,kv_⟩=>⟨[(1,vP (n1+0) 0),(2,vP (n1+1) 0),(4,vP (n1+3) 0),(17,.slice A3 nm2.length c4),(18,vI (nm2.length:Int)),(19,vI (j:Int))],[((n1+3),.lit [.slice none 0 0,.map (some (n1+2)),vI 0,vI 0,vI 0] 103 (0,0)),((n1+2),.obj (smap kv_)),((n1+1),.lit [.slice none 0 0,vI 0,vI 0,vI 0] 36 (0,0)),((n1+0),.lit [vI x.k,vI x.n,.string x.s,.slice x.A x.kids.length x.c,vI y.k,vI y.n,.string y.s,.slice y.A y.kids.length y.c,vI z.k,vI z.n,.string z.s,.slice z.A z.kids.length z.c] 73 (0,0))],[T5],j <= nm2.length /\ AllInt kv_,nm2.length - j⟩) (0,[]) [0,1,2,3] [0] (⟨Nat.zero_le _,λ x hx=>by simp at hx⟩) ?_
 rintro ⟨j,kv_⟩ ⟨hj_,hkv_⟩ mt10
 refine RN.go 6 [] λ _=>RN.em ((j:Int) < (nm2.length:Int)) 20 (λ h11=>?_) λ h11=>?_
 ·refine RN.go 8 [] λ _=>?_
  obtain ⟨nb,nrest,rfl,rfl,hnc⟩:=hs6.openL hz7 (by decide) (by omega)
  have hnc2:nm2.length <= c4:=by rw [<- hnc,List.length_append];omega
  refine RN.ot 0 (x:=(nb,.rows 1 c4 (rowE strE (nm2++nrest)) 9 (0,0)))<|RN.goP 14 [.ix j,.row 0 j 0,.own 1] [(0+j * 1)=j * 1+0 /\ j < c4,(j:Int)=((j:Nat):Int) /\ j < nm2.length] λ _=>RN.mu (kv:=kv_) (k:=((nm2++nrest).getD j ⟨#[]⟩)) (v:=vI (j:Int)) 2<|RN.goP 7 [.nw] [I64 ((j:Int)+1)] λ _=>RN.ctl 0 ?_
  refine mt10 (j+1,(sput kv_ ((nm2++nrest).getD j ⟨#[]⟩) (vI (j:Int)))) [0,1,2,3] [0] ?_
  try dsimp only
  exact ⟨⟨by omega,hkv_.put _ _⟩,by omega⟩
 ·refine RN.go 8 [] λ _=>RN.nt<|RN.go 7 (ow 3 12) λ _=>RN.rounds 3<|RN.go 37 [.own 0,.own 0,.own 0,.own 0,.own 1,.own 0] λ n12=>RN.en (x.k=0) 45 (λ h13=>?_) λ h13=>?_
  ·refine RN.go 46 [.own 0,.own 0,.own 0,.own 0,.own 2,.own 0] λ n14=>RN.en (y.k=0) 45 (λ h15=>?_) λ h15=>?_
   ·refine RN.go 46 [.own 0,.own 0,.own 0,.own 0,.own 3,.own 0] λ n16=>RN.en (z.k=0) 45 (λ h17=>?_) λ h17=>?_
    ·refine RN.go 37 [.own 3] λ _=>RN.draw [11] []<|RD.go [] [0,5,1,6,2,7,3,8,4,9] [.own 3,.own 3,.own 3,.own 3]<|RD.one 10 (RDO.ev [] [] λ n18=>?_)
     refine RD.one 11 (RDO.ev [] [.own 0,.own 0,.own 0,.own 0] λ _=>?_)
     refine RD.fin<|RN.go 10 [.own 0,.own 0,.own 0] λ _=>RN.rounds 3<|RN.go 136 [.own 0,.own 0,.own 0,.own 0,.own 6,.own 6,.own 6,.own 6] λ _=>RN.ret [.own 6,.own 6,.own 6,.own 6] [] [] (v:=.tuple #[.agg #[.slice none 0 0,vI (-1),vI (-1),vI (-1)],vI 0]) (H':=(ap [] [])) ?_
     exact ⟨([],none,0,[],(-1),(-1),(-1),0),by simp [ap],rfl,SlIs.nil _ _,trivial,Nat.zero_le _⟩
    ·refine RN.go 2 [] λ _=>RN.draw [11] []<|RD.go [] [0,1,2,3,8,4,9,5,6,7,10] [.own 3]<|RD.one 11 (RDO.ev [] [.own 3] λ _=>?_)
     refine RD.fin<|RN.go 2 [] λ _=>RN.draw [4] []<|RD.go [] [0,3,1,2] [.own 0,.own 0,.own 0,.own 0]<|RD.one 4 (RDO.ct [] [3,4] [0] (tr_any 10 z (n1+3) (n1+2) (-1) (-1) 0 kv_ ([]) none 0 ([]:HL) _ hw hN3.up (SlIs.nil _ _) trivial OKc.nil hkv_ (by omega)) ?_)
     rintro _ ⟨l19,A20,c21,T22⟩ ⟨hs23,hz24,hg25,hl26,ok27⟩
     dsimp only at hs23 hz24 hg25 hl26 ok27
     refine RD.fin<|RN.go 5 [] λ _=>RN.ct [0,1] [0] (emit_any (n1+3) (n1+2) (-1) (-1) 0 kv_ l19 A20 c21 T22 _ hs23 hz24 ok27 hkv_ 21 0 (by omega) (by intro h;omega) (by omega)) ?_
     rintro _ ⟨l28,A29,c30,T31⟩ ⟨rfl,hs32,hz33,hl34,ok35⟩
     dsimp only at hs32 hz33 hl34 ok35
     refine RN.go 32 [.own 0] λ _=>RN.em ((l28.length:Int) > 400) 73 (λ h36=>?_) λ h36=>?_
     ·refine RN.go 8 [.own 5,.own 5,.own 5,.own 5] λ _=>RN.ret [.own 5,.own 5,.own 5,.own 5] [] [] (v:=.tuple #[.agg #[.slice none 0 0,vI 0,vI 0,vI 0],vI 2]) (H':=(ap [] [])) ?_
      exact ⟨([],none,0,[],0,0,0,2),by simp [ap],rfl,SlIs.nil _ _,trivial,Nat.zero_le _⟩
     ·refine RN.go 4 [] λ _=>RN.draw [11] []<|RD.go [] [0,5,1,6,2,7,3,8,4,9] [.own 0,.own 0,.own 0,.own 0]<|RD.one 10 (RDO.ev [] [] λ n37=>?_)
      refine RD.one 11 (RDO.ev [] [.own 0,.own 0,.own 0,.own 0] λ _=>?_)
      refine RD.fin<|RN.go 10 [.own 0,.own 0,.own 0] λ _=>RN.rounds 3<|RN.go 102 [.own 0,.own 0,.own 0,.own 0] λ _=>?_
      obtain ⟨cb,crest,rfl,rfl,hcc⟩:=hs32.openL hz33 (by decide) (by omega)
      refine RN.ot 0 (x:=(cb,.rows 2 c30 (crow (l28++crest)) 136 (0,0)))<|RN.ct (Hp:=[]) (Tp:=[]) [] [] (ana_any cb c30 0 l28 crest (-1) (-1) 0 _ (in_ap 0) hcc (by omega) ok35 (by omega) (ro_ap hE)) ?_
      rintro _ ⟨f38,b39,d40⟩ rfl
      refine RN.ct (Hp:=[]) (Tp:=[]) [] [] (safe_any f38 b39 d40 _) ?_
      rintro _ z41 rfl
      refine RN.go 4 [] λ _=>RN.eB (z41) 98 (λ h42=>?_) λ h42=>?_
      ·refine RN.go 28 [.own 1,.own 1,.own 1,.own 1,.own 7,.own 7,.own 7,.own 7] λ _=>RN.ret [.own 7,.own 7,.own 7,.own 7] [0] [] (v:=.tuple #[.agg #[vS cb 0 l28.length c30,vI (-1),vI (-1),vI 0],vI 0]) (H':=(ap [(cb,.rows 2 c30 (crow (l28++crest)) 136 (0,0))] [])) ?_
       exact ⟨(l28,(some ⟨cb,0,none⟩),c30,[(cb,.rows 2 c30 (crow (l28++crest)) 136 (0,0))],(-1),(-1),0,0),by simp [ap],rfl,(SlIs.ofRows (e:=insE) hcc),rfl,(by dsimp only;omega)⟩
      ·refine RN.go 8 [.own 7,.own 7,.own 7,.own 7] λ _=>RN.ret [.own 7,.own 7,.own 7,.own 7] [] [] (v:=.tuple #[.agg #[.slice none 0 0,vI 0,vI 0,vI 0],vI 15]) (H':=(ap [] [])) ?_
       exact ⟨([],none,0,[],0,0,0,15),by simp [ap],rfl,SlIs.nil _ _,trivial,Nat.zero_le _⟩
   ·refine RN.go 2 [] λ _=>RN.draw [11] []<|RD.go [] [0,1,2,3,8,4,9,5,6,7,10] [.own 2]<|RD.one 11 (RDO.ev [] [.own 2] λ _=>?_)
    refine RD.fin<|RN.go 2 [] λ _=>RN.draw [4] []<|RD.go [] [0,3,1,2] [.own 0,.own 0,.own 0,.own 0]<|RD.one 4 (RDO.ct [] [2,3] [0] (tr_any 10 y (n1+3) (n1+2) (-1) 0 0 kv_ ([]) none 0 ([]:HL) _ hy hN2.up (SlIs.nil _ _) trivial OKc.nil hkv_ (by omega)) ?_)
    rintro _ ⟨l43,A44,c45,T46⟩ ⟨hs47,hz48,hg49,hl50,ok51⟩
    dsimp only at hs47 hz48 hg49 hl50 ok51
    refine RD.fin<|RN.go 5 [] λ _=>RN.ct [0,1] [0] (emit_any (n1+3) (n1+2) (-1) 0 0 kv_ l43 A44 c45 T46 _ hs47 hz48 ok51 hkv_ 21 0 (by omega) (by intro h;omega) (by omega)) ?_
    rintro _ ⟨l52,A53,c54,T55⟩ ⟨rfl,hs56,hz57,hl58,ok59⟩
    dsimp only at hs56 hz57 hl58 ok59
    refine RN.go 45 [.own 0,.own 0,.own 0,.own 0,.own 1,.own 0] λ n60=>RN.en (z.k=0) 45 (λ h61=>?_) λ h61=>?_
    ·refine RN.go 33 [.own 1] λ _=>RN.em ((l52.length:Int) > 400) 73 (λ h62=>?_) λ h62=>?_
     ·refine RN.go 8 [.own 5,.own 5,.own 5,.own 5] λ _=>RN.ret [.own 5,.own 5,.own 5,.own 5] [] [] (v:=.tuple #[.agg #[.slice none 0 0,vI 0,vI 0,vI 0],vI 2]) (H':=(ap [] [])) ?_
      exact ⟨([],none,0,[],0,0,0,2),by simp [ap],rfl,SlIs.nil _ _,trivial,Nat.zero_le _⟩
     ·refine RN.go 4 [] λ _=>RN.draw [11] []<|RD.go [] [0,5,1,6,2,7,3,8,4,9] [.own 1,.own 1,.own 1,.own 1]<|RD.one 10 (RDO.ev [] [] λ n63=>?_)
      refine RD.one 11 (RDO.ev [] [.own 0,.own 0,.own 0,.own 0] λ _=>?_)
      refine RD.fin<|RN.go 10 [.own 0,.own 0,.own 0] λ _=>RN.rounds 3<|RN.go 63 [.own 0,.own 0,.own 0,.own 0] λ _=>?_
      obtain ⟨cb,crest,rfl,rfl,hcc⟩:=hs56.openL hz57 (by decide) (by omega)
      refine RN.ot 0 (x:=(cb,.rows 2 c54 (crow (l52++crest)) 136 (0,0)))<|RN.ct (Hp:=[]) (Tp:=[]) [] [] (ana_any cb c54 0 l52 crest (-1) 0 (-1) _ (in_ap 0) hcc (by omega) ok59 (by omega) (ro_ap hE)) ?_
      rintro _ ⟨f64,b65,d66⟩ rfl
      refine RN.ct (Hp:=[]) (Tp:=[]) [] [] (safe_any f64 b65 d66 _) ?_
      rintro _ z67 rfl
      refine RN.go 4 [] λ _=>RN.eB (z67) 98 (λ h68=>?_) λ h68=>?_
      ·refine RN.go 67 [.own 1,.own 1,.own 1,.own 1,.own 7,.own 7,.own 7,.own 7] λ _=>RN.ret [.own 7,.own 7,.own 7,.own 7] [0] [] (v:=.tuple #[.agg #[vS cb 0 l52.length c54,vI (-1),vI 0,vI (-1)],vI 0]) (H':=(ap [(cb,.rows 2 c54 (crow (l52++crest)) 136 (0,0))] [])) ?_
       exact ⟨(l52,(some ⟨cb,0,none⟩),c54,[(cb,.rows 2 c54 (crow (l52++crest)) 136 (0,0))],(-1),0,(-1),0),by simp [ap],rfl,(SlIs.ofRows (e:=insE) hcc),rfl,(by dsimp only;omega)⟩
      ·refine RN.go 8 [.own 7,.own 7,.own 7,.own 7] λ _=>RN.ret [.own 7,.own 7,.own 7,.own 7] [] [] (v:=.tuple #[.agg #[.slice none 0 0,vI 0,vI 0,vI 0],vI 15]) (H':=(ap [] [])) ?_
       exact ⟨([],none,0,[],0,0,0,15),by simp [ap],rfl,SlIs.nil _ _,trivial,Nat.zero_le _⟩
    ·refine RN.go 2 [] λ _=>RN.draw [11] []<|RD.go [] [0,1,2,3,8,4,9,5,6,7,10] [.own 1]<|RD.one 11 (RDO.ev [] [.own 1] λ _=>?_)
     refine RD.fin<|RN.go 2 [] λ _=>RN.draw [4] []<|RD.go [] [0,3,1,2] [.own 0,.own 0,.own 0,.own 0]<|RD.one 4 (RDO.ct [] [1,2] [0] (tr_any 10 z (n1+3) (n1+2) (-1) 0 (l52.length:Int) kv_ l52 A53 c54 T55 _ hw hN3.up hs56 hz57 ok59 hkv_ (by omega)) ?_)
     rintro _ ⟨l69,A70,c71,T72⟩ ⟨hs73,hz74,hg75,hl76,ok77⟩
     dsimp only at hs73 hz74 hg75 hl76 ok77
     refine RD.fin<|RN.go 5 [] λ _=>RN.ct [0,1] [0] (emit_any (n1+3) (n1+2) (-1) 0 (l52.length:Int) kv_ l69 A70 c71 T72 _ hs73 hz74 ok77 hkv_ 21 0 (by omega) (by intro h;omega) (by omega)) ?_
     rintro _ ⟨l78,A79,c80,T81⟩ ⟨rfl,hs82,hz83,hl84,ok85⟩
     dsimp only at hs82 hz83 hl84 ok85
     refine RN.go 32 [.own 0] λ _=>RN.em ((l78.length:Int) > 400) 73 (λ h86=>?_) λ h86=>?_
     ·refine RN.go 8 [.own 5,.own 5,.own 5,.own 5] λ _=>RN.ret [.own 5,.own 5,.own 5,.own 5] [] [] (v:=.tuple #[.agg #[.slice none 0 0,vI 0,vI 0,vI 0],vI 2]) (H':=(ap [] [])) ?_
      exact ⟨([],none,0,[],0,0,0,2),by simp [ap],rfl,SlIs.nil _ _,trivial,Nat.zero_le _⟩
     ·refine RN.go 4 [] λ _=>RN.draw [11] []<|RD.go [] [0,5,1,6,2,7,3,8,4,9] [.own 0,.own 0,.own 0,.own 0]<|RD.one 10 (RDO.ev [] [] λ n87=>?_)
      refine RD.one 11 (RDO.ev [] [.own 0,.own 0,.own 0,.own 0] λ _=>?_)
      refine RD.fin<|RN.go 10 [.own 0,.own 0,.own 0] λ _=>RN.rounds 3<|RN.go 63 [.own 0,.own 0,.own 0,.own 0] λ _=>?_
      obtain ⟨cb,crest,rfl,rfl,hcc⟩:=hs82.openL hz83 (by decide) (by omega)
      refine RN.ot 0 (x:=(cb,.rows 2 c80 (crow (l78++crest)) 136 (0,0)))<|RN.ct (Hp:=[]) (Tp:=[]) [] [] (ana_any cb c80 0 l78 crest (-1) 0 (l52.length:Int) _ (in_ap 0) hcc (by omega) ok85 (by omega) (ro_ap hE)) ?_
      rintro _ ⟨f88,b89,d90⟩ rfl
      refine RN.ct (Hp:=[]) (Tp:=[]) [] [] (safe_any f88 b89 d90 _) ?_
      rintro _ z91 rfl
      refine RN.go 4 [] λ _=>RN.eB (z91) 98 (λ h92=>?_) λ h92=>?_
      ·refine RN.go 31 [] λ _=>RN.em ((l52.length:Int) >= 0) 92 (λ h93=>?_) λ h93=>?_
       ·refine RN.go 2 [.own 1,.own 1,.own 1,.own 1] λ _=>RN.ct (Hp:=[]) (Tp:=[]) [] [] (ana_any cb c80 l52.length l78 crest (-1) 0 (l52.length:Int) _ (in_ap 0) hcc (by omega) ok85 (by omega) (ro_ap hE)) ?_
        rintro _ ⟨f94,b95,d96⟩ rfl
        refine RN.ct (Hp:=[]) (Tp:=[]) [] [] (safe_any f94 b95 d96 _) ?_
        rintro _ z97 rfl
        refine RN.go 4 [] λ _=>RN.eB (z97) 98 (λ h98=>?_) λ h98=>?_
        ·refine RN.go 28 [.own 1,.own 1,.own 1,.own 1,.own 7,.own 7,.own 7,.own 7] λ _=>RN.ret [.own 7,.own 7,.own 7,.own 7] [0] [] (v:=.tuple #[.agg #[vS cb 0 l78.length c80,vI (-1),vI 0,vI (l52.length:Int)],vI 0]) (H':=(ap [(cb,.rows 2 c80 (crow (l78++crest)) 136 (0,0))] [])) ?_
         exact ⟨(l78,(some ⟨cb,0,none⟩),c80,[(cb,.rows 2 c80 (crow (l78++crest)) 136 (0,0))],(-1),0,(l52.length:Int),0),by simp [ap],rfl,(SlIs.ofRows (e:=insE) hcc),rfl,(by dsimp only;omega)⟩
        ·refine RN.go 8 [.own 7,.own 7,.own 7,.own 7] λ _=>RN.ret [.own 7,.own 7,.own 7,.own 7] [] [] (v:=.tuple #[.agg #[.slice none 0 0,vI 0,vI 0,vI 0],vI 15]) (H':=(ap [] [])) ?_
         exact ⟨([],none,0,[],0,0,0,15),by simp [ap],rfl,SlIs.nil _ _,trivial,Nat.zero_le _⟩
       ·(exfalso;omega)
      ·refine RN.go 8 [.own 7,.own 7,.own 7,.own 7] λ _=>RN.ret [.own 7,.own 7,.own 7,.own 7] [] [] (v:=.tuple #[.agg #[.slice none 0 0,vI 0,vI 0,vI 0],vI 15]) (H':=(ap [] [])) ?_
       exact ⟨([],none,0,[],0,0,0,15),by simp [ap],rfl,SlIs.nil _ _,trivial,Nat.zero_le _⟩
  ·refine RN.go 2 [] λ _=>RN.draw [11] []<|RD.go [] [0,1,2,3,8,4,9,5,6,7,10] [.own 1]<|RD.one 11 (RDO.ev [] [.own 1] λ _=>?_)
   refine RD.fin<|RN.go 2 [] λ _=>RN.draw [4] []<|RD.go [] [0,3,1,2] [.own 0,.own 0,.own 0,.own 0]<|RD.one 4 (RDO.ct [] [1,2] [0] (tr_any 10 x (n1+3) (n1+2) 0 0 0 kv_ ([]) none 0 ([]:HL) _ hx hN.up (SlIs.nil _ _) trivial OKc.nil hkv_ (by omega)) ?_)
   rintro _ ⟨l99,A100,c101,T102⟩ ⟨hs103,hz104,hg105,hl106,ok107⟩
   dsimp only at hs103 hz104 hg105 hl106 ok107
   refine RD.fin<|RN.go 5 [] λ _=>RN.ct [0,1] [0] (emit_any (n1+3) (n1+2) 0 0 0 kv_ l99 A100 c101 T102 _ hs103 hz104 ok107 hkv_ 21 0 (by omega) (by intro h;omega) (by omega)) ?_
   rintro _ ⟨l108,A109,c110,T111⟩ ⟨rfl,hs112,hz113,hl114,ok115⟩
   dsimp only at hs112 hz113 hl114 ok115
   refine RN.go 45 [.own 0,.own 0,.own 0,.own 0,.own 1,.own 0] λ n116=>RN.en (y.k=0) 45 (λ h117=>?_) λ h117=>?_
   ·refine RN.go 46 [.own 0,.own 0,.own 0,.own 0,.own 2,.own 0] λ n118=>RN.en (z.k=0) 45 (λ h119=>?_) λ h119=>?_
    ·refine RN.go 33 [.own 2] λ _=>RN.em ((l108.length:Int) > 400) 73 (λ h120=>?_) λ h120=>?_
     ·refine RN.go 8 [.own 5,.own 5,.own 5,.own 5] λ _=>RN.ret [.own 5,.own 5,.own 5,.own 5] [] [] (v:=.tuple #[.agg #[.slice none 0 0,vI 0,vI 0,vI 0],vI 2]) (H':=(ap [] [])) ?_
      exact ⟨([],none,0,[],0,0,0,2),by simp [ap],rfl,SlIs.nil _ _,trivial,Nat.zero_le _⟩
     ·refine RN.go 4 [] λ _=>RN.draw [11] []<|RD.go [] [0,5,1,6,2,7,3,8,4,9] [.own 2,.own 2,.own 2,.own 2]<|RD.one 10 (RDO.ev [] [] λ n121=>?_)
      refine RD.one 11 (RDO.ev [] [.own 0,.own 0,.own 0,.own 0] λ _=>?_)
      refine RD.fin<|RN.go 10 [.own 0,.own 0,.own 0] λ _=>RN.rounds 3<|RN.go 24 [.own 0,.own 0,.own 0,.own 0] λ _=>?_
      obtain ⟨cb,crest,rfl,rfl,hcc⟩:=hs112.openL hz113 (by decide) (by omega)
      refine RN.ot 0 (x:=(cb,.rows 2 c110 (crow (l108++crest)) 136 (0,0)))<|RN.ct (Hp:=[]) (Tp:=[]) [] [] (ana_any cb c110 0 l108 crest 0 (-1) (-1) _ (in_ap 0) hcc (by omega) ok115 (by omega) (ro_ap hE)) ?_
      rintro _ ⟨f122,b123,d124⟩ rfl
      refine RN.ct (Hp:=[]) (Tp:=[]) [] [] (safe_any f122 b123 d124 _) ?_
      rintro _ z125 rfl
      refine RN.go 4 [] λ _=>RN.eB (z125) 98 (λ h126=>?_) λ h126=>?_
      ·refine RN.go 106 [.own 1,.own 1,.own 1,.own 1,.own 7,.own 7,.own 7,.own 7] λ _=>RN.ret [.own 7,.own 7,.own 7,.own 7] [0] [] (v:=.tuple #[.agg #[vS cb 0 l108.length c110,vI 0,vI (-1),vI (-1)],vI 0]) (H':=(ap [(cb,.rows 2 c110 (crow (l108++crest)) 136 (0,0))] [])) ?_
       exact ⟨(l108,(some ⟨cb,0,none⟩),c110,[(cb,.rows 2 c110 (crow (l108++crest)) 136 (0,0))],0,(-1),(-1),0),by simp [ap],rfl,(SlIs.ofRows (e:=insE) hcc),rfl,(by dsimp only;omega)⟩
      ·refine RN.go 8 [.own 7,.own 7,.own 7,.own 7] λ _=>RN.ret [.own 7,.own 7,.own 7,.own 7] [] [] (v:=.tuple #[.agg #[.slice none 0 0,vI 0,vI 0,vI 0],vI 15]) (H':=(ap [] [])) ?_
       exact ⟨([],none,0,[],0,0,0,15),by simp [ap],rfl,SlIs.nil _ _,trivial,Nat.zero_le _⟩
    ·refine RN.go 2 [] λ _=>RN.draw [11] []<|RD.go [] [0,1,2,3,8,4,9,5,6,7,10] [.own 2]<|RD.one 11 (RDO.ev [] [.own 2] λ _=>?_)
     refine RD.fin<|RN.go 2 [] λ _=>RN.draw [4] []<|RD.go [] [0,3,1,2] [.own 0,.own 0,.own 0,.own 0]<|RD.one 4 (RDO.ct [] [2,3] [0] (tr_any 10 z (n1+3) (n1+2) 0 (-1) (l108.length:Int) kv_ l108 A109 c110 T111 _ hw hN3.up hs112 hz113 ok115 hkv_ (by omega)) ?_)
     rintro _ ⟨l127,A128,c129,T130⟩ ⟨hs131,hz132,hg133,hl134,ok135⟩
     dsimp only at hs131 hz132 hg133 hl134 ok135
     refine RD.fin<|RN.go 5 [] λ _=>RN.ct [0,1] [0] (emit_any (n1+3) (n1+2) 0 (-1) (l108.length:Int) kv_ l127 A128 c129 T130 _ hs131 hz132 ok135 hkv_ 21 0 (by omega) (by intro h;omega) (by omega)) ?_
     rintro _ ⟨l136,A137,c138,T139⟩ ⟨rfl,hs140,hz141,hl142,ok143⟩
     dsimp only at hs140 hz141 hl142 ok143
     refine RN.go 32 [.own 0] λ _=>RN.em ((l136.length:Int) > 400) 73 (λ h144=>?_) λ h144=>?_
     ·refine RN.go 8 [.own 5,.own 5,.own 5,.own 5] λ _=>RN.ret [.own 5,.own 5,.own 5,.own 5] [] [] (v:=.tuple #[.agg #[.slice none 0 0,vI 0,vI 0,vI 0],vI 2]) (H':=(ap [] [])) ?_
      exact ⟨([],none,0,[],0,0,0,2),by simp [ap],rfl,SlIs.nil _ _,trivial,Nat.zero_le _⟩
     ·refine RN.go 4 [] λ _=>RN.draw [11] []<|RD.go [] [0,5,1,6,2,7,3,8,4,9] [.own 0,.own 0,.own 0,.own 0]<|RD.one 10 (RDO.ev [] [] λ n145=>?_)
      refine RD.one 11 (RDO.ev [] [.own 0,.own 0,.own 0,.own 0] λ _=>?_)
      refine RD.fin<|RN.go 10 [.own 0,.own 0,.own 0] λ _=>RN.rounds 3<|RN.go 24 [.own 0,.own 0,.own 0,.own 0] λ _=>?_
      obtain ⟨cb,crest,rfl,rfl,hcc⟩:=hs140.openL hz141 (by decide) (by omega)
      refine RN.ot 0 (x:=(cb,.rows 2 c138 (crow (l136++crest)) 136 (0,0)))<|RN.ct (Hp:=[]) (Tp:=[]) [] [] (ana_any cb c138 0 l136 crest 0 (-1) (l108.length:Int) _ (in_ap 0) hcc (by omega) ok143 (by omega) (ro_ap hE)) ?_
      rintro _ ⟨f146,b147,d148⟩ rfl
      refine RN.ct (Hp:=[]) (Tp:=[]) [] [] (safe_any f146 b147 d148 _) ?_
      rintro _ z149 rfl
      refine RN.go 4 [] λ _=>RN.eB (z149) 98 (λ h150=>?_) λ h150=>?_
      ·refine RN.go 70 [] λ _=>RN.em ((l108.length:Int) >= 0) 92 (λ h151=>?_) λ h151=>?_
       ·refine RN.go 2 [.own 1,.own 1,.own 1,.own 1] λ _=>RN.ct (Hp:=[]) (Tp:=[]) [] [] (ana_any cb c138 l108.length l136 crest 0 (-1) (l108.length:Int) _ (in_ap 0) hcc (by omega) ok143 (by omega) (ro_ap hE)) ?_
        rintro _ ⟨f152,b153,d154⟩ rfl
        refine RN.ct (Hp:=[]) (Tp:=[]) [] [] (safe_any f152 b153 d154 _) ?_
        rintro _ z155 rfl
        refine RN.go 4 [] λ _=>RN.eB (z155) 98 (λ h156=>?_) λ h156=>?_
        ·refine RN.go 28 [.own 1,.own 1,.own 1,.own 1,.own 7,.own 7,.own 7,.own 7] λ _=>RN.ret [.own 7,.own 7,.own 7,.own 7] [0] [] (v:=.tuple #[.agg #[vS cb 0 l136.length c138,vI 0,vI (-1),vI (l108.length:Int)],vI 0]) (H':=(ap [(cb,.rows 2 c138 (crow (l136++crest)) 136 (0,0))] [])) ?_
         exact ⟨(l136,(some ⟨cb,0,none⟩),c138,[(cb,.rows 2 c138 (crow (l136++crest)) 136 (0,0))],0,(-1),(l108.length:Int),0),by simp [ap],rfl,(SlIs.ofRows (e:=insE) hcc),rfl,(by dsimp only;omega)⟩
        ·refine RN.go 8 [.own 7,.own 7,.own 7,.own 7] λ _=>RN.ret [.own 7,.own 7,.own 7,.own 7] [] [] (v:=.tuple #[.agg #[.slice none 0 0,vI 0,vI 0,vI 0],vI 15]) (H':=(ap [] [])) ?_
         exact ⟨([],none,0,[],0,0,0,15),by simp [ap],rfl,SlIs.nil _ _,trivial,Nat.zero_le _⟩
       ·(exfalso;omega)
      ·refine RN.go 8 [.own 7,.own 7,.own 7,.own 7] λ _=>RN.ret [.own 7,.own 7,.own 7,.own 7] [] [] (v:=.tuple #[.agg #[.slice none 0 0,vI 0,vI 0,vI 0],vI 15]) (H':=(ap [] [])) ?_
       exact ⟨([],none,0,[],0,0,0,15),by simp [ap],rfl,SlIs.nil _ _,trivial,Nat.zero_le _⟩
   ·refine RN.go 2 [] λ _=>RN.draw [11] []<|RD.go [] [0,1,2,3,8,4,9,5,6,7,10] [.own 1]<|RD.one 11 (RDO.ev [] [.own 1] λ _=>?_)
    refine RD.fin<|RN.go 2 [] λ _=>RN.draw [4] []<|RD.go [] [0,3,1,2] [.own 0,.own 0,.own 0,.own 0]<|RD.one 4 (RDO.ct [] [1,2] [0] (tr_any 10 y (n1+3) (n1+2) 0 (l108.length:Int) 0 kv_ l108 A109 c110 T111 _ hy hN2.up hs112 hz113 ok115 hkv_ (by omega)) ?_)
    rintro _ ⟨l157,A158,c159,T160⟩ ⟨hs161,hz162,hg163,hl164,ok165⟩
    dsimp only at hs161 hz162 hg163 hl164 ok165
    refine RD.fin<|RN.go 5 [] λ _=>RN.ct [0,1] [0] (emit_any (n1+3) (n1+2) 0 (l108.length:Int) 0 kv_ l157 A158 c159 T160 _ hs161 hz162 ok165 hkv_ 21 0 (by omega) (by intro h;omega) (by omega)) ?_
    rintro _ ⟨l166,A167,c168,T169⟩ ⟨rfl,hs170,hz171,hl172,ok173⟩
    dsimp only at hs170 hz171 hl172 ok173
    refine RN.go 45 [.own 0,.own 0,.own 0,.own 0,.own 1,.own 0] λ n174=>RN.en (z.k=0) 45 (λ h175=>?_) λ h175=>?_
    ·refine RN.go 33 [.own 1] λ _=>RN.em ((l166.length:Int) > 400) 73 (λ h176=>?_) λ h176=>?_
     ·refine RN.go 8 [.own 5,.own 5,.own 5,.own 5] λ _=>RN.ret [.own 5,.own 5,.own 5,.own 5] [] [] (v:=.tuple #[.agg #[.slice none 0 0,vI 0,vI 0,vI 0],vI 2]) (H':=(ap [] [])) ?_
      exact ⟨([],none,0,[],0,0,0,2),by simp [ap],rfl,SlIs.nil _ _,trivial,Nat.zero_le _⟩
     ·refine RN.go 4 [] λ _=>RN.draw [11] []<|RD.go [] [0,5,1,6,2,7,3,8,4,9] [.own 1,.own 1,.own 1,.own 1]<|RD.one 10 (RDO.ev [] [] λ n177=>?_)
      refine RD.one 11 (RDO.ev [] [.own 0,.own 0,.own 0,.own 0] λ _=>?_)
      refine RD.fin<|RN.go 10 [.own 0,.own 0,.own 0] λ _=>RN.rounds 3<|RN.go 24 [.own 0,.own 0,.own 0,.own 0] λ _=>?_
      obtain ⟨cb,crest,rfl,rfl,hcc⟩:=hs170.openL hz171 (by decide) (by omega)
      refine RN.ot 0 (x:=(cb,.rows 2 c168 (crow (l166++crest)) 136 (0,0)))<|RN.ct (Hp:=[]) (Tp:=[]) [] [] (ana_any cb c168 0 l166 crest 0 (l108.length:Int) (-1) _ (in_ap 0) hcc (by omega) ok173 (by omega) (ro_ap hE)) ?_
      rintro _ ⟨f178,b179,d180⟩ rfl
      refine RN.ct (Hp:=[]) (Tp:=[]) [] [] (safe_any f178 b179 d180 _) ?_
      rintro _ z181 rfl
      refine RN.go 4 [] λ _=>RN.eB (z181) 98 (λ h182=>?_) λ h182=>?_
      ·refine RN.go 31 [] λ _=>RN.em ((l108.length:Int) >= 0) 92 (λ h183=>?_) λ h183=>?_
       ·refine RN.go 2 [.own 1,.own 1,.own 1,.own 1] λ _=>RN.ct (Hp:=[]) (Tp:=[]) [] [] (ana_any cb c168 l108.length l166 crest 0 (l108.length:Int) (-1) _ (in_ap 0) hcc (by omega) ok173 (by omega) (ro_ap hE)) ?_
        rintro _ ⟨f184,b185,d186⟩ rfl
        refine RN.ct (Hp:=[]) (Tp:=[]) [] [] (safe_any f184 b185 d186 _) ?_
        rintro _ z187 rfl
        refine RN.go 4 [] λ _=>RN.eB (z187) 98 (λ h188=>?_) λ h188=>?_
        ·refine RN.go 67 [.own 1,.own 1,.own 1,.own 1,.own 7,.own 7,.own 7,.own 7] λ _=>RN.ret [.own 7,.own 7,.own 7,.own 7] [0] [] (v:=.tuple #[.agg #[vS cb 0 l166.length c168,vI 0,vI (l108.length:Int),vI (-1)],vI 0]) (H':=(ap [(cb,.rows 2 c168 (crow (l166++crest)) 136 (0,0))] [])) ?_
         exact ⟨(l166,(some ⟨cb,0,none⟩),c168,[(cb,.rows 2 c168 (crow (l166++crest)) 136 (0,0))],0,(l108.length:Int),(-1),0),by simp [ap],rfl,(SlIs.ofRows (e:=insE) hcc),rfl,(by dsimp only;omega)⟩
        ·refine RN.go 8 [.own 7,.own 7,.own 7,.own 7] λ _=>RN.ret [.own 7,.own 7,.own 7,.own 7] [] [] (v:=.tuple #[.agg #[.slice none 0 0,vI 0,vI 0,vI 0],vI 15]) (H':=(ap [] [])) ?_
         exact ⟨([],none,0,[],0,0,0,15),by simp [ap],rfl,SlIs.nil _ _,trivial,Nat.zero_le _⟩
       ·(exfalso;omega)
      ·refine RN.go 8 [.own 7,.own 7,.own 7,.own 7] λ _=>RN.ret [.own 7,.own 7,.own 7,.own 7] [] [] (v:=.tuple #[.agg #[.slice none 0 0,vI 0,vI 0,vI 0],vI 15]) (H':=(ap [] [])) ?_
       exact ⟨([],none,0,[],0,0,0,15),by simp [ap],rfl,SlIs.nil _ _,trivial,Nat.zero_le _⟩
    ·refine RN.go 2 [] λ _=>RN.draw [11] []<|RD.go [] [0,1,2,3,8,4,9,5,6,7,10] [.own 1]<|RD.one 11 (RDO.ev [] [.own 1] λ _=>?_)
     refine RD.fin<|RN.go 2 [] λ _=>RN.draw [4] []<|RD.go [] [0,3,1,2] [.own 0,.own 0,.own 0,.own 0]<|RD.one 4 (RDO.ct [] [1,2] [0] (tr_any 10 z (n1+3) (n1+2) 0 (l108.length:Int) (l166.length:Int) kv_ l166 A167 c168 T169 _ hw hN3.up hs170 hz171 ok173 hkv_ (by omega)) ?_)
     rintro _ ⟨l189,A190,c191,T192⟩ ⟨hs193,hz194,hg195,hl196,ok197⟩
     dsimp only at hs193 hz194 hg195 hl196 ok197
     refine RD.fin<|RN.go 5 [] λ _=>RN.ct [0,1] [0] (emit_any (n1+3) (n1+2) 0 (l108.length:Int) (l166.length:Int) kv_ l189 A190 c191 T192 _ hs193 hz194 ok197 hkv_ 21 0 (by omega) (by intro h;omega) (by omega)) ?_
     rintro _ ⟨l198,A199,c200,T201⟩ ⟨rfl,hs202,hz203,hl204,ok205⟩
     dsimp only at hs202 hz203 hl204 ok205
     refine RN.go 32 [.own 0] λ _=>RN.em ((l198.length:Int) > 400) 73 (λ h206=>?_) λ h206=>?_
     ·refine RN.go 8 [.own 5,.own 5,.own 5,.own 5] λ _=>RN.ret [.own 5,.own 5,.own 5,.own 5] [] [] (v:=.tuple #[.agg #[.slice none 0 0,vI 0,vI 0,vI 0],vI 2]) (H':=(ap [] [])) ?_
      exact ⟨([],none,0,[],0,0,0,2),by simp [ap],rfl,SlIs.nil _ _,trivial,Nat.zero_le _⟩
     ·refine RN.go 4 [] λ _=>RN.draw [11] []<|RD.go [] [0,5,1,6,2,7,3,8,4,9] [.own 0,.own 0,.own 0,.own 0]<|RD.one 10 (RDO.ev [] [] λ n207=>?_)
      refine RD.one 11 (RDO.ev [] [.own 0,.own 0,.own 0,.own 0] λ _=>?_)
      refine RD.fin<|RN.go 10 [.own 0,.own 0,.own 0] λ _=>RN.rounds 3<|RN.go 24 [.own 0,.own 0,.own 0,.own 0] λ _=>?_
      obtain ⟨cb,crest,rfl,rfl,hcc⟩:=hs202.openL hz203 (by decide) (by omega)
      refine RN.ot 0 (x:=(cb,.rows 2 c200 (crow (l198++crest)) 136 (0,0)))<|RN.ct (Hp:=[]) (Tp:=[]) [] [] (ana_any cb c200 0 l198 crest 0 (l108.length:Int) (l166.length:Int) _ (in_ap 0) hcc (by omega) ok205 (by omega) (ro_ap hE)) ?_
      rintro _ ⟨f208,b209,d210⟩ rfl
      refine RN.ct (Hp:=[]) (Tp:=[]) [] [] (safe_any f208 b209 d210 _) ?_
      rintro _ z211 rfl
      refine RN.go 4 [] λ _=>RN.eB (z211) 98 (λ h212=>?_) λ h212=>?_
      ·refine RN.go 31 [] λ _=>RN.em ((l108.length:Int) >= 0) 92 (λ h213=>?_) λ h213=>?_
       ·refine RN.go 2 [.own 1,.own 1,.own 1,.own 1] λ _=>RN.ct (Hp:=[]) (Tp:=[]) [] [] (ana_any cb c200 l108.length l198 crest 0 (l108.length:Int) (l166.length:Int) _ (in_ap 0) hcc (by omega) ok205 (by omega) (ro_ap hE)) ?_
        rintro _ ⟨f214,b215,d216⟩ rfl
        refine RN.ct (Hp:=[]) (Tp:=[]) [] [] (safe_any f214 b215 d216 _) ?_
        rintro _ z217 rfl
        refine RN.go 4 [] λ _=>RN.eB (z217) 98 (λ h218=>?_) λ h218=>?_
        ·refine RN.go 31 [] λ _=>RN.em ((l166.length:Int) >= 0) 92 (λ h219=>?_) λ h219=>?_
         ·refine RN.go 2 [.own 1,.own 1,.own 1,.own 1] λ _=>RN.ct (Hp:=[]) (Tp:=[]) [] [] (ana_any cb c200 l166.length l198 crest 0 (l108.length:Int) (l166.length:Int) _ (in_ap 0) hcc (by omega) ok205 (by omega) (ro_ap hE)) ?_
          rintro _ ⟨f220,b221,d222⟩ rfl
          refine RN.ct (Hp:=[]) (Tp:=[]) [] [] (safe_any f220 b221 d222 _) ?_
          rintro _ z223 rfl
          refine RN.go 4 [] λ _=>RN.eB (z223) 98 (λ h224=>?_) λ h224=>?_
          ·refine RN.go 28 [.own 1,.own 1,.own 1,.own 1,.own 7,.own 7,.own 7,.own 7] λ _=>RN.ret [.own 7,.own 7,.own 7,.own 7] [0] [] (v:=.tuple #[.agg #[vS cb 0 l198.length c200,vI 0,vI (l108.length:Int),vI (l166.length:Int)],vI 0]) (H':=(ap [(cb,.rows 2 c200 (crow (l198++crest)) 136 (0,0))] [])) ?_
           exact ⟨(l198,(some ⟨cb,0,none⟩),c200,[(cb,.rows 2 c200 (crow (l198++crest)) 136 (0,0))],0,(l108.length:Int),(l166.length:Int),0),by simp [ap],rfl,(SlIs.ofRows (e:=insE) hcc),rfl,(by dsimp only;omega)⟩
          ·refine RN.go 8 [.own 7,.own 7,.own 7,.own 7] λ _=>RN.ret [.own 7,.own 7,.own 7,.own 7] [] [] (v:=.tuple #[.agg #[.slice none 0 0,vI 0,vI 0,vI 0],vI 15]) (H':=(ap [] [])) ?_
           exact ⟨([],none,0,[],0,0,0,15),by simp [ap],rfl,SlIs.nil _ _,trivial,Nat.zero_le _⟩
         ·(exfalso;omega)
        ·refine RN.go 8 [.own 7,.own 7,.own 7,.own 7] λ _=>RN.ret [.own 7,.own 7,.own 7,.own 7] [] [] (v:=.tuple #[.agg #[.slice none 0 0,vI 0,vI 0,vI 0],vI 15]) (H':=(ap [] [])) ?_
         exact ⟨([],none,0,[],0,0,0,15),by simp [ap],rfl,SlIs.nil _ _,trivial,Nat.zero_le _⟩
       ·(exfalso;omega)
      ·refine RN.go 8 [.own 7,.own 7,.own 7,.own 7] λ _=>RN.ret [.own 7,.own 7,.own 7,.own 7] [] [] (v:=.tuple #[.agg #[.slice none 0 0,vI 0,vI 0,vI 0],vI 15]) (H':=(ap [] [])) ?_
       exact ⟨([],none,0,[],0,0,0,15),by simp [ap],rfl,SlIs.nil _ _,trivial,Nat.zero_le _⟩
end Go.Proofs.YtkhifpbokgabbaaGreatDoor
