import Derived.Test.YtkhifpbokgabbaaGreatDoorW30
set_option maxHeartbeats 4000000
set_option maxRecDepth 100000
set_option linter.unusedSimpArgs false
set_option linter.unusedVariables false
namespace Go.Proofs.YtkhifpbokgabbaaGreatDoor
open Go.RowKit
theorem binary_any (tb m:Nat) (e0 e1 e2:Int) (kv:List (ByteArray × Value)) (l:List Ins) (A:Option Addr) (c:Nat) (T F:HL) (hs:SlIs insE 136 l A c T) (hz:zeroOff A) (ok:OKc l) (hkv:AllInt kv) (h:Nat) (x:Nd) (hx:Ht (h+1) x) (hN:NdIn F x) (ih:TrC h) (hb:l.length+(gr (h+1)) <= 100000000):Sp Tryz.prog 64 #[vP tb 0,.agg #[vI x.k,vI x.n,.string x.s,.slice x.A x.kids.length x.c]] (ap [(tb,.lit [.slice A l.length c,.map (some m),vI e0,vI e1,vI e2] 103 (0,0)),(m,.obj (smap kv))] [T]) F (TrR tb m e0 e1 e2 kv l (gr (h+1))):=by
 have hgr:gr (h+1)=3 * gr h+5:=rfl
 refine Sp.run Tryz.func64 rfl mn (A:=[(tb,.lit [.slice A l.length c,.map (some m),vI e0,vI e1,vI e2] 103 (0,0)),(m,.obj (smap kv))]) (Ts:=[T]) rfl λ w0=>?_
 refine RN.go 19 [.own 0,.sq] λ n1=>RN.em (x.s=⟨#[38,38]⟩) 17 (λ h2=>?_) λ h2=>?_
 ·refine RN.go 6 [.own 1] λ _=>RN.ct [2,3] [0] (choice_b1 tb m e0 e1 e2 kv l A c T _ hs hz ok hkv h x hx hN.up ih (n1+0) (n1+1) (in_ap 1) (in_ap 0) (by omega)) ?_
  rintro _ ⟨l3,A4,c5,T6⟩ ⟨hs7,hz8,hg9,hl10,ok11⟩
  dsimp only at hs7 hz8 hg9 hl10 ok11
  refine RN.go 2 [] λ _=>RN.ret [] [0,1] [0] (v:=.tuple #[]) (H':=(ap [(tb,.lit [.slice A4 l3.length c5,.map (some m),vI e0,vI e1,vI e2] 103 (0,0)),(m,.obj (smap kv))] [T6])) ?_
  exact ⟨(l3,A4,c5,T6),rfl,hs7,hz8,(by dsimp only;omega),(by dsimp only;omega),ok11⟩
 ·refine RN.go 7 [.sq] λ _=>RN.em (x.s=⟨#[124,124]⟩) 24 (λ h12=>?_) λ h12=>?_
  ·refine RN.go 6 [.own 1] λ _=>RN.ct [2,3] [0] (choice_b2 tb m e0 e1 e2 kv l A c T _ hs hz ok hkv h x hx hN.up ih (n1+0) (n1+1) (in_ap 1) (in_ap 0) (by omega)) ?_
   rintro _ ⟨l13,A14,c15,T16⟩ ⟨hs17,hz18,hg19,hl20,ok21⟩
   dsimp only at hs17 hz18 hg19 hl20 ok21
   refine RN.go 2 [] λ _=>RN.ret [] [0,1] [0] (v:=.tuple #[]) (H':=(ap [(tb,.lit [.slice A14 l13.length c15,.map (some m),vI e0,vI e1,vI e2] 103 (0,0)),(m,.obj (smap kv))] [T16])) ?_
   exact ⟨(l13,A14,c15,T16),rfl,hs17,hz18,(by dsimp only;omega),(by dsimp only;omega),ok21⟩
  ·refine RN.go 8 [.sq] λ _=>RN.em (x.s=⟨#[62]⟩) 31 (λ h22=>?_) λ h22=>?_
   ·refine RN.go 8 [.own 1,.own 0,.own 0,.own 0,.own 0] λ _=>RN.ct [2,3] [0] (kid_any tb m e0 e1 e2 kv l A c T _ hs hz ok hkv h x hx hN.up ih 1 1 rfl (by omega)) ?_
    rintro _ ⟨l23,A24,c25,T26⟩ ⟨hs27,hz28,hg29,hl30,ok31⟩
    dsimp only at hs27 hz28 hg29 hl30 ok31
    refine RN.go 6 [.own 3,.own 2,.own 2,.own 2,.own 2] λ _=>RN.ct [0,1] [0] (kid_any tb m e0 e1 e2 kv l23 A24 c25 T26 _ hs27 hz28 ok31 hkv h x hx hN.up ih 0 0 rfl (by omega)) ?_
    rintro _ ⟨l32,A33,c34,T35⟩ ⟨hs36,hz37,hg38,hl39,ok40⟩
    dsimp only at hs36 hz37 hg38 hl39 ok40
    refine RN.go 2 [] λ _=>RN.draw [4] []<|RD.go [] [0,1,2] [.own 3,.own 2]<|RD.cp [] 3 (λ X_=>(opc_any x.s _))<|RD.one 4 (RDO.ct [] [0,1] [0] (emit_any tb m e0 e1 e2 kv l32 A33 c34 T35 _ hs36 hz37 ok40 hkv (opcF x.s) 0 (by have:=opcF_bd x.s;omega) (by have:=opcF_bd x.s;intro h;omega) (by omega)) ?_)
    rintro _ ⟨l41,A42,c43,T44⟩ ⟨rfl,hs45,hz46,hl47,ok48⟩
    dsimp only at hs45 hz46 hl47 ok48
    refine RD.fin<|RN.go 1 [] λ _=>RN.ret [] [0,1] [0] (v:=.tuple #[]) (H':=(ap [(tb,.lit [.slice A42 l41.length c43,.map (some m),vI e0,vI e1,vI e2] 103 (0,0)),(m,.obj (smap kv))] [T44])) ?_
    exact ⟨(l41,A42,c43,T44),rfl,hs45,hz46,(by dsimp only;omega),(by dsimp only;omega),ok48⟩
   ·refine RN.go 6 [.sq] λ _=>RN.em (x.s=⟨#[62,61]⟩) 31 (λ h49=>?_) λ h49=>?_
    ·refine RN.go 5 [.own 1,.own 0,.own 0,.own 0,.own 0] λ _=>RN.ct [2,3] [0] (kid_any tb m e0 e1 e2 kv l A c T _ hs hz ok hkv h x hx hN.up ih 1 1 rfl (by omega)) ?_
     rintro _ ⟨l50,A51,c52,T53⟩ ⟨hs54,hz55,hg56,hl57,ok58⟩
     dsimp only at hs54 hz55 hg56 hl57 ok58
     refine RN.go 6 [.own 3,.own 2,.own 2,.own 2,.own 2] λ _=>RN.ct [0,1] [0] (kid_any tb m e0 e1 e2 kv l50 A51 c52 T53 _ hs54 hz55 ok58 hkv h x hx hN.up ih 0 0 rfl (by omega)) ?_
     rintro _ ⟨l59,A60,c61,T62⟩ ⟨hs63,hz64,hg65,hl66,ok67⟩
     dsimp only at hs63 hz64 hg65 hl66 ok67
     refine RN.go 2 [] λ _=>RN.draw [4] []<|RD.go [] [0,1,2] [.own 3,.own 2]<|RD.cp [] 3 (λ X_=>(opc_any x.s _))<|RD.one 4 (RDO.ct [] [0,1] [0] (emit_any tb m e0 e1 e2 kv l59 A60 c61 T62 _ hs63 hz64 ok67 hkv (opcF x.s) 0 (by have:=opcF_bd x.s;omega) (by have:=opcF_bd x.s;intro h;omega) (by omega)) ?_)
     rintro _ ⟨l68,A69,c70,T71⟩ ⟨rfl,hs72,hz73,hl74,ok75⟩
     dsimp only at hs72 hz73 hl74 ok75
     refine RD.fin<|RN.go 1 [] λ _=>RN.ret [] [0,1] [0] (v:=.tuple #[]) (H':=(ap [(tb,.lit [.slice A69 l68.length c70,.map (some m),vI e0,vI e1,vI e2] 103 (0,0)),(m,.obj (smap kv))] [T71])) ?_
     exact ⟨(l68,A69,c70,T71),rfl,hs72,hz73,(by dsimp only;omega),(by dsimp only;omega),ok75⟩
    ·refine RN.go 7 [.sq] λ _=>RN.em (x.s=⟨#[33,61]⟩) 45 (λ h76=>?_) λ h76=>?_
     ·refine RN.go 5 [.own 1,.own 0,.own 0,.own 0,.own 0] λ _=>RN.ct [2,3] [0] (kid_any tb m e0 e1 e2 kv l A c T _ hs hz ok hkv h x hx hN.up ih 0 0 rfl (by omega)) ?_
      rintro _ ⟨l77,A78,c79,T80⟩ ⟨hs81,hz82,hg83,hl84,ok85⟩
      dsimp only at hs81 hz82 hg83 hl84 ok85
      refine RN.go 6 [.own 3,.own 2,.own 2,.own 2,.own 2] λ _=>RN.ct [0,1] [0] (kid_any tb m e0 e1 e2 kv l77 A78 c79 T80 _ hs81 hz82 ok85 hkv h x hx hN.up ih 1 1 rfl (by omega)) ?_
      rintro _ ⟨l86,A87,c88,T89⟩ ⟨hs90,hz91,hg92,hl93,ok94⟩
      dsimp only at hs90 hz91 hg92 hl93 ok94
      refine RN.go 5 [.own 3] λ _=>RN.ct [0,1] [0] (emit_any tb m e0 e1 e2 kv l86 A87 c88 T89 _ hs90 hz91 ok94 hkv 16 0 (by omega) (by intro h;omega) (by omega)) ?_
      rintro _ ⟨l95,A96,c97,T98⟩ ⟨rfl,hs99,hz100,hl101,ok102⟩
      dsimp only at hs99 hz100 hl101 ok102
      refine RN.go 4 [.own 3] λ _=>RN.ct [0,1] [0] (emit_any tb m e0 e1 e2 kv l95 A96 c97 T98 _ hs99 hz100 ok102 hkv 17 0 (by omega) (by intro h;omega) (by omega)) ?_
      rintro _ ⟨l103,A104,c105,T106⟩ ⟨rfl,hs107,hz108,hl109,ok110⟩
      dsimp only at hs107 hz108 hl109 ok110
      refine RN.go 2 [] λ _=>RN.ret [] [0,1] [0] (v:=.tuple #[]) (H':=(ap [(tb,.lit [.slice A104 l103.length c105,.map (some m),vI e0,vI e1,vI e2] 103 (0,0)),(m,.obj (smap kv))] [T106])) ?_
      exact ⟨(l103,A104,c105,T106),rfl,hs107,hz108,(by dsimp only;omega),(by dsimp only;omega),ok110⟩
     ·refine RN.go 5 [.own 1,.own 0,.own 0,.own 0,.own 0] λ _=>RN.ct [2,3] [0] (kid_any tb m e0 e1 e2 kv l A c T _ hs hz ok hkv h x hx hN.up ih 0 0 rfl (by omega)) ?_
      rintro _ ⟨l111,A112,c113,T114⟩ ⟨hs115,hz116,hg117,hl118,ok119⟩
      dsimp only at hs115 hz116 hg117 hl118 ok119
      refine RN.go 6 [.own 3,.own 2,.own 2,.own 2,.own 2] λ _=>RN.ct [0,1] [0] (kid_any tb m e0 e1 e2 kv l111 A112 c113 T114 _ hs115 hz116 ok119 hkv h x hx hN.up ih 1 1 rfl (by omega)) ?_
      rintro _ ⟨l120,A121,c122,T123⟩ ⟨hs124,hz125,hg126,hl127,ok128⟩
      dsimp only at hs124 hz125 hg126 hl127 ok128
      refine RN.go 2 [] λ _=>RN.draw [4] []<|RD.go [] [0,1,2] [.own 3,.own 2]<|RD.cp [] 3 (λ X_=>(opc_any x.s _))<|RD.one 4 (RDO.ct [] [0,1] [0] (emit_any tb m e0 e1 e2 kv l120 A121 c122 T123 _ hs124 hz125 ok128 hkv (opcF x.s) 0 (by have:=opcF_bd x.s;omega) (by have:=opcF_bd x.s;intro h;omega) (by omega)) ?_)
      rintro _ ⟨l129,A130,c131,T132⟩ ⟨rfl,hs133,hz134,hl135,ok136⟩
      dsimp only at hs133 hz134 hl135 ok136
      refine RD.fin<|RN.go 1 [] λ _=>RN.ret [] [0,1] [0] (v:=.tuple #[]) (H':=(ap [(tb,.lit [.slice A130 l129.length c131,.map (some m),vI e0,vI e1,vI e2] 103 (0,0)),(m,.obj (smap kv))] [T132])) ?_
      exact ⟨(l129,A130,c131,T132),rfl,hs133,hz134,(by dsimp only;omega),(by dsimp only;omega),ok136⟩
theorem stmt_any (tb m:Nat) (e0 e1 e2:Int) (kv:List (ByteArray × Value)) (l:List Ins) (A:Option Addr) (c:Nat) (T F:HL) (hs:SlIs insE 136 l A c T) (hz:zeroOff A) (ok:OKc l) (hkv:AllInt kv) (h:Nat) (x:Nd) (hx:Ht (h+1) x) (hN:NdIn F x) (ih:TrC h) (hb:l.length+(gr (h+1)) <= 100000000):Sp Tryz.prog 65 #[vP tb 0,.agg #[vI x.k,vI x.n,.string x.s,.slice x.A x.kids.length x.c]] (ap [(tb,.lit [.slice A l.length c,.map (some m),vI e0,vI e1,vI e2] 103 (0,0)),(m,.obj (smap kv))] [T]) F (TrR tb m e0 e1 e2 kv l (gr (h+1))):=by
 have hgr:gr (h+1)=3 * gr h+5:=rfl
 have h3k:=hx.kids3
 refine Sp.run Tryz.func65 rfl mn (A:=[(tb,.lit [.slice A l.length c,.map (some m),vI e0,vI e1,vI e2] 103 (0,0)),(m,.obj (smap kv))]) (Ts:=[T]) rfl λ w0=>?_
 refine RN.go 19 [.own 0] λ n1=>RN.em (x.k=1) 7 (λ h2=>?_) λ h2=>?_
 ·refine RN.go 5 [.own 1,.own 0,.own 0,.own 0,.own 0] λ _=>RN.ct [2,3] [0] (kid_any tb m e0 e1 e2 kv l A c T _ hs hz ok hkv h x hx hN.up ih 0 0 rfl (by omega)) ?_
  rintro _ ⟨l3,A4,c5,T6⟩ ⟨hs7,hz8,hg9,hl10,ok11⟩
  dsimp only at hs7 hz8 hg9 hl10 ok11
  refine RN.go 2 [] λ _=>RN.draw [8] []<|RD.goO [] [0,1,5,2,6,3,4,7] [.own 3,.own 3,.own 2,.own 0,.mp 1 kv (vI (iget kv x.s))] [smap kv=smap kv /\ lkV kv x.s false (vI 0)=vI (iget kv x.s)] (ac ⟨rfl,(lk_int hkv _)⟩ an)<|RD.one 8 (RDO.ct [] [0,1] [0] (emit_any tb m e0 e1 e2 kv l3 A4 c5 T6 _ hs7 hz8 ok11 hkv 3 (iget kv x.s) (by omega) (by intro h;omega) (by omega)) ?_)
  rintro _ ⟨l12,A13,c14,T15⟩ ⟨rfl,hs16,hz17,hl18,ok19⟩
  dsimp only at hs16 hz17 hl18 ok19
  refine RD.fin<|RN.go 1 [] λ _=>RN.ret [] [0,1] [0] (v:=.tuple #[]) (H':=(ap [(tb,.lit [.slice A13 l12.length c14,.map (some m),vI e0,vI e1,vI e2] 103 (0,0)),(m,.obj (smap kv))] [T15])) ?_
  exact ⟨(l12,A13,c14,T15),rfl,hs16,hz17,(by dsimp only;omega),(by dsimp only;omega),ok19⟩
 ·refine RN.go 7 [] λ _=>RN.em (x.k=2) 21 (λ h20=>?_) λ h20=>?_
  ·refine RN.go 5 [.own 1,.own 0,.own 0,.own 0,.own 0] λ _=>RN.ct [2,3] [0] (kid_any tb m e0 e1 e2 kv l A c T _ hs hz ok hkv h x hx hN.up ih 0 0 rfl (by omega)) ?_
   rintro _ ⟨l21,A22,c23,T24⟩ ⟨hs25,hz26,hg27,hl28,ok29⟩
   dsimp only at hs25 hz26 hg27 hl28 ok29
   refine RN.go 6 [.own 3,.own 2,.own 2,.own 2,.own 2] λ _=>RN.ct [0,1] [0] (kid_any tb m e0 e1 e2 kv l21 A22 c23 T24 _ hs25 hz26 ok29 hkv h x hx hN.up ih 1 1 rfl (by omega)) ?_
   rintro _ ⟨l30,A31,c32,T33⟩ ⟨hs34,hz35,hg36,hl37,ok38⟩
   dsimp only at hs34 hz35 hg36 hl37 ok38
   refine RN.go 2 [] λ _=>RN.draw [4] []<|RD.go [] [0,1,2] [.own 3,.own 2]<|RD.cp [] 3 (λ X_=>(field_any x.s _))<|RD.one 4 (RDO.ct [] [0,1] [0] (emit_any tb m e0 e1 e2 kv l30 A31 c32 T33 _ hs34 hz35 ok38 hkv 5 (fldF x.s) (by omega) (by intro h;omega) (by omega)) ?_)
   rintro _ ⟨l39,A40,c41,T42⟩ ⟨rfl,hs43,hz44,hl45,ok46⟩
   dsimp only at hs43 hz44 hl45 ok46
   refine RD.fin<|RN.go 1 [] λ _=>RN.ret [] [0,1] [0] (v:=.tuple #[]) (H':=(ap [(tb,.lit [.slice A40 l39.length c41,.map (some m),vI e0,vI e1,vI e2] 103 (0,0)),(m,.obj (smap kv))] [T42])) ?_
   exact ⟨(l39,A40,c41,T42),rfl,hs43,hz44,(by dsimp only;omega),(by dsimp only;omega),ok46⟩
  ·refine RN.go 7 [] λ _=>RN.em (x.k=3) 34 (λ h47=>?_) λ h47=>?_
   ·refine RN.go 6 [.own 1] λ _=>RN.ct [2,3] [0] (choice_st tb m e0 e1 e2 kv l A c T _ hs hz ok hkv h x hx hN.up ih (n1+0) (n1+1) (in_ap 1) (in_ap 0) (by omega)) ?_
    rintro _ ⟨l48,A49,c50,T51⟩ ⟨hs52,hz53,hg54,hl55,ok56⟩
    dsimp only at hs52 hz53 hg54 hl55 ok56
    refine RN.go 2 [] λ _=>RN.ret [] [0,1] [0] (v:=.tuple #[]) (H':=(ap [(tb,.lit [.slice A49 l48.length c50,.map (some m),vI e0,vI e1,vI e2] 103 (0,0)),(m,.obj (smap kv))] [T51])) ?_
    exact ⟨(l48,A49,c50,T51),rfl,hs52,hz53,(by dsimp only;omega),(by dsimp only;omega),ok56⟩
   ·refine RN.go 7 [] λ _=>RN.em (x.k=4) 41 (λ h57=>?_) λ h57=>?_
    ·refine RN.go 4 [.own 1,.own 0,.own 0,.own 0,.own 0] λ _=>RN.ct [2,3] [0] (loop_any tb m e0 e1 e2 kv l A c T _ hs hz ok hkv h x hx hN.up ih (by omega)) ?_
     rintro _ ⟨l58,A59,c60,T61⟩ ⟨hs62,hz63,hg64,hl65,ok66⟩
     dsimp only at hs62 hz63 hg64 hl65 ok66
     refine RN.go 2 [] λ _=>RN.ret [] [0,1] [0] (v:=.tuple #[]) (H':=(ap [(tb,.lit [.slice A59 l58.length c60,.map (some m),vI e0,vI e1,vI e2] 103 (0,0)),(m,.obj (smap kv))] [T61])) ?_
     exact ⟨(l58,A59,c60,T61),rfl,hs62,hz63,(by dsimp only;omega),(by dsimp only;omega),ok66⟩
    ·refine RN.go 7 [] λ _=>RN.em (x.k=5) 46 (λ h67=>?_) λ h67=>?_
     ·refine RN.go 5 [.own 1,.own 0,.own 0,.own 0,.own 0] λ _=>RN.ct [2,3] [0] (kid_any tb m e0 e1 e2 kv l A c T _ hs hz ok hkv h x hx hN.up ih 0 0 rfl (by omega)) ?_
      rintro _ ⟨l68,A69,c70,T71⟩ ⟨hs72,hz73,hg74,hl75,ok76⟩
      dsimp only at hs72 hz73 hg74 hl75 ok76
      refine RN.go 6 [.own 3,.own 2,.own 2,.own 2,.own 2] λ _=>RN.ct [0,1] [0] (kid_any tb m e0 e1 e2 kv l68 A69 c70 T71 _ hs72 hz73 ok76 hkv h x hx hN.up ih 1 1 rfl (by omega)) ?_
      rintro _ ⟨l77,A78,c79,T80⟩ ⟨hs81,hz82,hg83,hl84,ok85⟩
      dsimp only at hs81 hz82 hg83 hl84 ok85
      refine RN.go 4 [.own 3] λ _=>RN.ct [0,1] [0] (emit_any tb m e0 e1 e2 kv l77 A78 c79 T80 _ hs81 hz82 ok85 hkv 20 0 (by omega) (by intro h;omega) (by omega)) ?_
      rintro _ ⟨l86,A87,c88,T89⟩ ⟨rfl,hs90,hz91,hl92,ok93⟩
      dsimp only at hs90 hz91 hl92 ok93
      refine RN.go 2 [] λ _=>RN.ret [] [0,1] [0] (v:=.tuple #[]) (H':=(ap [(tb,.lit [.slice A87 l86.length c88,.map (some m),vI e0,vI e1,vI e2] 103 (0,0)),(m,.obj (smap kv))] [T89])) ?_
      exact ⟨(l86,A87,c88,T89),rfl,hs90,hz91,(by dsimp only;omega),(by dsimp only;omega),ok93⟩
     ·refine RN.go 7 [] λ _=>RN.em (x.k=6) 56 (λ h94=>?_) λ h94=>?_
      ·refine RN.go 3 [.own 1] λ _=>RN.ct [2,3] [0] (emit_any tb m e0 e1 e2 kv l A c T _ hs hz ok hkv 21 0 (by omega) (by intro h;omega) (by omega)) ?_
       rintro _ ⟨l95,A96,c97,T98⟩ ⟨rfl,hs99,hz100,hl101,ok102⟩
       dsimp only at hs99 hz100 hl101 ok102
       refine RN.go 2 [] λ _=>RN.ret [] [0,1] [0] (v:=.tuple #[]) (H':=(ap [(tb,.lit [.slice A96 l95.length c97,.map (some m),vI e0,vI e1,vI e2] 103 (0,0)),(m,.obj (smap kv))] [T98])) ?_
       exact ⟨(l95,A96,c97,T98),rfl,hs99,hz100,(by dsimp only;omega),(by dsimp only;omega),ok102⟩
      ·refine RN.go 7 [] λ _=>RN.em (x.k=7) 60 (λ h103=>?_) λ h103=>?_
       ·refine RN.go 10 [.own 0] λ _=>RN.rounds 4<|RN.go 6 [] λ _=>RN.em (0 < (x.kids.length:Int)) 66 (λ h104=>?_) λ h104=>?_
        ·refine RN.go 15 [.own 1,.own 0,.own 0,.own 0,.own 0] λ _=>RN.ct [2,3] [0] (kid_any tb m e0 e1 e2 kv l A c T _ hs hz ok hkv h x hx hN.up ih 0 0 rfl (by omega)) ?_
         rintro _ ⟨l105,A106,c107,T108⟩ ⟨hs109,hz110,hg111,hl112,ok113⟩
         dsimp only at hs109 hz110 hg111 hl112 ok113
         refine RN.go 14 [] λ _=>RN.em (1 < (x.kids.length:Int)) 66 (λ h114=>?_) λ h114=>?_
         ·refine RN.go 15 [.own 3,.own 2,.own 2,.own 2,.own 2] λ _=>RN.ct [0,1] [0] (kid_any tb m e0 e1 e2 kv l105 A106 c107 T108 _ hs109 hz110 ok113 hkv h x hx hN.up ih 1 1 rfl (by omega)) ?_
          rintro _ ⟨l115,A116,c117,T118⟩ ⟨hs119,hz120,hg121,hl122,ok123⟩
          dsimp only at hs119 hz120 hg121 hl122 ok123
          refine RN.go 14 [] λ _=>RN.em (2 < (x.kids.length:Int)) 66 (λ h124=>?_) λ h124=>?_
          ·refine RN.go 15 [.own 3,.own 2,.own 2,.own 2,.own 2] λ _=>RN.ct [0,1] [0] (kid_any tb m e0 e1 e2 kv l115 A116 c117 T118 _ hs119 hz120 ok123 hkv h x hx hN.up ih 2 2 rfl (by omega)) ?_
           rintro _ ⟨l125,A126,c127,T128⟩ ⟨hs129,hz130,hg131,hl132,ok133⟩
           dsimp only at hs129 hz130 hg131 hl132 ok133
           refine RN.go 14 [] λ _=>RN.em (3 < (x.kids.length:Int)) 66 (λ h134=>?_) λ h134=>?_
           ·(exfalso;omega)
           ·refine RN.go 6 [] λ _=>RN.ret [] [0,1] [0] (v:=.tuple #[]) (H':=(ap [(tb,.lit [.slice A126 l125.length c127,.map (some m),vI e0,vI e1,vI e2] 103 (0,0)),(m,.obj (smap kv))] [T128])) ?_
            exact ⟨(l125,A126,c127,T128),rfl,hs129,hz130,(by dsimp only;omega),(by dsimp only;omega),ok133⟩
          ·refine RN.go 6 [] λ _=>RN.ret [] [0,1] [0] (v:=.tuple #[]) (H':=(ap [(tb,.lit [.slice A116 l115.length c117,.map (some m),vI e0,vI e1,vI e2] 103 (0,0)),(m,.obj (smap kv))] [T118])) ?_
           exact ⟨(l115,A116,c117,T118),rfl,hs119,hz120,(by dsimp only;omega),(by dsimp only;omega),ok123⟩
         ·refine RN.go 6 [] λ _=>RN.ret [] [0,1] [0] (v:=.tuple #[]) (H':=(ap [(tb,.lit [.slice A106 l105.length c107,.map (some m),vI e0,vI e1,vI e2] 103 (0,0)),(m,.obj (smap kv))] [T108])) ?_
          exact ⟨(l105,A106,c107,T108),rfl,hs109,hz110,(by dsimp only;omega),(by dsimp only;omega),ok113⟩
        ·refine RN.go 6 [] λ _=>RN.ret [] [2,3] [0] (v:=.tuple #[]) (H':=(ap [(tb,.lit [.slice A l.length c,.map (some m),vI e0,vI e1,vI e2] 103 (0,0)),(m,.obj (smap kv))] [T])) ?_
         exact ⟨(l,A,c,T),rfl,hs,hz,(by dsimp only;omega),(by dsimp only;omega),ok⟩
       ·refine RN.go 3 [] λ _=>RN.ret [] [2,3] [0] (v:=.tuple #[]) (H':=(ap [(tb,.lit [.slice A l.length c,.map (some m),vI e0,vI e1,vI e2] 103 (0,0)),(m,.obj (smap kv))] [T])) ?_
        exact ⟨(l,A,c,T),rfl,hs,hz,(by dsimp only;omega),(by dsimp only;omega),ok⟩
theorem trans_step (tb m:Nat) (e0 e1 e2:Int) (kv:List (ByteArray × Value)) (l:List Ins) (A:Option Addr) (c:Nat) (T F:HL) (hs:SlIs insE 136 l A c T) (hz:zeroOff A) (ok:OKc l) (hkv:AllInt kv) (h:Nat) (x:Nd) (hx:Ht (h+1) x) (hN:NdIn F x) (ih:TrC h) (hb:l.length+(gr (h+1)) <= 100000000):Sp Tryz.prog 36 #[vP tb 0,.agg #[vI x.k,vI x.n,.string x.s,.slice x.A x.kids.length x.c]] (ap [(tb,.lit [.slice A l.length c,.map (some m),vI e0,vI e1,vI e2] 103 (0,0)),(m,.obj (smap kv))] [T]) F (TrR tb m e0 e1 e2 kv l (gr (h+1))):=by
 have hgr:gr (h+1)=3 * gr h+5:=rfl
 refine Sp.run Tryz.func36 rfl mn (A:=[(tb,.lit [.slice A l.length c,.map (some m),vI e0,vI e1,vI e2] 103 (0,0)),(m,.obj (smap kv))]) (Ts:=[T]) rfl λ w0=>?_
 refine RN.go 19 [.own 0] λ n1=>RN.em (x.k=8) 9 (λ h2=>?_) λ h2=>?_
 ·refine RN.go 8 [.own 0] λ _=>RN.ct [1,2] [0] (emit_any tb m e0 e1 e2 kv l A c T _ hs hz ok hkv 1 x.n (by omega) (by intro h;omega) (by omega)) ?_
  rintro _ ⟨l3,A4,c5,T6⟩ ⟨rfl,hs7,hz8,hl9,ok10⟩
  dsimp only at hs7 hz8 hl9 ok10
  refine RN.go 2 [] λ _=>RN.ret [] [0,1] [0] (v:=.tuple #[]) (H':=(ap [(tb,.lit [.slice A4 l3.length c5,.map (some m),vI e0,vI e1,vI e2] 103 (0,0)),(m,.obj (smap kv))] [T6])) ?_
  exact ⟨(l3,A4,c5,T6),rfl,hs7,hz8,(by dsimp only;omega),(by dsimp only;omega),ok10⟩
 ·refine RN.go 6 [] λ _=>RN.em (x.k=9) 9 (λ h11=>?_) λ h11=>?_
  ·refine RN.go 5 [.own 0] λ _=>RN.ct [1,2] [0] (emit_any tb m e0 e1 e2 kv l A c T _ hs hz ok hkv 1 x.n (by omega) (by intro h;omega) (by omega)) ?_
   rintro _ ⟨l12,A13,c14,T15⟩ ⟨rfl,hs16,hz17,hl18,ok19⟩
   dsimp only at hs16 hz17 hl18 ok19
   refine RN.go 2 [] λ _=>RN.ret [] [0,1] [0] (v:=.tuple #[]) (H':=(ap [(tb,.lit [.slice A13 l12.length c14,.map (some m),vI e0,vI e1,vI e2] 103 (0,0)),(m,.obj (smap kv))] [T15])) ?_
   exact ⟨(l12,A13,c14,T15),rfl,hs16,hz17,(by dsimp only;omega),(by dsimp only;omega),ok19⟩
  ·refine RN.go 7 [] λ _=>RN.em (x.k=10) 16 (λ h20=>?_) λ h20=>?_
   ·refine RN.go 1 [] λ _=>RN.draw [8] []<|RD.goO [] [0,1,5,2,6,3,4,7] [.own 0,.own 1,.mp 2 kv (vI (iget kv x.s))] [smap kv=smap kv /\ lkV kv x.s false (vI 0)=vI (iget kv x.s)] (ac ⟨rfl,(lk_int hkv _)⟩ an)<|RD.one 8 (RDO.ct [] [1,2] [0] (emit_any tb m e0 e1 e2 kv l A c T _ hs hz ok hkv 2 (iget kv x.s) (by omega) (by intro h;omega) (by omega)) ?_)
    rintro _ ⟨l21,A22,c23,T24⟩ ⟨rfl,hs25,hz26,hl27,ok28⟩
    dsimp only at hs25 hz26 hl27 ok28
    refine RD.fin<|RN.go 1 [] λ _=>RN.ret [] [0,1] [0] (v:=.tuple #[]) (H':=(ap [(tb,.lit [.slice A22 l21.length c23,.map (some m),vI e0,vI e1,vI e2] 103 (0,0)),(m,.obj (smap kv))] [T24])) ?_
    exact ⟨(l21,A22,c23,T24),rfl,hs25,hz26,(by dsimp only;omega),(by dsimp only;omega),ok28⟩
   ·refine RN.go 7 [] λ _=>RN.em (x.k=11) 27 (λ h29=>?_) λ h29=>?_
    ·refine RN.go 5 [.own 0,.own 0,.own 0,.own 0] λ _=>RN.ct [1,2] [0] (kid_any tb m e0 e1 e2 kv l A c T _ hs hz ok hkv h x hx hN.up ih 0 0 rfl (by omega)) ?_
     rintro _ ⟨l30,A31,c32,T33⟩ ⟨hs34,hz35,hg36,hl37,ok38⟩
     dsimp only at hs34 hz35 hg36 hl37 ok38
     refine RN.go 6 [.own 2] λ _=>RN.cp (field_any x.s _)<|RN.ct [0,1] [0] (emit_any tb m e0 e1 e2 kv l30 A31 c32 T33 _ hs34 hz35 ok38 hkv 4 (fldF x.s) (by omega) (by intro h;omega) (by omega)) ?_
     rintro _ ⟨l39,A40,c41,T42⟩ ⟨rfl,hs43,hz44,hl45,ok46⟩
     dsimp only at hs43 hz44 hl45 ok46
     refine RN.go 2 [] λ _=>RN.ret [] [0,1] [0] (v:=.tuple #[]) (H':=(ap [(tb,.lit [.slice A40 l39.length c41,.map (some m),vI e0,vI e1,vI e2] 103 (0,0)),(m,.obj (smap kv))] [T42])) ?_
     exact ⟨(l39,A40,c41,T42),rfl,hs43,hz44,(by dsimp only;omega),(by dsimp only;omega),ok46⟩
    ·refine RN.go 7 [] λ _=>RN.em (x.k=12) 37 (λ h47=>?_) λ h47=>?_
     ·refine RN.go 4 [.own 0,.own 0,.own 0,.own 0] λ _=>RN.ct [1,2] [0] (name_any tb m e0 e1 e2 kv l A c T _ hs hz ok hkv h x hx hN.up ih (by omega)) ?_
      rintro _ ⟨l48,A49,c50,T51⟩ ⟨hs52,hz53,hg54,hl55,ok56⟩
      dsimp only at hs52 hz53 hg54 hl55 ok56
      refine RN.go 2 [] λ _=>RN.ret [] [0,1] [0] (v:=.tuple #[]) (H':=(ap [(tb,.lit [.slice A49 l48.length c50,.map (some m),vI e0,vI e1,vI e2] 103 (0,0)),(m,.obj (smap kv))] [T51])) ?_
      exact ⟨(l48,A49,c50,T51),rfl,hs52,hz53,(by dsimp only;omega),(by dsimp only;omega),ok56⟩
     ·refine RN.go 7 [] λ _=>RN.em (x.k=13) 42 (λ h57=>?_) λ h57=>?_
      ·refine RN.go 4 [.own 0,.own 0,.own 0,.own 0] λ _=>RN.ct [1,2] [0] (unary_any tb m e0 e1 e2 kv l A c T _ hs hz ok hkv h x hx hN.up ih (by omega)) ?_
       rintro _ ⟨l58,A59,c60,T61⟩ ⟨hs62,hz63,hg64,hl65,ok66⟩
       dsimp only at hs62 hz63 hg64 hl65 ok66
       refine RN.go 2 [] λ _=>RN.ret [] [0,1] [0] (v:=.tuple #[]) (H':=(ap [(tb,.lit [.slice A59 l58.length c60,.map (some m),vI e0,vI e1,vI e2] 103 (0,0)),(m,.obj (smap kv))] [T61])) ?_
       exact ⟨(l58,A59,c60,T61),rfl,hs62,hz63,(by dsimp only;omega),(by dsimp only;omega),ok66⟩
      ·refine RN.go 7 [] λ _=>RN.em (x.k=14) 47 (λ h67=>?_) λ h67=>?_
       ·refine RN.go 4 [.own 0,.own 0,.own 0,.own 0] λ _=>RN.ct [1,2] [0] (binary_any tb m e0 e1 e2 kv l A c T _ hs hz ok hkv h x hx hN.up ih (by omega)) ?_
        rintro _ ⟨l68,A69,c70,T71⟩ ⟨hs72,hz73,hg74,hl75,ok76⟩
        dsimp only at hs72 hz73 hg74 hl75 ok76
        refine RN.go 2 [] λ _=>RN.ret [] [0,1] [0] (v:=.tuple #[]) (H':=(ap [(tb,.lit [.slice A69 l68.length c70,.map (some m),vI e0,vI e1,vI e2] 103 (0,0)),(m,.obj (smap kv))] [T71])) ?_
        exact ⟨(l68,A69,c70,T71),rfl,hs72,hz73,(by dsimp only;omega),(by dsimp only;omega),ok76⟩
       ·refine RN.go 4 [.own 0,.own 0,.own 0,.own 0] λ _=>RN.ct [1,2] [0] (stmt_any tb m e0 e1 e2 kv l A c T _ hs hz ok hkv h x hx hN.up ih (by omega)) ?_
        rintro _ ⟨l77,A78,c79,T80⟩ ⟨hs81,hz82,hg83,hl84,ok85⟩
        dsimp only at hs81 hz82 hg83 hl84 ok85
        refine RN.go 2 [] λ _=>RN.ret [] [0,1] [0] (v:=.tuple #[]) (H':=(ap [(tb,.lit [.slice A78 l77.length c79,.map (some m),vI e0,vI e1,vI e2] 103 (0,0)),(m,.obj (smap kv))] [T80])) ?_
        exact ⟨(l77,A78,c79,T80),rfl,hs81,hz82,(by dsimp only;omega),(by dsimp only;omega),ok85⟩
theorem tr_any:∀ h,TrC h
 | 0=>λ x _ _ _ _ _ _ _ _ _ _ _ hx=>by cases hx
 | h+1=>λ x tb m e0 e1 e2 kv l A c T F hx hN hs hz ok hkv hb=>trans_step tb m e0 e1 e2 kv l A c T F hs hz ok hkv h x hx hN (tr_any h) hb
end Go.Proofs.YtkhifpbokgabbaaGreatDoor
