import Derived.Test.YtgdcbiiopbpgaaaGreatDoorR18
import Derived.Test.YtgdcbiiopbpgaaaGreatDoorRows
import Derived.Test.YtgdcbiiopbpgaaaGreatDoorChecked
import Derived.Test.YtgdcbiiopbpgaaaGreatDoorR07
import Derived.ProofKit
import Derived.OpenShut
import Derived.Carry
import Derived.Lay
import Derived.LaidHandle
import Derived.ChangeSlices
import Derived.Test.YtgdcbiiopbpgaaaGreatDoorR15
import Derived.Lib.LaidTab
import Derived.MakeChecks
import Derived.Test.YtgdcbiiopbpgaaaGreatDoorTie
import Derived.Test.YtgdcbiiopbpgaaaGreatDoorCards
import Derived.SevenTiedAt
import Derived.JoinedOf
set_option maxHeartbeats 4000000
set_option maxRecDepth 100000
set_option linter.unusedSimpArgs false
set_option linter.unusedVariables false
namespace Go.Proofs.YtgdcbiiopbpgaaaGreatDoor
open IntKind
open Go.RowKit
theorem ur(pl:Nat)(D:List Int)(n:Nat):(eH pl D n).length=n:=by simp[eH]
theorem Es{pl:Nat}{D:List Int}{n i:Nat}(h:i<n):(eH pl D n).getD i []=sR pl D i:=by simp[eH,h]
theorem IW{pl n:Nat}{D:List Int}(hl:D.length=n * pl)(h8:∀i,0 <= D.getD i 0 /\ D.getD i 0<256)(h:∀j,j<n * pl -> D.getD j 0<36){i:Nat}(hi:i<n):eR pl ((eH pl D n).getD i []):=by
 have hm:(i+1) * pl <= n * pl:=Nat.mul_le_mul_right _ hi
 rw[Nat.succ_mul] at hm
 have hlen:=lL hl hi
 rw[Es hi]
 refine⟨by rw[hlen],λ k hk=>?_⟩
 rw[hlen] at hk
 have e:(sR pl D i).getD k dI=jg (D.getD (i * pl+k) 0):=by
  unfold sR
  rw[List.getD_eq_getElem?_getD,List.getElem?_map,List.getElem?_take,if_pos hk,List.getElem?_drop,List.getElem?_eq_getElem (show i * pl+k<D.length by omega)]
  simp[List.getD_eq_getElem?_getD,List.getElem?_eq_getElem (show i * pl+k<D.length by omega)]
 rw[e]
 exact KX ⟨(h8 _).1,h _ (by omega)⟩
theorem Pz{xs:List Int}(h:∀i,0 <= xs.getD i 0 /\ xs.getD i 0<256)(a k:Nat):0 <= (xs.take a).getD k 0 /\ (xs.take a).getD k 0<256:=by
 rw[List.getD_eq_getElem?_getD,List.getElem?_take]
 split
 ·rw[<- List.getD_eq_getElem?_getD];exact h _
 ·exact⟨by decide,by decide⟩
theorem AA(S:Setup)(rs_:List Bx)(ds_:List Dr)(bp ev n md pl dn dc:Nat)(J:Nat -> Nat × Int)(A:Option Addr)(D:List Int)(F:HL)(hS:SetCl F S)(hM:MapIn F S rs_ ds_)(hV:SetV S)(h1:1 <= S.nb)(RI:S.rn <= 1000000)(RM:S.dn <= 1000000)(G_:(sizeOf S).toNat <= 1000000)(hv:iY S rs_ ds_=0)(Is:1 <= ev /\ ev <= 60)(hE:cX F)(hI:lK F)(hl:RowL iy 5 F A dn D)(IN:S.players=(pl:Int))(H_:n <= 50)(Xw:n / ev=md)(hdl:dn=2+n * pl+8 * (md+1))(hc:dn <= dc)(hd0:D.getD 0 0=(ev:Int))(UP:D.getD 1 0=(n:Int))(hD8:∀i,0 <= D.getD i 0 /\ D.getD i 0<256)(Sb:∀i,i<n -> (J i).1<5 /\ AtOk F bp (i:Int) (J i)):Sp Tryz.prog 25 #[(Setup.v S),vP bp 0,.slice A dn dc] [] F (λ u H'=>∃x:Nat × Setup × HL,H'=ap [] [x.2.2] /\ (((∀j,j<n * pl -> (((D.drop 1).drop 1).take (n * pl)).getD j 0<36) /\ (fZ (((D.drop 1).drop 1).drop (n * pl)) (md+1))=(aI (WS S J (eH pl (((D.drop 1).drop 1).take (n * pl)) n)) ev (md+1)) /\ u=.tuple #[vP x.1 0,vI 0] /\ SetEq S x.2.1 /\ RecH rs_ ds_ bp ev x.1 S x.2.1 (WS S J (eH pl (((D.drop 1).drop 1).take (n * pl)) n)) n (eH pl (((D.drop 1).drop 1).take (n * pl)) n) x.2.2) \/ ((∀j,j<n * pl -> (((D.drop 1).drop 1).take (n * pl)).getD j 0<36) /\ ¬ (fZ (((D.drop 1).drop 1).drop (n * pl)) (md+1))=(aI (WS S J (eH pl (((D.drop 1).drop 1).take (n * pl)) n)) ev (md+1)) /\ u=.tuple #[.pointer none,vI 23] /\ x.2.2=[]) \/ ((∃j,j<n * pl /\ ¬ (((D.drop 1).drop 1).take (n * pl)).getD j 0<36) /\ u=.tuple #[.pointer none,vI 8] /\ x.2.2=[]))):=by
 have hnp_:n * pl <= 50 * 3:=Nat.mul_le_mul H_ (by have:=hV.pl;omega)
 have hpl8:1 <= pl /\ pl <= 8:=by have:=hV.pl;omega
 have hmn_:md <= n:=by rw[<- Xw];exact Nat.div_le_self _ _
 have hD8b:∀i,0 <= ((D.drop 1).drop 1).getD i 0 /\ ((D.drop 1).drop 1).getD i 0<256:=λ i=>by rw[kH,kH];exact hD8 _
 have hXl_:(((D.drop 1).drop 1).take (n * pl)).length=n * pl:=by rw[List.length_take,List.length_drop,List.length_drop,hl.len];omega
 refine Sp.run Tryz.func25 rfl mn (A:=[]) (Ts:=[]) rfl λ w0=>?_
 refine ae 12 (ow 0 16) λ n1=>RN.ct (Hp:=[]) (Tp:=[]) [] [] (nW S rs_ ds_ bp _ hS.up hM.up h1 RI RM G_ hv 99020000 (by decide)) ?_
 rintro _ ⟨g2,S3,T4⟩ ⟨rfl,Wd,WZ⟩
 refine ae 29 [.own 0] λ n7=>cr 0 (congrArg (λ v_=>(.lit [.slice A dn dc,vI 0,vI v_] 127 (0,0):Blk)) IN)<|ae 3 [] λ _=>RN.ct [0] [] (sj (n7+0) dn dc pl ev A D _ (hl.mono λ x hx=>ar hx) (by omega) (by omega) hd0 (by omega)) ?_
 rintro _ ⟨⟩ rfl
 obtain⟨A2,n2,c2,hA2,hn2,hc2,QS⟩:∃ (A_:Option Addr) (n_ c_:Nat),jb A 1 1 dc=A_ /\ dn-1=n_ /\ dc-1=c_ /\ RowL iy 5 F A_ n_ (D.drop 1):=⟨_,_,_,rfl,rfl,rfl,hl.drop (by omega) (by omega)⟩
 refine cr 0 (congrArg (λ v_=>(.lit [.slice v_.1 v_.2.1 v_.2.2,vI 0,vI (pl:Int)] 127 (0,0):Blk)) (show ((jb A 1 1 dc,dn-1,dc-1):Option Addr × Nat × Nat)=(A2,n2,c2) by rw[hA2,hn2,hc2]))<|ae 11 [] λ _=>cF 44 (decide_eq_true (show (ev:Int) >= 1 by omega))<|ae 3 [] λ _=>RN.cp (Aw (n7+0) 6 _ (decide_eq_true (show (ev:Int) <= 60 by omega)))<|ae 7 [] λ _=>RN.ct [0] [] (sj (n7+0) n2 c2 pl n A2 (D.drop 1) _ (QS.mono λ x hx=>ar hx) (by omega) (by omega) ((kH D 1 0).trans UP) (by omega)) ?_
 rintro _ ⟨⟩ rfl
 obtain⟨A3,n3,c3,hA3,hn3,hc3,RC⟩:∃ (A_:Option Addr) (n_ c_:Nat),jb A2 1 1 c2=A_ /\ n2-1=n_ /\ c2-1=c_ /\ RowL iy 5 F A_ n_ ((D.drop 1).drop 1):=⟨_,_,_,rfl,rfl,rfl,QS.drop (by omega) (by omega)⟩
 refine cr 0 (congrArg (λ v_=>(.lit [.slice v_.1 v_.2.1 v_.2.2,vI 0,vI (pl:Int)] 127 (0,0):Blk)) (show ((jb A2 1 1 c2,n2-1,c2-1):Option Addr × Nat × Nat)=(A3,n3,c3) by rw[hA3,hn3,hc3]))<|ae 10 [] λ _=>RN.cp (Aw (n7+0) 2 _ (decide_eq_true (show (n:Int) <= 6000 by omega)))<|ae 20 [.own 0] λ _=>RN.ct (Hp:=[]) (Tp:=[]) [] [] (IO (n7+0) n _) ?_
 rintro _ m8 rfl
 refine kW 2<|RN.ct [] [0] (IR (n7+0) (m8+0) (m8+1) n3 c3 pl n A3 ((D.drop 1).drop 1) _ (RC.mono λ x hx=>ar hx) (by omega) (by omega) hpl8 (by omega) hD8b (ar hI) (av 1) (av 0)) ?_
 rintro _ ⟨⟨mr_,Ar_,cr_,rl_⟩,Er_,Tr_,O_⟩ ⟨rfl,ZW,Of,hTr_,hor_⟩
 dsimp only at ZW Of hTr_ hor_
 rcases hor_ with ⟨hmr_,Ru,rfl⟩|⟨hmr_,hbad_,rfl⟩
 ·obtain rfl:=hmr_.symm
  refine pB 2 (x:=((n7+0),.lit [.slice (jb A3 (n * pl) 1 c3) (n3-n * pl) (c3-n * pl),vI 0,vI (pl:Int)] 127 (0,0))) ?_
  obtain⟨A4,n4,c4,hA4,hn4,YF,hl4⟩:∃ (A_:Option Addr) (n_ c_:Nat),jb A3 (n * pl) 1 c3=A_ /\ n3-(n * pl)=n_ /\ c3-(n * pl)=c_ /\ RowL iy 5 F A_ n_ (((D.drop 1).drop 1).drop (n * pl)):=⟨_,_,_,rfl,rfl,rfl,RC.drop (by omega) (by omega)⟩
  refine cr 0 (congrArg (λ v_=>(.lit [.slice v_.1 v_.2.1 v_.2.2,vI 0,vI (pl:Int)] 127 (0,0):Blk)) (show ((jb A3 (n * pl) 1 c3,n3-(n * pl),c3-(n * pl)):Option Addr × Nat × Nat)=(A4,n4,c4) by rw[hA4,hn4,YF]))<|ai 9 [.nw] [0 <= (n:Int) /\ (0:Int)<(ev:Int) /\ (n:Int) <= 9223372036854775807] λ _=>aB 77 (congrArg (λ v_=>(vI v_:Value)) (show (n:Int) / (ev:Int)=(md:Int) by rw[<- Xw];first|rfl|norm_cast))<|ai 1 [.nw] [aS ((md:Int)+1)] λ _=>RN.ct [0] [] (Ay (n7+0) n4 c4 pl (md+1) A4 (((D.drop 1).drop 1).drop (n * pl)) _ (hl4.mono λ x hx=>ar hx) (by omega) (by omega) (by omega)) ?_
  rintro _ ⟨Aq_,cq_,Tq_⟩ ⟨rfl,ZX⟩
  dsimp only at ZX
  refine ae 6 [] λ _=>?_
  have SQ:∀i,i<n -> eR S.players ((eH pl (((D.drop 1).drop 1).take (n * pl)) n).getD i []):=λ i hi=>by rw[IN];exact IW hXl_ (λ j_=>Pz hD8b _ j_) Ru hi
  refine ae 16 ([.own 0]++ow 3 16) λ _=>RN.ct (Hp:=[]) (Tp:=[]) [] [] (ye S rs_ ds_ bp ev (WS S J (eH pl (((D.drop 1).drop 1).take (n * pl)) n)) _ hS.up hM.up h1 RI RM G_ hv Is rfl) ?_
  rintro _ ⟨r9,S10,No⟩ ⟨rfl,Ux,WA⟩
  dsimp only at Ux WA
  refine ae 26 [] λ _=>RN.loop (σ:=Nat × HL) (λ ⟨i_,T_⟩=>⟨[(14,.slice Aq_ (md+1) cq_),(15,vP r9 0),(101,.slice Ar_ n cr_),(102,vI (n:Int)),(103,vI (i_:Int))],[((n7+0),.lit [.slice (jb A4 ((md+1) * 8) 1 c4) (n4-(md+1) * 8) (c4-(md+1) * 8),vI 0,vI (pl:Int)] 127 (0,0)),((m8+1),.lit [vI (n:Int)] 3 (0,0)),((m8+0),.lit [vP (n7+0) 0] 123 (0,0)),((n1+0),.lit (Setup.l S) 31 (0,0))],[T_,Tq_,Er_,Tr_,T4],i_ <= n /\ RecH rs_ ds_ bp ev r9 S S10 (WS S J (eH pl (((D.drop 1).drop 1).take (n * pl)) n)) i_ ((eH pl (((D.drop 1).drop 1).take (n * pl)) n).take i_) T_,n-i_⟩) (0,No) [0,1,2,3] [0,1,2,3,4] (⟨Nat.zero_le _,WA⟩) ?_
  rintro⟨i_,T_⟩ ⟨WK,Rn⟩ mt15
  refine ae 6 [] λ _=>RN.em ((i_:Int)<(n:Int)) 104 (λ Ra=>?_) λ Ra=>?_
  ·refine ae 7 [] λ _=>?_
   obtain⟨eb_,Zr,ef_,rfl,rfl,hef_,hec_,heg_⟩:=ZW.open (by omega)
   refine pB 2 (x:=(eb_,.rows 1 (Zr+cr_) (aO mH ef_) 54 (0,0)))<|ai 2 [.ix i_,.row 0 (Zr+i_) 0] [(Zr * 1+i_ * 1)=(Zr+i_) * 1+0 /\ (Zr+i_)<(Zr+cr_),(i_:Int)=((i_:Nat):Int) /\ i_<n] λ _=>aB 106 (congrArg (λ v_=>(.slice v_.A v_.n v_.c:Value)) (heg_ i_ (by omega))) ?_
   obtain⟨bw_,ow_,Nw_,fw_,cw_,ew_,hIw_,hiw_,hxw_,hcw_⟩:=(hTr_ Tr_ λ x hx=>hx).get (k:=i_) (by omega)
   refine aB 106 (congrArg (λ v_:Rw=>Value.slice v_.A v_.n v_.c) ew_)<|ae 7 [] λ _=>RN.ct [] [0] (rX (c:=cw_) (j:=J i_) Rn (by omega) Is (Sb i_ (by omega)).1 (i_:Int) (pO hV Ux H_ SQ (by omega)).t0 ((Sb i_ (by omega)).2.mono λ x hx=>ar hx) (ar hE) ((aq 1) _ hIw_) hiw_ (by have:=(SQ i_ (by omega)).1;have:=hV.pl;omega) (by have:=(SQ i_ (by omega)).1;have:=hV.pl;omega) hxw_ (yd hV Ux H_ SQ (by omega)) (ov Ux i_) (by have:=pj (J:=J) hV Ux H_ SQ (i:=i_+1) (by omega);omega)) ?_
   rintro _ Sj ⟨rfl,QY⟩
   refine ai 17 [.gen,.nw] [aS ((i_:Int)+1)] λ _=>kW 0 ?_
   refine mt15 (i_+1,Sj) [0,1,2,3] [1,2,0,3,4] ?_
   try dsimp only
   exact⟨⟨by omega,by rw[kg (by rw[ur];omega) []];exact QY⟩,by omega⟩
  ·refine ae 11 [] λ _=>?_
   obtain rfl:n=i_:=by omega
   have Yc:=Rn
   rw[List.take_of_length_le (show (eH pl (((D.drop 1).drop 1).take (n * pl)) n).length <= n by rw[ur];exact Nat.le_refl _)] at Yc
   refine RN.ct (Hp:=[]) (Tp:=[]) [] [] (vB Yc (aq 0) (n:=n) (by omega) Xw) ?_
   rintro _ ⟨Ap_,cp_,Tp_⟩ ⟨rfl,X8⟩
   dsimp only at X8
   refine RN.cp (K7 Aq_ Ap_ (md+1) cq_ (md+1) cp_ (fZ (((D.drop 1).drop 1).drop (n * pl)) (md+1)) (aI (WS S J (eH pl (((D.drop 1).drop 1).take (n * pl)) n)) ev (md+1)) _ (ZX.rowN (aq 2) (nq _ _)) (X8.rowN (aq 0) (bV _ _ _)) (by omega))<|ae 3 [] λ _=>RN.en ((fZ (((D.drop 1).drop 1).drop (n * pl)) (md+1))=(aI (WS S J (eH pl (((D.drop 1).drop 1).take (n * pl)) n)) ev (md+1))) 118 (λ VX=>?_) λ VX=>?_
   ·refine ae 10 [] λ _=>RN.ret [] [] [1] (v:=.tuple #[vP r9 0,vI 0]) (H':=(ap [] [T_])) ?_
    exact⟨(r9,S10,T_),rfl,.inl ⟨Ru,VX,rfl,Ux,Yc⟩⟩
   ·refine ae 7 [] λ _=>RN.nt<|RN.ret [] [] [0] (v:=.tuple #[.pointer none,vI 23]) (H':=(ap [] [([]:HL)])) ?_
    exact⟨(0,S,[]),rfl,.inr (.inl ⟨Ru,VX,rfl,rfl⟩)⟩
 ·refine pB 2 (x:=((n7+0),.lit [.slice (jb A3 (n * pl) 1 c3) (n3-n * pl) (c3-n * pl),vI 8,vI (pl:Int)] 127 (0,0))) ?_
  obtain⟨A4,n4,c4,hA4,hn4,YF,hl4⟩:∃ (A_:Option Addr) (n_ c_:Nat),jb A3 (n * pl) 1 c3=A_ /\ n3-(n * pl)=n_ /\ c3-(n * pl)=c_ /\ RowL iy 5 F A_ n_ (((D.drop 1).drop 1).drop (n * pl)):=⟨_,_,_,rfl,rfl,rfl,RC.drop (by omega) (by omega)⟩
  refine cr 0 (congrArg (λ v_=>(.lit [.slice v_.1 v_.2.1 v_.2.2,vI 8,vI (pl:Int)] 127 (0,0):Blk)) (show ((jb A3 (n * pl) 1 c3,n3-(n * pl),c3-(n * pl)):Option Addr × Nat × Nat)=(A4,n4,c4) by rw[hA4,hn4,YF]))<|ai 9 [.nw] [0 <= (n:Int) /\ (0:Int)<(ev:Int) /\ (n:Int) <= 9223372036854775807] λ _=>aB 77 (congrArg (λ v_=>(vI v_:Value)) (show (n:Int) / (ev:Int)=(md:Int) by rw[<- Xw];first|rfl|norm_cast))<|ai 1 [.nw] [aS ((md:Int)+1)] λ _=>RN.cp (Az (n7+0) n4 c4 pl ((md:Int)+1) A4 8 _ (by decide) (av 0))<|ae 6 [] λ _=>ae 10 [.own 0] λ _=>RN.draw [] []<|ag [] [0,5,1,2,3,4,6] [.own 0]<|RD.fin<|ae 1 [] λ _=>RN.nt<|RN.ret [] [] [0] (v:=.tuple #[.pointer none,vI 8]) (H':=(ap [] [([]:HL)])) ?_
  exact⟨(0,S,[]),rfl,.inr (.inr ⟨hbad_,rfl,rfl⟩)⟩
theorem AC(b:ByteArray)(xs:List Int):yK (kY b xs):=Nt _ _
theorem AD{f:Nat -> Int}{i:Nat}{v:Int}(h:∀j,yK (f j))(hv:yK v)(j:Nat):yK (vt f i v j):=by
 unfold vt
 split
 ·exact hv
 ·exact h j
theorem LQ(xs:List Int)(sz:Nat):∀i j,yK (KP xs sz i j)
 | 0,_=>⟨Int.le_refl 0,by show (0:Int)<_;decide⟩
 | i+1,j=>AD (LQ xs sz i) (AC _ _) j
theorem LS(xs:List Int)(sz:Nat):∀i j,yK (HX xs sz i j)
 | 0,j=>LQ xs sz _ j
 | i+1,j=>AD (LS xs sz i) (AC _ _) j
theorem LT(xs:List Int)(sz:Nat):∀i j,yK (sP xs sz i j)
 | 0,j=>LS xs sz _ j
 | i+1,j=>AD (LT xs sz i) (AC _ _) j
theorem K8(xs:List Int):yK (ia xs):=LT _ _ _ _
theorem IX(W:Nat -> List Int)(ev m i:Nat):yK ((aI W ev m).getD i 0):=by
 by_cases h:i<m
 ·rw[se h];exact K8 _
 ·rw[List.getD_eq_getElem?_getD,List.getElem?_eq_none (by rw[bV];omega)]
  exact⟨Int.le_refl 0,by show (0:Int)<_;decide⟩
section
variable {D:List Int} {n pl m:Nat}
theorem vC{j:Nat}(hj:j<n * pl):(((D.drop 1).drop 1).take (n * pl)).getD j 0=D.getD (2+j) 0:=by
 rw[List.getD_eq_getElem?_getD,List.getElem?_take,if_pos hj,List.getElem?_drop,List.getElem?_drop,<- List.getD_eq_getElem?_getD]
 congr 1
 omega
theorem K9(hl:2+n * pl <= D.length):eH pl (((D.drop 1).drop 1).take (n * pl)) n=p6 pl n D:=by
 have hX:(((D.drop 1).drop 1).take (n * pl)).length=n * pl:=by rw[List.length_take,List.length_drop,List.length_drop];omega
 unfold eH p6
 refine List.map_congr_left λ i hi=>?_
 rw[List.mem_range] at hi
 have hm:(i+1) * pl <= n * pl:=Nat.mul_le_mul_right _ hi
 rw[Nat.succ_mul] at hm
 have hlen:=lL hX hi
 apply List.ext_getElem (by rw[hlen];simp)
 intro k k1 k2
 rw[hlen] at k1
 simp only[List.getElem_map,List.getElem_range,sR]
 congr 1
 have:=vC (D:=D) (n:=n) (pl:=pl) (j:=i * pl+k) (by omega)
 rw[List.getD_eq_getElem?_getD,List.getElem?_eq_getElem (by omega),Option.getD_some] at this
 rw[List.getElem_take,List.getElem_drop,this]
 congr 1
 omega
theorem IY:fZ (((D.drop 1).drop 1).drop (n * pl)) m=lJ pl n m D:=by
 unfold fZ lJ
 rw[List.drop_drop,List.drop_drop,show 1+(1+n * pl)=2+n * pl by omega]
end
theorem IZ(S:Setup)(rs_:List Bx)(ds_:List Dr)(bp ev n md pl dn dc:Nat)(J:Nat -> Nat × Int)(A:Option Addr)(D:List Int)(F:HL)(hS:SetCl F S)(hM:MapIn F S rs_ ds_)(hV:SetV S)(h1:1 <= S.nb)(RI:S.rn <= 1000000)(RM:S.dn <= 1000000)(G_:(sizeOf S).toNat <= 1000000)(hv:iY S rs_ ds_=0)(Is:1 <= ev /\ ev <= 60)(hE:cX F)(hI:lK F)(hl:RowL iy 5 F A dn D)(IN:S.players=(pl:Int))(H_:n <= 50)(Xw:n / ev=md)(hdl:dn=2+n * pl+8 * (md+1))(hc:dn <= dc)(hd0:D.getD 0 0=(ev:Int))(UP:D.getD 1 0=(n:Int))(hD8:∀i,0 <= D.getD i 0 /\ D.getD i 0<256)(Sb:∀i,i<n -> (J i).1<5 /\ AtOk F bp (i:Int) (J i)):Sp Tryz.prog 25 #[Setup.v S,vP bp 0,.slice A dn dc] (ap [] []) F (λ u H'=>∃x:Nat × Setup × HL,H'=ap [] [x.2.2] /\ (((∀j,j<n * pl -> D.getD (2+j) 0<36) /\ lJ pl n (md+1) D=aI (WS S J (p6 pl n D)) ev (md+1) /\ u=.tuple #[vP x.1 0,vI 0] /\ SetEq S x.2.1 /\ RecH rs_ ds_ bp ev x.1 S x.2.1 (WS S J (p6 pl n D)) n (p6 pl n D) x.2.2) \/ ((∀j,j<n * pl -> D.getD (2+j) 0<36) /\ ¬ lJ pl n (md+1) D=aI (WS S J (p6 pl n D)) ev (md+1) /\ u=.tuple #[.pointer none,vI 23] /\ x.2.2=[]) \/ ((∃j,j<n * pl /\ ¬ D.getD (2+j) 0<36) /\ u=.tuple #[.pointer none,vI 8] /\ x.2.2=[]))):=by
 have key:=AA S rs_ ds_ bp ev n md pl dn dc J A D F hS hM hV h1 RI RM G_ hv Is hE hI hl IN H_ Xw hdl hc hd0 UP hD8 Sb
 rw[K9 (by rw[hl.len];omega),IY] at key
 refine key.mono λ u H' h=>?_
 obtain⟨x,h1,h⟩:=h
 refine⟨x,h1,?_⟩
 rcases h with ⟨a,b⟩|⟨a,b⟩|⟨⟨j,hj,a⟩,b⟩
 ·exact .inl ⟨λ j hj=>by rw[<- vC hj];exact a j hj,b⟩
 ·exact .inr (.inl ⟨λ j hj=>by rw[<- vC hj];exact a j hj,b⟩)
 ·exact .inr (.inr ⟨⟨j,hj,by rw[<- vC hj];exact a⟩,b⟩)
theorem Et(S:Setup)(rs_:List Bx)(ds_:List Dr)(bp ev n md pl dn dc:Nat)(J:Nat -> Nat × Int)(A:Option Addr)(D:List Int)(F:HL)(hS:SetCl F S)(hM:MapIn F S rs_ ds_)(hV:SetV S)(h1:1 <= S.nb)(RI:S.rn <= 1000000)(RM:S.dn <= 1000000)(G_:(sizeOf S).toNat <= 1000000)(hv:iY S rs_ ds_=0)(Is:1 <= ev /\ ev <= 60)(hE:cX F)(hI:lK F)(hl:RowL iy 5 F A dn D)(IN:S.players=(pl:Int))(H_:n <= 50)(Xw:n / ev=md)(hdl:dn=2+n * pl+8 * (md+1))(hc:dn <= dc)(hd0:D.getD 0 0=(ev:Int))(UP:D.getD 1 0=(n:Int))(hD8:∀i,0 <= D.getD i 0 /\ D.getD i 0<256)(Sb:∀i,i<n -> (J i).1<5 /\ AtOk F bp (i:Int) (J i)){xss:List (List Inp)}(hD:D=eG ev n xss (aI (WS S J xss) ev (md+1)))(X2:xss.length=n)(oF:∀i,i<n -> eR S.players (xss.getD i [])):Sp Tryz.prog 25 #[Setup.v S,vP bp 0,.slice A dn dc] (ap [] []) F (λ u H'=>∃x:Nat × Setup × HL,H'=ap [] [x.2.2] /\ (u=.tuple #[vP x.1 0,vI 0] /\ SetEq S x.2.1 /\ RecH rs_ ds_ bp ev x.1 S x.2.1 (WS S J xss) n xss x.2.2)):=by
 rw[IN] at oF
 have QS:∀x∈xss,x.length=pl:=λ x hx=>by
  obtain⟨i,hi,rfl⟩:=List.getElem_of_mem hx
  have:=(oF i (by omega)).1
  rw[List.getD_eq_getElem?_getD,List.getElem?_eq_getElem hi,Option.getD_some] at this
  omega
 have e1:p6 pl n D=xss:=by rw[hD];exact Iz X2 oF
 have e2:lJ pl n (md+1) D=aI (WS S J xss) ev (md+1):=by
  have:=An (ev:=ev) (roots:=aI (WS S J xss) ev (md+1)) X2 QS (IX _ _ _)
  rw[bV] at this
  rw[hD];exact this
 have e3:∀j,j<n * pl -> D.getD (2+j) 0<36:=by rw[hD];exact Ed X2 oF (by have:=hV.pl;omega)
 refine(IZ S rs_ ds_ bp ev n md pl dn dc J A D F hS hM hV h1 RI RM G_ hv Is hE hI hl IN H_ Xw hdl hc hd0 UP hD8 Sb).mono λ u H' h=>?_
 rw[e1,e2] at h
 obtain⟨x,h1,h⟩:=h
 refine⟨x,h1,?_⟩
 rcases h with ⟨_,_,b⟩|⟨_,a,_⟩|⟨⟨j,hj,a⟩,_⟩
 ·exact b
 ·exact absurd rfl a
 ·exact absurd (e3 j hj) a
theorem RecH.w{rs_:List Bx}{ds_:List Dr}{bp ev rp n:Nat}{S S2:Setup}{W W':Nat -> List Int}{xss:List (List Inp)}{G:HL}(h:RecH rs_ ds_ bp ev rp S S2 W n xss G)(Is:1 <= ev)(e:∀i,i <= n -> W i=W' i):RecH rs_ ds_ bp ev rp S S2 W' n xss G:=by
 cases h with
 | mk h3 hs hg hcs hb hr hrl hrr hc hcl hck =>
  refine .mk h3 hs hg (hcs.trans (e n (Nat.le_refl _))) hb hr hrl hrr hc hcl (λ F hF k hk=>?_)
  have Zg:k * ev <= n:=Nat.le_trans (Nat.mul_le_mul_right _ (show k <= n / ev by omega)) (Nat.div_mul_le_self _ _)
  have h0:=hck F hF k hk
  have e1:=e _ Zg
  simp only[e1] at h0
  exact h0
theorem Lb(S:Setup)(J:Nat -> Nat × Int)(xss:List (List Inp))(r:List Inp){i:Nat}(hi:i <= xss.length):WS S J xss i=WS S J (xss++[r]) i:=by
 unfold WS
 refine congrArg MemS.cs (Cm i λ k hk=>?_)
 show sy _ _ _=sy _ _ _
 rw[iC,if_pos (by omega)]
theorem Eu{α:Type}(l:List α)(x d:α){n:Nat}(h:l.length=n):(l++[x]).getD n d=x:=by rw[iC,if_neg (by omega),if_pos h.symm]
theorem pp{pl:Int}{xss:List (List Inp)}{r:List Inp}{n:Nat}(X2:xss.length=n)(h:∀i,i<n -> eR pl (xss.getD i []))(hr:eR pl r):∀i,i<n+1 -> eR pl ((xss++[r]).getD i []):=λ i hi=>by
 rw[iC]
 split
 ·exact h i (by omega)
 ·rw[if_pos (by omega)];exact hr
theorem us{rs_:List Bx}{ds_:List Dr}{bp ev rp n b o N c:Nat}{S S2:Setup}{J:Nat -> Nat × Int}{xss:List (List Inp)}{full r:List Inp}{G0 F:HL}(h:RecH rs_ ds_ bp ev rp S S2 (WS S J xss) n xss G0)(hV:SetV S)(he:SetEq S S2)(X2:xss.length=n)(hn:n <= 40)(Is:1 <= ev /\ ev <= 60)(oF:∀i,i<n -> eR S.players (xss.getD i []))(hr:eR S.players r)(Sb:(J n).1<5 /\ AtOk F bp (n:Int) (J n))(hE:cX F)(hI:(b,.rows 3 N (fS full) 119 (0,0))∈F)(hir:o+r.length <= N)(hx:∀k,k<r.length -> full.getD (o+k) dI=r.getD k dI)(G_:sizeOf S <= 1000):Sp Tryz.prog 24 #[vP rp 0,vS b (o * 3) r.length c] (ap [] [G0]) F (λ u H'=>∃x,H'=ap [] [x] /\ (u=vI 0 /\ RecH rs_ ds_ bp ev rp S S2 (WS S J (xss++[r])) (n+1) (xss++[r]) x)):=by
 have Vb:=pp X2 oF hr
 have hl:=Eu xss r [] X2
 have hp:=hV.pl
 have hrl:=hr.1
 have ht:=(pO (J:=J) hV he (n:=n+1) (by omega) Vb (i:=n) (by omega)).t0
 have hk:=yd (J:=J) hV he (n:=n+1) (by omega) Vb (i:=n) (by omega)
 have hw:=ov (J:=J) (xss:=xss++[r]) he n
 have hlen:=pj (J:=J) hV he (n:=n+1) (by omega) Vb (i:=n+1) (by omega)
 rw[hl] at hk hw
 exact rX (j:=J n) (h.w Is.1 λ i hi=>Lb S J xss r (by omega)) (by omega) Is Sb.1 (n:Int) ht Sb.2 hE hI hir (by omega) (by omega) hx hk hw (by omega)
theorem I0(A0 AI:Option Addr)(n0 c0 nI cI:Nat)(xs xI:List Int)(i1 i2 i4 i5:Int)(F:HL)(hE0:pM F)(Wi:cX F)(hE2:lK F)(Ui:ArgD F A0 n0 xs)(Vi:n0 <= 9223372036854775807)(RC:ArgD F AI nI xI)(hn3:nI <= 9223372036854775807)(Zj:nV i1)(Uw:nV i2)(hi4:nV i4)(hi5:nV i5):Sp Tryz.prog 5 #[.slice A0 n0 c0,vI i1,vI i2,.slice AI nI cI,vI i4,vI i5] [] F (λ u H'=>u=.bool true /\ H'=[]):=by
 refine Sp.run Tryz.func5 rfl mn (A:=[]) (Ts:=[]) rfl λ w0=>?_
 refine ae 8 [] λ _=>RN.ct (Hp:=[]) (Tp:=[]) [] [] (Ui.up.use λ F_ h_=>Dk A0 n0 c0 xs _ h_ Vi) ?_
 rintro _ ⟨S,TS⟩ ⟨rfl,hG⟩
 dsimp only at hG
 have hF:=Nc Ui hG
 have IN:=hF.pl
 have UN:=hF.nb
 have RI:=hF.rn
 have RM:=hF.dn
 have G_:=hF.sz
 have SD:=gJ S S.nb
 have hV:SetV S:=Ui.ex.elim λ _ h_=>setV h_ hG
 refine ae 7 (ow 0 16) λ n1=>RN.ct (Hp:=[]) (Tp:=[]) [] [] (rZ i1 _ Zj (ar hE0)) ?_
 rintro _ ⟨b2,T3⟩ ⟨rfl,TU⟩
 dsimp only at TU
 have Rx:(au i1 5).toNat<5:=by have:=cj (n:=i1) Zj 5 (by decide);omega
 have Q0:(au (i64.wrap (i1+1)) 5).toNat<5:=by have:=cj (n:=(i64.wrap (i1+1))) (Ik _) 5 (by decide);omega
 obtain⟨j1,ej1⟩:∃j,(au i1 5).toNat=j:=⟨_,rfl⟩
 obtain⟨j2,ej2⟩:∃j,(au (i64.wrap (i1+1)) 5).toNat=j:=⟨_,rfl⟩
 rw[ej1] at Rx
 rw[ej2] at Q0
 rw[ej1,ej2] at TU
 refine ae 8 (ow 0 16) λ _=>?_
 obtain⟨cnt,hcnt,hcl⟩:∃cnt:Nat,au i4 10=(cnt:Int) /\ cnt <= 9:=⟨(au i4 10).toNat,by have:=cj (n:=i4) hi4 10 (by decide);omega,by have:=cj (n:=i4) hi4 10 (by decide);omega⟩
 refine RN.ct (Hp:=[]) (Tp:=[]) [] [] (RC.up.use λ F_ h_=>Ak S AI nI cI xI i4 cnt F_ h_ hn3 (by omega) hcnt (by omega)) ?_
 rintro _ ⟨⟨A5,c6,rs7⟩,E8,T9⟩ ⟨rfl,U9,hl11,hT12⟩
 dsimp only at U9 hl11 hT12
 have Tj:∀i,i<cnt -> eR S.players ((bD S.players xI cnt).getD i []):=λ i hi=>RC.ex.elim λ _ h_=>Aj h_ (by omega) cnt i hi
 have hcap_:cnt <= c6:=by have h_:=U9.capL;omega
 refine ae 4 [] λ _=>RN.draw [] []<|ag [] [0,1,2,5] (ow 0 16)<|RD.cp [] 3 (λ X_=>(gq i2 60 (by decide) _)) ?_
 have hA13:=cj (n:=i2) Uw 60 (by decide)
 refine aC [] [4] [.nw] [aS (1+(au i2 60))] ?_
 obtain⟨Rt,he1,Rh⟩:∃ev:Nat,1+(au i2 60)=(ev:Int) /\ (1 <= ev /\ ev <= 60):=⟨(1+(au i2 60)).toNat,by have:=cj (n:=i2) Uw 60 (by decide);omega,by have:=cj (n:=i2) Uw 60 (by decide);omega⟩
 refine RD.one 6 (RDO.ct [] (Hp:=[]) (Tp:=[]) [] [] (Nq S uT (lu (kv xs 3 % 3).toNat) b2 Rt cnt c6 (sA 4 j1 j2 0) A5 rs7 (bD S.players xI cnt) _ (hG.sin _ (av 1) (aq 3)).cl (hG.maps.2 _ (aq 3)) hV (by omega) (by omega) (by omega) (by omega) hF.val Rh (ar Wi) (U9.rowN (aq 0) hl11) (hT12 _ (aq 1)) (by omega) Tj (λ i hi=>pN TU (aq 2) Rx Q0 (t:=0+i) (by omega)) he1) ?_)
 rintro _ ⟨r14,S15,Tt⟩ ⟨rfl,WN,QY⟩
 dsimp only at WN QY
 refine ag [] [7] []<|RD.fin<|ae 4 [] λ _=>?_
 obtain⟨Ub,Rf⟩:∃m,cnt / Rt=m:=⟨_,rfl⟩
 have S0:Ub <= cnt:=by rw[<- Rf];exact Nat.div_le_self _ _
 obtain⟨pn,hpn⟩:∃pn:Nat,S.players=(pn:Int):=⟨S.players.toNat,by omega⟩
 have Of:∀x∈(bD S.players xI cnt),x.length=pn:=λ x hx=>by obtain⟨i,hi,rfl⟩:=List.getElem_of_mem hx;have h_:=(Tj i (by rwa [dD] at hi)).1;rw[List.getD_eq_getElem?_getD,List.getElem?_eq_getElem hi,Option.getD_some] at h_;omega
 refine ae 8 [] λ _=>RN.draw [] []<|ag [] [0,1,2] (ow 0 16)<|RD.one 3 (RDO.ct [] (Hp:=[]) (Tp:=[]) [] [] (IG QY (aq 0) (Nat.lt_of_le_of_lt Rh.2 (by decide)) (by omega) (λ i hi=>by have h_:=(Tj i hi).1;omega)) ?_)
 rintro _ ⟨A19,c20,Zz⟩ ⟨rfl,U7⟩
 dsimp only at U7
 have Yo:(eG Rt cnt (bD S.players xI cnt) (aI (WS S (sA 4 j1 j2 0) (bD S.players xI cnt)) Rt (cnt / Rt+1))).length=2+cnt * pn+8 * (cnt / Rt+1):=by rw[sd (pl:=pn) Of (dD _ _ _),bV]
 refine RD.one 4 (RDO.ct [] (Hp:=[]) (Tp:=[]) [] [] (Et S uT (lu (kv xs 3 % 3).toNat) b2 Rt cnt Ub pn _ c20 (sA 4 j1 j2 0) A19 (eG Rt cnt (bD S.players xI cnt) (aI (WS S (sA 4 j1 j2 0) (bD S.players xI cnt)) Rt (cnt / Rt+1))) _ (hG.sin _ (av 1) (aq 5)).cl (hG.maps.2 _ (aq 5)) hV (by omega) (by omega) (by omega) (by omega) hF.val Rh (ar Wi) (ar hE2) (U7.rowN (aq 0) rfl) hpn (by omega) Rf (by rw[Yo,Rf]) (U7.capL) (by rw[Nv,IntKind.wrap_u8];omega) (by rw[Nw,IntKind.wrap_u8];omega) (Iv λ x hx=>yt hx) (λ i hi=>pN TU (aq 4) Rx Q0 (t:=0+i) (by omega)) (xss:=(bD S.players xI cnt)) (by rw[Rf]) (dD _ _ _) Tj) ?_)
 rintro _ ⟨r24,S25,T26⟩ ⟨rfl,Vs,TC⟩
 dsimp only at Vs TC
 refine ag [] [5,6,7,8,9] []<|RD.fin<|ae 19 [] λ _=>RN.cp (Ii TC (aq 0))<|ae 1 [] λ _=>RN.cp (Ii QY (aq 2))<|ae 2 [] λ _=>RN.en ((cnt:Int)=(cnt:Int)) 63 (λ h29=>?_) λ h29=>?_
 ·refine ae 1 [] λ _=>?_
  obtain⟨BZ,hBZ⟩:∃z,Aq 4 j1 j2=z:=⟨_,rfl⟩
  obtain⟨y30,ZL⟩:∃z,Cj BZ Rt cnt (bD S.players xI cnt) (WS S (sA 4 j1 j2 0) (bD S.players xI cnt))=z:=⟨_,rfl⟩
  refine RN.cp (vA TC (aq 0) (Nat.lt_of_le_of_lt Rh.2 (by decide)) (by omega) (λ i hi=>by have h_:=(Tj i hi).1;omega) BZ (λ F_ YT=>vz TU (λ x hx=>YT x ((aq 5) x hx)) Rx Q0 hBZ) ZL)<|ae 1 [] λ _=>RN.cp (vA QY (aq 2) (Nat.lt_of_le_of_lt Rh.2 (by decide)) (by omega) (λ i hi=>by have h_:=(Tj i hi).1;omega) BZ (λ F_ YT=>vz TU (λ x hx=>YT x ((aq 5) x hx)) Rx Q0 hBZ) ZL)<|ae 3 [] λ _=>RN.en (y30=y30) 70 (λ SH=>?_) λ SH=>?_
  ·refine ae 1 [] λ _=>RN.ct (Hp:=[]) (Tp:=[]) [] [] (vB TC (aq 0) (n:=cnt) (by omega) Rf) ?_
   rintro _ ⟨A32,c33,Xb⟩ ⟨rfl,Z6⟩
   dsimp only at Z6
   refine ae 1 [] λ _=>RN.ct (Hp:=[]) (Tp:=[]) [] [] (vB QY (aq 3) (n:=cnt) (by omega) Rf) ?_
   rintro _ ⟨A36,c37,T38⟩ ⟨rfl,Z5⟩
   dsimp only at Z5
   refine RN.cp (IU A32 A36 (Ub+1) c33 c37 (aI (WS S (sA 4 j1 j2 0) (bD S.players xI cnt)) Rt (Ub+1)) _ (Z6.rowN (aq 1) (bV _ _ _)) (Z5.rowN (aq 0) (bV _ _ _)) (by omega))<|ae 4 [] λ _=>RN.ct (Hp:=[]) (Tp:=[]) [] [] (IG TC (aq 2) (Nat.lt_of_le_of_lt Rh.2 (by decide)) (by omega) (λ i hi=>by have h_:=(Tj i hi).1;omega)) ?_
   rintro _ ⟨A40,c41,Xa⟩ ⟨rfl,Z2⟩
   dsimp only at Z2
   have hlez44:(eG Rt cnt (bD S.players xI cnt) (aI (WS S (sA 4 j1 j2 0) (bD S.players xI cnt)) Rt (cnt / Rt+1))).length=2+cnt * pn+8 * (cnt / Rt+1):=by rw[sd (pl:=pn) Of (dD _ _ _),bV]
   refine ae 1 [] λ _=>RN.ct (Hp:=[]) (Tp:=[]) [] [] (IG QY (aq 5) (Nat.lt_of_le_of_lt Rh.2 (by decide)) (by omega) (λ i hi=>by have h_:=(Tj i hi).1;omega)) ?_
   rintro _ ⟨A45,c46,T47⟩ ⟨rfl,Z1⟩
   dsimp only at Z1
   have hlez49:(eG Rt cnt (bD S.players xI cnt) (aI (WS S (sA 4 j1 j2 0) (bD S.players xI cnt)) Rt (cnt / Rt+1))).length=2+cnt * pn+8 * (cnt / Rt+1):=by rw[sd (pl:=pn) Of (dD _ _ _),bV]
   refine RN.cp (IV A40 A45 _ c41 c46 (eG Rt cnt (bD S.players xI cnt) (aI (WS S (sA 4 j1 j2 0) (bD S.players xI cnt)) Rt (cnt / Rt+1))) _ (Z2.rowN (aq 1) rfl) (Z1.rowN (aq 0) rfl) (NC (by omega) (by omega) (λ i hi=>by have h_:=(Tj i hi).1;omega)))<|ai 13 [.gen,.gen,.nw] [aS ((cnt:Int)+1)] λ _=>?_
   obtain⟨Ur,hkk5,hlkk5⟩:∃kk:Nat,au i5 ((cnt:Int)+1)=(kk:Int) /\ kk <= cnt:=⟨(au i5 ((cnt:Int)+1)).toNat,by have:=cj (n:=i5) hi5 ((cnt:Int)+1) (by omega);omega,by have:=cj (n:=i5) hi5 ((cnt:Int)+1) (by omega);omega⟩
   have hwkk5:=pj (J:=(sA 4 j1 j2 0)) hV (vu S) (n:=cnt) (by omega) Tj (i:=Ur) (by omega)
   refine RN.cp (yb hkk5 (by omega) _)<|ae 7 [] λ _=>RN.ct (Hp:=[]) (Tp:=[]) [] [] (Ij (t:=Ur) QY (aq 6) hV (by omega) (by omega) (by omega) hF.val Rh (ar Wi) (by omega) Tj (λ i hi=>pN TU (aq 9) Rx Q0 (t:=0+i) (by omega)) (by omega)) ?_
   rintro _ q50 rfl
   refine ae 13 [] λ _=>RN.ct (Hp:=[]) (Tp:=[]) [] [] (Ij (t:=Ur) TC (aq 4) hV (by omega) (by omega) (by omega) hF.val Rh (ar Wi) (by omega) Tj (λ i hi=>pN TU (aq 9) Rx Q0 (t:=0+i) (by omega)) (by omega)) ?_
   rintro _ q51 rfl
   refine ae 24 [] λ _=>RN.en (((Ur:Nat):Int) % ((Rt:Nat):Int)=((Ur:Nat):Int) % ((Rt:Nat):Int)) 116 (λ h52=>?_) λ h52=>?_
   ·refine ae 2 [] λ _=>RN.cp (JY true q50 q51 ((WS S (sA 4 j1 j2 0) (bD S.players xI cnt) Ur).length) ((WS S (sA 4 j1 j2 0) (bD S.players xI cnt) Ur).length) ((WS S (sA 4 j1 j2 0) (bD S.players xI cnt) Ur).length) ((WS S (sA 4 j1 j2 0) (bD S.players xI cnt) Ur).length) ((WS S (sA 4 j1 j2 0) (bD S.players xI cnt) Ur).length) ((WS S (sA 4 j1 j2 0) (bD S.players xI cnt) Ur).length) (WS S (sA 4 j1 j2 0) (bD S.players xI cnt) Ur) (WS S (sA 4 j1 j2 0) (bD S.players xI cnt) Ur) _ (av 1) (av 0) (Nat.le_refl _) (Nat.le_refl _) (by omega) (decide_eq_true ⟨rfl,λ t ht=>rfl⟩))<|ae 11 (ow 2 16) λ _=>RN.ct (Hp:=[]) (Tp:=[]) [] [] (RC.up.use λ F_ h_=>uj S AI nI cI xI 20 F_ h_ hn3 (by omega) (by decide)) ?_
    rintro _ ⟨At_,YX,Tt_⟩ ⟨rfl,Wx,hzt_⟩
    dsimp only at Wx
    obtain⟨ZB,XS,tf_,rfl,rfl,htl_,htc_,X6⟩:=Wx.open (by rw[cV];omega)
    rw[cV] at htc_ X6
    have Wz:eR S.players (rowL S.players xI (20 / 2) S.players.toNat):=RC.ex.elim λ _ h_=>B9 h_ (by omega) _
    refine pB 0 (x:=(ZB,.rows 3 (XS+YX) (aO ep tf_) 119 (0,0)))<|aB 124 (show (vS ZB (XS * 3) S.players.toNat YX:Value)=vS ZB (XS * 3) (rowL S.players xI (20 / 2) S.players.toNat).length YX by rw[cV])<|ae 7 [] λ _=>RN.ct [] [6] (us (b:=ZB) (o:=XS) (N:=XS+YX) (full:=tf_) (c:=YX) QY hV WN (dD _ _ _) (by omega) Rh Tj Wz (pN TU (aq 8) Rx Q0 (t:=0+cnt) (by omega)) (ar Wi) (av 0) (by rw[cV];omega) (λ k hk=>X6 k (by rwa [cV] at hk)) (by omega)) ?_
    rintro _ T53 ⟨rfl,hr54⟩
    refine ae 4 [] λ _=>RN.ct [] [5] (us (b:=ZB) (o:=XS) (N:=XS+YX) (full:=tf_) (c:=YX) TC hV Vs (dD _ _ _) (by omega) Rh Tj Wz (pN TU (aq 8) Rx Q0 (t:=0+cnt) (by omega)) (ar Wi) (av 0) (by rw[cV];omega) (λ k hk=>X6 k (by rwa [cV] at hk)) (by omega)) ?_
    rintro _ T55 ⟨rfl,hr56⟩
    refine ae 4 [] λ _=>?_
    obtain⟨y57,ZK⟩:∃z,Cj BZ Rt (cnt+1) ((bD S.players xI cnt)++[(rowL S.players xI (20 / 2) S.players.toNat)]) (WS S (sA 4 j1 j2 0) ((bD S.players xI cnt)++[(rowL S.players xI (20 / 2) S.players.toNat)]))=z:=⟨_,rfl⟩
    refine RN.cp (vA hr54 (aq 1) (Nat.lt_of_le_of_lt Rh.2 (by decide)) (by omega) (λ i hi=>by have h_:=(pp (dD _ _ _) Tj Wz i hi).1;omega) BZ (λ F_ YT=>vz TU (λ x hx=>YT x ((aq 9) x hx)) Rx Q0 hBZ) ZK)<|ae 1 [] λ _=>RN.cp (vA hr56 (aq 0) (Nat.lt_of_le_of_lt Rh.2 (by decide)) (by omega) (λ i hi=>by have h_:=(pp (dD _ _ _) Tj Wz i hi).1;omega) BZ (λ F_ YT=>vz TU (λ x hx=>YT x ((aq 9) x hx)) Rx Q0 hBZ) ZK)<|ae 3 [] λ _=>RN.em (y57=y57) 142 (λ XJ=>?_) λ XJ=>?_
    ·refine RN.cp (yl _ (ar hE0) (ar Wi))<|ae 4 [] λ _=>?_
     exact RN.ret [] [] [] ⟨rfl,rfl⟩
    ·exact absurd rfl XJ
   ·exact absurd rfl h52
  ·exact absurd rfl SH
 ·exact absurd rfl h29
open Go.ChangeShapes Go.WideShapes Go.ChangeAt
theorem I1:ownKnob Tryz.prog.godebug=none:=by kernel_rfl
theorem I2:laidOutB Tryz.prog=true:=by kernel_rfl
theorem kh{n:Int}(h:(Lit.int .i64 n).wf=true):-9223372036854775808 <= n /\ n <= 9223372036854775807:=bounds_i64 h
section
variable {H:Type} {enc:TypeId × Value -> H} {P:Program} {W W':World}
theorem mK(hl:laidOutB P=true)(hb:Below W.heap.size W W'):∀ {ts:List TypeId} {vs:List Value} {ds:List (DataW H)} {ps:List MemPlace},(∀t∈ts,P.readableRec t=true /\ t<P.types.size) ->
  DataW.TrodAll enc P W 0 (λ _=>true) true ts vs ds ps -> (∀x∈ps,x.block<W.heap.size) -> DataW.TrodAll enc P W' 0 (λ b=>decide (b<W.heap.size)) true ts vs ds ps
 | [],_,_,_,_,h,_=>by
  obtain⟨rfl,rfl,rfl⟩:=trodAll_nil h
  exact trodAll_mk0
 | t::ts,_,_,_,ht,h,iF=>by
  obtain⟨v,vs1,d,ds1,a,b,rfl,rfl,rfl,h1,h2⟩:=trodAll_cons h
  have h3:=ht t (by simp)
  exact trodAll_cons_mk (Below.trod hl h3.1 h3.2 h1 hb (λ x hx=>iF x (by simp[hx]))) (mK hl hb (λ t h=>ht t (List.mem_cons_of_mem _ h)) h2 (λ x hx=>iF x (by simp[hx])))
theorem I3{f:Func}{s:ChangeSpec}{apart fresh handsOn:Bool}{args:Array Value}{v:Value}{ds:List (DataW H)}{before:List MemPlace}(hl:laidOutB P=true)
  (hts:∀t∈f.params.toList,P.readableRec t=true /\ t<P.types.size)
  (hW:DataW.Whole enc P f.params.toList s.vars apart W args.toList ds [] before) (hs:s.vars=[])
  (hA:DataW.TrodAll enc P W 0 (λ _=>true) true f.params.toList args.toList ds before)
  (So:∀ (b:Nat) (sp:Nat -> Bool) (hd:Bool),DataW.TrodAll enc P W' b sp hd f.resultTypes.toList (v.resultList f.resultTypes.size) (s.fn H (ds++[])).results [])
  (Um:(s.fn H (ds++[])).args=ds) (ZS:∀sp,DataW.TrodVars enc P W' sp s.vars (s.fn H (ds++[])).vars []) (hb:Below W.heap.size W W') :
  s.post enc P f apart fresh handsOn false W args v W':=by
 refine⟨ds,[],before,[],before,[],hW,So _ _ _,?_,ZS _,hb.frame _,λ h=>by cases h⟩
 rw[Um]
 exact mK hl hb hts hA (λ x hx=>hW.lt x hx)
end
def sk:Obj -> Blk
 | .cells cs ty fz=>.rows 1 cs.size (λ i _=>cs.getD i default) ty fz
 | o=>.obj o
theorem ml(o:Obj):(sk o).den=o:=by
 cases o with
 | cells cs ty fz =>
  show Obj.cells ⟨bd 1 (λ i _=>cs.getD i default) cs.size⟩ ty fz=_
  congr 1
  have e:bd 1 (λ i _=>cs.getD i default) cs.size=cs.toList:=by
   refine iE (by simp) ?_
   intro i k hi hk
   obtain rfl:k=0:=by omega
   simp[Array.getD,hi]
  rw[e]
 | _=>rfl
def lM(w:World):HL:=List.ofFn (λ k:Fin w.heap.size=>(k.1,sk w.heap[k.1]))
theorem sm{w:World}{k:Nat}{o:Obj}(h:w.heap[k]?=some o):(k,sk o)∈lM w:=by
 obtain⟨hk,he⟩:=Array.getElem?_eq_some_iff.1 h
 exact List.mem_ofFn.2 ⟨⟨k,hk⟩,by simp[he]⟩
theorem AE(w:World):Rel (lM w) w:=by
 refine⟨λ x hx=>?_,?_⟩
 ·obtain⟨k,rfl⟩:=List.mem_ofFn.1 hx
  simp[ml]
 ·unfold lM
  rw[List.map_ofFn]
  have e:List.ofFn ((λ x:Nat × Blk=>x.1) ∘ λ k:Fin w.heap.size=>(k.1,sk w.heap[k.1]))=List.range w.heap.size:=by
   apply List.ext_getElem
   ·simp
   ·intro i h1 h2;simp
  rw[e]
  exact List.nodup_range
theorem Ev{P:Program}{f:FuncId}{args:Array Value}{v:Value}(w:World)(h:Sp P f args [] (lM w) (λ u H'=>u=v /\ H'=[])):Calls P f args w λ e w'=>e=.returned v /\ Below w.heap.size w w':=by
 refine(h w (AE w)).mono ?_
 rintro e w' ⟨u,H',rfl,⟨rfl,rfl⟩,QK,hB⟩
 refine⟨rfl,hB.os,hB.tape,hB.output,hB.size,λ k hk=>?_⟩
 have:=QK.holds (k,sk w.heap[k]) (by rw[List.nil_append];exact sm (by simp[hk]))
 rw[this]
 simp[ml,hk]
theorem yE{H:Type}{enc:TypeId × Value -> H}{w:World}{r:Reach}{b0:Nat}{v:Value}{d:DataW H}{ps:List MemPlace}(L_:Value.okWide Tryz.prog w r b0 22 v)(hd:DataW.Trod enc Tryz.prog w 0 (λ _=>true) true 22 v d ps) :
  ∃ (A:Option Addr) (n cap:Nat) (xs:List Int),v=.slice A n cap /\ n <= 9223372036854775807 /\ ArgL (lM w) A n xs /\ n <= cap:=by
 obtain⟨a0,len,cap,rfl⟩:=okWide_slice Tryz.underlying22 L_
 obtain⟨fuel,hf⟩:=hd
 rcases open_ints Tryz.underlying22 Tryz.underlying3 (by kernel_rfl) hf with ⟨hcs,hx⟩|⟨a,len',bY,zs,hcs,_,hl,hm,hz,hx,QW,hwz⟩
 ·simp[Value.cells] at hcs
  obtain⟨rfl,rfl,rfl⟩:=hcs
  exact⟨none,0,0,[],rfl,by omega,.zero _,Nat.le_refl _⟩
 ·simp[Value.cells] at hcs
  obtain⟨rfl,rfl,rfl⟩:=hcs
  unfold maxLen at hm
  simp at hz
  rcases Nat.eq_zero_or_pos len with h0|Yg
  ·subst h0
   exact⟨some a,0,_,[],rfl,by omega,.zero _,Nat.zero_le _⟩
  ·have hlz:len <= zs.length:=by omega
   obtain⟨b,off,spot⟩:=a
   have c0:=QW 0 (by omega)
   have Uf:spot=none:=by
    cases spot with
    | none=>rfl
    | some s=>simp[Addr.add,World.cell?] at c0;split at c0 <;> simp at c0
   subst Uf
   have hc:∀i,i<zs.length -> w.cell? ⟨b,off+i,none⟩=some (.int .i64 (zs.getD i 0)):=λ i hi=>by
    have:=QW i hi
    unfold Addr.add at this
    by_cases h:i=0
    ·subst h;simpa using this
    ·rw[if_neg h] at this;exact this
   have h0:=hc 0 (by omega)
   unfold World.cell? at h0
   split at h0
   case h_2=>cases h0
   rename_i cs ty fz hb
   refine⟨some ⟨b,off,none⟩,len,cap,zs.take len,rfl,by omega,?_,hl⟩
   have hlen:(zs.take len).length=len:=by rw[List.length_take];omega
   have hcs:∀k,k<len -> cs[off+k]?=some (vI ((zs.take len).getD k 0)):=λ k hk=>by
    have h1:=hc k (by omega)
    unfold World.cell? at h1
    rw[show w.heap[(⟨b,off+k,none⟩:Addr).block]?=some (.cells cs ty fz) from hb] at h1
    have h2:cs[off+k]?=some (.int .i64 (zs.getD k 0)):=by simpa using h1
    rw[h2]
    simp[List.getD_eq_getElem?_getD,List.getElem?_take,hk]
   have hmem:=sm hb
   have hle:off+len <= cs.size:=by
    have h1:=hcs (len-1) (by omega)
    have h2:=(Array.getElem?_eq_some_iff.1 h1).1
    omega
   have:=ArgL.cells (F:=lM w) b off cs.size (λ i _=>cs.getD i default) ty fz (zs.take len) hmem (by rw[hlen];exact hle) (λ k hk=>by
    rw[hlen] at hk
    have h1:=hcs k hk
    simp only[Array.getD_eq_getD_getElem?]
    rw[h1];rfl) (λ k hk=>by
    rw[hlen] at hk
    have:(zs.take len).getD k 0∈zs:=by
     rw[List.getD_eq_getElem?_getD,List.getElem?_eq_getElem (by omega)]
     exact List.mem_of_mem_take (List.getElem_mem _)
    exact kh (hwz _ this))
   rw[hlen] at this
   exact this
theorem sS{H:Type}{enc:TypeId × Value -> H}{P:Program}{w:World}{base:Nat}{sp:Nat -> Bool}{held:Bool}{fuel:Nat}{t e:TypeId}{n m:Nat}{k:IntKind}{fs:Array Field}{cs:List Value}{zs:List (List Int)}{p:List MemPlace}
  (ht:P.underlying t=some (.array n e)) (he:P.underlying e=some (.struct fs)) (Zm:P.cellsOf e=m) (hct:P.cellsOf t=n * m) (hm:0<m) (Q_:fs.toList.length=m)
  (hf:∀ (j:Nat) f,fs.toList[j]?=some f -> P.underlying f.type=some (.int k) /\ P.cellsOf f.type=1 /\ f.offset=j) (hz:∀z∈zs,z.length=m)
  (h:DataW.trod enc P w base sp held fuel t cs=some (.agg (zs.map λ z=>.agg (z.map λ x=>.lit (.int k x))),p)) :
  cs.length=n * m /\ zs.length=n /\ ∀i j,i<n -> j<m -> cs[i * m+j]?=some (.int k ((zs.getD i []).getD j 0)):=by
 cases fuel with
 | zero=>simp[DataW.trod] at h
 | succ fuel =>
  simp only[DataW.trod,ht,Zm,hct] at h
  split at h
  case isFalse=>cases h
  rename_i hl
  obtain⟨xs,hmm,hx⟩:=Option.map_eq_some_iff.1 h
  have hxs:xs.map (·.1)=zs.map λ z=>(DataW.agg (z.map λ x=>.lit (.int k x)):DataW H):=by
   have:=congrArg Prod.fst hx
   simpa using this
  have hxl:xs.length=n:=by simpa using Lib.mapM_length hmm
  have TA:zs.length=n:=by
   have:=congrArg List.length hxs
   simp at this
   omega
  refine⟨hl,TA,λ i j hi hj=>?_⟩
  obtain⟨b,hb,Zl⟩:=Lib.mapM_at hmm i i (by simp[hi])
  have hbz:b.1=.agg ((zs.getD i []).map λ x=>.lit (.int k x)):=by
   have h2:(xs.map (·.1))[i]?=some b.1:=by simp[hb]
   rw[hxs,List.getElem?_map,List.getElem?_eq_getElem (by omega)] at h2
   simp only[Option.map_some,Option.some.injEq] at h2
   rw[<- h2,List.getD_eq_getElem?_getD,List.getElem?_eq_getElem (by omega)]
   rfl
  have hzi:(zs.getD i []).length=m:=by
   rw[List.getD_eq_getElem?_getD,List.getElem?_eq_getElem (by omega)]
   exact hz _ (List.getElem_mem _)
  cases fuel with
  | zero=>simp[DataW.trod] at Zl
  | succ fuel =>
   have WM:=Zl
   simp only[DataW.trod,he,Zm] at WM
   split at WM
   case isFalse=>cases WM
   rename_i hcl
   obtain⟨ys,hym,hy⟩:=Option.map_eq_some_iff.1 WM
   have hys:ys.map (·.1)=(zs.getD i []).map λ x=>(DataW.lit (.int k x):DataW H):=by
    have:=congrArg Prod.fst hy
    rw[hbz] at this
    simpa using this
   have hfj:fs.toList[j]?=some (fs.toList[j]'(by omega)):=List.getElem?_eq_getElem (by omega)
   obtain⟨c,hc,Zk⟩:=Lib.mapM_at hym j _ hfj
   obtain⟨f1,f2,f3⟩:=hf j _ hfj
   rw[f2,f3] at Zk
   obtain⟨x,hcx,hcd,_⟩:=DataW.trod_int f1 Zk
   have h1:(((cs.drop (i * m)).take m).drop j).take 1=[.int k x]:=hcx
   have h2:cs[i * m+j]?=some (.int k x):=by
    have:=congrArg (·[0]?) h1
    simpa [List.getElem?_take,List.getElem?_drop,hj] using this
   have h3:(ys.map (·.1))[j]?=some (DataW.lit (.int k x):DataW H):=by simp[hc,hcd]
   rw[hys,List.getElem?_map,List.getElem?_eq_getElem (by omega)] at h3
   simp only[Option.map_some,Option.some.injEq,DataW.lit.injEq,Lit.int.injEq,true_and] at h3
   have h4:∀l:List Int,(hl:j<l.length) -> l[j]=l.getD j 0:=λ l hl=>by simp[List.getD_eq_getElem?_getD,hl]
   rw[h2,<- h3,h4 _ (by omega)]
theorem kI{H:Type}{enc:TypeId × Value -> H}{a:Assume}{C:Checked}{os:Os}{f:FuncId}{fn:Func}{s:ChangeSpec}{conds:List PathCond}{apart fresh handsOn again:Bool}{X:World -> Array Value -> Prop}
  (hX:∀ (w w':World) (args:Array Value),w.heap=w'.heap -> X w args -> X w' args)
  (own:ownKnob C.prog.godebug=none) (started:os.Started) (XT:C.prog.inits.idxOf? f=none) (WL:C.prog.funcs[f]?=some fn)
  (witness:∃ (w:World) (tape:Tape) (i:Input),w.os=os /\ (w.forCall tape i).Shaped C.prog /\ i.vars=[] /\ Input.okWide C.prog (w.forCall tape i) .any w.heap.size f i /\
   ((s.pre enc C.prog fn conds apart (w.forCall tape i).memory i.args /\ X (w.forCall tape i).memory i.args) /\ sizedMet enc C.prog fn (OpenSpec.ofChange s) apart (w.forCall tape i).memory i.args) /\ a.holds C.prog (lone (Frame.enter C.prog f i.args .normal) [] (w.forCall tape i)))
  (VZ:∀ (W:World) (base:Nat) (args:Array Value) (ds gs:List (DataW H)) (before:List MemPlace),W.ShapedOpen C.prog ->
   (∀ (j:Nat) t v,fn.params[j]?=some t -> args[j]?=some v -> Value.okWide C.prog W .any base t v) ->
   DataW.Whole enc C.prog fn.params.toList s.vars apart W args.toList ds gs before -> X W args ->
   Calls C.prog f args W λ e W'=>∃v,e=.returned v /\ s.post enc C.prog fn apart fresh handsOn again W args v W') :
  ReturnsInHanded a C os f .any (λ w args=>(s.pre enc C.prog fn conds apart w args /\ X w args) /\ sizedMet enc C.prog fn (OpenSpec.ofChange s) apart w args) (s.post enc C.prog fn apart fresh handsOn again):=by
 refine returnsInHanded_of_calls own started XT witness ?_
 intro w tape i _ UL _ dO QU hholds
 obtain⟨_,_,_,fn',hfn',_,_,_,_,L_⟩:=dO
 have e:fn'=fn:=Option.some.inj (hfn'.symm.trans WL)
 subst e
 obtain⟨⟨⟨ds,gs,before,hw,hc⟩,hx⟩,hz⟩:=QU
 have X4:=DataW.Whole.of_heap (w':=w.forCall tape i) (by rfl) hw
 refine(VZ (w.forCall tape i) w.heap.size i.args ds gs before UL L_ X4 (hX _ _ _ (by rfl) hx)).mono λ e W' ⟨v,he,hp⟩=>?_
 subst he
 exact ChangeSpec.post_blind hp
def ceZ:List (List Int):=[[0,0],[0,1],[0,1],[1,0],[1,1],[2,0],[0,1],[0,1],[0,1],[2,1],[2,1],[2,1],[2,1],[1,1],[2,1],[2,1],[2,1],[1,1],[0,0],[1,0],[2,0],[0,0]]
def Cp:Nat -> Nat -> Value:=λ i j=>.int .i64 ((ceZ.getD i []).getD j 0)
theorem I4:(Blk.rows 2 22 Cp 259 (0,0)).den=(Blk.lit xU 259 (0,0)).den:=by kernel_rfl
def efZ:List (List Int):=nO.map λ z=>[z.1,z.2.1,z.2.2]
theorem sn(g:Nat)(t:TypeId)(hg:g<Tryz.prog.globals.size)(h0:(((begin Tryz.prog (λ _ _=>0) default).world.heap[g]?).bind Obj.row?).map (·.2)=some t){W:World}(hs:W.ShapedOpen Tryz.prog):∃cs,W.heap[g]?=some (.cells cs t (0,0)):=by
 cases h:((begin Tryz.prog (λ _ _=>0) default).world.heap[g]?).bind Obj.row? with
 | none=>rw[h] at h0;cases h0
 | some x =>
  obtain⟨z,t'⟩:=x
  rw[h] at h0
  simp only[Option.map_some,Option.some.injEq] at h0
  subst h0
  obtain⟨cs,h1,_⟩:=hs.1 g z t' hg h
  exact⟨cs,h1⟩
def I5(P:Program)(e:TypeId)(m:Nat):Bool :=
 match P.underlying e with
 | some (.struct fs)=>decide (fs.toList.length=m) && (List.range m).all λ j =>
  match fs.toList[j]? with
  | some f=>(match P.underlying f.type with|some (.int .i64)=>true|_=>false) && decide (P.cellsOf f.type=1) && decide (f.offset=j)
  | none=>false
 | _=>false
theorem Ew{P:Program}{e:TypeId}{m:Nat}(h:I5 P e m=true):∃fs:Array Field,P.underlying e=some (.struct fs) /\ fs.toList.length=m /\
  ∀ (j:Nat) f,fs.toList[j]?=some f -> P.underlying f.type=some (.int .i64) /\ P.cellsOf f.type=1 /\ f.offset=j:=by
 unfold I5 at h
 split at h
 case h_2=>cases h
 rename_i fs hfs
 rw[Bool.and_eq_true] at h
 have hm:fs.toList.length=m:=of_decide_eq_true h.1
 refine⟨fs,hfs,hm,λ j f hj=>?_⟩
 have hjm:j<m:=by rw[<- hm];exact(List.getElem?_eq_some_iff.1 hj).1
 have h2:=List.all_eq_true.1 h.2 j (List.mem_range.2 hjm)
 rw[hj] at h2
 simp only[Bool.and_eq_true,decide_eq_true_eq] at h2
 refine⟨?_,h2.1.2,h2.2⟩
 have h3:=h2.1.1
 split at h3
 ·assumption
 ·cases h3
theorem vD{P:Program}{W:World}{name:String}{g n m:Nat}{t e:TypeId}{zs:List (List Int)}{rest:List (String × DataW Unit)}{ps:List MemPlace}{row:Nat -> Nat -> Value}{cs0:Array Value}
  (hb:W.heap[g]?=some (.cells cs0 t (0,0)))
  (hg:P.globalNamed name=some g) (hty:(P.globals[g]?).map (·.type)=some t) (ht:P.underlying t=some (.array n e)) (hE:I5 P e m=true) (Zm:P.cellsOf e=m) (hct:P.cellsOf t=n * m) (hm:0<m) (hz:∀z∈zs,z.length=m)
  (oF:∀i j,i<n -> j<m -> row i j=.int .i64 ((zs.getD i []).getD j 0))
  (h:DataW.LaidVars P W ((name,.agg (zs.map λ z=>.agg (z.map λ x=>.lit (.int .i64 x))))::rest) ps):W.heap[g]?=some (Blk.rows m n row t (0,0)).den /\ ∃q,DataW.LaidVars P W rest q:=by
 obtain⟨fs,he,Q_,hf⟩:=Ew hE
 obtain⟨g',t',cs,fuel,p,q,hg',ht',hvar,hd,hr,_⟩:=h
 obtain rfl:=Option.some.inj (hg.symm.trans hg')
 obtain rfl:=Option.some.inj (hty.symm.trans ht')
 have hv:W.var? P name=some cs0:=by
  unfold World.var?
  rw[hg]
  simp only[Option.bind_some,hb]
 obtain rfl:=Option.some.inj (hv.symm.trans hvar)
 obtain⟨h1,h2,h3⟩:=sS ht he Zm hct hm Q_ hf hz hd
 refine⟨?_,q,hr⟩
 rw[hb]
 show some (Obj.cells cs0 t (0,0))=some (Obj.cells ⟨bd m row n⟩ t (0,0))
 congr 2
 obtain⟨l⟩:=cs0
 congr 1
 symm
 exact iE (w:=m) h1 λ i j hi hj=>by rw[oF i j hi hj];exact h3 i j hi hj
def inZ:List (List Int):=[[-1,-1,0],[0,-1,0],[1,-1,0],[-1,0,0],[0,0,0],[1,0,0],[-1,1,0],[0,1,0],[1,1,0],[-1,-1,1],[0,-1,1],[1,-1,1],[-1,0,1],[0,0,1],[1,0,1],[-1,1,1],[0,1,1],[1,1,1],[-1,-1,2],[0,-1,2],[1,-1,2],[-1,0,2],[0,0,2],[1,0,2],[-1,1,2],[0,1,2],[1,1,2],[-1,-1,3],[0,-1,3],[1,-1,3],[-1,0,3],[0,0,3],[1,0,3],[-1,1,3],[0,1,3],[1,1,3]]
theorem I6{W:World}(hs:W.ShapedOpen Tryz.prog)(hL:laidMetH Tryz.prog [("arenanet/input.inputs",Rows.laid_arenanet_input_inputs),("arenanet/compile.effects",Rows.laid_arenanet_compile_effects),("arenanet/vm.effects",Rows.laid_arenanet_vm_effects)] W):W.heap[0]?=some (Blk.rows 3 36 (fS fY) 232 (0,0)).den /\ W.heap[1]?=some (Blk.lit xU 259 (0,0)).den /\ W.heap[2]?=some (Blk.rows 3 22 oI 325 (0,0)).den:=by
 rw[MakeChecks.laidMetH_plain _ _ _ (by kernel_rfl)] at hL
 obtain⟨ps,hv,_,_⟩:=hL
 obtain⟨csi,hbi⟩:=sn 0 232 (of_decide_eq_true (by kernel_rfl)) (by kernel_rfl) hs
 obtain⟨cs0,hb0⟩:=sn 1 259 (of_decide_eq_true (by kernel_rfl)) (by kernel_rfl) hs
 obtain⟨cs1,UA⟩:=sn 2 325 (of_decide_eq_true (by kernel_rfl)) (by kernel_rfl) hs
 have hvi:DataW.LaidVars Tryz.prog W (("arenanet/input.inputs",.agg (inZ.map λ z=>.agg (z.map λ x=>.lit (.int .i64 x))))::[("arenanet/compile.effects",.agg (ceZ.map λ z=>.agg (z.map λ x=>.lit (.int .i64 x)))),("arenanet/vm.effects",.agg (efZ.map λ z=>.agg (z.map λ x=>.lit (.int .i64 x))))]) ps:=hv
 obtain⟨hi,q0,hv0⟩:=vD (n:=36) (m:=3) (e:=119) (row:=fS fY) hbi (by kernel_rfl) (by kernel_rfl) (by kernel_rfl) (by kernel_rfl) (by kernel_rfl) (by kernel_rfl) (by decide) (by decide) (λ i j hi hj=>by
  have key:∀i:Fin 36,∀j:Fin 3,(if j.1=0 then (fY.getD i.1 dI).dx else if j.1=1 then (fY.getD i.1 dI).dy else (fY.getD i.1 dI).act)=(inZ.getD i.1 []).getD j.1 0:=by decide
  have:=key ⟨i,hi⟩ ⟨j,hj⟩
  rcases j with _|_|_|j
  ·exact congrArg (Value.int .i64) this
  ·exact congrArg (Value.int .i64) this
  ·exact congrArg (Value.int .i64) this
  ·omega) hvi
 obtain⟨h0,q,hq⟩:=vD (n:=22) (m:=2) (e:=258) (row:=Cp) hb0 (by kernel_rfl) (by kernel_rfl) (by kernel_rfl) (by kernel_rfl) (by kernel_rfl) (by kernel_rfl) (by decide) (by decide) (λ i j hi hj=>rfl) hv0
 obtain⟨h1,_⟩:=vD (n:=22) (m:=3) (e:=324) (row:=oI) UA (by kernel_rfl) (by kernel_rfl) (by kernel_rfl) (by kernel_rfl) (by kernel_rfl) (by kernel_rfl) (by decide) (by decide) (λ i j hi hj=>by
  have key:∀i:Fin 22,∀j:Fin 3,(if j.1=0 then (nO.getD i.1 (0,0,0)).1 else if j.1=1 then (nO.getD i.1 (0,0,0)).2.1 else (nO.getD i.1 (0,0,0)).2.2)=(efZ.getD i.1 []).getD j.1 0:=by decide
  have:=key ⟨i,hi⟩ ⟨j,hj⟩
  rcases j with _|_|_|j
  ·exact congrArg (Value.int .i64) this
  ·exact congrArg (Value.int .i64) this
  ·exact congrArg (Value.int .i64) this
  ·omega) hq
 exact⟨hi,h0.trans (congrArg some I4),h1⟩
def mm(W:World):HL:=List.ofFn (λ k:Fin W.heap.size=>(k.1,if k.1=0 then Blk.rows 3 36 (fS fY) 232 (0,0) else if k.1=1 then Blk.lit xU 259 (0,0) else if k.1=2 then Blk.rows 3 22 oI 325 (0,0) else sk W.heap[k.1]))
theorem yF{W:World}(hi:W.heap[0]?=some (Blk.rows 3 36 (fS fY) 232 (0,0)).den)(h0:W.heap[1]?=some (Blk.lit xU 259 (0,0)).den)(h1:W.heap[2]?=some (Blk.rows 3 22 oI 325 (0,0)).den):dR (lM W)=dR (mm W):=by
 unfold dR lM mm
 rw[List.map_ofFn,List.map_ofFn]
 congr 1
 funext k
 show (k.1,(sk W.heap[k.1]).den)=(k.1,Blk.den (if k.1=0 then _ else if k.1=1 then _ else if k.1=2 then _ else _))
 rw[ml]
 congr 1
 have use:∀ (g:Nat) (b:Blk),k.1=g -> W.heap[g]?=some b.den -> W.heap[k.1]=b.den:=λ g b e h=>by
  have h2:W.heap[k.1]?=some b.den:=by rw[show W.heap[k.1]?=W.heap[g]? by rw[e]];exact h
  rw[Array.getElem?_eq_getElem k.2] at h2
  exact Option.some.inj h2
 by_cases ei:k.1=0
 ·rw[if_pos ei]
  exact use _ _ ei hi
 ·rw[if_neg ei]
  by_cases e0:k.1=1
  ·rw[if_pos e0]
   exact use _ _ e0 h0
  ·rw[if_neg e0]
   by_cases e1:k.1=2
   ·rw[if_pos e1]
    exact use _ _ e1 h1
   ·rw[if_neg e1,ml]
theorem Ey{W:World}(h0:W.heap[0]?=some (Blk.rows 3 36 (fS fY) 232 (0,0)).den):lK (mm W) :=
 List.mem_ofFn.2 ⟨⟨0,(Array.getElem?_eq_some_iff.1 h0).1⟩,rfl⟩
theorem Ez{W:World}(h0:W.heap[1]?=some (Blk.lit xU 259 (0,0)).den):pM (mm W) :=
 List.mem_ofFn.2 ⟨⟨1,(Array.getElem?_eq_some_iff.1 h0).1⟩,rfl⟩
theorem EA{W:World}(h1:W.heap[2]?=some (Blk.rows 3 22 oI 325 (0,0)).den):cX (mm W) :=
 List.mem_ofFn.2 ⟨⟨2,(Array.getElem?_eq_some_iff.1 h1).1⟩,rfl⟩
noncomputable def EB(os:Os):World:=World.laidAll Tryz.prog os Rows.replayRoundTripRow.laid
theorem yG(os:Os)(started:os.Started)(H:Type)(enc:TypeId × Value -> H) :
  ReturnsInHanded {} Tryz.checked os 5 .any (λ w args=>(Rows.replayRoundTripSpec.pre enc Tryz.prog Tryz.f5 [] false w args /\ laidMetH Tryz.prog Rows.replayRoundTripRow.laid w) /\ sizedMet enc Tryz.prog Tryz.f5 (OpenSpec.ofChange Rows.replayRoundTripSpec) false w args)
   (Rows.replayRoundTripSpec.post enc Tryz.prog Tryz.f5 false true false false):=by
 refine kI (C:=Tryz.checked) (X:=λ w _=>laidMetH Tryz.prog Rows.replayRoundTripRow.laid w) (λ _ _ _ hh h=>h.of_heap hh) I1 started (by kernel_rfl) Tryz.func5
  (ChangeSpec.witness_at (enc:=enc) (C:=Tryz.checked) (os:=os) (X:=λ w _=>laidMetH Tryz.prog Rows.replayRoundTripRow.laid w) false (EB os) #[.slice none 0 0,.int .i64 0,.int .i64 0,.slice none 0 0,.int .i64 0,.int .i64 0] 8 (World.laidAll_os _ _ _) (by kernel_rfl) (by kernel_rfl) (by kernel_rfl) (by kernel_rfl) (by kernel_rfl) (laidMetH_of_parts (laidMet_laidAll _ (by kernel_rfl) (by kernel_rfl)) (by kernel_rfl))) ?_
 intro W base args ds gs before UL Xm hW hL
 have L_:∀ (j:Nat) t v,Tryz.f5.params[j]?=some t -> args[j]?=some v -> Value.okWide Tryz.prog W .any base t v:=Xm
 have hW':=hW
 obtain⟨p,q,hA0,hV,rfl,hfz,Ti⟩:=hW
 have hA:DataW.TrodAll enc Tryz.prog W 0 (λ _=>true) true Tryz.f5.params.toList args.toList ds p:=hA0
 have hAA:=hA
 rw[Tryz.params5] at hA L_
 obtain⟨v0,vs0,d0,ds0,p0,q0,Um,rfl,rfl,h0r,r0⟩:=trodAll_cons hA
 obtain⟨v1,vs1,d1,ds1,p1,q1,rfl,rfl,rfl,h1r,r1⟩:=trodAll_cons r0
 obtain⟨v2,vs2,d2,ds2,p2,q2,rfl,rfl,rfl,h2r,r2⟩:=trodAll_cons r1
 obtain⟨v3,vs3,d3,ds3,p3,q3,rfl,rfl,rfl,h3r,r3⟩:=trodAll_cons r2
 obtain⟨v4,vs4,d4,ds4,p4,q4,rfl,rfl,rfl,h4r,r4⟩:=trodAll_cons r3
 obtain⟨v5,vs5,d5,ds5,p5,q5,rfl,rfl,rfl,h5r,r5⟩:=trodAll_cons r4
 obtain⟨rfl,rfl,rfl⟩:=trodAll_nil r5
 obtain rfl:args=#[v0,v1,v2,v3,v4,v5]:=by cases args;simp_all
 obtain⟨rfl,rfl⟩:=trodVars_none hV
 obtain⟨A0,n0,c0,x0,rfl,b0,h0,k0⟩:=yE (L_ 0 22 v0 rfl rfl) h0r
 obtain⟨a1,rfl,rfl,rfl,w1z⟩:=open_int Tryz.underlying3 (L_ 1 3 v1 rfl rfl) h1r
 have w1:=kh w1z
 obtain⟨a2,rfl,rfl,rfl,w2z⟩:=open_int Tryz.underlying3 (L_ 2 3 v2 rfl rfl) h2r
 have w2:=kh w2z
 obtain⟨A3,n3,c3,x3,rfl,b3,h3,k3⟩:=yE (L_ 3 22 v3 rfl rfl) h3r
 obtain⟨a4,rfl,rfl,rfl,w4z⟩:=open_int Tryz.underlying3 (L_ 4 3 v4 rfl rfl) h4r
 have w4:=kh w4z
 obtain⟨a5,rfl,rfl,rfl,w5z⟩:=open_int Tryz.underlying3 (L_ 5 3 v5 rfl rfl) h5r
 have w5:=kh w5z
 clear hA0 Xm
 simp only[List.append_nil,List.nil_append] at hW' hAA
 obtain⟨gi,g0,g1⟩:=I6 UL hL
 have eW:=yF gi g0 g1
 refine(Ev W ((I0 A0 A3 n0 c0 n3 c3 x0 x3 a1 a2 a4 a5 (mm W) (Ez g0) (EA g1) (Ey gi) (h0.d eW) b0 (h3.d eW) b3 w1 w2 w4 w5).den eW.symm)).mono λ e W' ⟨he,hb⟩=>?_
 subst he
 exact⟨_,rfl,I3 I2 (by rw[Tryz.params5];intro t ht;simp at ht;first|(subst ht;exact⟨by kernel_rfl,of_decide_eq_true (by kernel_rfl)⟩)|(rcases ht with rfl|rfl <;> exact⟨by kernel_rfl,of_decide_eq_true (by kernel_rfl)⟩)|(rcases ht with rfl|rfl|rfl <;> exact⟨by kernel_rfl,of_decide_eq_true (by kernel_rfl)⟩)|(rcases ht with rfl|rfl|rfl|rfl <;> exact⟨by kernel_rfl,of_decide_eq_true (by kernel_rfl)⟩)|(rcases ht with rfl|rfl|rfl|rfl|rfl <;> exact⟨by kernel_rfl,of_decide_eq_true (by kernel_rfl)⟩)|(rcases ht with rfl|rfl|rfl|rfl|rfl|rfl <;> exact⟨by kernel_rfl,of_decide_eq_true (by kernel_rfl)⟩)) hW' rfl hAA (λ _ _ _=>trodAll_cons_mk (shut_bool Tryz.underlying4 _) trodAll_mk0) rfl (λ _=>rfl) hb⟩
theorem vE:(Rows.replayRoundTripRow.inPlace == Tryz.prog.inPlace 5)=true:=by kernel_rfl
theorem so:(Rows.replayRoundTripRow.named == Tryz.prog.varsNamed 5)=true:=by kernel_rfl
theorem p7:(Rows.replayRoundTripRow.unfollowed == Tryz.prog.unfollowed 5)=true:=by kernel_rfl
theorem sT:(Rows.replayRoundTripRow.recurses == Tryz.prog.recurses 5)=true:=by kernel_rfl
theorem vF:laidOutB Tryz.prog=true:=by kernel_rfl
theorem sr:mapsRowed Tryz.prog=true:=by kernel_rfl
theorem su:(Rows.replayRoundTripRow.plainKeys == Tryz.prog.plainKeys)=true:=by kernel_rfl
theorem AF:Tryz.prog.mayEnter=true:=by kernel_rfl
theorem AG:Tryz.prog.stopsHeard=true:=by kernel_rfl
end Go.Proofs.YtgdcbiiopbpgaaaGreatDoor
