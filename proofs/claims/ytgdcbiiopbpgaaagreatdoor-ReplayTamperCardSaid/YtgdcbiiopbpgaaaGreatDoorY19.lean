import Derived.Test.YtgdcbiiopbpgaaaGreatDoorY18
import Derived.Test.YtgdcbiiopbpgaaaGreatDoorRows
import Derived.Test.YtgdcbiiopbpgaaaGreatDoorChecked
import Derived.Test.YtgdcbiiopbpgaaaGreatDoorY07
import Derived.ProofKit
import Derived.OpenShut
import Derived.Carry
import Derived.Lay
import Derived.LaidHandle
import Derived.ChangeSlices
import Derived.Test.YtgdcbiiopbpgaaaGreatDoorY15
import Derived.Lib.LaidTab
import Derived.MakeChecks
import Derived.Test.YtgdcbiiopbpgaaaGreatDoorTie
import Derived.Test.YtgdcbiiopbpgaaaGreatDoorCards
import Derived.SevenTiedAt
import Derived.JoinedOf
set_option maxHeartbeats 4000000
set_option maxRecDepth 100000
set_option linter.unusedSimpArgs false
set_option linter.unusedVariables false
namespace Go.Proofs.YtgdcbiiopbpgaaaGreatDoor
open IntKind
open Go.RowKit
theorem AK(dp:Nat)(e:Int)(F:HL){b:Bool}(h:b=true):Sp Tryz.prog 53 #[vP dp 0,.bool b,vI e] [] F (λ u H'=>u=.tuple #[] /\ H'=[]):=h ▸ qI dp e F
theorem kP(xs:List Int)(o k:Nat):(xs.drop o).getD k 0=xs.getD (o+k) 0:=by rw[List.getD_eq_getElem?_getD,List.getElem?_drop,<- List.getD_eq_getElem?_getD]
def fY(xs:List Int)(m:Nat):List Int:=(List.range m).map λ r=>cQ xs r 8
theorem yN(xs:List Int)(m:Nat):fY xs (m+1)=fY xs m++[cQ xs m 8]:=by simp[fY,List.range_succ]
theorem nF(xs:List Int)(m:Nat):(fY xs m).length=m:=by simp[fY]
theorem AL(dp n c pl cnt:Nat)(A:Option Addr)(xs:List Int)(F:HL)(hl:RowL gS 5 F A n xs)(hn:n=cnt*8)(hc:n <= c)(hcn:cnt <= 1000):Sp Tryz.prog 56 #[vP dp 0,vI (cnt:Int)] (ap [(dp,.lit [.slice A n c,vI 0,vI (pl:Int)] 127 (0,0))] []) F (λ u H'=>∃x:Option Addr × Nat × HL,H'=ap [(dp,.lit [.slice (jf A (cnt*8) 1 c) (n-(cnt*8)) (c-(cnt*8)),vI 0,vI (pl:Int)] 127 (0,0))] [x.2.2] /\ (u=.slice x.1 cnt x.2.1 /\ SlIs kr 45 (fY xs cnt) x.1 x.2.1 x.2.2)):=by
 refine Sp.run Tryz.func56 rfl mn (A:=[(dp,.lit [.slice A n c,vI 0,vI (pl:Int)] 127 (0,0))]) (Ts:=[]) rfl λ w0=>?_
 refine ai 12 [.nw] [aU ((cnt:Int)*8)] λ _=>aB 13 (congrArg (λ v_=>(vI v_:Value)) (show (cnt:Int)*8=((cnt*8:Nat):Int) by omega))<|RN.ct [0] [] (yM dp n c pl (cnt*8) A _ (by omega) hc) ?_
 rintro _ ⟨⟩ rfl
 refine ae 4 [] λ _=>RN.draw [] []<|ag [] [0,3,1,4,2,5,6,7,8,9] [.own 0]<|RD.cp [] 10 (λ X_=>(AK dp 8 _ (decide_eq_true (show (((n-(cnt*8)):Nat):Int)=0 by omega))))<|RD.fin<|ae 8 [] λ _=>RN.nt<|RN.loop (σ:=Nat × Option Addr × Nat × Nat × Option Addr × Nat × HL) (λ ⟨i_,A_,n_,c_,UR,UO,T_⟩=>⟨[(5,.slice A_ n_ c_),(6,.slice UR i_ UO)],[(dp,.lit [.slice (jf A (cnt*8) 1 c) (n-(cnt*8)) (c-(cnt*8)),vI 0,vI (pl:Int)] 127 (0,0))],[T_],i_ <= cnt /\ n_=(cnt-i_)*8 /\ n_ <= c_ /\ RowL gS 5 F A_ n_ (xs.drop (8*i_)) /\ SlIs kr 45 (fY xs i_) UR UO T_,cnt-i_⟩) (0,A,cnt*8,c,none,0,[]) [0] [0] (⟨Nat.zero_le _,by omega,by omega,by rw[show cnt*8=n by omega];exact hl,SlIs.nil _ _⟩) ?_
 rintro⟨i_,A_,n_,c_,UR,UO,T_⟩ ⟨WR,Yn,Ut,RI,IS⟩ Rx
 refine ae 8 [] λ _=>RN.em ((n_:Int)>0) 28 (λ h3=>?_) λ h3=>?_
 ·refine ae 17 [] λ _=>RN.loop (σ:=Nat) (λ k_=>⟨[(5,.slice A_ n_ c_),(6,.slice UR i_ UO),(7,.int .u64 (cQ xs i_ k_)),(31,vI (k_:Int))],[(dp,.lit [.slice (jf A (cnt*8) 1 c) (n-(cnt*8)) (c-(cnt*8)),vI 0,vI (pl:Int)] 127 (0,0))],[T_],k_ <= 8,8-k_⟩) 0 [0] [0] (Nat.zero_le _) ?_
  rintro k_ TT SQ
  refine ae 6 [] λ _=>RN.em ((k_:Int)<8) 32 (λ h6=>?_) λ h6=>?_
  ·refine ae 15 [] λ _=>?_
   obtain⟨qx7,RF,XX,fx7,fzx7,Ud,Vk,hox7,Vt⟩:=RI.at (k:=k_) (by omega)
   refine aB 35 (congrArg (λ v_=>(.slice v_ n_ c_:Value)) Ud)<|RN.ro (λ _=>(mc Vk mn))<|ai 2 [.ix k_,.rorow 0 (RF+k_) 0] [(RF*1+k_*1)=(RF+k_)*1+0 /\ (RF+k_)<XX,(k_:Int)=((k_:Nat):Int) /\ k_<n_] λ _=>aB 38 (congrArg (λ v_=>(.int .u8 v_:Value)) Vt)<|aB 38 (congrArg (λ v_=>(.int .u8 v_:Value)) (kP xs (8*i_) k_))<|ai 13 [.nw,.dv,.gen,.nw] [aU ((k_:Int)+1),0 <= 8*(k_:Int),aU (8*(k_:Int))] λ _=>?_
   refine SQ (k_+1) [0] [0] ?_
   try dsimp only
   exact⟨by omega,by omega⟩
  ·obtain rfl:k_=8:=by omega
   refine ae 10 [] λ n8=>fR Iw (fY xs i_) [cQ xs i_ 8] 0 0 (nF xs i_).symm IS (by rw[nF,List.length_singleton];omega) ?_
   rintro A9 Ug Of ⟨Vf,X6⟩
   refine ae 6 [] λ _=>RN.slA (A:=A_) (n:=n_) (cap:=c_) (l:=8) (sz:=1) rfl (by omega) Ut<|ae 2 [] λ _=>?_
   refine Rx (i_+1,jf A_ 8 1 c_,n_-8,c_-8,A9,Ug,Of) [1] [0] ?_
   try dsimp only
   refine⟨⟨by omega,by omega,by omega,?_,by rw[yN];exact Vf⟩,by omega⟩
   have h_:=RI.drop Ut (k:=8) (by omega)
   rw[List.drop_drop,show 8*i_+8=8*(i_+1) by omega] at h_
   exact h_
 ·refine ae 12 [] λ _=>RN.ret [] [0] [0] (v:=.slice UR i_ UO) (H':=(ap [(dp,.lit [.slice (jf A (cnt*8) 1 c) (n-(cnt*8)) (c-(cnt*8)),vI 0,vI (pl:Int)] 127 (0,0))] [T_])) ?_
  obtain rfl:i_=cnt:=by omega
  exact⟨(UR,UO,T_),rfl,rfl,IS⟩
theorem AM(dp n c pl:Nat)(m:Int)(A:Option Addr)(er:Int)(F:HL)(YA:¬ er=0)(Wk:(dp,.lit [.slice A n c,vI er,vI (pl:Int)] 127 (0,0))∈F):Sp Tryz.prog 56 #[vP dp 0,vI m] [] F (λ u H'=>u=.slice none 0 0 /\ H'=[]):=by
 refine Sp.run Tryz.func56 rfl (mc Wk mn) (A:=[]) (Ts:=[]) rfl λ w0=>?_
 refine ae 12 [] λ _=>RN.cp (I0 dp n c pl (i64.wrap (m*8)) A er _ YA (aq Wk))<|ae 4 [] λ _=>RN.draw [] []<|ag [] [0,3,1,4,2,5,6,7,8,9] [.ro 0]<|RD.cp [] 10 (λ X_=>(Cy dp n c pl A er 8 _ YA (oM Wk) (decide ((n:Int)=0))))<|RD.fin<|ae 8 [] λ _=>RN.rounds 1<|ae 20 [] λ _=>?_
 exact RN.ret [] [] [] ⟨rfl,rfl⟩
theorem Lq{xs ys:List Int}(h:xs.length=ys.length)(h2:∀k,k<xs.length -> xs.getD k 0=ys.getD k 0):xs=ys:=by
 apply List.ext_getElem h
 intro i h3 h4
 have:=h2 i h3
 rwa [List.getD_eq_getElem?_getD,List.getD_eq_getElem?_getD,List.getElem?_eq_getElem h3,List.getElem?_eq_getElem h4] at this
theorem Lr(A B:Option Addr)(n c m d:Nat)(xs ys:List Int)(F:HL)(hl:RowL kr 45 F A n xs)(Rg:RowL kr 45 F B m ys)(hb:n <= 1000000):Sp Tryz.prog 57 #[.slice A n c,.slice B m d] [] F (λ u H'=>u=.bool (decide (xs=ys)) /\ H'=[]):=by
 have Vn:=hl.len
 have hn2_:=Rg.len
 refine Sp.run Tryz.func57 rfl mn (A:=[]) (Ts:=[]) rfl λ w0=>?_
 refine ae 15 [] λ _=>RN.en ((n:Int)=(m:Int)) 10 (λ h1=>?_) λ h1=>?_
 ·refine ae 12 [] λ _=>RN.loop (σ:=Nat) (λ k_=>⟨[(0,.slice A n c),(1,.slice B m d),(12,vI (n:Int)),(13,vI (k_:Int))],[],[],k_ <= n /\ ∀j,j<k_ -> xs.getD j 0=ys.getD j 0,n-k_⟩) 0 [] [] (⟨Nat.zero_le _,λ j hj=>absurd hj (Nat.not_lt_zero _)⟩) ?_
  rintro k_ ⟨TT,RK⟩ Ri
  refine ae 6 [] λ _=>RN.em ((k_:Int)<(n:Int)) 14 (λ h4=>?_) λ h4=>?_
  ·refine ae 12 [] λ _=>RN.draw [] []<|ag [] [0,1,4,5] [] ?_
   obtain⟨qxa2,Ws,Nxa2,fxa2,fzxa2,hAxa2,Xy,hoxa2,hgxa2⟩:=hl.at (k:=k_) (by omega)
   refine ja 16 (congrArg (λ v_=>(.slice v_ n c:Value)) hAxa2)<|RD.ro (λ _=>(mc Xy mn)) ?_
   obtain⟨qxb2,Wq,Nxb2,fxb2,fzxb2,hAxb2,hqxb2,hoxb2,hgxb2⟩:=Rg.at (k:=k_) (by omega)
   refine ja 20 (congrArg (λ v_=>(.slice v_ m d:Value)) hAxb2)<|RD.ro (λ _=>(mc Xy (mc hqxb2 mn)))<|aG [] [2,6,3,7] [.ix k_,.ix k_,.rorow 0 (Ws+k_) 0,.rorow 1 (Wq+k_) 0] [(Wq*1+k_*1)=(Wq+k_)*1+0 /\ (Wq+k_)<Nxb2,(Ws*1+k_*1)=(Ws+k_)*1+0 /\ (Ws+k_)<Nxa2,(k_:Int)=((k_:Nat):Int) /\ k_<m,(k_:Int)=((k_:Nat):Int) /\ k_<n]<|ja 19 (congrArg (λ v_=>(.int .u64 v_:Value)) hgxa2)<|ja 23 (congrArg (λ v_=>(.int .u64 v_:Value)) hgxb2)<|ag [] [8] []<|RD.fin<|ae 1 [] λ _=>RN.en (xs.getD k_ 0=ys.getD k_ 0) 24 (λ h5=>?_) λ h5=>?_
   ·refine ai 8 [.nw] [aU ((k_:Int)+1)] λ _=>?_
    refine Ri (k_+1) [] [] ?_
    try dsimp only
    refine⟨⟨by omega,λ j hj=>?_⟩,by omega⟩
    by_cases ej:j=k_
    ·rw[ej];assumption
    ·exact RK j (by omega)
   ·refine ae 6 [] λ _=>RN.ret [] [] [] (v:=.bool false) (H':=[]) ?_
    exact⟨by rw[decide_eq_false (λ e_=>h5 (by rw[e_]))],rfl⟩
  ·refine ae 11 [] λ _=>RN.ret [] [] [] (v:=.bool true) (H':=[]) ?_
   obtain rfl:k_=n:=by omega
   exact⟨by rw[decide_eq_true (Lq (by omega) (λ k hk=>RK k (by omega)))],rfl⟩
 ·refine ae 6 [] λ _=>RN.ret [] [] [] (v:=.bool false) (H':=[]) ?_
  exact⟨by rw[decide_eq_false (λ e_=>h1 (by rw[<- Vn,e_,hn2_]))],rfl⟩
theorem uG(pl:Nat)(D:List Int)(n:Nat):(eI pl D n).length=n:=by simp[eI]
theorem EG{pl:Nat}{D:List Int}{n i:Nat}(h:i<n):(eI pl D n).getD i []=ta pl D i:=by simp[eI,h]
theorem Ja{pl n:Nat}{D:List Int}(hl:D.length=n*pl)(h8:∀i,0 <= D.getD i 0 /\ D.getD i 0<256)(h:∀j,j<n*pl -> D.getD j 0<36){i:Nat}(hi:i<n):fM pl ((eI pl D n).getD i []):=by
 have hm:(i+1)*pl <= n*pl:=Nat.mul_le_mul_right _ hi
 rw[Nat.succ_mul] at hm
 have hlen:=lT hl hi
 rw[EG hi]
 refine⟨by rw[hlen],λ k hk=>?_⟩
 rw[hlen] at hk
 have e:(ta pl D i).getD k dI=gz (D.getD (i*pl+k) 0):=by
  unfold ta
  rw[List.getD_eq_getElem?_getD,List.getElem?_map,List.getElem?_take,if_pos hk,List.getElem?_drop,List.getElem?_eq_getElem (show i*pl+k<D.length by omega)]
  simp[List.getD_eq_getElem?_getD,List.getElem?_eq_getElem (show i*pl+k<D.length by omega)]
 rw[e]
 exact Cw ⟨(h8 _).1,h _ (by omega)⟩
theorem PQ{xs:List Int}(h:∀i,0 <= xs.getD i 0 /\ xs.getD i 0<256)(a k:Nat):0 <= (xs.take a).getD k 0 /\ (xs.take a).getD k 0<256:=by
 rw[List.getD_eq_getElem?_getD,List.getElem?_take]
 split
 ·rw[<- List.getD_eq_getElem?_getD];exact h _
 ·exact⟨by decide,by decide⟩
theorem AO(S:Setup)(rs_:List Bx)(ds_:List Dr)(bp ev n md pl dn dc:Nat)(J:Nat -> Nat × Int)(A:Option Addr)(D:List Int)(F:HL)(hS:SetCl F S)(hM:MapIn F S rs_ ds_)(hV:SetV S)(h1:1 <= S.nb)(RY:S.rn <= 1000000)(R3:S.dn <= 1000000)(ID:(sizeOf S).toNat <= 1000000)(hv:i0 S rs_ ds_=0)(No:1 <= ev /\ ev <= 60)(hE:dh F)(hI:lS F)(hl:RowL gS 5 F A dn D)(IF:S.players=(pl:Int))(Is:n <= 50)(XD:n / ev=md)(Zs:dn=2+n*pl+8*(md+1))(hc:dn <= dc)(Zt:D.getD 0 0=(ev:Int))(UG:D.getD 1 0=(n:Int))(XN:∀i,0 <= D.getD i 0 /\ D.getD i 0<256)(SY:∀i,i<n -> (J i).1<5 /\ AtOk F bp (i:Int) (J i)):Sp Tryz.prog 25 #[(Setup.v S),vP bp 0,.slice A dn dc] [] F (λ u H'=>∃x:Nat × Setup × HL,H'=ap [] [x.2.2] /\ (((∀j,j<n*pl -> (((D.drop 1).drop 1).take (n*pl)).getD j 0<36) /\ (fY (((D.drop 1).drop 1).drop (n*pl)) (md+1))=(av (WS S J (eI pl (((D.drop 1).drop 1).take (n*pl)) n)) ev (md+1)) /\ u=.tuple #[vP x.1 0,vI 0] /\ SetEq S x.2.1 /\ RecH rs_ ds_ bp ev x.1 S x.2.1 (WS S J (eI pl (((D.drop 1).drop 1).take (n*pl)) n)) n (eI pl (((D.drop 1).drop 1).take (n*pl)) n) x.2.2) \/ ((∀j,j<n*pl -> (((D.drop 1).drop 1).take (n*pl)).getD j 0<36) /\ ¬ (fY (((D.drop 1).drop 1).drop (n*pl)) (md+1))=(av (WS S J (eI pl (((D.drop 1).drop 1).take (n*pl)) n)) ev (md+1)) /\ u=.tuple #[.pointer none,vI 23] /\ x.2.2=[]) \/ ((∃j,j<n*pl /\ ¬ (((D.drop 1).drop 1).take (n*pl)).getD j 0<36) /\ u=.tuple #[.pointer none,vI 8] /\ x.2.2=[]))):=by
 have hnp_:n*pl <= 50*3:=Nat.mul_le_mul Is (by have:=hV.pl;omega)
 have hpl8:1 <= pl /\ pl <= 8:=by have:=hV.pl;omega
 have hmn_:md <= n:=by rw[<- XD];exact Nat.div_le_self _ _
 have hD8b:∀i,0 <= ((D.drop 1).drop 1).getD i 0 /\ ((D.drop 1).drop 1).getD i 0<256:=λ i=>by rw[kP,kP];exact XN _
 have hXl_:(((D.drop 1).drop 1).take (n*pl)).length=n*pl:=by rw[List.length_take,List.length_drop,List.length_drop,hl.len];omega
 refine Sp.run Tryz.func25 rfl mn (A:=[]) (Ts:=[]) rfl λ w0=>?_
 refine ae 12 (ow 0 16) λ n1=>RN.ct (Hp:=[]) (Tp:=[]) [] [] (om S rs_ ds_ bp _ hS.up hM.up h1 RY R3 ID hv 99020000 (by decide)) ?_
 rintro _ ⟨g2,S3,T4⟩ ⟨rfl,Wj,W7⟩
 refine ae 29 [.own 0] λ n7=>cj 0 (congrArg (λ v_=>(.lit [.slice A dn dc,vI 0,vI v_] 127 (0,0):Blk)) IF)<|ae 3 [] λ _=>RN.ct [0] [] (sG (n7+0) dn dc pl ev A D _ (hl.mono λ x hx=>aq hx) (by omega) (by omega) Zt (by omega)) ?_
 rintro _ ⟨⟩ rfl
 obtain⟨A2,n2,c2,hA2,hn2,hc2,Rg⟩:∃ (A_:Option Addr) (n_ c_:Nat),jf A 1 1 dc=A_ /\ dn-1=n_ /\ dc-1=c_ /\ RowL gS 5 F A_ n_ (D.drop 1):=⟨_,_,_,rfl,rfl,rfl,hl.drop (by omega) (by omega)⟩
 refine cj 0 (congrArg (λ v_=>(.lit [.slice v_.1 v_.2.1 v_.2.2,vI 0,vI (pl:Int)] 127 (0,0):Blk)) (show ((jf A 1 1 dc,dn-1,dc-1):Option Addr × Nat × Nat)=(A2,n2,c2) by rw[hA2,hn2,hc2]))<|ae 11 [] λ _=>cH 44 (decide_eq_true (show (ev:Int) >= 1 by omega))<|ae 3 [] λ _=>RN.cp (AK (n7+0) 6 _ (decide_eq_true (show (ev:Int) <= 60 by omega)))<|ae 7 [] λ _=>RN.ct [0] [] (sG (n7+0) n2 c2 pl n A2 (D.drop 1) _ (Rg.mono λ x hx=>aq hx) (by omega) (by omega) ((kP D 1 0).trans UG) (by omega)) ?_
 rintro _ ⟨⟩ rfl
 obtain⟨A3,n3,c3,hA3,hn3,hc3,Sf⟩:∃ (A_:Option Addr) (n_ c_:Nat),jf A2 1 1 c2=A_ /\ n2-1=n_ /\ c2-1=c_ /\ RowL gS 5 F A_ n_ ((D.drop 1).drop 1):=⟨_,_,_,rfl,rfl,rfl,Rg.drop (by omega) (by omega)⟩
 refine cj 0 (congrArg (λ v_=>(.lit [.slice v_.1 v_.2.1 v_.2.2,vI 0,vI (pl:Int)] 127 (0,0):Blk)) (show ((jf A2 1 1 c2,n2-1,c2-1):Option Addr × Nat × Nat)=(A3,n3,c3) by rw[hA3,hn3,hc3]))<|ae 10 [] λ _=>RN.cp (AK (n7+0) 2 _ (decide_eq_true (show (n:Int) <= 6000 by omega)))<|ae 20 [.own 0] λ _=>RN.ct (Hp:=[]) (Tp:=[]) [] [] (I6 (n7+0) n _) ?_
 rintro _ m8 rfl
 refine ld 2<|RN.ct [] [0] (I9 (n7+0) (m8+0) (m8+1) n3 c3 pl n A3 ((D.drop 1).drop 1) _ (Sf.mono λ x hx=>aq hx) (by omega) (by omega) hpl8 (by omega) hD8b (aq hI) (az 1) (az 0)) ?_
 rintro _ ⟨⟨mr_,Ar_,cr_,rl_⟩,Er_,Tr_,O_⟩ ⟨rfl,Z5,Q3,hTr_,hor_⟩
 dsimp only at Z5 Q3 hTr_ hor_
 rcases hor_ with ⟨hmr_,RK,rfl⟩|⟨hmr_,hbad_,rfl⟩
 ·obtain rfl:=hmr_.symm
  refine pK 2 (x:=((n7+0),.lit [.slice (jf A3 (n*pl) 1 c3) (n3-n*pl) (c3-n*pl),vI 0,vI (pl:Int)] 127 (0,0))) ?_
  obtain⟨A4,n4,c4,hA4,hn4,YJ,hl4⟩:∃ (A_:Option Addr) (n_ c_:Nat),jf A3 (n*pl) 1 c3=A_ /\ n3-(n*pl)=n_ /\ c3-(n*pl)=c_ /\ RowL gS 5 F A_ n_ (((D.drop 1).drop 1).drop (n*pl)):=⟨_,_,_,rfl,rfl,rfl,Sf.drop (by omega) (by omega)⟩
  refine cj 0 (congrArg (λ v_=>(.lit [.slice v_.1 v_.2.1 v_.2.2,vI 0,vI (pl:Int)] 127 (0,0):Blk)) (show ((jf A3 (n*pl) 1 c3,n3-(n*pl),c3-(n*pl)):Option Addr × Nat × Nat)=(A4,n4,c4) by rw[hA4,hn4,YJ]))<|ai 9 [.nw] [0 <= (n:Int) /\ (0:Int)<(ev:Int) /\ (n:Int) <= 9223372036854775807] λ _=>aB 77 (congrArg (λ v_=>(vI v_:Value)) (show (n:Int) / (ev:Int)=(md:Int) by rw[<- XD];first|rfl|norm_cast))<|ai 1 [.nw] [aU ((md:Int)+1)] λ _=>RN.ct [0] [] (AL (n7+0) n4 c4 pl (md+1) A4 (((D.drop 1).drop 1).drop (n*pl)) _ (hl4.mono λ x hx=>aq hx) (by omega) (by omega) (by omega)) ?_
  rintro _ ⟨Aq_,cq_,Tq_⟩ ⟨rfl,Z6⟩
  dsimp only at Z6
  refine ae 6 [] λ _=>?_
  have Tb:∀i,i<n -> fM S.players ((eI pl (((D.drop 1).drop 1).take (n*pl)) n).getD i []):=λ i hi=>by rw[IF];exact Ja hXl_ (λ j_=>PQ hD8b _ j_) RK hi
  refine ae 16 ([.own 0]++ow 3 16) λ _=>RN.ct (Hp:=[]) (Tp:=[]) [] [] (yt S rs_ ds_ bp ev (WS S J (eI pl (((D.drop 1).drop 1).take (n*pl)) n)) _ hS.up hM.up h1 RY R3 ID hv No rfl) ?_
  rintro _ ⟨r9,S10,Of⟩ ⟨rfl,UF,WG⟩
  dsimp only at UF WG
  refine ae 26 [] λ _=>RN.loop (σ:=Nat × HL) (λ ⟨i_,T_⟩=>⟨[(14,.slice Aq_ (md+1) cq_),(15,vP r9 0),(101,.slice Ar_ n cr_),(102,vI (n:Int)),(103,vI (i_:Int))],[((n7+0),.lit [.slice (jf A4 ((md+1)*8) 1 c4) (n4-(md+1)*8) (c4-(md+1)*8),vI 0,vI (pl:Int)] 127 (0,0)),((m8+1),.lit [vI (n:Int)] 3 (0,0)),((m8+0),.lit [vP (n7+0) 0] 123 (0,0)),((n1+0),.lit (Setup.l S) 31 (0,0))],[T_,Tq_,Er_,Tr_,T4],i_ <= n /\ RecH rs_ ds_ bp ev r9 S S10 (WS S J (eI pl (((D.drop 1).drop 1).take (n*pl)) n)) i_ ((eI pl (((D.drop 1).drop 1).take (n*pl)) n).take i_) T_,n-i_⟩) (0,Of) [0,1,2,3] [0,1,2,3,4] (⟨Nat.zero_le _,WG⟩) ?_
  rintro⟨i_,T_⟩ ⟨WR,RI⟩ mt15
  refine ae 6 [] λ _=>RN.em ((i_:Int)<(n:Int)) 104 (λ Ru=>?_) λ Ru=>?_
  ·refine ae 7 [] λ _=>?_
   obtain⟨eb_,Zz,ef_,rfl,rfl,hef_,hec_,heg_⟩:=Z5.open (by omega)
   refine pK 2 (x:=(eb_,.rows 1 (Zz+cr_) (aJ mP ef_) 54 (0,0)))<|ai 2 [.ix i_,.row 0 (Zz+i_) 0] [(Zz*1+i_*1)=(Zz+i_)*1+0 /\ (Zz+i_)<(Zz+cr_),(i_:Int)=((i_:Nat):Int) /\ i_<n] λ _=>aB 106 (congrArg (λ v_=>(.slice v_.A v_.n v_.c:Value)) (heg_ i_ (by omega))) ?_
   obtain⟨bw_,ow_,Nw_,fw_,cw_,ew_,hIw_,hiw_,hxw_,hcw_⟩:=(hTr_ Tr_ λ x hx=>hx).get (k:=i_) (by omega)
   refine aB 106 (congrArg (λ v_:Rw=>Value.slice v_.A v_.n v_.c) ew_)<|ae 7 [] λ _=>RN.ct [] [0] (yr (c:=cw_) (j:=J i_) RI (by omega) No (SY i_ (by omega)).1 (i_:Int) (sg hV UF Is Tb (by omega)).t0 ((SY i_ (by omega)).2.mono λ x hx=>aq hx) (aq hE) ((ar 1) _ hIw_) hiw_ (by have:=(Tb i_ (by omega)).1;have:=hV.pl;omega) (by have:=(Tb i_ (by omega)).1;have:=hV.pl;omega) hxw_ (Co hV UF Is Tb (by omega)) (qF UF i_) (by have:=vL (J:=J) hV UF Is Tb (i:=i_+1) (by omega);omega)) ?_
   rintro _ Sy ⟨rfl,Sh⟩
   refine ai 17 [.gen,.nw] [aU ((i_:Int)+1)] λ _=>ld 0 ?_
   refine mt15 (i_+1,Sy) [0,1,2,3] [1,2,0,3,4] ?_
   try dsimp only
   exact⟨⟨by omega,by rw[kq (by rw[uG];omega) []];exact Sh⟩,by omega⟩
  ·refine ae 11 [] λ _=>?_
   obtain rfl:n=i_:=by omega
   have Yf:=RI
   rw[List.take_of_length_le (show (eI pl (((D.drop 1).drop 1).take (n*pl)) n).length <= n by rw[uG];exact Nat.le_refl _)] at Yf
   refine RN.ct (Hp:=[]) (Tp:=[]) [] [] (Lm Yf (ar 0) (n:=n) (by omega) XD) ?_
   rintro _ ⟨Ap_,cp_,Tp_⟩ ⟨rfl,Ya⟩
   dsimp only at Ya
   refine RN.cp (Lr Aq_ Ap_ (md+1) cq_ (md+1) cp_ (fY (((D.drop 1).drop 1).drop (n*pl)) (md+1)) (av (WS S J (eI pl (((D.drop 1).drop 1).take (n*pl)) n)) ev (md+1)) _ (Z6.rowN (ar 2) (nF _ _)) (Ya.rowN (ar 0) (da _ _ _)) (by omega))<|ae 3 [] λ _=>RN.en ((fY (((D.drop 1).drop 1).drop (n*pl)) (md+1))=(av (WS S J (eI pl (((D.drop 1).drop 1).take (n*pl)) n)) ev (md+1))) 118 (λ UM=>?_) λ UM=>?_
   ·refine ae 10 [] λ _=>RN.ret [] [] [1] (v:=.tuple #[vP r9 0,vI 0]) (H':=(ap [] [T_])) ?_
    exact⟨(r9,S10,T_),rfl,.inl ⟨RK,UM,rfl,UF,Yf⟩⟩
   ·refine ae 7 [] λ _=>RN.nt<|RN.ret [] [] [0] (v:=.tuple #[.pointer none,vI 23]) (H':=(ap [] [([]:HL)])) ?_
    exact⟨(0,S,[]),rfl,.inr (.inl ⟨RK,UM,rfl,rfl⟩)⟩
 ·refine pK 2 (x:=((n7+0),.lit [.slice (jf A3 (n*pl) 1 c3) (n3-n*pl) (c3-n*pl),vI 8,vI (pl:Int)] 127 (0,0))) ?_
  obtain⟨A4,n4,c4,hA4,hn4,YJ,hl4⟩:∃ (A_:Option Addr) (n_ c_:Nat),jf A3 (n*pl) 1 c3=A_ /\ n3-(n*pl)=n_ /\ c3-(n*pl)=c_ /\ RowL gS 5 F A_ n_ (((D.drop 1).drop 1).drop (n*pl)):=⟨_,_,_,rfl,rfl,rfl,Sf.drop (by omega) (by omega)⟩
  refine cj 0 (congrArg (λ v_=>(.lit [.slice v_.1 v_.2.1 v_.2.2,vI 8,vI (pl:Int)] 127 (0,0):Blk)) (show ((jf A3 (n*pl) 1 c3,n3-(n*pl),c3-(n*pl)):Option Addr × Nat × Nat)=(A4,n4,c4) by rw[hA4,hn4,YJ]))<|ai 9 [.nw] [0 <= (n:Int) /\ (0:Int)<(ev:Int) /\ (n:Int) <= 9223372036854775807] λ _=>aB 77 (congrArg (λ v_=>(vI v_:Value)) (show (n:Int) / (ev:Int)=(md:Int) by rw[<- XD];first|rfl|norm_cast))<|ai 1 [.nw] [aU ((md:Int)+1)] λ _=>RN.cp (AM (n7+0) n4 c4 pl ((md:Int)+1) A4 8 _ (by decide) (az 0))<|ae 6 [] λ _=>ae 10 [.own 0] λ _=>RN.draw [] []<|ag [] [0,5,1,2,3,4,6] [.own 0]<|RD.fin<|ae 1 [] λ _=>RN.nt<|RN.ret [] [] [0] (v:=.tuple #[.pointer none,vI 8]) (H':=(ap [] [([]:HL)])) ?_
  exact⟨(0,S,[]),rfl,.inr (.inr ⟨hbad_,rfl,rfl⟩)⟩
theorem AP(b:ByteArray)(xs:List Int):lm (jW b xs):=lO _ _
theorem AQ{f:Nat -> Int}{i:Nat}{v:Int}(h:∀j,lm (f j))(hv:lm v)(j:Nat):lm (vK f i v j):=by
 unfold vK
 split
 ·exact hv
 ·exact h j
theorem Mb(xs:List Int)(sz:Nat):∀i j,lm (K6 xs sz i j)
 | 0,_=>⟨Int.le_refl 0,by show (0:Int)<_;decide⟩
 | i+1,j=>AQ (Mb xs sz i) (AP _ _) j
theorem Mc(xs:List Int)(sz:Nat):∀i j,lm (Ii xs sz i j)
 | 0,j=>Mb xs sz _ j
 | i+1,j=>AQ (Mc xs sz i) (AP _ _) j
theorem Md(xs:List Int)(sz:Nat):∀i j,lm (s9 xs sz i j)
 | 0,j=>Mc xs sz _ j
 | i+1,j=>AQ (Md xs sz i) (AP _ _) j
theorem Ls(xs:List Int):lm (ij xs):=Md _ _ _ _
theorem Jb(W:Nat -> List Int)(ev m i:Nat):lm ((av W ev m).getD i 0):=by
 by_cases h:i<m
 ·rw[sB h];exact Ls _
 ·rw[List.getD_eq_getElem?_getD,List.getElem?_eq_none (by rw[da];omega)]
  exact⟨Int.le_refl 0,by show (0:Int)<_;decide⟩
section
variable {D:List Int} {n pl m:Nat}
theorem vQ{j:Nat}(hj:j<n*pl):(((D.drop 1).drop 1).take (n*pl)).getD j 0=D.getD (2+j) 0:=by
 rw[List.getD_eq_getElem?_getD,List.getElem?_take,if_pos hj,List.getElem?_drop,List.getElem?_drop,<- List.getD_eq_getElem?_getD]
 congr 1
 omega
theorem Lt(hl:2+n*pl <= D.length):eI pl (((D.drop 1).drop 1).take (n*pl)) n=iC pl n D:=by
 have hX:(((D.drop 1).drop 1).take (n*pl)).length=n*pl:=by rw[List.length_take,List.length_drop,List.length_drop];omega
 unfold eI iC
 refine List.map_congr_left λ i hi=>?_
 rw[List.mem_range] at hi
 have hm:(i+1)*pl <= n*pl:=Nat.mul_le_mul_right _ hi
 rw[Nat.succ_mul] at hm
 have hlen:=lT hX hi
 apply List.ext_getElem (by rw[hlen];simp)
 intro k k1 k2
 rw[hlen] at k1
 simp only[List.getElem_map,List.getElem_range,ta]
 congr 1
 have:=vQ (D:=D) (n:=n) (pl:=pl) (j:=i*pl+k) (by omega)
 rw[List.getD_eq_getElem?_getD,List.getElem?_eq_getElem (by omega),Option.getD_some] at this
 rw[List.getElem_take,List.getElem_drop,this]
 congr 1
 omega
theorem Jc:fY (((D.drop 1).drop 1).drop (n*pl)) m=dM pl n m D:=by
 unfold fY dM
 rw[List.drop_drop,List.drop_drop,show 1+(1+n*pl)=2+n*pl by omega]
end
theorem Jd(S:Setup)(rs_:List Bx)(ds_:List Dr)(bp ev n md pl dn dc:Nat)(J:Nat -> Nat × Int)(A:Option Addr)(D:List Int)(F:HL)(hS:SetCl F S)(hM:MapIn F S rs_ ds_)(hV:SetV S)(h1:1 <= S.nb)(RY:S.rn <= 1000000)(R3:S.dn <= 1000000)(ID:(sizeOf S).toNat <= 1000000)(hv:i0 S rs_ ds_=0)(No:1 <= ev /\ ev <= 60)(hE:dh F)(hI:lS F)(hl:RowL gS 5 F A dn D)(IF:S.players=(pl:Int))(Is:n <= 50)(XD:n / ev=md)(Zs:dn=2+n*pl+8*(md+1))(hc:dn <= dc)(Zt:D.getD 0 0=(ev:Int))(UG:D.getD 1 0=(n:Int))(XN:∀i,0 <= D.getD i 0 /\ D.getD i 0<256)(SY:∀i,i<n -> (J i).1<5 /\ AtOk F bp (i:Int) (J i)):Sp Tryz.prog 25 #[Setup.v S,vP bp 0,.slice A dn dc] (ap [] []) F (λ u H'=>∃x:Nat × Setup × HL,H'=ap [] [x.2.2] /\ (((∀j,j<n*pl -> D.getD (2+j) 0<36) /\ dM pl n (md+1) D=av (WS S J (iC pl n D)) ev (md+1) /\ u=.tuple #[vP x.1 0,vI 0] /\ SetEq S x.2.1 /\ RecH rs_ ds_ bp ev x.1 S x.2.1 (WS S J (iC pl n D)) n (iC pl n D) x.2.2) \/ ((∀j,j<n*pl -> D.getD (2+j) 0<36) /\ ¬ dM pl n (md+1) D=av (WS S J (iC pl n D)) ev (md+1) /\ u=.tuple #[.pointer none,vI 23] /\ x.2.2=[]) \/ ((∃j,j<n*pl /\ ¬ D.getD (2+j) 0<36) /\ u=.tuple #[.pointer none,vI 8] /\ x.2.2=[]))):=by
 have key:=AO S rs_ ds_ bp ev n md pl dn dc J A D F hS hM hV h1 RY R3 ID hv No hE hI hl IF Is XD Zs hc Zt UG XN SY
 rw[Lt (by rw[hl.len];omega),Jc] at key
 refine key.mono λ u H' h=>?_
 obtain⟨x,h1,h⟩:=h
 refine⟨x,h1,?_⟩
 rcases h with ⟨a,b⟩|⟨a,b⟩|⟨⟨j,hj,a⟩,b⟩
 ·exact .inl ⟨λ j hj=>by rw[<- vQ hj];exact a j hj,b⟩
 ·exact .inr (.inl ⟨λ j hj=>by rw[<- vQ hj];exact a j hj,b⟩)
 ·exact .inr (.inr ⟨⟨j,hj,by rw[<- vQ hj];exact a⟩,b⟩)
theorem QX{x b:Int}(hx:0 <= x /\ x<256)(hb:0 <= b /\ b<256)(h0:¬ b=0):(0 <= u8.wrap ((BitVec.ofInt 8 x ^^^ BitVec.ofInt 8 b).toNat:Int) /\ u8.wrap ((BitVec.ofInt 8 x ^^^ BitVec.ofInt 8 b).toNat:Int)<256) /\ u8.wrap ((BitVec.ofInt 8 x ^^^ BitVec.ofInt 8 b).toNat:Int)≠x:=by
 have hw:u8.wrap ((BitVec.ofInt 8 x ^^^ BitVec.ofInt 8 b).toNat:Int)=((BitVec.ofInt 8 x ^^^ BitVec.ofInt 8 b).toNat:Int):=by
  rw[IntKind.wrap_u8]
  have:=(BitVec.ofInt 8 x ^^^ BitVec.ofInt 8 b).isLt
  omega
 rw[hw]
 have hl:=(BitVec.ofInt 8 x ^^^ BitVec.ofInt 8 b).isLt
 refine⟨by omega,λ e=>h0 ?_⟩
 have e2:(BitVec.ofInt 8 x).toNat=x.toNat:=by rw[BitVec.toNat_ofInt];omega
 have e3:BitVec.ofInt 8 x ^^^ BitVec.ofInt 8 b=BitVec.ofInt 8 x:=BitVec.eq_of_toNat_eq (by omega)
 have e4:BitVec.ofInt 8 b=0#8:=by
  have:BitVec.ofInt 8 x ^^^ (BitVec.ofInt 8 x ^^^ BitVec.ofInt 8 b)=BitVec.ofInt 8 x ^^^ BitVec.ofInt 8 x:=by rw[e3]
  rwa [<- BitVec.xor_assoc,BitVec.xor_self,BitVec.zero_xor] at this
 have e5:=congrArg BitVec.toNat e4
 rw[BitVec.toNat_ofInt] at e5
 simp at e5
 omega
theorem EH{F:HL}{b o c p n:Nat}{full l:List Int}{v:Int}(hq:(b,.rows 1 (o+c) (aJ gS (full.set (o+p) v)) 5 (0,0))∈F)(hf:full.length=o+c)(hn:l.length=n)(hc:n <= c)(hg:∀i,i<n -> full.getD (o+i) 0=l.getD i 0)(hp:p<n):RowL gS 5 F (some ⟨b,o*1,none⟩) n (l.set p v):=by
 refine .rows b o (o+c) _ (0,0) n _ hq (by omega) (by simp[hn]) (λ k h=>?_)
 show (full.set (o+p) v).getD (o+k) 0=(l.set p v).getD k 0
 by_cases e:p=k
 ·subst e
  rw[bF (by omega),bF (by omega)]
 ·rw[bj (by omega),bj e]
  exact hg k h
theorem EI(S:Setup)(rs_:List Bx)(ds_:List Dr)(bp ev n md pl dn dc:Nat)(J:Nat -> Nat × Int)(A:Option Addr)(D:List Int)(F:HL)(hS:SetCl F S)(hM:MapIn F S rs_ ds_)(hV:SetV S)(h1:1 <= S.nb)(RY:S.rn <= 1000000)(R3:S.dn <= 1000000)(ID:(sizeOf S).toNat <= 1000000)(hv:i0 S rs_ ds_=0)(No:1 <= ev /\ ev <= 60)(hE:dh F)(hI:lS F)(hl:RowL gS 5 F A dn D)(IF:S.players=(pl:Int))(Is:n <= 50)(XD:n / ev=md)(Zs:dn=2+n*pl+8*(md+1))(hc:dn <= dc)(Zt:D.getD 0 0=(ev:Int))(UG:D.getD 1 0=(n:Int))(XN:∀i,0 <= D.getD i 0 /\ D.getD i 0<256)(SY:∀i,i<n -> (J i).1<5 /\ AtOk F bp (i:Int) (J i)){xss:List (List Inp)}{D0:List Int}{p:Nat}{v:Int}(hD0:D0=cw ev n xss (av (WS S J xss) ev (md+1)))(hD:D=D0.set p v)(hp:2 <= p)(hp2:p<dn)(Z1:0 <= v /\ v<256)(G_:v≠D0.getD p 0)(hxn:xss.length=n)(oF:∀i,i<n -> fM S.players (xss.getD i [])):Sp Tryz.prog 25 #[Setup.v S,vP bp 0,.slice A dn dc] (ap [] []) F (λ u H'=>∃x:(Nat × Setup × Int × List (List Inp)) × HL,H'=ap [] [x.2] /\ ((2+n*pl <= p /\ u=.tuple #[.pointer none,vI 23] /\ x.2=[]) \/ (p<2+n*pl /\ u=.tuple #[.pointer none,vI x.1.2.2.1] /\ x.2=[]) \/ (p<2+n*pl /\ u=.tuple #[vP x.1.1 0,vI 0] /\ SetEq S x.1.2.1 /\ RecH rs_ ds_ bp ev x.1.1 S x.1.2.1 (WS S J x.1.2.2.2) n x.1.2.2.2 x.2 /\ x.1.2.2.2.length=n /\ (∀i,i<n -> fM S.players (x.1.2.2.2.getD i [])) /\ cw ev n x.1.2.2.2 (av (WS S J x.1.2.2.2) ev (md+1))=D0.set p v))):=by
 have hrow2:=oF
 rw[IF] at oF
 have Rg:∀x∈xss,x.length=pl:=λ x hx=>by
  obtain⟨i,hi,rfl⟩:=List.getElem_of_mem hx
  have:=(oF i (by omega)).1
  rw[List.getD_eq_getElem?_getD,List.getElem?_eq_getElem hi,Option.getD_some] at this
  omega
 have hpl1:0<pl:=by have:=hV.pl;omega
 have hlen0:D0.length=dn:=by rw[hD0,sw Rg hxn,da,Zs]
 have h80:∀i,0 <= D0.getD i 0 /\ D0.getD i 0<256:=by rw[hD0];exact sy λ x hx=>lQ hx
 have e1:iC pl n D0=xss:=by rw[hD0];exact IR hxn oF
 have e2:dM pl n (md+1) D0=av (WS S J xss) ev (md+1):=by
  have:=AC (ev:=ev) (roots:=av (WS S J xss) ev (md+1)) hxn Rg (Jb _ _ _)
  rw[da] at this
  rw[hD0];exact this
 have e3:∀j,j<n*pl -> D0.getD (2+j) 0<36:=by rw[hD0];exact Es hxn oF hpl1
 have RH:∀i,i≠p -> D.getD i 0=D0.getD i 0:=λ i hi=>by rw[hD,bj (λ e=>hi e.symm)]
 have hat:D.getD p 0=v:=by rw[hD,bF (by omega)]
 refine(Jd S rs_ ds_ bp ev n md pl dn dc J A D F hS hM hV h1 RY R3 ID hv No hE hI hl IF Is XD Zs hc Zt UG XN SY).mono λ u H' h=>?_
 obtain⟨⟨rp,S2,G⟩,h1,h⟩:=h
 dsimp only at h1 h
 by_cases VE:2+n*pl <= p
 ·-- a byte of a root
  have e4:iC pl n D=xss:=by rw[<- e1];exact Lj λ j hj=>RH _ (by omega)
  have e5:∀j,j<n*pl -> D.getD (2+j) 0<36:=λ j hj=>by rw[RH _ (by omega)];exact e3 j hj
  have e6:dM pl n (md+1) D≠av (WS S J xss) ev (md+1):=by
   rw[<- e2]
   exact Et XN h80 VE (by omega) (by rw[hat];exact G_)
  rw[e4] at h
  rcases h with ⟨_,a,_⟩|⟨_,_,b⟩|⟨⟨j,hj,a⟩,_⟩
  ·exact absurd a e6
  ·exact⟨((0,S,0,[]),G),h1,.inl ⟨VE,b⟩⟩
  ·exact absurd (e5 j hj) a
 ·rcases h with ⟨a,a2,b1,b2,b3⟩|⟨_,_,b⟩|⟨_,b⟩
  ·refine⟨((rp,S2,0,iC pl n D),G),h1,.inr (.inr ⟨by omega,b1,b2,b3,lR _ _ _,λ i hi=>by rw[IF];exact Lh XN a hi,?_⟩)⟩
   have e7:av (WS S J (iC pl n D)) ev (md+1)=dM pl n (md+1) D:=a2.symm
   show cw ev n (iC pl n D) (av (WS S J (iC pl n D)) ev (md+1))=_
   rw[e7,<- hD]
   refine Li XN a hpl1 (by rw[hl.len];exact Zs) ?_ ?_
   ·rw[Zt,IntKind.wrap_u8];omega
   ·rw[UG,IntKind.wrap_u8];omega
  ·exact⟨((0,S,23,[]),G),h1,.inr (.inl ⟨by omega,b⟩)⟩
  ·exact⟨((0,S,8,[]),G),h1,.inr (.inl ⟨by omega,b⟩)⟩
theorem Lu{BH:Int}{ev n m p:Nat}{xss ZJ:List (List Inp)}{W W2:Nat -> List Int}{v:Int}(hm:n / ev=m)(he:cw ev n ZJ (av W2 ev (m+1))=(cw ev n xss (av W ev (m+1))).set p v)(hp:p<(cw ev n xss (av W ev (m+1))).length)(G_:v≠(cw ev n xss (av W ev (m+1))).getD p 0):sF BH ev n ZJ W2≠sF BH ev n xss W:=λ h=>by
 unfold sF at h
 rw[hm] at h
 have h2:=Eo (yE _ _) (yE _ _) h
 rw[he] at h2
 have h8:=sy (l:=cw ev n xss (av W ev (m+1))) λ x hx=>lQ hx
 have Wn:∀i,0 <= ((cw ev n xss (av W ev (m+1))).set p v).getD i 0 /\ ((cw ev n xss (av W ev (m+1))).set p v).getD i 0<256:=by rw[<- he];exact sy λ x hx=>lQ hx
 have h3:=AA (by simp) Wn h8 (p:=p) (by simpa using hp) (λ i hi=>bj (λ e=>hi e.symm)) h2
 rw[bF hp] at h3
 exact G_ h3
theorem Je(A0 AI:Option Addr)(n0 c0 nI cI:Nat)(xs xI:List Int)(i1 i2 i4 i5 i6:Int)(F:HL)(YZ:pV F)(W9:dh F)(hE2:lS F)(Uq:ArgD F A0 n0 xs)(Vo:n0 <= 9223372036854775807)(Sf:ArgD F AI nI xI)(hn3:nI <= 9223372036854775807)(Zp:ol i1)(UE:ol i2)(hi4:ol i4)(hi5:ol i5)(hi6:0 <= i6 /\ i6<256):Sp Tryz.prog 6 #[.slice A0 n0 c0,vI i1,vI i2,.slice AI nI cI,vI i4,vI i5,.int .u8 i6] [] F (λ u H'=>u=.bool true /\ H'=[]):=by
 refine Sp.run Tryz.func6 rfl mn (A:=[]) (Ts:=[]) rfl λ w0=>?_
 refine ae 8 [] λ _=>RN.ct (Hp:=[]) (Tp:=[]) [] [] (Uq.up.use λ F_ h_=>Dx A0 n0 c0 xs _ h_ Vo) ?_
 rintro _ ⟨S,TS⟩ ⟨rfl,hG⟩
 dsimp only at hG
 have hF:=Nw Uq hG
 have IF:=hF.pl
 have WL:=hF.nb
 have RY:=hF.rn
 have R3:=hF.dn
 have ID:=hF.sz
 have Tf:=gL S S.nb
 have hV:SetV S:=Uq.ex.elim λ _ h_=>setV h_ hG
 refine ae 7 (ow 0 16) λ n1=>RN.ct (Hp:=[]) (Tp:=[]) [] [] (sj i1 _ Zp (aq YZ)) ?_
 rintro _ ⟨b2,T3⟩ ⟨rfl,W_⟩
 dsimp only at W_
 have SG:(au i1 5).toNat<5:=by have:=cq (n:=i1) Zp 5 (by decide);omega
 have RS:(au (i64.wrap (i1+1)) 5).toNat<5:=by have:=cq (n:=(i64.wrap (i1+1))) (IA _) 5 (by decide);omega
 obtain⟨j1,ej1⟩:∃j,(au i1 5).toNat=j:=⟨_,rfl⟩
 obtain⟨j2,ej2⟩:∃j,(au (i64.wrap (i1+1)) 5).toNat=j:=⟨_,rfl⟩
 rw[ej1] at SG
 rw[ej2] at RS
 rw[ej1,ej2] at W_
 refine ae 8 (ow 0 16) λ _=>?_
 obtain⟨cnt,hcnt,hcl⟩:∃cnt:Nat,au i4 10=(cnt:Int) /\ cnt <= 9:=⟨(au i4 10).toNat,by have:=cq (n:=i4) hi4 10 (by decide);omega,by have:=cq (n:=i4) hi4 10 (by decide);omega⟩
 refine RN.ct (Hp:=[]) (Tp:=[]) [] [] (Sf.up.use λ F_ h_=>Aw S AI nI cI xI i4 cnt F_ h_ hn3 (by omega) hcnt (by omega)) ?_
 rintro _ ⟨⟨A5,c6,rs7⟩,E8,T9⟩ ⟨rfl,Vg,hl11,hT12⟩
 dsimp only at Vg hl11 hT12
 have hgr:∀i,i<cnt -> fM S.players ((aP S.players xI cnt).getD i []):=λ i hi=>Sf.ex.elim λ _ h_=>Au h_ (by omega) cnt i hi
 have hcap_:cnt <= c6:=by have h_:=Vg.capL;omega
 refine ae 6 [] λ _=>RN.cp (gt i2 4 (by decide) _) ?_
 have hA13:=cq (n:=i2) UE 4 (by decide)
 refine ai 10 ([.nw]++ow 0 16) [aU (1+(au i2 4))] λ _=>?_
 obtain⟨u_,he1,Vy⟩:∃ev:Nat,1+(au i2 4)=(ev:Int) /\ (1 <= ev /\ ev <= 60):=⟨(1+(au i2 4)).toNat,by have:=cq (n:=i2) UE 4 (by decide);omega,by have:=cq (n:=i2) UE 4 (by decide);omega⟩
 refine RN.ct (Hp:=[]) (Tp:=[]) [] [] (NI S vi (lB (kv xs 3 % 3).toNat) b2 u_ cnt c6 (qE 4 j1 j2 0) A5 rs7 (aP S.players xI cnt) _ (hG.sin _ (az 1) (ar 3)).cl (hG.maps.2 _ (ar 3)) hV (by omega) (by omega) (by omega) (by omega) hF.val Vy (aq W9) (Vg.rowN (ar 0) hl11) (hT12 _ (ar 1)) (by omega) hgr (λ i hi=>Cm W_ (ar 2) SG RS (t:=0+i) (by omega)) he1) ?_
 rintro _ ⟨r14,S15,TF⟩ ⟨rfl,YD,Sh⟩
 dsimp only at YD Sh
 refine ae 6 [] λ _=>?_
 obtain⟨Uj,Q7⟩:∃m,cnt / u_=m:=⟨_,rfl⟩
 have Ti:Uj <= cnt:=by rw[<- Q7];exact Nat.div_le_self _ _
 obtain⟨pn,hpn⟩:∃pn:Nat,S.players=(pn:Int):=⟨S.players.toNat,by omega⟩
 have Q3:∀x∈(aP S.players xI cnt),x.length=pn:=λ x hx=>by obtain⟨i,hi,rfl⟩:=List.getElem_of_mem hx;have h_:=(hgr i (by rwa [nD] at hi)).1;rw[List.getD_eq_getElem?_getD,List.getElem?_eq_getElem hi,Option.getD_some] at h_;omega
 have hcp_:cnt*pn <= 9*3:=Nat.mul_le_mul hcl (by omega)
 have hcz_:(0:Int) <= (cnt:Int)*(pn:Int):=Int.mul_nonneg (by omega) (by omega)
 refine ae 8 [] λ _=>RN.em (i6=0) 47 (λ UM=>?_) λ UM=>?_
 ·refine ae 6 [] λ _=>RN.cp (jD _ (aq YZ) (aq W9))<|ae 4 [] λ _=>?_
  exact RN.ret [] [] [] ⟨rfl,rfl⟩
 ·refine ae 6 [] λ _=>RN.ct (Hp:=[]) (Tp:=[]) [] [] (PN Sh (ar 0) (Nat.lt_of_le_of_lt Vy.2 (by decide)) (by omega) (λ i hi=>by have h_:=(hgr i hi).1;omega)) ?_
  rintro _ ⟨A20,ZD,Xh⟩ ⟨rfl,Yc⟩
  dsimp only at Yc
  have Yr:(cw u_ cnt (aP S.players xI cnt) (av (WS S (qE 4 j1 j2 0) (aP S.players xI cnt)) u_ (cnt / u_+1))).length=2+cnt*pn+8*(cnt / u_+1):=by rw[sw (pl:=pn) Q3 (nD _ _ _),da]
  refine ae 5 [] λ _=>?_
  have hlm_:(cw u_ cnt (aP S.players xI cnt) (av (WS S (qE 4 j1 j2 0) (aP S.players xI cnt)) u_ (cnt / u_+1))).length=2+cnt*pn+8*(Uj+1):=by rw[Yr,Q7]
  obtain⟨db_,S4,ZC,rfl,rfl,hdf_,hdc_,hdg_⟩:=Yc.open (by omega)
  refine pK 0 (x:=(db_,.rows 1 (S4+ZD) (aJ gS ZC) 5 (0,0)))<|ae 10 [.own 1] λ _=>aB 59 (congrArg (λ v_=>(vI v_:Value)) hpn)<|ai 1 [.nw] [aU ((cnt:Int)*(pn:Int))] λ _=>aB 60 (congrArg (λ v_=>(vI v_:Value)) (Int.natCast_mul cnt pn).symm)<|ai 13 [.nw] [aU (2+((cnt*pn:Nat):Int))] λ _=>RN.em ((((cw u_ cnt (aP S.players xI cnt) (av (WS S (qE 4 j1 j2 0) (aP S.players xI cnt)) u_ (cnt / u_+1))).length:Nat):Int) <= 2+((cnt*pn:Nat):Int)) 65 (λ h25=>?_) λ h25=>?_
  ·(exfalso;omega)
  ·refine ai 11 [.nw] [aU ((((cw u_ cnt (aP S.players xI cnt) (av (WS S (qE 4 j1 j2 0) (aP S.players xI cnt)) u_ (cnt / u_+1))).length:Nat):Int)-2)] λ _=>?_
   obtain⟨Q_,hkp_,hkl_⟩:∃kk:Nat,au i5 ((((cw u_ cnt (aP S.players xI cnt) (av (WS S (qE 4 j1 j2 0) (aP S.players xI cnt)) u_ (cnt / u_+1))).length:Nat):Int)-2)=(kk:Int) /\ kk<0+cnt*pn+8*(Uj+1):=⟨(au i5 ((((cw u_ cnt (aP S.players xI cnt) (av (WS S (qE 4 j1 j2 0) (aP S.players xI cnt)) u_ (cnt / u_+1))).length:Nat):Int)-2)).toNat,by have:=cq (n:=i5) hi5 ((((cw u_ cnt (aP S.players xI cnt) (av (WS S (qE 4 j1 j2 0) (aP S.players xI cnt)) u_ (cnt / u_+1))).length:Nat):Int)-2) (by omega);omega,by have:=cq (n:=i5) hi5 ((((cw u_ cnt (aP S.players xI cnt) (av (WS S (qE 4 j1 j2 0) (aP S.players xI cnt)) u_ (cnt / u_+1))).length:Nat):Int)-2) (by omega);omega⟩
   refine RN.cp (yp hkp_ (by omega) _)<|ai 14 [.nw,.ix (2+Q_),.row 0 (S4+(2+Q_)) 0] [(S4*1+(2+Q_)*1)=(S4+(2+Q_))*1+0 /\ (S4+(2+Q_))<(S4+ZD),2+(Q_:Int)=(((2+Q_):Nat):Int) /\ (2+Q_)<((cw u_ cnt (aP S.players xI cnt) (av (WS S (qE 4 j1 j2 0) (aP S.players xI cnt)) u_ (cnt / u_+1))).length),aU (2+(Q_:Int))] λ _=>?_
   obtain⟨v_,hv_⟩:∃v,u8.wrap ((BitVec.ofInt 8 (ZC.getD (S4+(2+Q_)) 0) ^^^ BitVec.ofInt 8 i6).toNat:Int)=v:=⟨_,rfl⟩
   refine aB 81 (congrArg (λ v_=>(.int .u8 v_:Value)) hv_)<|ai 6 [.ix (2+Q_),.row 0 (S4+(2+Q_)) 0] [(S4*1+(2+Q_)*1)=(S4+(2+Q_))*1+0 /\ (S4+(2+Q_))<(S4+ZD),2+(Q_:Int)=(((2+Q_):Nat):Int) /\ (2+Q_)<((cw u_ cnt (aP S.players xI cnt) (av (WS S (qE 4 j1 j2 0) (aP S.players xI cnt)) u_ (cnt / u_+1))).length)] λ _=>cj 0 (congrArg (λ v_=>(.rows 1 (S4+ZD) v_ 5 (0,0):Blk)) (show (db (aJ gS ZC) (S4+(2+Q_)) 0 (.int .u8 v_))=(aJ gS (ZC.set (S4+(2+Q_)) v_)) from (L7 (by omega) _))) ?_
   have hdp_:ZC.getD (S4+(2+Q_)) 0=(cw u_ cnt (aP S.players xI cnt) (av (WS S (qE 4 j1 j2 0) (aP S.players xI cnt)) u_ (cnt / u_+1))).getD (2+Q_) 0:=hdg_ (2+Q_) (by omega)
   have h80_:=sy (l:=(cw u_ cnt (aP S.players xI cnt) (av (WS S (qE 4 j1 j2 0) (aP S.players xI cnt)) u_ (cnt / u_+1)))) λ x hx=>lQ hx
   have TM:=QX (x:=ZC.getD (S4+(2+Q_)) 0) (b:=i6) (by have h_:=h80_ (2+Q_);rw[<- hdp_] at h_;exact h_) hi6 (by assumption)
   rw[hv_] at TM
   rw[hdp_] at TM
   have hD8_:∀i,0 <= ((cw u_ cnt (aP S.players xI cnt) (av (WS S (qE 4 j1 j2 0) (aP S.players xI cnt)) u_ (cnt / u_+1))).set (2+Q_) v_).getD i 0 /\ ((cw u_ cnt (aP S.players xI cnt) (av (WS S (qE 4 j1 j2 0) (aP S.players xI cnt)) u_ (cnt / u_+1))).set (2+Q_) v_).getD i 0<256:=λ i=>by by_cases e_:(2+Q_)=i;rw[<- e_,bF (by omega)];exact TM.1;rw[bj e_];exact h80_ i
   refine ae 3 (ow 1 16) λ _=>RN.ct (Hp:=[]) (Tp:=[]) [] [] (EI S vi (lB (kv xs 3 % 3).toNat) b2 u_ cnt Uj pn (cw u_ cnt (aP S.players xI cnt) (av (WS S (qE 4 j1 j2 0) (aP S.players xI cnt)) u_ (cnt / u_+1))).length ZD (qE 4 j1 j2 0) (some ⟨db_,S4*1,none⟩) ((cw u_ cnt (aP S.players xI cnt) (av (WS S (qE 4 j1 j2 0) (aP S.players xI cnt)) u_ (cnt / u_+1))).set (2+Q_) v_) _ (hG.sin _ (az 2) (ar 4)).cl (hG.maps.2 _ (ar 4)) hV (by omega) (by omega) (by omega) (by omega) hF.val Vy (aq W9) (aq hE2) (EH (b:=db_) (p:=(2+Q_)) (az 0) hdf_ rfl hdc_ hdg_ (by omega)) hpn (by omega) Q7 hlm_ hdc_ (by rw[bj (by omega),IP,IntKind.wrap_u8];omega) (by rw[bj (by omega),IQ,IntKind.wrap_u8];omega) hD8_ (λ i hi=>Cm W_ (ar 3) SG RS (t:=0+i) (by omega)) (xss:=(aP S.players xI cnt)) (D0:=(cw u_ cnt (aP S.players xI cnt) (av (WS S (qE 4 j1 j2 0) (aP S.players xI cnt)) u_ (cnt / u_+1)))) (p:=(2+Q_)) (v:=v_) (by rw[Q7]) rfl (by omega) (by omega) TM.1 TM.2 (nD _ _ _) hgr) ?_
   rintro v0_ ⟨⟨r26,S27,e28,Xk⟩,Zf⟩ (⟨YN,rfl,eT_⟩|⟨YN,rfl,eT_⟩|⟨YN,rfl,he32,hr33,ZU,Xr,Va⟩)
   ·refine ae 15 [] λ _=>RN.em (2+(Q_:Int) >= 2+((cnt*pn:Nat):Int)) 92 (λ h37=>?_) λ h37=>?_
    ·refine ae 10 [] λ _=>RN.cp (jD _ (aq YZ) (aq W9))<|ae 4 [] λ _=>?_
     exact RN.ret [] [] [] ⟨rfl,rfl⟩
    ·(exfalso;omega)
   ·refine ae 15 [] λ _=>RN.em (2+(Q_:Int) >= 2+((cnt*pn:Nat):Int)) 92 (λ Y_=>?_) λ Y_=>?_
    ·(exfalso;omega)
    ·refine ae 15 [] λ _=>RN.cp (jD _ (aq YZ) (aq W9))<|ae 4 [] λ _=>?_
     exact RN.ret [] [] [] ⟨rfl,rfl⟩
   ·dsimp only at he32 hr33 ZU Xr Va
    refine ae 15 [] λ _=>RN.em (2+(Q_:Int) >= 2+((cnt*pn:Nat):Int)) 92 (λ h39=>?_) λ h39=>?_
    ·(exfalso;omega)
    ·refine ae 9 [] λ _=>?_
     obtain⟨BZ,hBZ⟩:∃z,AF 4 j1 j2=z:=⟨_,rfl⟩
     obtain⟨y40,ZS⟩:∃z,sF BZ u_ cnt Xk (WS S (qE 4 j1 j2 0) Xk)=z:=⟨_,rfl⟩
     refine RN.cp (IZ hr33 (ar 0) (Nat.lt_of_le_of_lt Vy.2 (by decide)) (by omega) (λ i hi=>by have h_:=(Xr i hi).1;omega) BZ (λ F_ hF_=>IY W_ (λ x hx=>hF_ x ((ar 4) x hx)) SG RS hBZ) ZS)<|ae 1 [] λ _=>?_
     obtain⟨y41,ZR⟩:∃z,sF BZ u_ cnt (aP S.players xI cnt) (WS S (qE 4 j1 j2 0) (aP S.players xI cnt))=z:=⟨_,rfl⟩
     refine RN.cp (IZ Sh (ar 1) (Nat.lt_of_le_of_lt Vy.2 (by decide)) (by omega) (λ i hi=>by have h_:=(hgr i hi).1;omega) BZ (λ F_ hF_=>IY W_ (λ x hx=>hF_ x ((ar 4) x hx)) SG RS hBZ) ZR)<|ae 3 [] λ _=>RN.en (y40=y41) 111 (λ h42=>?_) λ h42=>?_
     ·exact absurd ((ZS.trans h42).trans ZR.symm) (Lu Q7 (by rw[Q7] at Va;exact Va) (by rw[Q7] at hlm_;omega) (by rw[Q7] at TM;exact TM.2))
     ·refine RN.cp (jD _ (aq YZ) (aq W9))<|ae 4 [] λ _=>?_
      exact RN.ret [] [] [] ⟨rfl,rfl⟩
open Go.ChangeShapes Go.WideShapes Go.ChangeAt
theorem Jf:ownKnob Tryz.prog.godebug=none:=by kernel_rfl
theorem Jg:laidOutB Tryz.prog=true:=by kernel_rfl
theorem ku{n:Int}(h:(Lit.int .i64 n).wf=true):-9223372036854775808 <= n /\ n <= 9223372036854775807:=bounds_i64 h
section
variable {H:Type} {enc:TypeId × Value -> H} {P:Program} {W W':World}
theorem mS(hl:laidOutB P=true)(hb:Below W.heap.size W W'):∀ {ts:List TypeId} {vs:List Value} {ds:List (DataW H)} {ps:List MemPlace},(∀t∈ts,P.readableRec t=true /\ t<P.types.size) ->
  DataW.TrodAll enc P W 0 (λ _=>true) true ts vs ds ps -> (∀x∈ps,x.block<W.heap.size) -> DataW.TrodAll enc P W' 0 (λ b=>decide (b<W.heap.size)) true ts vs ds ps
 | [],_,_,_,_,h,_=>by
  obtain⟨rfl,rfl,rfl⟩:=trodAll_nil h
  exact trodAll_mk0
 | t::ts,_,_,_,ht,h,iF=>by
  obtain⟨v,vs1,d,ds1,a,b,rfl,rfl,rfl,h1,h2⟩:=trodAll_cons h
  have h3:=ht t (by simp)
  exact trodAll_cons_mk (Below.trod hl h3.1 h3.2 h1 hb (λ x hx=>iF x (by simp[hx]))) (mS hl hb (λ t h=>ht t (List.mem_cons_of_mem _ h)) h2 (λ x hx=>iF x (by simp[hx])))
theorem Jh{f:Func}{s:ChangeSpec}{apart fresh handsOn:Bool}{args:Array Value}{v:Value}{ds:List (DataW H)}{before:List MemPlace}(hl:laidOutB P=true)
  (hts:∀t∈f.params.toList,P.readableRec t=true /\ t<P.types.size)
  (hW:DataW.Whole enc P f.params.toList s.vars apart W args.toList ds [] before) (hs:s.vars=[])
  (hA:DataW.TrodAll enc P W 0 (λ _=>true) true f.params.toList args.toList ds before)
  (SD:∀ (b:Nat) (sp:Nat -> Bool) (hd:Bool),DataW.TrodAll enc P W' b sp hd f.resultTypes.toList (v.resultList f.resultTypes.size) (s.fn H (ds++[])).results [])
  (Uv:(s.fn H (ds++[])).args=ds) (Z0:∀sp,DataW.TrodVars enc P W' sp s.vars (s.fn H (ds++[])).vars []) (hb:Below W.heap.size W W') :
  s.post enc P f apart fresh handsOn false W args v W':=by
 refine⟨ds,[],before,[],before,[],hW,SD _ _ _,?_,Z0 _,hb.frame _,λ h=>by cases h⟩
 rw[Uv]
 exact mS hl hb hts hA (λ x hx=>hW.lt x hx)
end
def sH:Obj -> Blk
 | .cells cs ty fz=>.rows 1 cs.size (λ i _=>cs.getD i default) ty fz
 | o=>.obj o
theorem my(o:Obj):(sH o).den=o:=by
 cases o with
 | cells cs ty fz =>
  show Obj.cells ⟨bm 1 (λ i _=>cs.getD i default) cs.size⟩ ty fz=_
  congr 1
  have e:bm 1 (λ i _=>cs.getD i default) cs.size=cs.toList:=by
   refine iI (by simp) ?_
   intro i k hi hk
   obtain rfl:k=0:=by omega
   simp[Array.getD,hi]
  rw[e]
 | _=>rfl
def lU(w:World):HL:=List.ofFn (λ k:Fin w.heap.size=>(k.1,sH w.heap[k.1]))
theorem sI{w:World}{k:Nat}{o:Obj}(h:w.heap[k]?=some o):(k,sH o)∈lU w:=by
 obtain⟨hk,he⟩:=Array.getElem?_eq_some_iff.1 h
 exact List.mem_ofFn.2 ⟨⟨k,hk⟩,by simp[he]⟩
theorem AR(w:World):Rel (lU w) w:=by
 refine⟨λ x hx=>?_,?_⟩
 ·obtain⟨k,rfl⟩:=List.mem_ofFn.1 hx
  simp[my]
 ·unfold lU
  rw[List.map_ofFn]
  have e:List.ofFn ((λ x:Nat × Blk=>x.1) ∘ λ k:Fin w.heap.size=>(k.1,sH w.heap[k.1]))=List.range w.heap.size:=by
   apply List.ext_getElem
   ·simp
   ·intro i h1 h2;simp
  rw[e]
  exact List.nodup_range
theorem EJ{P:Program}{f:FuncId}{args:Array Value}{v:Value}(w:World)(h:Sp P f args [] (lU w) (λ u H'=>u=v /\ H'=[])):Calls P f args w λ e w'=>e=.returned v /\ Below w.heap.size w w':=by
 refine(h w (AR w)).mono ?_
 rintro e w' ⟨u,H',rfl,⟨rfl,rfl⟩,Q1,hB⟩
 refine⟨rfl,hB.os,hB.tape,hB.output,hB.size,λ k hk=>?_⟩
 have:=Q1.holds (k,sH w.heap[k]) (by rw[List.nil_append];exact sI (by simp[hk]))
 rw[this]
 simp[my,hk]
theorem yO{H:Type}{enc:TypeId × Value -> H}{w:World}{r:Reach}{b0:Nat}{v:Value}{d:DataW H}{ps:List MemPlace}(IN:Value.okWide Tryz.prog w r b0 22 v)(hd:DataW.Trod enc Tryz.prog w 0 (λ _=>true) true 22 v d ps) :
  ∃ (A:Option Addr) (n cap:Nat) (xs:List Int),v=.slice A n cap /\ n <= 9223372036854775807 /\ ArgL (lU w) A n xs /\ n <= cap:=by
 obtain⟨a0,len,cap,rfl⟩:=okWide_slice Tryz.underlying22 IN
 obtain⟨fuel,hf⟩:=hd
 rcases open_ints Tryz.underlying22 Tryz.underlying3 (by kernel_rfl) hf with ⟨hcs,hx⟩|⟨a,len',bY,zs,hcs,_,hl,hm,hz,hx,Re,hwz⟩
 ·simp[Value.cells] at hcs
  obtain⟨rfl,rfl,rfl⟩:=hcs
  exact⟨none,0,0,[],rfl,by omega,.zero _,Nat.le_refl _⟩
 ·simp[Value.cells] at hcs
  obtain⟨rfl,rfl,rfl⟩:=hcs
  unfold maxLen at hm
  simp at hz
  rcases Nat.eq_zero_or_pos len with h0|Yj
  ·subst h0
   exact⟨some a,0,_,[],rfl,by omega,.zero _,Nat.zero_le _⟩
  ·have hlz:len <= zs.length:=by omega
   obtain⟨b,off,spot⟩:=a
   have c0:=Re 0 (by omega)
   have Un:spot=none:=by
    cases spot with
    | none=>rfl
    | some s=>simp[Addr.add,World.cell?] at c0;split at c0 <;> simp at c0
   subst Un
   have hc:∀i,i<zs.length -> w.cell? ⟨b,off+i,none⟩=some (.int .i64 (zs.getD i 0)):=λ i hi=>by
    have:=Re i hi
    unfold Addr.add at this
    by_cases h:i=0
    ·subst h;simpa using this
    ·rw[if_neg h] at this;exact this
   have h0:=hc 0 (by omega)
   unfold World.cell? at h0
   split at h0
   case h_2=>cases h0
   rename_i cs ty fz hb
   refine⟨some ⟨b,off,none⟩,len,cap,zs.take len,rfl,by omega,?_,hl⟩
   have hlen:(zs.take len).length=len:=by rw[List.length_take];omega
   have hcs:∀k,k<len -> cs[off+k]?=some (vI ((zs.take len).getD k 0)):=λ k hk=>by
    have h1:=hc k (by omega)
    unfold World.cell? at h1
    rw[show w.heap[(⟨b,off+k,none⟩:Addr).block]?=some (.cells cs ty fz) from hb] at h1
    have h2:cs[off+k]?=some (.int .i64 (zs.getD k 0)):=by simpa using h1
    rw[h2]
    simp[List.getD_eq_getElem?_getD,List.getElem?_take,hk]
   have hmem:=sI hb
   have hle:off+len <= cs.size:=by
    have h1:=hcs (len-1) (by omega)
    have h2:=(Array.getElem?_eq_some_iff.1 h1).1
    omega
   have:=ArgL.cells (F:=lU w) b off cs.size (λ i _=>cs.getD i default) ty fz (zs.take len) hmem (by rw[hlen];exact hle) (λ k hk=>by
    rw[hlen] at hk
    have h1:=hcs k hk
    simp only[Array.getD_eq_getD_getElem?]
    rw[h1];rfl) (λ k hk=>by
    rw[hlen] at hk
    have:(zs.take len).getD k 0∈zs:=by
     rw[List.getD_eq_getElem?_getD,List.getElem?_eq_getElem (by omega)]
     exact List.mem_of_mem_take (List.getElem_mem _)
    exact ku (hwz _ this))
   rw[hlen] at this
   exact this
theorem tc{H:Type}{enc:TypeId × Value -> H}{P:Program}{w:World}{base:Nat}{sp:Nat -> Bool}{held:Bool}{fuel:Nat}{t e:TypeId}{n m:Nat}{k:IntKind}{fs:Array Field}{cs:List Value}{zs:List (List Int)}{p:List MemPlace}
  (ht:P.underlying t=some (.array n e)) (he:P.underlying e=some (.struct fs)) (Zu:P.cellsOf e=m) (hct:P.cellsOf t=n*m) (hm:0<m) (Rt:fs.toList.length=m)
  (hf:∀ (j:Nat) f,fs.toList[j]?=some f -> P.underlying f.type=some (.int k) /\ P.cellsOf f.type=1 /\ f.offset=j) (hz:∀z∈zs,z.length=m)
  (h:DataW.trod enc P w base sp held fuel t cs=some (.agg (zs.map λ z=>.agg (z.map λ x=>.lit (.int k x))),p)) :
  cs.length=n*m /\ zs.length=n /\ ∀i j,i<n -> j<m -> cs[i*m+j]?=some (.int k ((zs.getD i []).getD j 0)):=by
 cases fuel with
 | zero=>simp[DataW.trod] at h
 | succ fuel =>
  simp only[DataW.trod,ht,Zu,hct] at h
  split at h
  case isFalse=>cases h
  rename_i hl
  obtain⟨xs,hmm,hx⟩:=Option.map_eq_some_iff.1 h
  have hxs:xs.map (·.1)=zs.map λ z=>(DataW.agg (z.map λ x=>.lit (.int k x)):DataW H):=by
   have:=congrArg Prod.fst hx
   simpa using this
  have hxl:xs.length=n:=by simpa using Lib.mapM_length hmm
  have TK:zs.length=n:=by
   have:=congrArg List.length hxs
   simp at this
   omega
  refine⟨hl,TK,λ i j hi hj=>?_⟩
  obtain⟨b,hb,Zr⟩:=Lib.mapM_at hmm i i (by simp[hi])
  have hbz:b.1=.agg ((zs.getD i []).map λ x=>.lit (.int k x)):=by
   have h2:(xs.map (·.1))[i]?=some b.1:=by simp[hb]
   rw[hxs,List.getElem?_map,List.getElem?_eq_getElem (by omega)] at h2
   simp only[Option.map_some,Option.some.injEq] at h2
   rw[<- h2,List.getD_eq_getElem?_getD,List.getElem?_eq_getElem (by omega)]
   rfl
  have hzi:(zs.getD i []).length=m:=by
   rw[List.getD_eq_getElem?_getD,List.getElem?_eq_getElem (by omega)]
   exact hz _ (List.getElem_mem _)
  cases fuel with
  | zero=>simp[DataW.trod] at Zr
  | succ fuel =>
   have WU:=Zr
   simp only[DataW.trod,he,Zu] at WU
   split at WU
   case isFalse=>cases WU
   rename_i hcl
   obtain⟨ys,hym,hy⟩:=Option.map_eq_some_iff.1 WU
   have hys:ys.map (·.1)=(zs.getD i []).map λ x=>(DataW.lit (.int k x):DataW H):=by
    have:=congrArg Prod.fst hy
    rw[hbz] at this
    simpa using this
   have hfj:fs.toList[j]?=some (fs.toList[j]'(by omega)):=List.getElem?_eq_getElem (by omega)
   obtain⟨c,hc,Zq⟩:=Lib.mapM_at hym j _ hfj
   obtain⟨f1,f2,f3⟩:=hf j _ hfj
   rw[f2,f3] at Zq
   obtain⟨x,hcx,hcd,_⟩:=DataW.trod_int f1 Zq
   have h1:(((cs.drop (i*m)).take m).drop j).take 1=[.int k x]:=hcx
   have h2:cs[i*m+j]?=some (.int k x):=by
    have:=congrArg (·[0]?) h1
    simpa [List.getElem?_take,List.getElem?_drop,hj] using this
   have h3:(ys.map (·.1))[j]?=some (DataW.lit (.int k x):DataW H):=by simp[hc,hcd]
   rw[hys,List.getElem?_map,List.getElem?_eq_getElem (by omega)] at h3
   simp only[Option.map_some,Option.some.injEq,DataW.lit.injEq,Lit.int.injEq,true_and] at h3
   have h4:∀l:List Int,(hl:j<l.length) -> l[j]=l.getD j 0:=λ l hl=>by simp[List.getD_eq_getElem?_getD,hl]
   rw[h2,<- h3,h4 _ (by omega)]
theorem kQ{H:Type}{enc:TypeId × Value -> H}{a:Assume}{C:Checked}{os:Os}{f:FuncId}{fn:Func}{s:ChangeSpec}{conds:List PathCond}{apart fresh handsOn again:Bool}{X:World -> Array Value -> Prop}
  (hX:∀ (w w':World) (args:Array Value),w.heap=w'.heap -> X w args -> X w' args)
  (own:ownKnob C.prog.godebug=none) (started:os.Started) (XY:C.prog.inits.idxOf? f=none) (WT:C.prog.funcs[f]?=some fn)
  (witness:∃ (w:World) (tape:Tape) (i:Input),w.os=os /\ (w.forCall tape i).Shaped C.prog /\ i.vars=[] /\ Input.okWide C.prog (w.forCall tape i) .any w.heap.size f i /\
   ((s.pre enc C.prog fn conds apart (w.forCall tape i).memory i.args /\ X (w.forCall tape i).memory i.args) /\ sizedMet enc C.prog fn (OpenSpec.ofChange s) apart (w.forCall tape i).memory i.args) /\ a.holds C.prog (lone (Frame.enter C.prog f i.args .normal) [] (w.forCall tape i)))
  (V6:∀ (W:World) (base:Nat) (args:Array Value) (ds gs:List (DataW H)) (before:List MemPlace),W.ShapedOpen C.prog ->
   (∀ (j:Nat) t v,fn.params[j]?=some t -> args[j]?=some v -> Value.okWide C.prog W .any base t v) ->
   DataW.Whole enc C.prog fn.params.toList s.vars apart W args.toList ds gs before -> X W args ->
   Calls C.prog f args W λ e W'=>∃v,e=.returned v /\ s.post enc C.prog fn apart fresh handsOn again W args v W') :
  ReturnsInHanded a C os f .any (λ w args=>(s.pre enc C.prog fn conds apart w args /\ X w args) /\ sizedMet enc C.prog fn (OpenSpec.ofChange s) apart w args) (s.post enc C.prog fn apart fresh handsOn again):=by
 refine returnsInHanded_of_calls own started XY witness ?_
 intro w tape i _ UU _ dO Rb hholds
 obtain⟨_,_,_,fn',hfn',_,_,_,_,IN⟩:=dO
 have e:fn'=fn:=Option.some.inj (hfn'.symm.trans WT)
 subst e
 obtain⟨⟨⟨ds,gs,before,hw,hc⟩,hx⟩,hz⟩:=Rb
 have Wb:=DataW.Whole.of_heap (w':=w.forCall tape i) (by rfl) hw
 refine(V6 (w.forCall tape i) w.heap.size i.args ds gs before UU IN Wb (hX _ _ _ (by rfl) hx)).mono λ e W' ⟨v,he,hp⟩=>?_
 subst he
 exact ChangeSpec.post_blind hp
def ceZ:List (List Int):=[[0,0],[0,1],[0,1],[1,0],[1,1],[2,0],[0,1],[0,1],[0,1],[2,1],[2,1],[2,1],[2,1],[1,1],[2,1],[2,1],[2,1],[1,1],[0,0],[1,0],[2,0],[0,0]]
def CA:Nat -> Nat -> Value:=λ i j=>.int .i64 ((ceZ.getD i []).getD j 0)
theorem Ji:(Blk.rows 2 22 CA 259 (0,0)).den=(Blk.lit yh 259 (0,0)).den:=by kernel_rfl
def efZ:List (List Int):=nY.map λ z=>[z.1,z.2.1,z.2.2]
theorem sJ(g:Nat)(t:TypeId)(hg:g<Tryz.prog.globals.size)(h0:(((begin Tryz.prog (λ _ _=>0) default).world.heap[g]?).bind Obj.row?).map (·.2)=some t){W:World}(hs:W.ShapedOpen Tryz.prog):∃cs,W.heap[g]?=some (.cells cs t (0,0)):=by
 cases h:((begin Tryz.prog (λ _ _=>0) default).world.heap[g]?).bind Obj.row? with
 | none=>rw[h] at h0;cases h0
 | some x =>
  obtain⟨z,t'⟩:=x
  rw[h] at h0
  simp only[Option.map_some,Option.some.injEq] at h0
  subst h0
  obtain⟨cs,h1,_⟩:=hs.1 g z t' hg h
  exact⟨cs,h1⟩
def Jj(P:Program)(e:TypeId)(m:Nat):Bool :=
 match P.underlying e with
 | some (.struct fs)=>decide (fs.toList.length=m) && (List.range m).all λ j =>
  match fs.toList[j]? with
  | some f=>(match P.underlying f.type with|some (.int .i64)=>true|_=>false) && decide (P.cellsOf f.type=1) && decide (f.offset=j)
  | none=>false
 | _=>false
theorem EK{P:Program}{e:TypeId}{m:Nat}(h:Jj P e m=true):∃fs:Array Field,P.underlying e=some (.struct fs) /\ fs.toList.length=m /\
  ∀ (j:Nat) f,fs.toList[j]?=some f -> P.underlying f.type=some (.int .i64) /\ P.cellsOf f.type=1 /\ f.offset=j:=by
 unfold Jj at h
 split at h
 case h_2=>cases h
 rename_i fs hfs
 rw[Bool.and_eq_true] at h
 have hm:fs.toList.length=m:=of_decide_eq_true h.1
 refine⟨fs,hfs,hm,λ j f hj=>?_⟩
 have hjm:j<m:=by rw[<- hm];exact(List.getElem?_eq_some_iff.1 hj).1
 have h2:=List.all_eq_true.1 h.2 j (List.mem_range.2 hjm)
 rw[hj] at h2
 simp only[Bool.and_eq_true,decide_eq_true_eq] at h2
 refine⟨?_,h2.1.2,h2.2⟩
 have h3:=h2.1.1
 split at h3
 ·assumption
 ·cases h3
theorem vR{P:Program}{W:World}{name:String}{g n m:Nat}{t e:TypeId}{zs:List (List Int)}{rest:List (String × DataW Unit)}{ps:List MemPlace}{row:Nat -> Nat -> Value}{cs0:Array Value}
  (hb:W.heap[g]?=some (.cells cs0 t (0,0)))
  (hg:P.globalNamed name=some g) (hty:(P.globals[g]?).map (·.type)=some t) (ht:P.underlying t=some (.array n e)) (hE:Jj P e m=true) (Zu:P.cellsOf e=m) (hct:P.cellsOf t=n*m) (hm:0<m) (hz:∀z∈zs,z.length=m)
  (oF:∀i j,i<n -> j<m -> row i j=.int .i64 ((zs.getD i []).getD j 0))
  (h:DataW.LaidVars P W ((name,.agg (zs.map λ z=>.agg (z.map λ x=>.lit (.int .i64 x))))::rest) ps):W.heap[g]?=some (Blk.rows m n row t (0,0)).den /\ ∃q,DataW.LaidVars P W rest q:=by
 obtain⟨fs,he,Rt,hf⟩:=EK hE
 obtain⟨g',t',cs,fuel,p,q,hg',ht',hvar,hd,hr,_⟩:=h
 obtain rfl:=Option.some.inj (hg.symm.trans hg')
 obtain rfl:=Option.some.inj (hty.symm.trans ht')
 have hv:W.var? P name=some cs0:=by
  unfold World.var?
  rw[hg]
  simp only[Option.bind_some,hb]
 obtain rfl:=Option.some.inj (hv.symm.trans hvar)
 obtain⟨h1,h2,h3⟩:=tc ht he Zu hct hm Rt hf hz hd
 refine⟨?_,q,hr⟩
 rw[hb]
 show some (Obj.cells cs0 t (0,0))=some (Obj.cells ⟨bm m row n⟩ t (0,0))
 congr 2
 obtain⟨l⟩:=cs0
 congr 1
 symm
 exact iI (w:=m) h1 λ i j hi hj=>by rw[oF i j hi hj];exact h3 i j hi hj
def inZ:List (List Int):=[[-1,-1,0],[0,-1,0],[1,-1,0],[-1,0,0],[0,0,0],[1,0,0],[-1,1,0],[0,1,0],[1,1,0],[-1,-1,1],[0,-1,1],[1,-1,1],[-1,0,1],[0,0,1],[1,0,1],[-1,1,1],[0,1,1],[1,1,1],[-1,-1,2],[0,-1,2],[1,-1,2],[-1,0,2],[0,0,2],[1,0,2],[-1,1,2],[0,1,2],[1,1,2],[-1,-1,3],[0,-1,3],[1,-1,3],[-1,0,3],[0,0,3],[1,0,3],[-1,1,3],[0,1,3],[1,1,3]]
theorem Jk {W:World} (hs:W.ShapedOpen Tryz.prog) (hL:laidMetH Tryz.prog [("arenanet/input.inputs",Rows.laid_arenanet_input_inputs),("arenanet/compile.effects",Rows.laid_arenanet_compile_effects),("arenanet/vm.effects",Rows.laid_arenanet_vm_effects)] W):W.heap[0]?=some (Blk.rows 3 36 (gc fX) 232 (0,0)).den /\ W.heap[1]?=some (Blk.lit yh 259 (0,0)).den /\ W.heap[2]?=some (Blk.rows 3 22 oT 325 (0,0)).den:=by
 rw[MakeChecks.laidMetH_plain _ _ _ (by kernel_rfl)] at hL
 obtain⟨ps,hv,_,_⟩:=hL
 obtain⟨csi,hbi⟩:=sJ 0 232 (of_decide_eq_true (by kernel_rfl)) (by kernel_rfl) hs
 obtain⟨cs0,hb0⟩:=sJ 1 259 (of_decide_eq_true (by kernel_rfl)) (by kernel_rfl) hs
 obtain⟨cs1,UI⟩:=sJ 2 325 (of_decide_eq_true (by kernel_rfl)) (by kernel_rfl) hs
 have hvi:DataW.LaidVars Tryz.prog W (("arenanet/input.inputs",.agg (inZ.map λ z=>.agg (z.map λ x=>.lit (.int .i64 x)))) :: [("arenanet/compile.effects",.agg (ceZ.map λ z=>.agg (z.map λ x=>.lit (.int .i64 x)))),("arenanet/vm.effects",.agg (efZ.map λ z=>.agg (z.map λ x=>.lit (.int .i64 x))))]) ps:=hv
 obtain⟨hi,q0,Z1⟩:=vR (n:=36) (m:=3) (e:=119) (row:=gc fX) hbi (by kernel_rfl) (by kernel_rfl) (by kernel_rfl) (by kernel_rfl) (by kernel_rfl) (by kernel_rfl) (by decide) (by decide) (λ i j hi hj=>by
  have key:∀i:Fin 36,∀j:Fin 3,(if j.1=0 then (fX.getD i.1 dI).dx else if j.1=1 then (fX.getD i.1 dI).dy else (fX.getD i.1 dI).act)=(inZ.getD i.1 []).getD j.1 0:=by decide
  have:=key ⟨i,hi⟩ ⟨j,hj⟩
  rcases j with _|_|_|j
  ·exact congrArg (Value.int .i64) this
  ·exact congrArg (Value.int .i64) this
  ·exact congrArg (Value.int .i64) this
  ·omega) hvi
 obtain⟨h0,q,hq⟩:=vR (n:=22) (m:=2) (e:=258) (row:=CA) hb0 (by kernel_rfl) (by kernel_rfl) (by kernel_rfl) (by kernel_rfl) (by kernel_rfl) (by kernel_rfl) (by decide) (by decide) (λ i j hi hj=>rfl) Z1
 obtain⟨h1,_⟩:=vR (n:=22) (m:=3) (e:=324) (row:=oT) UI (by kernel_rfl) (by kernel_rfl) (by kernel_rfl) (by kernel_rfl) (by kernel_rfl) (by kernel_rfl) (by decide) (by decide) (λ i j hi hj=>by
  have key:∀i:Fin 22,∀j:Fin 3,(if j.1=0 then (nY.getD i.1 (0,0,0)).1 else if j.1=1 then (nY.getD i.1 (0,0,0)).2.1 else (nY.getD i.1 (0,0,0)).2.2)=(efZ.getD i.1 []).getD j.1 0:=by decide
  have:=key ⟨i,hi⟩ ⟨j,hj⟩
  rcases j with _|_|_|j
  ·exact congrArg (Value.int .i64) this
  ·exact congrArg (Value.int .i64) this
  ·exact congrArg (Value.int .i64) this
  ·omega) hq
 exact⟨hi,h0.trans (congrArg some Ji),h1⟩
def mz(W:World):HL:=List.ofFn (λ k:Fin W.heap.size=>(k.1,if k.1=0 then Blk.rows 3 36 (gc fX) 232 (0,0) else if k.1=1 then Blk.lit yh 259 (0,0) else if k.1=2 then Blk.rows 3 22 oT 325 (0,0) else sH W.heap[k.1]))
theorem yP{W:World}(hi:W.heap[0]?=some (Blk.rows 3 36 (gc fX) 232 (0,0)).den)(h0:W.heap[1]?=some (Blk.lit yh 259 (0,0)).den)(h1:W.heap[2]?=some (Blk.rows 3 22 oT 325 (0,0)).den):dT (lU W)=dT (mz W):=by
 unfold dT lU mz
 rw[List.map_ofFn,List.map_ofFn]
 congr 1
 funext k
 show (k.1,(sH W.heap[k.1]).den)=(k.1,Blk.den (if k.1=0 then _ else if k.1=1 then _ else if k.1=2 then _ else _))
 rw[my]
 congr 1
 have use:∀ (g:Nat) (b:Blk),k.1=g -> W.heap[g]?=some b.den -> W.heap[k.1]=b.den:=λ g b e h=>by
  have h2:W.heap[k.1]?=some b.den:=by rw[show W.heap[k.1]?=W.heap[g]? by rw[e]];exact h
  rw[Array.getElem?_eq_getElem k.2] at h2
  exact Option.some.inj h2
 by_cases ei:k.1=0
 ·rw[if_pos ei]
  exact use _ _ ei hi
 ·rw[if_neg ei]
  by_cases e0:k.1=1
  ·rw[if_pos e0]
   exact use _ _ e0 h0
  ·rw[if_neg e0]
   by_cases e1:k.1=2
   ·rw[if_pos e1]
    exact use _ _ e1 h1
   ·rw[if_neg e1,my]
theorem EL{W:World}(h0:W.heap[0]?=some (Blk.rows 3 36 (gc fX) 232 (0,0)).den):lS (mz W) :=
 List.mem_ofFn.2 ⟨⟨0,(Array.getElem?_eq_some_iff.1 h0).1⟩,rfl⟩
theorem EM{W:World}(h0:W.heap[1]?=some (Blk.lit yh 259 (0,0)).den):pV (mz W) :=
 List.mem_ofFn.2 ⟨⟨1,(Array.getElem?_eq_some_iff.1 h0).1⟩,rfl⟩
theorem EN{W:World}(h1:W.heap[2]?=some (Blk.rows 3 22 oT 325 (0,0)).den):dh (mz W) :=
 List.mem_ofFn.2 ⟨⟨2,(Array.getElem?_eq_some_iff.1 h1).1⟩,rfl⟩
noncomputable def EO(os:Os):World:=World.laidAll Tryz.prog os Rows.replayTamperRow.laid
theorem yQ(os:Os)(started:os.Started)(H:Type)(enc:TypeId × Value -> H) :
  ReturnsInHanded {} Tryz.checked os 6 .any (λ w args=>(Rows.replayTamperSpec.pre enc Tryz.prog Tryz.f6 [] false w args /\ laidMetH Tryz.prog Rows.replayTamperRow.laid w) /\ sizedMet enc Tryz.prog Tryz.f6 (OpenSpec.ofChange Rows.replayTamperSpec) false w args)
   (Rows.replayTamperSpec.post enc Tryz.prog Tryz.f6 false true false false):=by
 refine kQ (C:=Tryz.checked) (X:=λ w _=>laidMetH Tryz.prog Rows.replayTamperRow.laid w) (λ _ _ _ hh h=>h.of_heap hh) Jf started (by kernel_rfl) Tryz.func6
  (ChangeSpec.witness_at (enc:=enc) (C:=Tryz.checked) (os:=os) (X:=λ w _=>laidMetH Tryz.prog Rows.replayTamperRow.laid w) false (EO os) #[.slice none 0 0,.int .i64 0,.int .i64 0,.slice none 0 0,.int .i64 0,.int .i64 0,.int .u8 0] 8 (World.laidAll_os _ _ _) (by kernel_rfl) (by kernel_rfl) (by kernel_rfl) (by kernel_rfl) (by kernel_rfl) (laidMetH_of_parts (laidMet_laidAll _ (by kernel_rfl) (by kernel_rfl)) (by kernel_rfl))) ?_
 intro W base args ds gs before UU Xu hW hL
 have IN:∀ (j:Nat) t v,Tryz.f6.params[j]?=some t -> args[j]?=some v -> Value.okWide Tryz.prog W .any base t v:=Xu
 have hW':=hW
 obtain⟨p,q,hA0,hV,rfl,hfz,Tv⟩:=hW
 have hA:DataW.TrodAll enc Tryz.prog W 0 (λ _=>true) true Tryz.f6.params.toList args.toList ds p:=hA0
 have hAA:=hA
 rw[Tryz.params6] at hA IN
 obtain⟨v0,vs0,d0,ds0,p0,q0,Uv,rfl,rfl,h0r,r0⟩:=trodAll_cons hA
 obtain⟨v1,vs1,d1,ds1,p1,q1,rfl,rfl,rfl,h1r,r1⟩:=trodAll_cons r0
 obtain⟨v2,vs2,d2,ds2,p2,q2,rfl,rfl,rfl,h2r,r2⟩:=trodAll_cons r1
 obtain⟨v3,vs3,d3,ds3,p3,q3,rfl,rfl,rfl,h3r,r3⟩:=trodAll_cons r2
 obtain⟨v4,vs4,d4,ds4,p4,q4,rfl,rfl,rfl,h4r,r4⟩:=trodAll_cons r3
 obtain⟨v5,vs5,d5,ds5,p5,q5,rfl,rfl,rfl,h5r,r5⟩:=trodAll_cons r4
 obtain⟨v6,vs6,d6,ds6,p6,q6,rfl,rfl,rfl,h6r,r6⟩:=trodAll_cons r5
 obtain⟨rfl,rfl,rfl⟩:=trodAll_nil r6
 obtain rfl:args=#[v0,v1,v2,v3,v4,v5,v6]:=by cases args;simp_all
 obtain⟨rfl,rfl⟩:=trodVars_none hV
 obtain⟨A0,n0,c0,x0,rfl,b0,h0,k0⟩:=yO (IN 0 22 v0 rfl rfl) h0r
 obtain⟨a1,rfl,rfl,rfl,w1z⟩:=open_int Tryz.underlying3 (IN 1 3 v1 rfl rfl) h1r
 have w1:=ku w1z
 obtain⟨a2,rfl,rfl,rfl,w2z⟩:=open_int Tryz.underlying3 (IN 2 3 v2 rfl rfl) h2r
 have w2:=ku w2z
 obtain⟨A3,n3,c3,x3,rfl,b3,h3,k3⟩:=yO (IN 3 22 v3 rfl rfl) h3r
 obtain⟨a4,rfl,rfl,rfl,w4z⟩:=open_int Tryz.underlying3 (IN 4 3 v4 rfl rfl) h4r
 have w4:=ku w4z
 obtain⟨a5,rfl,rfl,rfl,w5z⟩:=open_int Tryz.underlying3 (IN 5 3 v5 rfl rfl) h5r
 have w5:=ku w5z
 obtain⟨a6,rfl,rfl,rfl,w6z⟩:=open_int Tryz.underlying5 (IN 6 5 v6 rfl rfl) h6r
 have w6:0 <= a6 /\ a6<256:=by have h_:=bounds_u8 w6z;omega
 clear hA0 Xu
 simp only[List.append_nil,List.nil_append] at hW' hAA
 obtain⟨gi,g0,g1⟩:=Jk UU hL
 have eW:=yP gi g0 g1
 refine(EJ W ((Je A0 A3 n0 c0 n3 c3 x0 x3 a1 a2 a4 a5 a6 (mz W) (EM g0) (EN g1) (EL gi) (h0.d eW) b0 (h3.d eW) b3 w1 w2 w4 w5 w6).den eW.symm)).mono λ e W' ⟨he,hb⟩=>?_
 subst he
 exact⟨_,rfl,Jh Jg (by rw[Tryz.params6];intro t ht;simp at ht;first|(subst ht;exact⟨by kernel_rfl,of_decide_eq_true (by kernel_rfl)⟩)|(rcases ht with rfl|rfl <;> exact⟨by kernel_rfl,of_decide_eq_true (by kernel_rfl)⟩)|(rcases ht with rfl|rfl|rfl <;> exact⟨by kernel_rfl,of_decide_eq_true (by kernel_rfl)⟩)|(rcases ht with rfl|rfl|rfl|rfl <;> exact⟨by kernel_rfl,of_decide_eq_true (by kernel_rfl)⟩)|(rcases ht with rfl|rfl|rfl|rfl|rfl <;> exact⟨by kernel_rfl,of_decide_eq_true (by kernel_rfl)⟩)|(rcases ht with rfl|rfl|rfl|rfl|rfl|rfl <;> exact⟨by kernel_rfl,of_decide_eq_true (by kernel_rfl)⟩)|(rcases ht with rfl|rfl|rfl|rfl|rfl|rfl|rfl <;> exact⟨by kernel_rfl,of_decide_eq_true (by kernel_rfl)⟩)) hW' rfl hAA (λ _ _ _=>trodAll_cons_mk (shut_bool Tryz.underlying4 _) trodAll_mk0) rfl (λ _=>rfl) hb⟩
theorem vT:(Rows.replayTamperRow.inPlace == Tryz.prog.inPlace 6)=true:=by kernel_rfl
theorem sK:(Rows.replayTamperRow.named == Tryz.prog.varsNamed 6)=true:=by kernel_rfl
theorem qh:(Rows.replayTamperRow.unfollowed == Tryz.prog.unfollowed 6)=true:=by kernel_rfl
theorem td:(Rows.replayTamperRow.recurses == Tryz.prog.recurses 6)=true:=by kernel_rfl
theorem vU:laidOutB Tryz.prog=true:=by kernel_rfl
theorem sL:mapsRowed Tryz.prog=true:=by kernel_rfl
theorem sM:(Rows.replayTamperRow.plainKeys == Tryz.prog.plainKeys)=true:=by kernel_rfl
theorem AU:Tryz.prog.mayEnter=true:=by kernel_rfl
theorem AV:Tryz.prog.stopsHeard=true:=by kernel_rfl
end Go.Proofs.YtgdcbiiopbpgaaaGreatDoor
