import Derived.Test.YthoijjeddhfcnaaGreatDoorZ36
import Derived.Test.YthoijjeddhfcnaaGreatDoorZ31
import Derived.Test.YthoijjeddhfcnaaGreatDoorZ33
import Derived.Test.YthoijjeddhfcnaaGreatDoorZ34
import Derived.Test.YthoijjeddhfcnaaGreatDoorZ35
set_option maxHeartbeats 4000000
set_option maxRecDepth 100000
set_option linter.unusedSimpArgs false
set_option linter.unusedVariables false
namespace Go.Proofs.YthoijjeddhfcnaaGreatDoor
open IntKind
open Go.RowKit
def rk(S:Setup)(cs:List Int)(i:Nat):Mot:=⟨cs.getD (ae S i).toNat 0,cs.getD ((ae S i).toNat+1) 0,cs.getD ((ae S i).toNat+2) 0,cs.getD ((ae S i).toNat+3) 0,(S.body i).mot.inv⟩
theorem G6(S:Setup)(q n cap:Nat)(cs:List Int)(i:Nat)(F:HL)(hS:SetIn F S)(hq:(q,.rows 1 n (bk cs) 3 (0,0))∈F)(hi:i<S.nb)(hn:(sizeOf S).toNat <= n)(hc:n <= cap)(hn2:n <= 100000000):Sp Tryz.prog 93 #[(Setup.v S),vS q 0 n cap,vI (i:Int)] [] F (λ u H'=>u=.agg #[vI ((rk S cs i).px),vI ((rk S cs i).py),vI ((rk S cs i).vx),vI ((rk S cs i).vy),vI ((rk S cs i).inv)] /\ H'=[]):=by
 have hp:=hS.pl
 have RJ:=hS.nb
 have hr:=hS.room
 have hz:=nC hS.toSetN
 have YR:=lj hS.toSetN (i:=i) (by omega)
 refine Sp.run Tryz.func93 rfl (mc hS.blk (mc hq mn)) (A:=[]) (Ts:=[]) rfl λ w0=>?_
 refine aa 10 (ow 1 16) λ n1=>al (cy S (i:Int) _ hS.toSetN) ?_
 have SY:=cw hS.toSetN (i:Int)
 refine aa 9 [] λ _=>RN.em (ae S (i:Int)<0) 14 (λ h3=>?_) λ h3=>?_
 ·(exfalso;omega)
 ·refine aq 8 [.nw] [bF ((n:Int)-(ae S (i:Int)))] λ _=>RN.em ((n:Int)-(ae S (i:Int))<8) 20 (λ h4=>?_) λ h4=>?_
  ·(exfalso;omega)
  ·refine aq 12 [.sl ((ae S (i:Int)).toNat) n false] [ae S (i:Int)=(((ae S (i:Int)).toNat:Nat):Int) /\ n=n /\ (ae S (i:Int)).toNat <= n /\ n <= cap /\ cap≠(ae S (i:Int)).toNat] λ _=>RN.draw [22] []<|aL [] [0,3,7,10,14,16,1,4,8,11,15,2,5,9,12,17,6,13,18,19,20,21] [.ix 0,.ix 1,.ix 2,.ix 3,.own 1,.rorow 1 (((ae S (i:Int)).toNat)+0) 0,.rorow 1 (((ae S (i:Int)).toNat)+1) 0,.rorow 1 (((ae S (i:Int)).toNat)+2) 0,.rorow 1 (((ae S (i:Int)).toNat)+3) 0,.ix i,.rorow 0 (S.bo+i) 6] [((S.bo*9+i*9)+6)=(S.bo+i)*9+6 /\ (S.bo+i)<S.bR,(i:Int)=((i:Nat):Int) /\ i<S.nb,((0+((ae S (i:Int)).toNat)*1)+3*1)=(((ae S (i:Int)).toNat)+3)*1+0 /\ (((ae S (i:Int)).toNat)+3)<n,((0+((ae S (i:Int)).toNat)*1)+2*1)=(((ae S (i:Int)).toNat)+2)*1+0 /\ (((ae S (i:Int)).toNat)+2)<n,((0+((ae S (i:Int)).toNat)*1)+1*1)=(((ae S (i:Int)).toNat)+1)*1+0 /\ (((ae S (i:Int)).toNat)+1)<n,((0+((ae S (i:Int)).toNat)*1)+0*1)=(((ae S (i:Int)).toNat)+0)*1+0 /\ (((ae S (i:Int)).toNat)+0)<n,3=((3:Nat):Int) /\ 3<(n-(ae S (i:Int)).toNat),2=((2:Nat):Int) /\ 2<(n-(ae S (i:Int)).toNat),1=((1:Nat):Int) /\ 1<(n-(ae S (i:Int)).toNat),0=((0:Nat):Int) /\ 0<(n-(ae S (i:Int)).toNat)]<|RD.one 22 (RDO.ev [] (ow 0 5) λ _=>?_)
   refine RD.fin<|aa 1 [] λ _=>?_
   exact RN.ret (ow 0 5) [] [] ⟨rfl,rfl⟩
theorem AW{S:Setup}(hP:0 <= S.players){M:MemS}(hl:(M.cs.length:Int)=sizeOf S){i:Nat}(hi:i<S.nb):rk S M.cs i=ai S M i:=by
 have e:=o8 (S:=S) (k:=(i:Int)) (by omega) (by omega)
 have hz:sizeOf S=48+4*S.players+8*S.nb:=rfl
 have g:∀c:Nat,c<8 -> M.get (ae S i+(c:Int))=M.cs.getD ((ae S i).toNat+c) 0:=λ c hc=>by
  unfold MemS.get
  rw[if_pos (by omega)]
  congr 1
  omega
 unfold rk ai
 rw[Int.toNat_natCast]
 congr 1
 ·exact((g 0 (by decide)).symm:_)
 ·exact((g 1 (by decide)).symm:_)
 ·exact((g 2 (by decide)).symm:_)
 ·exact((g 3 (by decide)).symm:_)
theorem G7(n:Nat):∀i' k',i'<n -> k'<5 -> lX [vI 0,vI 0,vI 0,vI 0,vI 0] i' k'=aD dk (List.replicate n aj) i' k':=λ i k h1 h2=>by
 have e:(List.replicate n aj).getD i aj=aj:=by simp[h1]
 unfold aD
 show _=dk.cell ((List.replicate n aj).getD i aj) k
 rw[e]
 obtain rfl|rfl|rfl|rfl|rfl:k=0 \/ k=1 \/ k=2 \/ k=3 \/ k=4:=by omega
 all_goals rfl
theorem JO(n:Nat):∀i' k',i'<n -> k'<4 -> lX [vI 0,vI 0,vI 0,vI 0] i' k'=aD fj (List.replicate n mw) i' k':=λ i k h1 h2=>by
 have e:(List.replicate n mw).getD i mw=mw:=by simp[h1]
 unfold aD
 show _=fj.cell ((List.replicate n mw).getD i mw) k
 rw[e]
 obtain rfl|rfl|rfl|rfl:k=0 \/ k=1 \/ k=2 \/ k=3:=by omega
 all_goals rfl
theorem G8(n:Nat):∀i' k',i'<n -> k'<1 -> lX [vI 0] i' k'=bk (List.replicate n 0) i' k':=λ i k h1 h2=>by
 have e:(List.replicate n (0:Int)).getD i 0=0:=by simp[h1]
 obtain rfl:k=0:=by omega
 show vI 0=vI _
 rw[e]
theorem CT(S:Setup)(q:Nat)(M:MemS)(i n:Nat)(F:HL)(hS:SetIn F S)(hq:(q,.rows 1 M.cs.length (bk M.cs) 3 (0,0))∈F)(hn:n=S.nb)(hi:i<n)(hl:(M.cs.length:Int)=sizeOf S)(hc:M.cs.length <= 1000000):Sp Tryz.prog 93 #[Setup.v S,vS q 0 M.cs.length M.cs.length,vI (i:Int)] [] F (λ u H'=>u=.agg #[vI ((ai S M i).px),vI ((ai S M i).py),vI ((ai S M i).vx),vI ((ai S M i).vy),vI ((ai S M i).inv)] /\ H'=[]):=by
 subst hn
 have h:=G6 S q M.cs.length M.cs.length M.cs i F hS hq hi (by omega) (Nat.le_refl _) (by omega)
 rwa [AW hS.pl.1 hl hi] at h
theorem CU(S:Setup)(mb k:Nat)(M:MemS)(T F:HL)(hS:SetIn F S)(hM:MemH mb M k T)(hT:∀x∈T,x∈F)(hl:(M.cs.length:Int)=sizeOf S)(hc:M.cs.length <= 1000000):Sp Tryz.prog 66 #[vP mb 0,(Setup.v S)] [] F (λ u H'=>∃x:(Nat × Nat × Nat × Nat) × List Mot × List Int × List Bx,H'=ap [(x.1.1,.lit (Setup.l S++[vS x.1.2.1 0 S.nb S.nb,vS x.1.2.2.1 0 S.nb S.nb,vS x.1.2.2.2 0 S.nb S.nb,vI 0,vI 0,vI 0]) 156 (0,0)),(x.1.2.1,.rows 5 S.nb (aD dk x.2.1) 68 (0,0)),(x.1.2.2.1,.rows 1 S.nb (bk x.2.2.1) 3 (0,0)),(x.1.2.2.2,.rows 4 S.nb (aD fj x.2.2.2) 25 (0,0))] [] /\ (WR S M x.2.1 x.2.2.1 x.2.2.2 /\ u=vP x.1.1 0)):=by
 have n_:=hS.room
 have RW:=hS.nb
 have ZX:=hS.pl
 refine Sp.run Tryz.func66 rfl (mc hS.blk mn) (A:=[]) (Ts:=[]) rfl λ w0=>?_
 refine aa 15 [.own 0] λ n1=>RN.draw [] []<|af [] [0,1,3,5] (ow 0 16)<|fD (σ:=Nat × Nat × Nat × Nat) (λ ⟨n2,n3,n4,n5⟩=>⟨[(0,vP mb 0),(3,vP (n1+0) 0),(5,vI (S.nb:Int)),(6,vP (n5+0) 0)],[((n5+0),.lit (Setup.l S++[vS (n2+0) 0 S.nb S.nb,vS (n3+0) 0 S.nb S.nb,vS (n4+0) 0 S.nb S.nb,vI 0,vI 0,vI 0]) 156 (0,0)),((n4+0),.rows 4 S.nb (lX [vI 0,vI 0,vI 0,vI 0]) 25 (0,0)),((n3+0),.rows 1 S.nb (lX [vI 0]) 3 (0,0)),((n2+0),.rows 5 S.nb (lX [vI 0,vI 0,vI 0,vI 0,vI 0]) 68 (0,0)),((n1+0),.lit (Setup.l S) 31 (0,0))],[],True,0⟩) ?_ ?_
 ·rintro⟨n2,n3,n4,n5⟩
  refine aa 2 [] λ _=>sP 3 (.rows 5 S.nb (lX [vI 0,vI 0,vI 0,vI 0,vI 0]) 68 (0,0)) (.rows 5 S.nb (aD dk (List.replicate S.nb aj)) 68 (0,0)) (jH (G7 S.nb))<|sP 2 (.rows 1 S.nb (lX [vI 0]) 3 (0,0)) (.rows 1 S.nb (bk (List.replicate S.nb 0)) 3 (0,0)) (jH (G8 S.nb))<|sP 1 (.rows 4 S.nb (lX [vI 0,vI 0,vI 0,vI 0]) 25 (0,0)) (.rows 4 S.nb (aD fj (List.replicate S.nb mw)) 25 (0,0)) (jH (JO S.nb))<|aa 2 [] λ _=>RN.ct (Hp:=[]) (Tp:=[]) [] [] (pP mb M k T _ hM (λ x hx=>bK (hT x hx))) ?_
  rintro _ q6 rfl
  refine aa 11 [] λ _=>RN.loop (σ:=Nat × List Mot × List Int × List Bx) (λ ⟨j_,b_,h_,x_⟩=>⟨[(0,vP mb 0),(3,vP (n1+0) 0),(6,vP (n5+0) 0),(7,vS q6 0 M.cs.length M.cs.length),(23,vI (S.nb:Int)),(24,vI (j_:Int))],[(q6,.rows 1 M.cs.length (bk M.cs) 3 (0,0)),((n5+0),.lit (Setup.l S++[vS (n2+0) 0 S.nb S.nb,vS (n3+0) 0 S.nb S.nb,vS (n4+0) 0 S.nb S.nb,vI 0,vI 0,vI 0]) 156 (0,0)),((n4+0),.rows 4 S.nb (aD fj x_) 25 (0,0)),((n3+0),.rows 1 S.nb (bk h_) 3 (0,0)),((n2+0),.rows 5 S.nb (aD dk b_) 68 (0,0)),((n1+0),.lit (Setup.l S) 31 (0,0))],[],j_ <= S.nb /\ WRt S M b_ h_ x_ j_,S.nb-j_⟩) (0,List.replicate S.nb aj,List.replicate S.nb 0,List.replicate S.nb mw) [0,1,2,3,4,5] [] (⟨Nat.zero_le _,CQ S M⟩) ?_
  rintro⟨j_,b_,h_,x_⟩ ⟨UR,Vi⟩ Zk
  refine aa 6 [] λ _=>RN.em ((j_:Int)<(S.nb:Int)) 25 (λ h9=>?_) λ h9=>?_
  ·refine aa 12 [] λ _=>RN.draw [12] []<|af [] [0,4,5,6,7,1,2,3] (ow 5 16++[.own 1])<|au [] 8 (λ X_=>(cy S (j_:Int) _ hS.toSetN)) ?_
   have hb10:=cw hS.toSetN (j_:Int)
   refine aL [] [9] [.nw] [bF ((ae S (j_:Int))+6)]<|au [] 10 (λ X_=>(aB ((ae S (j_:Int))+6) hM (λ x hx=>sY (hT x hx))))<|aL [] [11] [.ix j_] [(j_:Int)=((j_:Nat):Int) /\ j_<S.nb]<|RD.one 12 (bT [] [.row 3 j_ 0] [(0+j_*1)=j_*1+0 /\ j_<S.nb] λ _=>?_)
   refine RD.fin<|aa 1 [] λ _=>fS 3 (congrArg (λ v_=>(.rows 1 S.nb v_ 3 (0,0):Blk)) (show (cM (bk h_) j_ 0 (vI (M.get ((ae S (j_:Int))+6))))=(bk (h_.set j_ (M.get (ae S j_+6)))) from (eV (by have h_:=Vi.lh;omega) _)))<|aa 6 (ow 5 16) λ _=>al (CT S q6 M j_ S.nb _ hS.up (aC 0) rfl (by omega) hl hc)<|RN.ct [4,2] [] (lD S (n5+0) (n2+0) (n3+0) (n4+0) S.nb j_ 0 0 0 b_ x_ (ai S M j_) _ (aC 1) hS.up rfl (by omega) Vi.lb Vi.lx) ?_
   rintro _ ⟨⟩ _
   refine aq 7 [.nw] [bF ((j_:Int)+1)] λ _=>bZ 24 (congrArg (λ v_=>(vI v_:Value)) (show (j_:Int)+1=((j_+1:Nat):Int) by omega)) ?_
   refine Zk (j_+1,(b_.set j_ (ai S M j_)),h_.set j_ (M.get (ae S j_+6)),(x_.set j_ (aI (S.body j_).sh ⟨(ai S M j_).px,(ai S M j_).py⟩))) [2,3,1,4,0,5] [] ?_
   try dsimp only
   exact⟨⟨by omega,Vi.step (by omega)⟩,by omega⟩
  ·refine aa 12 [] λ _=>RN.ret [] [1,4,3,2] [] (v:=vP (n5+0) 0) (H':=(ap [((n5+0),.lit (Setup.l S++[vS (n2+0) 0 S.nb S.nb,vS (n3+0) 0 S.nb S.nb,vS (n4+0) 0 S.nb S.nb,vI 0,vI 0,vI 0]) 156 (0,0)),((n2+0),.rows 5 S.nb (aD dk b_) 68 (0,0)),((n3+0),.rows 1 S.nb (bk h_) 3 (0,0)),((n4+0),.rows 4 S.nb (aD fj x_) 25 (0,0))] [])) ?_
   obtain rfl:j_=S.nb:=by omega
   exact⟨(((n5+0),(n2+0),(n3+0),(n4+0)),b_,h_,x_),rfl,Vi.done hl,rfl⟩
 ·intro Qy
  refine Ds 2 4 6 ?_ ?_ ?_
  ·refine bT [] [.mk S.nb S.nb] [(S.nb:Int)=((S.nb:Nat):Int) /\ (S.nb:Int)=((S.nb:Nat):Int) /\ S.nb <= S.nb /\ 40*S.nb <= 140737488355328 /\ 5=5 /\ S.nb <= 9223372036854775807] λ TF=>d5 4 6 ?_ ?_
   ·refine bT [] [.mk S.nb S.nb] [(S.nb:Int)=((S.nb:Nat):Int) /\ (S.nb:Int)=((S.nb:Nat):Int) /\ S.nb <= S.nb /\ 8*S.nb <= 140737488355328 /\ 1=1 /\ S.nb <= 9223372036854775807] λ WZ=>RD.one 6 (bT [] [.mk S.nb S.nb] [(S.nb:Int)=((S.nb:Nat):Int) /\ (S.nb:Int)=((S.nb:Nat):Int) /\ S.nb <= S.nb /\ 32*S.nb <= 140737488355328 /\ 4=4 /\ S.nb <= 9223372036854775807] λ WY=>?_)
    refine RD.one 7 (RDO.ev [] [] λ _=>?_)
    refine RD.one 8 (RDO.ev [] [] λ Yv=>?_)
    refine RD.one 9 (RDO.ev [] [] λ _=>?_)
    exact Qy ⟨TF,WZ,WY,Yv⟩ [0,1,2,3,4] []
   ·refine bT [] [.mk S.nb S.nb] [(S.nb:Int)=((S.nb:Nat):Int) /\ (S.nb:Int)=((S.nb:Nat):Int) /\ S.nb <= S.nb /\ 32*S.nb <= 140737488355328 /\ 4=4 /\ S.nb <= 9223372036854775807] λ n16=>RD.one 4 (bT [] [.mk S.nb S.nb] [(S.nb:Int)=((S.nb:Nat):Int) /\ (S.nb:Int)=((S.nb:Nat):Int) /\ S.nb <= S.nb /\ 8*S.nb <= 140737488355328 /\ 1=1 /\ S.nb <= 9223372036854775807] λ n17=>?_)
    refine RD.one 7 (RDO.ev [] [] λ _=>?_)
    refine RD.one 8 (RDO.ev [] [] λ n18=>?_)
    refine RD.one 9 (RDO.ev [] [] λ _=>?_)
    exact Qy ⟨TF,n17,n16,n18⟩ [0,2,1,3,4] []
  ·refine bT [] [.mk S.nb S.nb] [(S.nb:Int)=((S.nb:Nat):Int) /\ (S.nb:Int)=((S.nb:Nat):Int) /\ S.nb <= S.nb /\ 8*S.nb <= 140737488355328 /\ 1=1 /\ S.nb <= 9223372036854775807] λ Yu=>d5 2 6 ?_ ?_
   ·refine bT [] [.mk S.nb S.nb] [(S.nb:Int)=((S.nb:Nat):Int) /\ (S.nb:Int)=((S.nb:Nat):Int) /\ S.nb <= S.nb /\ 40*S.nb <= 140737488355328 /\ 5=5 /\ S.nb <= 9223372036854775807] λ TE=>RD.one 6 (bT [] [.mk S.nb S.nb] [(S.nb:Int)=((S.nb:Nat):Int) /\ (S.nb:Int)=((S.nb:Nat):Int) /\ S.nb <= S.nb /\ 32*S.nb <= 140737488355328 /\ 4=4 /\ S.nb <= 9223372036854775807] λ Pr=>?_)
    refine RD.one 7 (RDO.ev [] [] λ _=>?_)
    refine RD.one 8 (RDO.ev [] [] λ Wv=>?_)
    refine RD.one 9 (RDO.ev [] [] λ _=>?_)
    exact Qy ⟨TE,Yu,Pr,Wv⟩ [0,1,3,2,4] []
   ·refine bT [] [.mk S.nb S.nb] [(S.nb:Int)=((S.nb:Nat):Int) /\ (S.nb:Int)=((S.nb:Nat):Int) /\ S.nb <= S.nb /\ 32*S.nb <= 140737488355328 /\ 4=4 /\ S.nb <= 9223372036854775807] λ Zj=>RD.one 2 (bT [] [.mk S.nb S.nb] [(S.nb:Int)=((S.nb:Nat):Int) /\ (S.nb:Int)=((S.nb:Nat):Int) /\ S.nb <= S.nb /\ 40*S.nb <= 140737488355328 /\ 5=5 /\ S.nb <= 9223372036854775807] λ Zi=>?_)
    refine RD.one 7 (RDO.ev [] [] λ _=>?_)
    refine RD.one 8 (RDO.ev [] [] λ Zh=>?_)
    refine RD.one 9 (RDO.ev [] [] λ _=>?_)
    exact Qy ⟨Zi,Yu,Zj,Zh⟩ [0,2,3,1,4] []
  ·refine bT [] [.mk S.nb S.nb] [(S.nb:Int)=((S.nb:Nat):Int) /\ (S.nb:Int)=((S.nb:Nat):Int) /\ S.nb <= S.nb /\ 32*S.nb <= 140737488355328 /\ 4=4 /\ S.nb <= 9223372036854775807] λ n26=>d5 2 4 ?_ ?_
   ·refine bT [] [.mk S.nb S.nb] [(S.nb:Int)=((S.nb:Nat):Int) /\ (S.nb:Int)=((S.nb:Nat):Int) /\ S.nb <= S.nb /\ 40*S.nb <= 140737488355328 /\ 5=5 /\ S.nb <= 9223372036854775807] λ n27=>RD.one 4 (bT [] [.mk S.nb S.nb] [(S.nb:Int)=((S.nb:Nat):Int) /\ (S.nb:Int)=((S.nb:Nat):Int) /\ S.nb <= S.nb /\ 8*S.nb <= 140737488355328 /\ 1=1 /\ S.nb <= 9223372036854775807] λ n28=>?_)
    refine RD.one 7 (RDO.ev [] [] λ _=>?_)
    refine RD.one 8 (RDO.ev [] [] λ Zg=>?_)
    refine RD.one 9 (RDO.ev [] [] λ _=>?_)
    exact Qy ⟨n27,n28,n26,Zg⟩ [0,3,1,2,4] []
   ·refine bT [] [.mk S.nb S.nb] [(S.nb:Int)=((S.nb:Nat):Int) /\ (S.nb:Int)=((S.nb:Nat):Int) /\ S.nb <= S.nb /\ 8*S.nb <= 140737488355328 /\ 1=1 /\ S.nb <= 9223372036854775807] λ n30=>RD.one 2 (bT [] [.mk S.nb S.nb] [(S.nb:Int)=((S.nb:Nat):Int) /\ (S.nb:Int)=((S.nb:Nat):Int) /\ S.nb <= S.nb /\ 40*S.nb <= 140737488355328 /\ 5=5 /\ S.nb <= 9223372036854775807] λ n31=>?_)
    refine RD.one 7 (RDO.ev [] [] λ _=>?_)
    refine RD.one 8 (RDO.ev [] [] λ n32=>?_)
    refine RD.one 9 (RDO.ev [] [] λ _=>?_)
    exact Qy ⟨n31,n30,n26,n32⟩ [0,3,2,1,4] []
theorem sQ(g:Gm):∀ (n:Nat) (M:MemS),cK g.cut n M=cK g n M
 | 0,_=>rfl
 | n+1,M=>by rw[cK,cK,dp,dp,tZ,sQ g n]
theorem uh(g:Gm):∀ (f:Nat) (M:MemS),qR g.cut f M=qR g f M
 | 0,_=>rfl
 | f+1,M=>by rw[qR,qR,Jo,dp,dp,tZ,uh g f]
theorem G9{S S2:Setup}(he:SetEq S S2){M N:MemS}(hc:N.cs=M.cs)(j:Nat × Int)(n:Nat)(xs:List Inp):(oC (db S j n xs) N).cs=(oC (db S2 j n xs) M).cs /\ ov (db S j n xs) N=ov (db S2 j n xs) M:=by
 have eg:GEq (db S j n xs).cut (db S2 j n xs):=Jm ((L2 S).nm2 he) j n xs
 have e1:oC (db S j n xs).cut N=oC (db S j n xs) N:=by rw[oC,oC,uh,wM]
 have e2:ov (db S j n xs).cut N=ov (db S j n xs) N:=by rw[ov,ov,uh,sQ]
 rw[<- e1,<- e2,Lc eg,Ld eg]
 exact⟨Lf _ hc,Lg _ hc⟩
theorem nl{l:List Int}{i:Nat}{v:Int}(h:i<l.length):(l.set i v).getD i 0=v:=by
 rw[List.getD_eq_getElem?_getD,List.getElem?_set_self h];rfl
theorem w7{S:Setup}(hp:0 <= S.players){k:Nat}(hk:k<S.nb):∀i,k<i -> i <= S.nb -> rk S (d7 S i) k=(S.body k).mot
 | 0,h,_=>absurd h (Nat.not_lt_zero _)
 | i+1,h,hi=>by
  have hb:=o8 (S:=S) (k:=(i:Int)) (by omega) (by omega)
  have PX:=o8 (S:=S) (k:=(k:Int)) (by omega) (by omega)
  by_cases e:k=i
  ·subst e
   have hz:(sizeOf S).toNat=48+4*S.players.toNat+8*S.nb:=by unfold sizeOf;omega
   unfold rk
   rw[d7]
   have l:(d7 S k).length=48+4*S.players.toNat+8*S.nb:=by rw[ii,hz]
   have z0:(ae S k).toNat=48+4*S.players.toNat+8*k:=by omega
   have z1:(ae S k+1).toNat=48+4*S.players.toNat+8*k+1:=by omega
   have z2:(ae S k+2).toNat=48+4*S.players.toNat+8*k+2:=by omega
   have z3:(ae S k+3).toNat=48+4*S.players.toNat+8*k+3:=by omega
   have z4:(ae S k+4).toNat=48+4*S.players.toNat+8*k+4:=by omega
   have z5:(ae S k+5).toNat=48+4*S.players.toNat+8*k+5:=by omega
   rw[z0,z1,z2,z3,z4,z5]
   congr 1
   ·rw[bJ (by omega),bJ (by omega),bJ (by omega),bJ (by omega),bJ (by omega),nl (by omega)]
   ·rw[bJ (by omega),bJ (by omega),bJ (by omega),bJ (by omega),nl (by simp only[List.length_set];omega)]
   ·rw[bJ (by omega),bJ (by omega),bJ (by omega),nl (by simp only[List.length_set];omega)]
   ·rw[bJ (by omega),bJ (by omega),nl (by simp only[List.length_set];omega)]
  ·have ih:=w7 hp hk i (by omega) (by omega)
   rw[<- ih]
   unfold rk
   rw[d7]
   congr 1 <;> rw[bJ (by omega),bJ (by omega),bJ (by omega),bJ (by omega),bJ (by omega),bJ (by omega)]
theorem za{S:Setup}{rs:List Bx}{ds:List Dr}(hv:kK S rs ds=0):(∀k,k<S.nb -> i7 (S.body k).sh) /\ tE S rs ds /\ ∀k,k<S.nb -> fd (S.body k) S.box:=by
 unfold kK at hv
 split at hv
 ·next c1 =>
  split at hv
  ·next c2 =>
   split at hv
   ·next c3=>exact⟨c1,c2,c3⟩
   ·cases hv
  ·cases hv
 ·cases hv
theorem Mo{S:Setup}{rs:List Bx}{ds:List Dr}(h1:∀k,k<S.nb -> i7 (S.body k).sh)(h2:tE S rs ds)(h3:∀k,k<S.nb -> fd (S.body k) S.box):kK S rs ds=0:=by
 unfold kK
 rw[if_pos h1,if_pos h2,if_pos h3]
theorem N3{s:Shp}(h:i7 s):GH s:=by
 unfold i7 at h
 split at h
 ·next e =>
  have e2:s.poly=[]:=List.eq_nil_of_length_eq_zero e
  have h2:1 <= s.r /\ s.r <= 32768:=h
  refine⟨by omega,λ i=>?_⟩
  rw[e2]
  show (-100000 <= (0:Int) /\ (0:Int) <= 100000) /\ (-100000 <= (0:Int) /\ (0:Int) <= 100000)
  decide
 ·obtain⟨⟨h1,_⟩,h2,_⟩:=h
  refine⟨by omega,λ i=>?_⟩
  by_cases hi:i<s.poly.length
  ·obtain⟨⟨a,b⟩,c,d⟩:=h2 i hi
   have e:OT s.poly i=s.poly.getD i ⟨0,0⟩:=rfl
   rw[e] at a b c d
   omega
  ·rw[List.getD_eq_getElem?_getD,List.getElem?_eq_none (by omega)]
   show (-100000 <= (0:Int) /\ (0:Int) <= 100000) /\ (-100000 <= (0:Int) /\ (0:Int) <= 100000)
   decide
theorem Mp{lo hi x:Int}:eh lo hi [x]↔lo <= x /\ x <= hi:=by simp only[ll,mX,and_true]
theorem Pn{lo hi x y:Int}:eh lo hi [x,y]↔(lo <= x /\ x <= hi) /\ (lo <= y /\ y <= hi):=by simp only[ll,mX,and_true]
theorem Mq{S:Setup}(hV:SetV S)(hx:(-1048576 <= S.box.x0 /\ S.box.x1 <= 1048576) /\ (-1048576 <= S.box.y0 /\ S.box.y1 <= 1048576))(h:∀k,k<S.nb -> fd (S.body k) S.box):BiA S ⟨d7 S S.nb,[],0⟩:=λ k h0 h1=>by
 obtain⟨i,rfl⟩:∃i:Nat,k=(i:Int):=⟨k.toNat,by omega⟩
 have hi:i<S.nb:=by omega
 have hP:=hV.pl
 have hl:((⟨d7 S S.nb,[],0⟩:MemS).cs.length:Int)=sizeOf S:=(AD hV).len
 have e:=AW (M:=⟨d7 S S.nb,[],0⟩) (by omega) hl hi
 have e2:ai S ⟨d7 S S.nb,[],0⟩ (i:Int)=(S.body i).mot:=e.symm.trans (w7 (by omega) hi S.nb hi (Nat.le_refl _))
 obtain⟨_,v2,v3,v4,_⟩:=h i hi
 rw[Pn] at v2
 rw[Mp] at v3 v4
 have g0:(⟨d7 S S.nb,[],0⟩:MemS).get (ae S i+0)=(S.body i).mot.px:=congrArg Mot.px e2
 have g1:(⟨d7 S S.nb,[],0⟩:MemS).get (ae S i+1)=(S.body i).mot.py:=congrArg Mot.py e2
 have g2:(⟨d7 S S.nb,[],0⟩:MemS).get (ae S i+2)=(S.body i).mot.vx:=congrArg Mot.vx e2
 have g3:(⟨d7 S S.nb,[],0⟩:MemS).get (ae S i+3)=(S.body i).mot.vy:=congrArg Mot.vy e2
 rw[g0,g1,g2,g3]
 omega
def Ks(b:Bod):Bod:=⟨b.sh,⟨aV (b.mot.px.tdiv 4),aV (b.mot.py.tdiv 4),b.mot.vx,b.mot.vy,b.mot.inv⟩,b.a,b.b⟩
def AX(l:List Bod)(o:Nat):Nat -> List Bod
 | 0=>l
 | n+1=>(AX l o n).set (o+n) (Ks ((AX l o n).getD (o+n) dB))
theorem Hb(l:List Bod)(i k:Nat):(l.set i (Ks (l.getD i dB))).getD k dB=if k=i then Ks (l.getD k dB) else l.getD k dB:=by
 by_cases c:k=i
 ·subst c
  rw[if_pos rfl,List.getD_eq_getElem?_getD]
  by_cases h:k<l.length
  ·rw[List.getElem?_set_self h];rfl
  ·rw[List.getElem?_eq_none (by rw[List.length_set];omega),List.getD_eq_getElem?_getD,List.getElem?_eq_none (by omega)]
   rfl
 ·rw[if_neg c,List.getD_eq_getElem?_getD,List.getElem?_set_ne (λ h2=>c h2.symm),<- List.getD_eq_getElem?_getD]
theorem AY(l:List Bod)(o:Nat):∀ (n k:Nat),(AX l o n).getD (o+k) dB=if k<n then Ks (l.getD (o+k) dB) else l.getD (o+k) dB
 | 0,k=>by rw[if_neg (Nat.not_lt_zero _)];rfl
 | n+1,k=>by
  rw[AX,Hb,AY l o n k]
  by_cases c:k=n
  ·subst c
   rw[if_pos rfl,if_neg (Nat.lt_irrefl _),if_pos (Nat.lt_succ_self _)]
  ·rw[if_neg (by omega)]
   by_cases c2:k<n
   ·rw[if_pos c2,if_pos (by omega)]
   ·rw[if_neg c2,if_neg (by omega)]
def Setup.pk(S:Setup):Setup:={ S with bods:=AX S.bods S.bo S.nb }
theorem ui{S:Setup}{k:Nat}(h:k<S.nb):S.pk.body k=Ks (S.body k):=by
 show (AX S.bods S.bo S.nb).getD (S.bo+k) dB=_
 rw[AY,if_pos h]
 rfl
theorem N4(l:List Bod)(i:Nat):∀i' k',k'<9 -> cM (cM (ge l) i 2 (vI (aV ((l.getD i dB).mot.px.tdiv 4)))) i 3 (vI (aV ((l.getD i dB).mot.py.tdiv 4))) i' k'=ge (l.set i (Ks (l.getD i dB))) i' k':=λ i' k' h2=>by
 unfold cM ge aD
 show _=jM.cell ((l.set i (Ks (l.getD i dB))).getD i' dB) k'
 rw[Hb]
 by_cases h1:i'=i
 ·subst h1
  rw[if_pos rfl]
  obtain rfl|rfl|rfl|rfl|rfl|rfl|rfl|rfl|rfl:k'=0 \/ k'=1 \/ k'=2 \/ k'=3 \/ k'=4 \/ k'=5 \/ k'=6 \/ k'=7 \/ k'=8:=by omega
  ·rw[if_neg (by simp),if_neg (by simp)];rfl
  ·rw[if_neg (by simp),if_neg (by simp)];rfl
  ·rw[if_neg (by simp),if_pos ⟨rfl,rfl⟩];rfl
  ·rw[if_pos ⟨rfl,rfl⟩];rfl
  all_goals (rw[if_neg (by simp),if_neg (by simp)];rfl)
 ·rw[if_neg h1,if_neg (λ e=>h1 e.1),if_neg (λ e=>h1 e.1)]
  rfl
theorem Ku{x lo hi:Int}(h0:lo <= 0)(h1:0 <= hi)(h2:lo <= x /\ x <= hi)(h3:-1048576 <= lo)(h4:hi <= 1048576):lo <= aV (x.tdiv 4) /\ aV (x.tdiv 4) <= hi:=by
 have key:lo <= x.tdiv 4 /\ x.tdiv 4 <= hi:=by
  rcases Int.le_total 0 x with h|h
  ·rw[Int.tdiv_eq_ediv_of_nonneg h];omega
  ·have e:x.tdiv 4=-((-x).tdiv 4):=by rw[Int.neg_tdiv,Int.neg_neg]
   rw[e,Int.tdiv_eq_ediv_of_nonneg (by omega)];omega
 rw[aK (by omega)]
 exact key
theorem CV{F T:HL}{s:Shp}{b:Nat}{R:Nat}{g:Nat -> Nat -> Value}{ty:TypeId}(h:ShIn ((b,.rows 9 R g ty (0,0))::T) s)(hT:∀x∈T,x∈F):ShIn F s:=by
 cases h with
 | circle r A cap=>exact .circle r A cap
 | poly r l c cap h h3 h4 h5 =>
  refine .poly r l c cap (hT _ ?_) h3 h4 h5
  rcases List.mem_cons.1 h with e|e
  ·injection e with _ e2
   injection e2 with e3 _ _ _ _
   exact absurd e3 (by decide)
  ·exact e
structure S20(xs:List Int)(S:Setup)(T:HL):Prop where
 pl:1 <= S.players /\ S.players <= 3
 nb:1 <= S.nb /\ S.nb <= 5
 rn:S.rn=3
 dn:S.dn <= 2
 fu:S.fuel=60
 V:SetV S
 B:BoxV S
 box:S.box=⟨-12000,-9000,12000,9000⟩
 val:kK S pB (jQ (kv xs 3 % 3).toNat)=0
 sin:∀F,(S.bb,.rows 9 S.bR (ge S.bods) 73 (0,0))∈F -> (∀x∈T,x∈F) -> SetIn F S
 map:∀F,(∀x∈T,x∈F) -> MapIn F S pB (jQ (kv xs 3 % 3).toNat)
theorem S20.of{F:HL}{A:Option Addr}{n:Nat}{xs:List Int}(hl:ArgD F A n xs){S:Setup}{T:HL}(h:SetG xs S T):S20 xs S T:=by
 have hf:=Gp hl h
 obtain⟨F',QS⟩:=hl.ex
 obtain⟨e1,e2,e3,e4,e5,e6,e7,e8⟩:=h.nums
 have k2:=gn QS 2
 refine⟨hf.pl,hf.nb,hf.rn,hf.dn,e8,setV QS h,⟨by rw[e6];omega,?_⟩,e1,hf.val,h.sin,h.maps.2⟩
 rw[e1]
 show (-1048576 <= (-12000:Int) /\ (-12000:Int) <= 12000 /\ (12000:Int) <= 1048576) /\ (-1048576 <= (-9000:Int) /\ (-9000:Int) <= 9000 /\ (9000:Int) <= 1048576)
 decide
theorem S20.pk{xs:List Int}{S:Setup}{T:HL}(h:S20 xs S T):S20 xs S.pk T:=by
 obtain⟨v1,v2,v3⟩:=za h.val
 have hV:=h.V
 refine⟨h.pl,h.nb,h.rn,h.dn,h.fu,⟨hV.pl,hV.nb,hV.ro,hV.fu⟩,⟨h.B.re,h.B.bx⟩,h.box,Mo (λ k hk=>?_) v2 (λ k hk=>?_),λ F hb hT=>?_,λ F hT=>?_⟩
 ·rw[ui (S:=S) hk]
  exact v1 k hk
 ·rw[ui (S:=S) hk]
  obtain⟨a1,a2,a3,a4,a5⟩:=v3 k hk
  have hb:=h.box
  refine⟨a1,a2,?_,?_,a5⟩
  ·show eh S.box.x0 S.box.x1 [aV ((S.body k).mot.px.tdiv 4)]
   rw[hb] at a3 ⊢
   rw[Mp] at a3 ⊢
   exact Ku (by decide) (by decide) a3 (by decide) (by decide)
  ·show eh S.box.y0 S.box.y1 [aV ((S.body k).mot.py.tdiv 4)]
   rw[hb] at a4 ⊢
   rw[Mp] at a4 ⊢
   exact Ku (by decide) (by decide) a4 (by decide) (by decide)
 ·have h0:=h.sin ((S.bb,.rows 9 S.bR (ge S.bods) 73 (0,0))::T) (List.mem_cons_self ..) (λ x hx=>List.mem_cons_of_mem _ hx)
  refine⟨⟨h0.pl,h0.nb⟩,hb,h0.room,λ k hk=>?_⟩
  rw[ui (S:=S) hk]
  exact CV (h0.shp k hk) hT
 ·have h1:=h.map F hT
  exact⟨h1.rooms,h1.doors⟩
theorem S20.size{xs:List Int}{S:Setup}{T:HL}(h:S20 xs S T):48 <= sizeOf S /\ sizeOf S <= 100:=by
 have h1:=h.pl
 have h2:=h.nb
 unfold sizeOf
 omega
theorem S20.sm{xs:List Int}{S:Setup}{T:HL}(h:S20 xs S T):∀k,k<S.nb -> GH (S.body k).sh:=λ k hk=>N3 ((za h.val).1 k hk)
theorem S20.bi{xs:List Int}{S:Setup}{T:HL}(h:S20 xs S T):BiA S ⟨d7 S S.nb,[],0⟩:=Mq h.V ⟨⟨h.B.bx.1.1,h.B.bx.1.2.2⟩,⟨h.B.bx.2.1,h.B.bx.2.2.2⟩⟩ (za h.val).2.2
theorem Hc(A:Option Addr)(n cap i:Nat)(m:Int)(xs:List Int)(F:HL)(hl:ArgL F A n xs)(hm:0<m):Sp Tryz.prog 21 #[.slice A n cap,vI (i:Int),vI m] (ap [] []) F (λ u H'=>∃v:Int,H'=ap [] [] /\ u=vI v):=by
 refine Sp.run Tryz.func21 rfl mn (A:=[]) (Ts:=[]) rfl λ w0=>?_
 refine aa 11 [] λ _=>RN.em ((i:Int)<0) 9 (λ h1=>?_) λ h1=>?_
 ·refine aa 13 [] λ _=>RN.ret [] [] [] (v:=vI 0) (H':=(ap [] [])) ?_
  exact⟨_,rfl,rfl⟩
 ·refine aa 7 [] λ _=>RN.em ((i:Int) >= (n:Int)) 14 (λ h2=>?_) λ h2=>?_
  ·refine aa 6 [] λ _=>RN.ret [] [] [] (v:=vI 0) (H':=(ap [] [])) ?_
   exact⟨_,rfl,rfl⟩
  ·refine aa 7 [] λ _=>?_
   obtain⟨qx3,Ys,Nx3,gx3,tyx3,fzx3,hAx3,ZT,hox3,hgx3,hrx3⟩:=hl.at (k:=i) (by omega)
   refine bZ 15 (congrArg (λ v_=>(.slice v_ n cap:Value)) hAx3)<|RN.ro (λ _=>(mc ZT mn))<|aq 2 [.ix i,.rorow 0 (Ys+i) 0] [(Ys+i*1)=(Ys+i)*1+0 /\ (Ys+i)<Nx3,(i:Int)=((i:Nat):Int) /\ i<n] λ _=>bZ 18 (congrArg (λ v_=>(v_:Value)) hgx3)<|aa 1 [] λ _=>al (fZ (xs.getD i 0) m (by omega) _)<|aa 3 [] λ _=>RN.ret [] [] [] (v:=vI (aP (xs.getD i 0) m)) (H':=(ap [] [])) ?_
   exact⟨_,rfl,rfl⟩
theorem w9(A:Option Addr)(n cap:Nat)(xs:List Int)(F:HL)(hl:ArgD F A n xs)(hn:n <= 9223372036854775807):Sp Tryz.prog 4 #[.slice A n cap] (ap [] []) F (λ u H'=>∃x:Setup × HL,H'=ap [(x.1.bb,.rows 9 x.1.bR (ge x.1.bods) 73 (0,0))] [x.2] /\ (u=Setup.v x.1 /\ S20 xs x.1 x.2)):=by
 refine Sp.run Tryz.func4 rfl mn (A:=[]) (Ts:=[]) rfl λ w0=>?_
 refine aa 8 [] λ n1=>RN.ct (Hp:=[]) (Tp:=[]) [] [] (hl.up.use λ F_ h_=>EZ A n cap xs _ h_ hn) ?_
 rintro _ ⟨S,TS⟩ ⟨rfl,hG⟩
 dsimp only at hG
 have hF:=Gp hl hG
 have DO:=hF.pl
 have RJ:=hF.nb
 have UN:=hF.rn
 have UW:=hF.dn
 have Pz:=hF.sz
 have QT:=ii S S.nb
 have PM:=S20.of hl hG
 have ZP:=hG.room
 refine aa 8 (ow 0 16) λ n2=>RN.ct (Hp:=[]) (Tp:=[]) [] [] (hl.up.use λ F_ h_=>Hc A n cap 0 2 xs _ h_ (by decide)) ?_
 rintro _ v3 rfl
 refine aa 3 [] λ _=>RN.em (v3=1) 10 (λ h4=>?_) λ h4=>?_
 ·refine aa 7 [] λ _=>RN.loop (σ:=Nat) (λ j_=>⟨[(2,vP (n1+0) 0),(3,vP (n2+0) 0),(4,vI (j_:Int))],[((n2+0),.lit (Setup.l S) 31 (0,0)),(S.bb,.rows 9 S.bR (ge (AX S.bods S.bo j_)) 73 (0,0)),((n1+0),.lit [vI 0,.slice none 0 0,vI 0,vI 0,vI 0,vI 0,.slice none 0 0,.slice none 0 0,vI 0,vI 0,vI 0,vI 0,vI 0,vI 0,vI 0,vI 0] 31 (0,0))],[TS],j_ <= S.nb,S.nb-j_⟩) 0 [0,1,2] [0] (Nat.zero_le _) ?_
  rintro j_ UR So
  refine aa 10 [.own 0] λ _=>RN.em ((j_:Int)<(S.nb:Int)) 15 (λ h7=>?_) λ h7=>?_
  ·refine aq 41 [.own 0,.ix j_,.row 1 (S.bo+j_) 2,.row 1 (S.bo+j_) 3,.own 0,.own 0,.own 1,.own 0,.own 0,.ix j_,.row 2 (S.bo+j_) 2,.row 2 (S.bo+j_) 3,.nw] [bF ((j_:Int)+1),((S.bo*9+j_*9)+3)=(S.bo+j_)*9+3 /\ (S.bo+j_)<S.bR,((S.bo*9+j_*9)+2)=(S.bo+j_)*9+2 /\ (S.bo+j_)<S.bR,(j_:Int)=((j_:Nat):Int) /\ j_<S.nb,((S.bo*9+j_*9)+3)=(S.bo+j_)*9+3 /\ (S.bo+j_)<S.bR,((S.bo*9+j_*9)+2)=(S.bo+j_)*9+2 /\ (S.bo+j_)<S.bR,(j_:Int)=((j_:Nat):Int) /\ j_<S.nb] λ n8=>sP 2 (.rows 9 S.bR (cM (cM (ge (AX S.bods S.bo j_)) (S.bo+j_) 2 (vI (i64.wrap ((((AX S.bods S.bo j_).getD (S.bo+j_) dB).mot.px).tdiv 4)))) (S.bo+j_) 3 (vI (i64.wrap ((((AX S.bods S.bo j_).getD (S.bo+j_) dB).mot.py).tdiv 4)))) 73 (0,0)) (.rows 9 S.bR (ge ((AX S.bods S.bo j_).set (S.bo+j_) (Ks ((AX S.bods S.bo j_).getD (S.bo+j_) dB)))) 73 (0,0)) (jH λ i_ k_ _ h_=>N4 (AX S.bods S.bo j_) (S.bo+j_) i_ k_ h_)<|bZ 4 (congrArg (λ v_=>(vI v_:Value)) (show (j_:Int)+1=((j_+1:Nat):Int) by omega)) ?_
   refine So (j_+1) [1,2,3] [0] ?_
   try dsimp only
   exact⟨by omega,by omega⟩
  ·refine aa 12 (ow 0 16++ow 2 16) λ _=>RN.ret (ow 2 16) [1] [0] (v:=(Setup.v S)) (H':=(ap [(S.bb,.rows 9 S.bR (ge (AX S.bods S.bo j_)) 73 (0,0))] [TS])) ?_
   obtain rfl:j_=S.nb:=by omega
   exact⟨(S.pk,TS),rfl,rfl,PM.pk⟩
 ·refine aa 9 (ow 0 16++ow 2 16) λ _=>RN.ret (ow 2 16) [1] [0] (v:=(Setup.v S)) (H':=(ap [(S.bb,.rows 9 S.bR (ge S.bods) 73 (0,0))] [TS])) ?_
  exact⟨(S,TS),rfl,rfl,PM⟩
theorem j6(mb q k:Nat)(M:MemS)(c v:Int)(T F:HL)(hq:(q,.lit [vP mb 0] 41 (0,0))∈F)(hM:MemH mb M (k+1) T):Sp Tryz.prog 99 #[vI c,vI v,vP q 0] (ap [] [T]) F (λ _ H'=>∃x,H'=ap [] [x] /\ MemH mb (kr M c v) k x):=by
 refine Sp.run Tryz.func99 rfl (mc hq mn) (A:=[]) (Ts:=[T]) rfl λ w0=>?_
 refine aa 4 [.ro 0] λ _=>al (aB c hM (aS 0))<|aa 4 [] λ _=>RN.en (M.get c=v) 9 (λ h1=>?_) λ h1=>?_
 ·refine aa 2 [] λ _=>RN.ret [] [] [0] (v:=.tuple #[]) (H':=(ap [] [T])) ?_
  exact⟨T,rfl,by unfold kr;rw[if_pos h1];exact hM.weak (by omega)⟩
 ·refine aa 5 [.ro 0] λ _=>RN.ct [] [0] (ak c v hM) ?_
  rintro _ T2 P6
  refine aa 1 [] λ _=>RN.ret [] [] [0] (v:=.tuple #[]) (H':=(ap [] [T2])) ?_
  exact⟨T2,rfl,by unfold kr;rw[if_neg h1];exact P6⟩
theorem CW(S:Setup)(wp bb hb xb n mb k:Nat)(sp sc ss:Int)(M W:MemS)(bl:List Mot)(hl:List Int)(xl:List Bx)(T F:HL)(hw:(wp,.lit (Setup.l S++[vS bb 0 n n,vS hb 0 n n,vS xb 0 n n,vI sp,vI sc,vI ss]) 156 (0,0))∈F)(UY:(bb,.rows 5 n (aD dk bl) 68 (0,0))∈F)(hh_:(hb,.rows 1 n (bk hl) 3 (0,0))∈F)(hS:SetIn F S)(hV:SetV S)(hn:n=S.nb)(Xw:(M.cs.length:Int)=sizeOf S)(hK:KpB S M W)(eW:W=nU S M)(hW:WR S W bl hl xl)(hM:MemH mb M (k+4+5*n) T):Sp Tryz.prog 69 #[vP wp 0,vP mb 0] (ap [] [T]) F (λ _ H'=>∃x:MemS × HL,H'=ap [] [x.2] /\ (ColR S M x.1 /\ MemH mb x.1 k x.2)):=by
 have RW:=hS.nb
 have ZX:=hS.pl
 have hzS:=nC hS.toSetN
 refine Sp.run Tryz.func69 rfl (mc hw (mc UY (mc hh_ (mc hS.blk mn)))) (A:=[]) (Ts:=[T]) rfl λ w0=>?_
 refine aa 23 [.ro 0] λ n1=>RN.loop (σ:=Nat × MemS × HL) (λ ⟨j_,N_,T_⟩=>⟨[(0,vP wp 0),(4,.func (.func 99) #[] #[vP (n1+0) 0]),(12,vS bb 0 n n),(13,vI (n:Int)),(14,vI (j_:Int))],[((n1+0),.lit [vP mb 0] 41 (0,0))],[T_],j_ <= n /\ Sto S M W N_ j_ /\ MemH mb N_ (k+4+5*(n-j_)) T_,n-j_⟩) (0,M,T) [0] [0] (⟨Nat.zero_le _,CP Xw,hM⟩) ?_
 rintro⟨j_,N_,T_⟩ ⟨UR,UJ,PD⟩ PK
 refine aa 6 [] λ _=>RN.em ((j_:Int)<(n:Int)) 15 (λ h4=>?_) λ h4=>?_
 ·refine aa 6 [] λ _=>?_
  replace PD:MemH mb N_ (k+4+5*(n-(j_+1))+5) T_:=PD.weak (by omega)
  refine aq 16 ([.ix j_,.rorow 1 j_ 0,.rorow 1 j_ 1,.rorow 1 j_ 2,.rorow 1 j_ 3,.rorow 1 j_ 4]++ow 0 5++[.ro 0,.ro 0,.ro 0,.ro 0,.ro 0,.ro 0,.ro 0,.ro 0,.ro 0,.ro 0,.ro 0,.ro 0,.ro 0,.ro 0,.ro 0,.ro 0]) [((0+j_*5)+4)=j_*5+4 /\ j_<n,((0+j_*5)+3)=j_*5+3 /\ j_<n,((0+j_*5)+2)=j_*5+2 /\ j_<n,((0+j_*5)+1)=j_*5+1 /\ j_<n,(0+j_*5)=j_*5+0 /\ j_<n,(j_:Int)=((j_:Nat):Int) /\ j_<n] λ n5=>al (cy S (j_:Int) _ hS.toSetN) ?_
  have hb6:=cw hS.toSetN (j_:Int)
  refine aq 11 [.nw,.own 0] [bF ((ae S (j_:Int))+0)] λ _=>RN.ct [] [0] (j6 mb (n1+0) ((k+4+5*(n-(j_+1)))+4) N_ ((ae S (j_:Int))+0) ((bl.getD j_ aj).px) T_ _ (aC 1) PD) ?_
  rintro _ T7 P4
  refine aq 10 [.nw,.own 0] [bF ((ae S (j_:Int))+1)] λ _=>RN.ct [] [0] (j6 mb (n1+0) ((k+4+5*(n-(j_+1)))+3) (kr N_ ((ae S (j_:Int))+0) ((bl.getD j_ aj).px)) ((ae S (j_:Int))+1) ((bl.getD j_ aj).py) T7 _ (aC 1) P4) ?_
  rintro _ T9 PV
  refine aq 10 [.nw,.own 0] [bF ((ae S (j_:Int))+2)] λ _=>RN.ct [] [0] (j6 mb (n1+0) ((k+4+5*(n-(j_+1)))+2) (kr (kr N_ ((ae S (j_:Int))+0) ((bl.getD j_ aj).px)) ((ae S (j_:Int))+1) ((bl.getD j_ aj).py)) ((ae S (j_:Int))+2) ((bl.getD j_ aj).vx) T9 _ (aC 1) PV) ?_
  rintro _ Pp IF
  refine aq 10 [.nw,.own 0] [bF ((ae S (j_:Int))+3)] λ _=>RN.ct [] [0] (j6 mb (n1+0) ((k+4+5*(n-(j_+1)))+1) (kr (kr (kr N_ ((ae S (j_:Int))+0) ((bl.getD j_ aj).px)) ((ae S (j_:Int))+1) ((bl.getD j_ aj).py)) ((ae S (j_:Int))+2) ((bl.getD j_ aj).vx)) ((ae S (j_:Int))+3) ((bl.getD j_ aj).vy) Pp _ (aC 1) IF) ?_
  rintro _ Sl P8
  refine aq 13 [.nw,.ro 0,.ix j_,.rorow 2 j_ 0] [(0+j_*1)=j_*1+0 /\ j_<n,(j_:Int)=((j_:Nat):Int) /\ j_<n,bF ((ae S (j_:Int))+6)] λ _=>RN.ct [] [0] (j6 mb (n1+0) ((k+4+5*(n-(j_+1)))+0) (kr (kr (kr (kr N_ ((ae S (j_:Int))+0) ((bl.getD j_ aj).px)) ((ae S (j_:Int))+1) ((bl.getD j_ aj).py)) ((ae S (j_:Int))+2) ((bl.getD j_ aj).vx)) ((ae S (j_:Int))+3) ((bl.getD j_ aj).vy)) ((ae S (j_:Int))+6) (hl.getD j_ 0) Sl _ (aC 1) P8) ?_
  rintro _ QQ P7
  refine aq 7 [.nw] [bF ((j_:Int)+1)] λ _=>bZ 14 (congrArg (λ v_=>(vI v_:Value)) (show (j_:Int)+1=((j_+1:Nat):Int) by omega)) ?_
  refine PK (j_+1,CO S j_ (bl.getD j_ aj) (hl.getD j_ 0) N_,QQ) [1] [0] ?_
  try dsimp only
  exact⟨⟨by omega,UJ.step hV (by omega) hK hW,P7⟩,by omega⟩
 ·refine aa 7 [] λ _=>?_
  replace PD:MemH mb N_ (k+4) T_:=PD.weak (by omega)
  refine aa 2 [] λ _=>RN.ct [] [0] (j6 mb (n1+0) (k+3) N_ 1 6 T_ _ (aC 0) PD) ?_
  rintro _ Q7 Qm
  refine aa 5 [] λ _=>RN.ct [] [0] (j6 mb (n1+0) (k+2) (kr N_ 1 6) 2 0 Q7 _ (aC 0) Qm) ?_
  rintro _ RS Rz
  refine aa 5 [] λ _=>RN.ct [] [0] (j6 mb (n1+0) (k+1) (kr (kr N_ 1 6) 2 0) 3 0 RS _ (aC 0) Rz) ?_
  rintro _ Yp R7
  refine aa 4 [] λ _=>RN.ct [] [0] (j6 mb (n1+0) (k+0) (kr (kr (kr N_ 1 6) 2 0) 3 0) 5 0 Yp _ (aC 0) R7) ?_
  rintro _ WU S_
  refine aa 1 [] λ _=>RN.ret [] [] [0] (v:=.tuple #[]) (H':=(ap [] [WU])) ?_
  obtain rfl:j_=n:=by omega
  exact⟨(_,WU),rfl,Sto.fin hV Xw (hn ▸ UJ) hK eW,S_⟩
end Go.Proofs.YthoijjeddhfcnaaGreatDoor
