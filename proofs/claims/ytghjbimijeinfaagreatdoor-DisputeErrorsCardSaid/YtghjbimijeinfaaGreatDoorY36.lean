import Derived.Test.YtghjbimijeinfaaGreatDoorY35
import Derived.Test.YtghjbimijeinfaaGreatDoorY20
set_option maxHeartbeats 4000000
set_option maxRecDepth 100000
set_option linter.unusedSimpArgs false
set_option linter.unusedVariables false
namespace Go.Proofs.YtghjbimijeinfaaGreatDoor
open Go.RowKit
noncomputable def Nd:TypeInfo:=match Tryz.prog.info? 22 with | some i=>i | none=>⟨.bool,"",0,0,false,0,0,none,false,#[]⟩
noncomputable def Nf:Value:=match Nd.zero with | some z=>z | none=>.bool false
theorem JZ:EncOk fh Tryz.prog 22 Nd Nf where
 info:=by kernel_rfl
 zero:=by kernel_rfl
 size:=by kernel_rfl
 zsize:=by kernel_rfl
 zcell:=λ k hk=>by
  have h:∀ k < 1,Nf.cells[k]?=some (fh.cell fh.dflt k):=by intro k hk;(iterate 1 (rcases k with _ | k;· kernel_rfl));omega
  exact h k hk
 one:=λ x k=>by unfold fh;dsimp only;split <;> rfl
 bytes:=Nat.le_of_ble_eq_true (by kernel_rfl)
theorem RwsT.snocC {rs:List Rw} {xss:List (List Inp)} {T T1:HL} {xs:List Inp} {A:Option Addr} {c n:Nat} (h:RwsT rs xss T) (hs:ClS gC 151 xs A c T1) (h1:1 <= xs.length) (hn:n=xs.length):RwsT (rs++[⟨A,n,c⟩]) (xss++[xs]) (T++T1):=by
 obtain ⟨A0,hs⟩:=hs
 rcases hs with ⟨rfl,_⟩ | ⟨b,rfl,rfl,h3⟩
 ·simp at h1
 ·refine h.snoc (A:=some ⟨b,0,none⟩) (c:=c) (T1:=[(b,.rows 3 c (cu gC xs) 151 (0,0))]) (.inr ⟨b,0,xs++List.replicate (c - xs.length) gC.dflt,by simp,?_,by simp;omega,h3,by simp⟩) h1 hn
  rw [Nat.zero_add,p9];rfl
def StT (sl:List Rw) (W:Nat -> List Int) (T:HL):Prop:=∀ F:HL,(∀ x ∈ T,x ∈ F) -> ∀ k,k < sl.length -> ∃ q,sl.getD k fh.dflt=⟨some ⟨q,0,none⟩,(W k).length,(W k).length⟩ /\ (q,.rows 1 (W k).length (aL (W k)) 3 (0,0)) ∈ F
theorem StT.nil (W:Nat -> List Int):StT [] W []:=λ F _ k hk=>absurd hk (Nat.not_lt_zero _)
theorem StT.snoc {sl:List Rw} {W:Nat -> List Int} {T:HL} {q:Nat} {cs:List Int} (h:StT sl W T) (e:W sl.length=cs):StT (sl++[⟨some ⟨q,0,none⟩,cs.length,cs.length⟩]) W (T++[(q,.rows 1 cs.length (aL cs) 3 (0,0))]):=λ F hF k hk=>by
 rw [jI]
 by_cases hk1:k < sl.length
 ·rw [if_pos hk1]
  exact h F (λ x hx=>hF x (List.mem_append_left _ hx)) k hk1
 ·have:k=sl.length:=by simp at hk;omega
  rw [if_neg hk1,if_pos this,this,e]
  exact ⟨q,rfl,hF _ (List.mem_append_right _ (List.mem_singleton.2 rfl))⟩
def oU (n:Nat) (Ln:Nat -> Nat):List Int:=(List.range n).map λ k=>((Ln k+1:Nat):Int)
theorem tn (n:Nat) (Ln:Nat -> Nat):(oU n Ln).length=n:=by simp [oU]
theorem yY (n:Nat) (Ln:Nat -> Nat):oU (n+1) Ln=oU n Ln++[((Ln n+1:Nat):Int)]:=by simp [oU,List.range_succ]
theorem Gi (S:Setup) (bp xp n1 n2 n3 rc sc lc q b o N cc m k:Nat) (rA sA lA:Option Addr) (ct tr ix vv τ:Int) (t:Nat) (j:Nat × Int) (rl sl:List Rw) (full xs:List Inp) (cs:List Int) (F:HL) (hx:(xp,.lit (Setup.l S++[vP bp 0,.slice rA n1 rc,vI ct,vI tr,vI ix,vI vv,.slice sA n2 sc,.slice lA n3 lc]) 235 (0,0)) ∈ F) (hS:SetIn F S) (hE:ck F) (hj:j.1 < 5) (hA:AtOk F bp (t:Int) j) (hsl:RowL fh 22 F sA n2 sl) (ht2:t < n2) (hst:sl.getD t fh.dflt=⟨some ⟨q,0,none⟩,cs.length,cs.length⟩) (hq:(q,.rows 1 cs.length (aL cs) 3 (0,0)) ∈ F) (hrl:RowL fh 56 F rA n1 rl) (ht1:t < n1) (hrw:rl.getD t fh.dflt=⟨some ⟨b,o * 3,none⟩,xs.length,cc⟩) (hI:(b,.rows 3 N (j9 full) 151 (0,0)) ∈ F) (hir:o+xs.length <= N) (hni:xs.length <= 1000000) (hx2:∀ k,k < xs.length -> full.getD (o+k) dI=xs.getD k dI) (hcl:cs.length <= 1000000) (hg:yX (fo S j xs) (rd (decide ((t:Int)=ct)) tr ix vv) (m+1) 0 ⟨cs,[],0⟩) (hm:m <= 999) (hk:k <= 1000000) (ht0:t <= 1000000):Sp Tryz.prog 113 #[vP xp 0,vI (t:Int),vI τ] [] F (λ u H'=>∃ x:Nat × HL,H'=ap [] [x.2] /\ ((0 <= τ /\ τ <= (m:Int) /\ u=.tuple #[vP x.1 0,vI τ] /\ MemH x.1 ((rd (decide ((t:Int)=ct)) tr ix vv) τ.toNat (mE (fo S j xs) (rd (decide ((t:Int)=ct)) tr ix vv) τ.toNat 0 ⟨cs,[],0⟩)) k x.2) \/ (¬ (0 <= τ /\ τ <= (m:Int)) /\ u=.tuple #[vP x.1 0,vI ((m+1:Nat):Int)] /\ MemH x.1 (mE (fo S j xs) (rd (decide ((t:Int)=ct)) tr ix vv) (m+1) 0 ⟨cs,[],0⟩) k x.2))):=by
 refine Sp.run Tryz.func113 rfl (mc hx mn) (A:=[]) (Ts:=[]) rfl λ w0=>?_
 refine ae 13 [.ro 0] λ _=>?_
 obtain ⟨qx1,ox1,Nx1,fx1,fzx1,hAx1,hqx1,hox1,hgx1⟩:=hsl.at (k:=t) ht2
 refine bn 18 (congrArg (λ v_=>(.slice v_ n2 sc:Value)) hAx1)<|RN.ro (λ _=>(mc hx (mc hqx1 mn)))<|al 2 [.ix t,.rorow 1 (ox1+t) 0] [(ox1 * 1+t * 1)=(ox1+t) * 1+0 /\ (ox1+t) < Nx1,(t:Int)=((t:Nat):Int) /\ t < n2] λ _=>bn 21 (congrArg (λ v_=>(.slice v_.A v_.n v_.c:Value)) hgx1)<|bn 21 (congrArg (λ v_:Rw=>Value.slice v_.A v_.n v_.c) hst)<|RN.ct (Hp:=[]) (Tp:=[]) [] [] (vY q cs cs.length (k+21 * (m+1)+21) cs.length _ rfl (au hq) hcl (by omega) (Nat.le_refl _)) ?_
 rintro _ ⟨mq,Tq⟩ ⟨rfl,hMq⟩
 dsimp only at hMq
 refine ae 10 [.ro 0] λ _=>RN.ct (Hp:=[]) (Tp:=[]) [] [] (hA _ (λ x hx=>au hx)) ?_
 rintro _ ⟨A2,c3,T4⟩ ⟨rfl,hc5⟩
 dsimp only at hc5
 refine ae 14 [.own 0,.own 0,.own 0,.own 0] λ n6=>RN.loop (σ:=Nat × Nat × MemS × HL) (λ ⟨r,k_,N_,T_⟩=>⟨[(0,vP xp 0),(1,vI (t:Int)),(2,vI τ),(8,vP mq 0),(9,vI j.2),(10,vP (n6+0) 0),(11,vI (k_:Int))],[((n6+0),.lit [.slice A2 (fy j.1) c3,vI (bC j.1 0),vI (bC j.1 1),vI (bC j.1 2)] 47 (0,0))],[T4,T_],k_+(r+1)=m+1 /\ yX (fo S j xs) (rd (decide ((t:Int)=ct)) tr ix vv) (r+1) k_ N_ /\ N_=(mE (fo S j xs) (rd (decide ((t:Int)=ct)) tr ix vv) k_ 0 ⟨cs,[],0⟩) /\ MemH mq N_ (k+21 * (r+1)+21) T_ /\ (0 <= τ -> (k_:Int) <= τ),r⟩) (m,0,⟨cs,[],0⟩,Tq) [0] [0,1] (⟨by omega,hg,rfl,hMq,λ h_=>h_⟩) ?_
 rintro ⟨r,k_,N_,T_⟩ ⟨hd_,hgd_,hN_,hM_,hτk_⟩ mt8
 refine ae 3 [] λ _=>om (σ:=MemS × HL) (λ ⟨F_,T2_⟩=>⟨[(0,vP xp 0),(1,vI (t:Int)),(2,vI τ),(8,vP mq 0),(9,vI j.2),(10,vP (n6+0) 0),(11,vI (k_:Int))],[((n6+0),.lit [.slice A2 (fy j.1) c3,vI (bC j.1 0),vI (bC j.1 1),vI (bC j.1 2)] 47 (0,0))],[T4,T2_],F_=(rd (decide ((t:Int)=ct)) tr ix vv) k_ N_ /\ MemH mq F_ (k+21 * (r+1)+20) T2_,0⟩) ?_ ?_
 ·intro mt9
  refine ae 10 [.ro 0] λ _=>RN.em ((t:Int)=ct) 41 (λ h10=>?_) λ h10=>?_
  ·refine ae 10 [.ro 0] λ _=>RN.em ((k_:Int)=tr) 49 (λ h11=>?_) λ h11=>?_
   ·refine ae 1 [] λ _=>RN.draw [13] []<|ag [] [0,1,7,2,8,3,9,4,10,5,11,6,12] [.ro 0,.ro 0]<|RD.one 13 (RDO.ct [] [] [1] (ai ix vv (show MemH mq N_ (k+21 * (r+1)+20+1) T_ from hM_.weak (by omega))) ?_)
    rintro _ T12 hM13
    refine RD.fin ?_
    refine mt9 ((N_.set ix vv),T12) [0] [1,0] ?_
    try dsimp only
    exact ⟨(by unfold rd;rw [decide_eq_true h10,if_pos rfl,if_pos h11]:(rd (decide ((t:Int)=ct)) tr ix vv) k_ N_=(N_.set ix vv)).symm,hM13.weak (by omega)⟩
   ·refine ae 2 [] λ _=>?_
    refine mt9 (N_,T_) [0] [0,1] ?_
    try dsimp only
    exact ⟨(by unfold rd;rw [decide_eq_true h10,if_pos rfl,if_neg h11]:(rd (decide ((t:Int)=ct)) tr ix vv) k_ N_=N_).symm,hM_.weak (by omega)⟩
  ·refine ae 12 [] λ _=>?_
   refine mt9 (N_,T_) [0] [0,1] ?_
   try dsimp only
   exact ⟨(by unfold rd;rw [decide_eq_false h10];rfl:(rd (decide ((t:Int)=ct)) tr ix vv) k_ N_=N_).symm,hM_.weak (by omega)⟩
 ·rintro ⟨F_,T2_⟩ ⟨hF_,hM2_⟩
  refine ae 9 [] λ _=>RN.em ((k_:Int)=τ) 66 (λ h14=>?_) λ h14=>?_
  ·refine ae 9 [] λ _=>RN.ret [] [] [1] (v:=.tuple #[vP mq 0,vI (k_:Int)]) (H':=(ap [] [T2_])) ?_
   refine ⟨(mq,T2_),rfl,.inl ⟨by omega,by omega,by rw [h14],?_⟩⟩
   have et_:τ.toNat=k_:=by omega
   rw [et_,<- hN_,<- hF_]
   exact hM2_.weak (by omega)
  ·refine ae 4 [] λ _=>RN.draw [15,22] []<|ag [] [0,2,6,7,8,12,1,3,9,4,10,5,11] [.own 0,.own 0,.own 0,.own 0,.ro 0,.ro 0,.ro 0,.ro 0,.ro 0,.ro 0,.ro 0,.ro 0,.ro 0,.ro 0,.ro 0,.ro 0,.ro 0,.ro 0,.ro 0,.ro 0,.ro 0] ?_
   obtain ⟨qx15,ox15,Nx15,fx15,fzx15,hAx15,hqx15,hox15,hgx15⟩:=hrl.at (k:=t) ht1
   refine Aw 81 (congrArg (λ v_=>(.slice v_ n1 rc:Value)) hAx15)<|RD.ro (λ _=>(mc hx (mc hqx1 (mc hqx15 mn))))<|aJ [] [13,14] [.ix t,.rorow 2 (ox15+t) 0] [(ox15 * 1+t * 1)=(ox15+t) * 1+0 /\ (ox15+t) < Nx15,(t:Int)=((t:Nat):Int) /\ t < n1]<|Aw 84 (congrArg (λ v_=>(.slice v_.A v_.n v_.c:Value)) hgx15)<|Aw 84 (congrArg (λ v_:Rw=>Value.slice v_.A v_.n v_.c) hrw)<|eh 15 20 ?_ ?_
   ·refine RDO.ct [] [] [1] (jH (g:=(⟨S,A2,fy j.1,c3,bC j.1 0,bC j.1 1,bC j.1 2,j.2,b,o,xs.length,cc,N,full,jZ j.1⟩:Gm)) (g0:=(fo S j xs)) (og hx2) mq F_ (k+21 * (r+1)) T2_ _ (hM2_.weak (by omega)) ⟨hS.up,au hI,⟨hir,by omega⟩,au hE,hc5.code hj (aA 0)⟩ (by rw [hF_];exact hgd_.1) j.2 rfl) ?_
    rintro _ T16 ⟨hM17,rfl⟩
    refine ag [] [16,17,18,19] []<|RD.one 20 (RDO.ev [] [] λ n18=>?_)
    refine ag [] [21] []<|RD.one 22 (RDO.ev [] [.own 0,.own 0,.own 0,.own 0] λ _=>?_)
    refine ag [] [23] []<|RD.fin<|ae 6 [] λ _=>fT (gM (fo S j xs) F_) 89 (λ h19=>?_) λ h19=>?_
    ·refine al 10 [.nw] [br ((k_:Int)+1)] λ _=>RN.ret [] [] [0] (v:=.tuple #[vP mq 0,vI ((k_:Int)+1)]) (H':=(ap [] [T16])) ?_
     have er_:r=0:=by
      rcases hgd_.2 with ⟨e_,_⟩ | ⟨e_,_⟩
      ·exact e_
      ·rw [hF_] at h19;exact absurd h19 (by rw [e_];decide)
     obtain rfl:k_=m:=by omega
     refine ⟨(mq,T16),rfl,.inr ⟨λ h_=>?_,by congr 3,?_⟩⟩
     ·have:=hτk_ h_.1;omega
     ·rw [nq,Nat.zero_add,<- hN_,<- hF_];exact hM17.weak (by omega)
    ·refine al 9 [.nw] [br ((k_:Int)+1)] λ _=>bn 11 (congrArg (λ v_=>(vI v_:Value)) (show (k_:Int)+1=((k_+1:Nat):Int) by omega)) ?_
     refine mt8 (r - 1,k_+1,(fO (fo S j xs) F_),T16) [1] [1,0] ?_
     try dsimp only
     have hg2_:=hgd_.2.resolve_left (λ h_=>h19 (by rw [hF_];exact h_.2))
     rcases r with _ | r
     ·exact hg2_.2.elim
     refine ⟨⟨by omega,?_,?_,hM17.weak (by omega),?_⟩,by omega⟩
     ·show yX (fo S j xs) (rd (decide ((t:Int)=ct)) tr ix vv) (r+1) (k_+1) (fO (fo S j xs) F_);rw [hF_];exact hg2_.2
     ·rw [hF_,hN_,nq,Nat.zero_add]
     ·intro h_;have:=hτk_ h_;omega
   ·refine RDO.ev [] [] λ n20=>RD.one 15 (RDO.ct [] [] [1] (jH (g:=(⟨S,A2,fy j.1,c3,bC j.1 0,bC j.1 1,bC j.1 2,j.2,b,o,xs.length,cc,N,full,jZ j.1⟩:Gm)) (g0:=(fo S j xs)) (og hx2) mq F_ (k+21 * (r+1)) T2_ _ (hM2_.weak (by omega)) ⟨hS.up,au hI,⟨hir,by omega⟩,au hE,hc5.code hj (aA 0)⟩ (by rw [hF_];exact hgd_.1) j.2 rfl) ?_)
    rintro _ T21 ⟨hM22,rfl⟩
    refine ag [] [16,17,18,19,21] []<|RD.one 22 (RDO.ev [] [.own 0,.own 0,.own 0,.own 0] λ _=>?_)
    refine ag [] [23] []<|RD.fin<|ae 6 [] λ _=>fT (gM (fo S j xs) F_) 89 (λ h23=>?_) λ h23=>?_
    ·refine al 10 [.nw] [br ((k_:Int)+1)] λ _=>RN.ret [] [] [0] (v:=.tuple #[vP mq 0,vI ((k_:Int)+1)]) (H':=(ap [] [T21])) ?_
     have er_:r=0:=by
      rcases hgd_.2 with ⟨e_,_⟩ | ⟨e_,_⟩
      ·exact e_
      ·rw [hF_] at h23;exact absurd h23 (by rw [e_];decide)
     obtain rfl:k_=m:=by omega
     refine ⟨(mq,T21),rfl,.inr ⟨λ h_=>?_,by congr 3,?_⟩⟩
     ·have:=hτk_ h_.1;omega
     ·rw [nq,Nat.zero_add,<- hN_,<- hF_];exact hM22.weak (by omega)
    ·refine al 9 [.nw] [br ((k_:Int)+1)] λ _=>bn 11 (congrArg (λ v_=>(vI v_:Value)) (show (k_:Int)+1=((k_+1:Nat):Int) by omega)) ?_
     refine mt8 (r - 1,k_+1,(fO (fo S j xs) F_),T21) [1] [1,0] ?_
     try dsimp only
     have hg2_:=hgd_.2.resolve_left (λ h_=>h23 (by rw [hF_];exact h_.2))
     rcases r with _ | r
     ·exact hg2_.2.elim
     refine ⟨⟨by omega,?_,?_,hM22.weak (by omega),?_⟩,by omega⟩
     ·show yX (fo S j xs) (rd (decide ((t:Int)=ct)) tr ix vv) (r+1) (k_+1) (fO (fo S j xs) F_);rw [hF_];exact hg2_.2
     ·rw [hF_,hN_,nq,Nat.zero_add]
     ·intro h_;have:=hτk_ h_;omega
theorem Gj (S:Setup) (bp xp n1 n2 n3 rc sc lc q b o N cc m k:Nat) (rA sA lA:Option Addr) (ct tr ix vv τ:Int) (t:Nat) (j:Nat × Int) (rl sl:List Rw) (full xs:List Inp) (cs:List Int) (F:HL) (hx:(xp,.lit (Setup.l S++[vP bp 0,.slice rA n1 rc,vI ct,vI tr,vI ix,vI vv,.slice sA n2 sc,.slice lA n3 lc]) 235 (0,0)) ∈ F) (hS:SetIn F S) (hE:ck F) (hj:j.1 < 5) (hA:AtOk F bp (t:Int) j) (hsl:RowL fh 22 F sA n2 sl) (ht2:t < n2) (hst:sl.getD t fh.dflt=⟨some ⟨q,0,none⟩,cs.length,cs.length⟩) (hq:(q,.rows 1 cs.length (aL cs) 3 (0,0)) ∈ F) (hrl:RowL fh 56 F rA n1 rl) (ht1:t < n1) (hrw:rl.getD t fh.dflt=⟨some ⟨b,o * 3,none⟩,xs.length,cc⟩) (hI:(b,.rows 3 N (j9 full) 151 (0,0)) ∈ F) (hir:o+xs.length <= N) (hni:xs.length <= 1000000) (hx2:∀ k,k < xs.length -> full.getD (o+k) dI=xs.getD k dI) (hcl:cs.length <= 1000000) (hg:yX (fo S j xs) (rd (decide ((t:Int)=ct)) tr ix vv) (m+1) 0 ⟨cs,[],0⟩) (hm:m <= 999) (hk:k <= 1000000) (ht0:t <= 1000000):Sp Tryz.prog 113 #[vP xp 0,vI (t:Int),vI τ] (ap [] []) F (λ u H'=>∃ x:Nat × HL,H'=ap [] [x.2] /\ ((0 <= τ /\ τ <= (m:Int) /\ u=.tuple #[vP x.1 0,vI τ] /\ MemH x.1 ((rd (decide ((t:Int)=ct)) tr ix vv) τ.toNat (mE (fo S j xs) (rd (decide ((t:Int)=ct)) tr ix vv) τ.toNat 0 ⟨cs,[],0⟩)) k x.2) \/ (¬ (0 <= τ /\ τ <= (m:Int)) /\ u=.tuple #[vP x.1 0,vI ((m+1:Nat):Int)] /\ MemH x.1 (mE (fo S j xs) (rd (decide ((t:Int)=ct)) tr ix vv) (m+1) 0 ⟨cs,[],0⟩) k x.2))):=Gi S bp xp n1 n2 n3 rc sc lc q b o N cc m k rA sA lA ct tr ix vv τ t j rl sl full xs cs F hx hS hE hj hA hsl ht2 hst hq hrl ht1 hrw hI hir hni hx2 hcl hg hm hk ht0
theorem yZ (S:Setup) (rs:List Bx) (ds:List Dr) (F:HL) (hS:SetCl F S) (hM:MapIn F S rs ds) (h1:1 <= S.nb) (hrn:S.rn <= 1000000) (hdn:S.dn <= 1000000):Sp Tryz.prog 111 #[(Setup.v S)] [] F (λ u H'=>∃ x:Setup × HL,H'=ap [] [x.2] /\ (u=Setup.v x.1 /\ SetEq S x.1 /\ m0 x.1 rs ds x.2)):=by
 have hp:=hS.pl
 have hn:=hS.nb
 have hr:=hS.room
 refine Sp.run Tryz.func111 rfl (mc hS.blk mn) (A:=[]) (Ts:=[]) rfl λ w0=>?_
 refine ae 10 [.own 1] λ n1=>RN.ct (Hp:=[]) (Tp:=[]) [] [] (kI (some ⟨S.bb,S.bo * 9,none⟩) S.nb S.bc (iY S) _ (RowL.src tL (by decide) (sD hS.toSh).up) (by omega)) ?_
 rintro _ ⟨A2,c3,T4⟩ ⟨rfl,hc5⟩
 dsimp only at hc5
 refine ae 7 [.own 1] λ _=>?_
 obtain ⟨bb,rfl,rfl,hcap0⟩:=hc5.open (by rw [fD];omega)
 have hcap:S.nb <= c3:=by rw [fD] at hcap0;exact hcap0
 refine uV 0 (x:=(bb,.rows 9 c3 (fF (iY S)) 106 (0,0)))<|ae 7 [.own 2] λ _=>RN.nt<|RN.loop (σ:=Nat × List Bod × HL) (λ ⟨i,bods,U_⟩=>⟨[(1,vP (n1+0) 0),(2,vP (n1+1) 0),(10,vI (S.nb:Int)),(11,vI (i:Int))],[(bb,.rows 9 c3 (fF bods) 106 (0,0)),((n1+1),.lit [vI 0,.slice none 0 0,vI 0,vI 0,vI 0,vI 0,.slice none 0 0,.slice none 0 0,vI 0,vI 0,vI 0,vI 0,vI 0,vI 0,vI 0,vI 0] 31 (0,0)),((n1+0),.lit [vI S.players,vS bb 0 S.nb c3,vI S.box.x0,vI S.box.y0,vI S.box.x1,vI S.box.y1,.slice S.rA S.rn S.rc,.slice S.dA S.dn S.dc,vI S.fog,vI S.g.x,vI S.g.y,vI S.push,vI S.drag,vI S.rest,vI S.rounds,vI S.fuel] 31 (0,0))],[U_],i <= S.nb /\ bods.length=S.nb /\ (∀ k,k < S.nb -> ∃ A c,bods.getD k dB=(S.body k).at A c) /\ (∀ k,k < i -> ShH (bods.getD k dB).sh U_) /\ ∀ k,i <= k -> k < S.nb -> bods.getD k dB=S.body k,S.nb - i⟩) (0,iY S,[]) [0,1,2] [0] (⟨Nat.zero_le _,fD S,λ k hk=>⟨_,_,gZ hk⟩,λ k hk=>absurd hk (Nat.not_lt_zero _),λ k _ hk=>gZ hk⟩) ?_
 rintro ⟨i,bods,U_⟩ ⟨hil,hbl_,hsame,hsh_,hfar⟩ mt7
 refine ae 6 [] λ _=>RN.em ((i:Int) < (S.nb:Int)) 12 (λ h8=>?_) λ h8=>?_
 ·refine ae 7 [] λ _=>?_
  have hsi_:(RowL kH 29 F (bods.getD i dB).sh.A (bods.getD i dB).sh.poly.length (bods.getD i dB).sh.poly /\ (bods.getD i dB).sh.poly.length <= 1000000) /\ ((bods.getD i dB).sh.poly=[] \/ 3 <= (bods.getD i dB).sh.poly.length):=by rw [hfar i (Nat.le_refl _) (by omega)];exact hS.shp i (by omega)
  have hrl_:=hsi_.1.1
  have hpl_:(bods.getD i dB).sh.poly.length <= 100000000:=by have:=hsi_.1.2;omega
  refine ae 4 [] λ _=>RN.draw [14] []<|aJ [] [0,2,3,5,1,4,6,7,8,9] [.own 2,.own 2,.ix i,.row 0 i 1] [((0+i * 9)+1)=i * 9+1 /\ i < c3,(i:Int)=((i:Nat):Int) /\ i < S.nb]<|RD.one 10 (RDO.ct [] (Hp:=[]) (Tp:=[]) [] [] (lP ((bods.getD i dB).sh.A) ((bods.getD i dB).sh.poly.length) ((bods.getD i dB).sh.cap) ((bods.getD i dB).sh.poly) _ (RowL.src xZ (by decide) hrl_.up) hpl_) ?_)
  rintro _ ⟨A9,c10,T11⟩ ⟨rfl,hc12⟩
  dsimp only at hc12
  refine aJ [] [11,12,13] [.ix i] [(i:Int)=((i:Nat):Int) /\ i < S.nb]<|RD.one 14 (dX [] [.row 0 i 1] [((0+i * 9)+1)=i * 9+1 /\ i < c3] λ _=>?_)
  refine RD.fin<|al 6 [.nw] [br ((i:Int)+1)] λ _=>eI 0 (congrArg (λ v_=>(.rows 9 c3 v_ 106 (0,0):Blk)) (show (dN (fF bods) i 1 (.slice A9 ((bods.getD i dB).sh.poly.length) c10))=(fF (bods.set i ((bods.getD i dB).at A9 c10))) from (zR (by omega) A9 c10)))<|oG [1,0]<|pP ?_
  refine mt7 (i+1,(bods.set i ((bods.getD i dB).at A9 c10)),U_++T11) [0,1,2] [0] ?_
  try dsimp only
  refine ⟨⟨by omega,by rw [List.length_set];exact hbl_,λ t ht=>?_,λ t ht=>?_,λ t h1_ h2_=>?_⟩,by omega⟩
  ·rcases Decidable.em (i=t) with rfl | h_
   ·rw [cr (by omega),hfar i (Nat.le_refl _) ht];exact ⟨_,_,rfl⟩
   ·rw [b6 h_];exact hsame t ht
  ·rcases Decidable.em (i=t) with rfl | h_
   ·rw [cr (by omega)];exact ShH.right (sE hsi_.2 hsi_.1.2 hc12)
   ·rw [b6 h_];exact (hsh_ t (by omega)).left
  ·rw [b6 (by omega)];exact hfar t (by omega) h2_
 ·refine ae 10 [.own 2] λ _=>RN.ct (Hp:=[]) (Tp:=[]) [] [] (lQ S.rA S.rn S.rc rs _ (RowL.src Ec (by decide) hM.rooms.up) (by omega)) ?_
  rintro _ ⟨A13,c14,T15⟩ ⟨rfl,hc16⟩
  dsimp only at hc16
  refine ae 8 [.own 2,.own 2] λ _=>RN.ct (Hp:=[]) (Tp:=[]) [] [] (kJ S.dA S.dn S.dc ds _ (RowL.src Ed (by decide) hM.doors.up) (by omega)) ?_
  rintro _ ⟨A17,c18,T19⟩ ⟨rfl,hc20⟩
  dsimp only at hc20
  refine ae 10 (ow 2 17++ow 1 16) λ _=>RN.ret (ow 1 16) [0] [0,1,2] (v:=.agg #[vI S.players,vS bb 0 S.nb c3,vI S.box.x0,vI S.box.y0,vI S.box.x1,vI S.box.y1,.slice A13 S.rn c14,.slice A17 S.dn c18,vI S.fog,vI S.g.x,vI S.g.y,vI S.push,vI S.drag,vI S.rest,vI S.rounds,vI S.fuel]) (H':=(ap [(bb,.rows 9 c3 (fF bods) 106 (0,0))] [T19,T15,U_])) ?_
  have ei:i=S.nb:=by omega
  subst ei
  have hbod:∀ k,bods.getD (0+k) dB=bods.getD k dB:=λ k=>by rw [Nat.zero_add]
  refine ⟨((⟨S.players,bb,0,S.nb,c3,c3,bods,S.box,A13,S.rn,c14,A17,S.dn,c18,S.fog,S.g,S.push,S.drag,S.rest,S.rounds,S.fuel⟩:Setup),[(bb,.rows 9 c3 (fF bods) 106 (0,0))]++(T19++T15++U_)),(by simp [ap]),rfl,⟨⟨rfl,rfl,rfl,rfl,rfl,rfl,rfl,rfl,rfl,rfl,rfl,rfl⟩,λ k hk=>?_,rfl,hbl_⟩,λ F2 hF=>⟨⟨⟨hp,by omega⟩,hF _ (by simp),(by show 0+S.nb <= c3;omega),λ k hk=>?_⟩,?_,?_⟩⟩
  ·obtain ⟨A,c,h⟩:=hsame k hk;exact ⟨A,c,by show bods.getD (0+k) dB=_;rw [hbod];exact h⟩
  ·show ShIn F2 (bods.getD (0+k) dB).sh;rw [hbod];exact hsh_ k hk F2 λ x hx=>hF x (by simp [hx])
  ·have h_:=hc16.rowL (F:=F2) λ x hx=>hF x (by simp [hx]);rw [hM.rooms.len] at h_;exact h_
  ·have h_:=hc20.rowL (F:=F2) λ x hx=>hF x (by simp [hx]);rw [hM.doors.len] at h_;exact h_
theorem za (S:Setup) (rs:List Bx) (ds:List Dr) (F:HL) (hS:SetCl F S) (hM:MapIn F S rs ds) (h1:1 <= S.nb) (hrn:S.rn <= 1000000) (hdn:S.dn <= 1000000):Sp Tryz.prog 111 #[Setup.v S] (ap [] []) F (λ u H'=>∃ x:Setup × HL,H'=ap [] [x.2] /\ (u=Setup.v x.1 /\ SetEq S x.1 /\ m0 x.1 rs ds x.2)):=yZ S rs ds F hS hM h1 hrn hdn
inductive ExeH (rs_:List Bx) (ds_:List Dr) (bp xp:Nat) (S S3:Setup) (ct tr ix vv:Int) (W:Nat -> List Int) (Ln:Nat -> Nat) (n:Nat) (pre:List (List Inp)):HL -> Prop
 | mk {rc sc lc:Nat} {rA sA lA:Option Addr} {rl sl:List Rw} {U Er Rr Es Ss El:HL} (h3:SetEq S S3) (hU:m0 S3 rs_ ds_ U) (hr:SlIs fh 56 rl rA rc Er) (hrl:rl.length=n) (hrr:RwsT rl pre Rr) (hs:SlIs fh 22 sl sA sc Es) (hsl:sl.length=n+1) (hst:StT sl W Ss) (hl:SlIs t2 3 (oU n Ln) lA lc El) :
  ExeH rs_ ds_ bp xp S S3 ct tr ix vv W Ln n pre (ap [(xp,.lit (Setup.l S3++[vP bp 0,.slice rA n rc,vI ct,vI tr,vI ix,vI vv,.slice sA (n+1) sc,.slice lA n lc]) 235 (0,0))] [U,Er,Rr,Es,Ss,El])
theorem AF {S:Setup} {F:HL} (hS:SetCl F S) {cs:List Int} (h:aK S S.nb=cs):Sp Tryz.prog 82 #[Setup.v S] (ap [] []) F (λ u H'=>∃ q,H'=ap [(q,.rows 1 cs.length (aL cs) 3 (0,0))] [] /\ u=vS q 0 cs.length cs.length):=by
 subst h
 rw [show (aK S S.nb).length=(sizeOf S).toNat by rw [fk]]
 exact sF S F hS
theorem I5 {mb:Nat} {M:MemS} {k:Nat} {T F:HL} {cs:List Int} (he:M.cs=cs) (hM:MemH mb M k T) (hT:∀ x ∈ T,x ∈ F):Sp Tryz.prog 13 #[vP mb 0] (ap [] []) F (λ u H'=>∃ q,H'=ap [(q,.rows 1 cs.length (aL cs) 3 (0,0))] [] /\ u=vS q 0 cs.length cs.length):=he ▸ wa mb M k T F hM hT
theorem Gk (S:Setup) (rs_:List Bx) (ds_:List Dr) (bp n cap:Nat) (J:Nat -> Nat × Int) (A:Option Addr) (rs:List Rw) (xss:List (List Inp)) (ct tr ix vv:Int) (W:Nat -> List Int) (Ln:Nat -> Nat) (F:HL) (hS:SetCl F S) (hM:MapIn F S rs_ ds_) (h1:1 <= S.nb) (hrn:S.rn <= 1000000) (hdn:S.dn <= 1000000) (hsz:(sizeOf S).toNat <= 1000000) (hE:ck F) (hr:RowL fh 56 F A n rs) (hw:RwsIn F rs xss) (hxl:∀ k,k < n -> 1 <= (xss.getD k []).length /\ (xss.getD k []).length <= 1000) (hn:n <= 50) (hW0:aK S S.nb=W 0) (hAt:∀ i,i < n -> (J i).1 < 5 /\ AtOk F bp (i:Int) (J i)) (hX:∀ S3,SetEq S S3 -> ∀ t,t < n -> XTk S (fo S3 (J t) (xss.getD t [])) t ct tr ix vv W Ln):Sp Tryz.prog 67 #[(Setup.v S),vP bp 0,.slice A n cap,.agg #[vI ct,vI tr,vI ix,vI vv]] [] F (λ u H'=>∃ x:Nat × Setup × HL,H'=ap [] [x.2.2] /\ (u=vP x.1 0 /\ SetEq S x.2.1 /\ ExeH rs_ ds_ bp x.1 S x.2.1 ct tr ix vv W Ln n xss x.2.2)):=by
 refine Sp.run Tryz.func67 rfl mn (A:=[]) (Ts:=[]) rfl λ w0=>?_
 refine ae 8 [] λ n1=>RN.draw [] []<|ag [] [0,2,3] (ow 1 16++[.own 0,.own 0,.own 0,.own 0])<|RD.one 1 (RDO.ct [] (Hp:=[]) (Tp:=[]) [] [] (za S rs_ ds_ _ hS.up hM.up h1 hrn hdn) ?_)
 rintro _ ⟨S2,U3⟩ ⟨rfl,he4,hU5⟩
 dsimp only at he4 hU5
 refine ag [] [4] []<|RD.one 5 (RDO.ev [] [] λ n6=>?_)
 refine ag [] [6] []<|RD.fin<|ae 4 (ow 2 16) λ _=>RN.ct (Hp:=[]) (Tp:=[]) [] [] (AF hS.up hW0) ?_
 rintro _ q7 rfl
 refine ae 12 [] λ _=>RN.nt<|RN.nt<|RN.nt<|RN.nt<|RN.nt<|RN.loop (σ:=Nat × (Option Addr × Nat × List Rw) × (Option Addr × Nat × List Rw) × (Option Addr × Nat) × Nat × HL × HL × HL × HL × HL) (λ ⟨i_,⟨ra_,rc_,rl_⟩,⟨sa_,sc_,sl_⟩,⟨la_,lc_⟩,q_,Er_,Rr_,Es_,Ss_,El_⟩=>⟨[(9,vP (n6+0) 0),(10,vS q_ 0 ((W i_).length) ((W i_).length)),(23,.slice A n cap),(24,vI (n:Int)),(25,vI (i_:Int))],[((n6+0),.lit [vI S2.players,vS S2.bb (S2.bo * 9) S2.nb S2.bc,vI S2.box.x0,vI S2.box.y0,vI S2.box.x1,vI S2.box.y1,.slice S2.rA S2.rn S2.rc,.slice S2.dA S2.dn S2.dc,vI S2.fog,vI S2.g.x,vI S2.g.y,vI S2.push,vI S2.drag,vI S2.rest,vI S2.rounds,vI S2.fuel,vP bp 0,.slice ra_ i_ rc_,vI ct,vI tr,vI ix,vI vv,.slice sa_ i_ sc_,.slice la_ i_ lc_] 235 (0,0)),(q_,.rows 1 ((W i_).length) (aL (W i_)) 3 (0,0))],[Er_,Rr_,Es_,Ss_,El_,U3],i_ <= n /\ SlIs fh 56 rl_ ra_ rc_ Er_ /\ rl_.length=i_ /\ RwsT rl_ (xss.take i_) Rr_ /\ SlIs fh 22 sl_ sa_ sc_ Es_ /\ sl_.length=i_ /\ StT sl_ W Ss_ /\ SlIs t2 3 (oU i_ Ln) la_ lc_ El_,n - i_⟩) (0,(none,0,[]),(none,0,[]),(none,0),q7,[],[],[],[],[]) [1,0] [0,1,2,3,4,5] (⟨Nat.zero_le _,SlIs.nil _ _,rfl,RwsT.nil,SlIs.nil _ _,rfl,StT.nil _,SlIs.nil _ _⟩) ?_
 rintro ⟨i_,⟨ra_,rc_,rl_⟩,⟨sa_,sc_,sl_⟩,⟨la_,lc_⟩,q_,Er_,Rr_,Es_,Ss_,El_⟩ ⟨hi_,hr_,hrl_,hrr_,hs_,hsl_,hst_,hle_⟩ mt9
 refine ae 6 [] λ _=>RN.em ((i_:Int) < (n:Int)) 26 (λ h10=>?_) λ h10=>?_
 ·refine ae 8 [] λ _=>?_
  obtain ⟨qx11,ox11,Nx11,fx11,fzx11,hAx11,hqx11,hox11,hgx11⟩:=hr.at (k:=i_) (by omega)
  refine bn 23 (congrArg (λ v_=>(.slice v_ n cap:Value)) hAx11)<|RN.ro (λ _=>(mc hqx11 mn))<|al 2 [.ix i_,.rorow 0 (ox11+i_) 0] [(ox11 * 1+i_ * 1)=(ox11+i_) * 1+0 /\ (ox11+i_) < Nx11,(i_:Int)=((i_:Nat):Int) /\ i_ < n] λ _=>bn 29 (congrArg (λ v_=>(.slice v_.A v_.n v_.c:Value)) hgx11) ?_
  obtain ⟨bw12,ow12,Nw12,fw12,cw12,ew12,hIw12,hiw12,hxw12,hcw12⟩:=hw.get (k:=i_) (by rw [hr.len];omega)
  refine bn 29 (congrArg (λ v_:Rw=>Value.slice v_.A v_.n v_.c) ew12) ?_
  have hl_:RowL gC 151 F (some ⟨bw12,ow12 * 3,none⟩) (xss.getD i_ []).length (xss.getD i_ []):=.rows bw12 ow12 Nw12 fw12 (0,0) _ _ hIw12 hiw12 rfl hxw12
  have hxl_:=hxl i_ (by omega)
  refine ae 5 [] λ _=>RN.draw [8,11] []<|ag [] [0,1,5,2,3,4] [.own 0]<|RD.one 6 (RDO.ct [] (Hp:=[]) (Tp:=[]) [] [] (o9 (some ⟨bw12,ow12 * 3,none⟩) ((xss.getD i_ []).length) cw12 (xss.getD i_ []) _ (hl_.up.src pQ (by decide)) (by omega)) ?_)
  rintro _ ⟨A13,c14,T15⟩ ⟨rfl,hc16⟩
  dsimp only at hc16
  refine RD.one 7 (RDO.ev [] [] λ n17=>?_)
  refine RD.one 8 (zz [] JQ rl_ [(⟨A13,(xss.getD i_ []).length,c14⟩:Rw)] 1 0 hrl_.symm hr_ (by simp;omega) ?_)
  rintro A18 c19 T20 ⟨hs21,hz22⟩
  refine ag [] [9,10] []<|RD.one 11 (RDO.ev [] [.own 1] λ _=>?_)
  refine RD.fin<|ae 10 [.own 1] λ n23=>iu JZ sl_ [(⟨some ⟨q_,0,none⟩,(W i_).length,(W i_).length⟩:Rw)] 3 0 hsl_.symm hs_ (by simp;omega) ?_
  rintro A24 c25 T26 ⟨hs27,hz28⟩
  refine ae 6 [.own 2] λ _=>?_
  have hcl0_:=hc16
  obtain ⟨_,hcw0_⟩:=hc16
  rcases hcw0_ with ⟨hx0_,_⟩ | ⟨bw_,rfl,rfl,hcw_⟩
  ·exfalso;rw [hx0_] at hxl_;exact absurd hxl_.1 (by decide)
  have htk_:=hX S2 he4 i_ (by omega)
  refine ae 3 [] λ _=>RN.ct (Hp:=[]) (Tp:=[]) [] [] (Gj S2 bp (n6+0) (i_+1) (i_+1) i_ c19 c25 lc_ q_ bw_ 0 c14 c14 (Ln i_) 0 A18 A24 la_ ct tr ix vv (-1) i_ (J i_) (rl_++[(⟨some ⟨bw_,0,none⟩,(xss.getD i_ []).length,c14⟩:Rw)]) (sl_++[(⟨some ⟨q_,0,none⟩,(W i_).length,(W i_).length⟩:Rw)]) (xss.getD i_ []) (xss.getD i_ []) (W i_) _ (aB 2) (hU5 _ (aA 6)).1 (au hE) (hAt i_ (by omega)).1 ((hAt i_ (by omega)).2.mono λ x hx=>au hx) (hs27.rowN (aA 0) (by simp [hsl_])) (by omega) (by rw [jI,if_neg (by omega),if_pos hsl_.symm]) (aB 3) (hs21.rowN (aA 1) (by simp [hrl_])) (by omega) (by rw [jI,if_neg (by omega),if_pos hrl_.symm]) ((aA 2) _ (List.mem_singleton.2 rfl)) (by omega) (by omega) (λ k hk=>by rw [Nat.zero_add]) (by have:=htk_.len.1;have:=hsz;omega) htk_.gd (by have:=htk_.le;omega) (by decide) (by omega)) ?_
  rintro _ ⟨mq,Tq⟩ h_
  obtain ⟨_,rfl,hMq⟩:=h_.resolve_left (λ h_=>by omega)
  dsimp only at hMq
  refine ae 16 [.own 2] λ n29=>iu xY (oU i_ Ln) [((Ln i_+1:Nat):Int)] 6 0 (tn i_ Ln).symm hle_ (by have h_:=tn i_ Ln;rw [h_];show i_+1 <= _;omega) ?_
  rintro A30 c31 T32 ⟨hs33,hz34⟩
  refine ae 7 [.own 3] λ _=>RN.ct (Hp:=[]) (Tp:=[]) [] [] (I5 htk_.next hMq (aA 1)) ?_
  rintro _ q35 rfl
  refine al 8 [.nw] [br ((i_:Int)+1)] λ _=>bn 23 (congrArg (λ v_=>(.slice v_ n cap:Value)) hAx11.symm)<|JP 5<|oG [7,0,1,2,3,4,5,6,8]<|pP<|oG [6,5,0,1,2,3,4,7]<|pP ?_
  refine mt9 (i_+1,(A18,c19,rl_++[(⟨some ⟨bw_,0,none⟩,(xss.getD i_ []).length,c14⟩:Rw)]),(A24,c25,sl_++[(⟨some ⟨q_,0,none⟩,(W i_).length,(W i_).length⟩:Rw)]),(A30,c31),q35,T20,Rr_++[(bw_,.rows 3 c14 (cu gC (xss.getD i_ [])) 151 (0,0))],T26,Ss_++[(q_,.rows 1 ((W i_).length) (aL (W i_)) 3 (0,0))],T32) [4,0] [5,0,4,1,2,6] ?_
  try dsimp only
  refine ⟨⟨by omega,hs21,by simp [hrl_],?_,hs27,by simp [hsl_],hst_.snoc (by rw [hsl_]),?_⟩,by omega⟩
  ·rw [CC (by rw [<- hw.len,hr.len];omega) []];exact hrr_.snocC hcl0_ (hxl i_ (by omega)).1 rfl
  ·rw [yY];exact hs33
 ·obtain rfl:n=i_:=by omega
  refine ae 15 [.own 0] λ n36=>iu JZ sl_ [(⟨some ⟨q_,0,none⟩,(W n).length,(W n).length⟩:Rw)] 2 0 hsl_.symm hs_ (by simp;omega) ?_
  rintro A37 c38 T39 ⟨hs40,hz41⟩
  refine ae 11 [.own 1] λ _=>JP 2<|oG [4,0,1,2,3,5,6]<|pP<|RN.ret [] [1] [5,2,3,1,0,4] (v:=vP (n6+0) 0) (H':=(ap [((n6+0),.lit [vI S2.players,vS S2.bb (S2.bo * 9) S2.nb S2.bc,vI S2.box.x0,vI S2.box.y0,vI S2.box.x1,vI S2.box.y1,.slice S2.rA S2.rn S2.rc,.slice S2.dA S2.dn S2.dc,vI S2.fog,vI S2.g.x,vI S2.g.y,vI S2.push,vI S2.drag,vI S2.rest,vI S2.rounds,vI S2.fuel,vP bp 0,.slice ra_ n rc_,vI ct,vI tr,vI ix,vI vv,.slice A37 (n+1) c38,.slice la_ n lc_] 235 (0,0))] [U3,Er_,Rr_,T39,(Ss_++[(q_,.rows 1 ((W n).length) (aL (W n)) 3 (0,0))]),El_])) ?_
  have hst2_:=hst_.snoc (q:=q_) (cs:=W n) (by rw [hsl_])
  rw [List.take_of_length_le (by rw [<- hw.len,hr.len];exact Nat.le_refl _)] at hrr_
  exact ⟨((n6+0),S2,ap [((n6+0),.lit [vI S2.players,vS S2.bb (S2.bo * 9) S2.nb S2.bc,vI S2.box.x0,vI S2.box.y0,vI S2.box.x1,vI S2.box.y1,.slice S2.rA S2.rn S2.rc,.slice S2.dA S2.dn S2.dc,vI S2.fog,vI S2.g.x,vI S2.g.y,vI S2.push,vI S2.drag,vI S2.rest,vI S2.rounds,vI S2.fuel,vP bp 0,.slice ra_ n rc_,vI ct,vI tr,vI ix,vI vv,.slice A37 (n+1) c38,.slice la_ n lc_] 235 (0,0))] [U3,Er_,Rr_,T39,(Ss_++[(q_,.rows 1 ((W n).length) (aL (W n)) 3 (0,0))]),El_]),by simp [ap],rfl,he4,ExeH.mk (xp:=(n6+0)) he4 hU5 hr_ hrl_ hrr_ hs40 (by simp [hsl_]) hst2_ hle_⟩
theorem re (S:Setup) (rs_:List Bx) (ds_:List Dr) (bp n cap:Nat) (J:Nat -> Nat × Int) (A:Option Addr) (rs:List Rw) (xss:List (List Inp)) (ct tr ix vv:Int) (W:Nat -> List Int) (Ln:Nat -> Nat) (F:HL) (hS:SetCl F S) (hM:MapIn F S rs_ ds_) (h1:1 <= S.nb) (hrn:S.rn <= 1000000) (hdn:S.dn <= 1000000) (hsz:(sizeOf S).toNat <= 1000000) (hE:ck F) (hr:RowL fh 56 F A n rs) (hw:RwsIn F rs xss) (hxl:∀ k,k < n -> 1 <= (xss.getD k []).length /\ (xss.getD k []).length <= 1000) (hn:n <= 50) (hW0:aK S S.nb=W 0) (hAt:∀ i,i < n -> (J i).1 < 5 /\ AtOk F bp (i:Int) (J i)) (hX:∀ S3,SetEq S S3 -> ∀ t,t < n -> XTk S (fo S3 (J t) (xss.getD t [])) t ct tr ix vv W Ln):Sp Tryz.prog 67 #[Setup.v S,vP bp 0,.slice A n cap,.agg #[vI ct,vI tr,vI ix,vI vv]] (ap [] []) F (λ u H'=>∃ x:Nat × Setup × HL,H'=ap [] [x.2.2] /\ (u=vP x.1 0 /\ SetEq S x.2.1 /\ ExeH rs_ ds_ bp x.1 S x.2.1 ct tr ix vv W Ln n xss x.2.2)):=Gk S rs_ ds_ bp n cap J A rs xss ct tr ix vv W Ln F hS hM h1 hrn hdn hsz hE hr hw hxl hn hW0 hAt hX
theorem CE (S:Setup) (bp xp n1 n2 n3 rc sc lc q:Nat) (rA sA lA:Option Addr) (ct tr ix vv:Int) (t:Nat) (sl:List Rw) (cs:List Int) (F:HL) (hx:(xp,.lit (Setup.l S++[vP bp 0,.slice rA n1 rc,vI ct,vI tr,vI ix,vI vv,.slice sA n2 sc,.slice lA n3 lc]) 235 (0,0)) ∈ F) (hsl:RowL fh 22 F sA n2 sl) (ht2:t < n2) (hst:sl.getD t fh.dflt=⟨some ⟨q,0,none⟩,cs.length,cs.length⟩) (hq:(q,.rows 1 cs.length (aL cs) 3 (0,0)) ∈ F) (hcl:cs.length <= 1000000):Sp Tryz.prog 345 #[vP xp 0,vI (t:Int)] [] F (λ u H'=>u=.int .u64 (oT cs) /\ H'=[]):=by
 refine Sp.run Tryz.func345 rfl (mc hx mn) (A:=[]) (Ts:=[]) rfl λ w0=>?_
 refine ae 11 [] λ _=>RN.em ((t:Int) < 0) 7 (λ h1=>?_) λ h1=>?_
 ·(exfalso;omega)
 ·refine ae 10 [.ro 0] λ _=>RN.em ((t:Int) >= (n2:Int)) 15 (λ h2=>?_) λ h2=>?_
  ·(exfalso;omega)
  ·refine ae 10 [.ro 0] λ _=>?_
   obtain ⟨qx3,ox3,Nx3,fx3,fzx3,hAx3,hqx3,hox3,hgx3⟩:=hsl.at (k:=t) (by omega)
   refine bn 19 (congrArg (λ v_=>(.slice v_ n2 sc:Value)) hAx3)<|RN.ro (λ _=>(mc hx (mc hqx3 mn)))<|al 2 [.ix t,.rorow 1 (ox3+t) 0] [(ox3 * 1+t * 1)=(ox3+t) * 1+0 /\ (ox3+t) < Nx3,(t:Int)=((t:Nat):Int) /\ t < n2] λ _=>bn 22 (congrArg (λ v_=>(.slice v_.A v_.n v_.c:Value)) hgx3)<|bn 22 (congrArg (λ v_:Rw=>Value.slice v_.A v_.n v_.c) hst)<|aj (tj q cs.length cs _ (au hq) (Nat.le_refl _) hcl)<|ae 3 [] λ _=>?_
   exact RN.ret [] [] [] ⟨rfl,rfl⟩
def RootOk (F:HL) (p n:Nat) (r:Int):Prop:=∀ F',(∀ x ∈ F,x ∈ F') -> Sp Tryz.prog 345 #[vP p 0,vI (n:Int)] [] F' (λ u H'=>u=.int .u64 r /\ H'=[])
theorem RootOk.mono {F F':HL} {p n:Nat} {r:Int} (h:RootOk F p n r) (hs:∀ x ∈ F,x ∈ F'):RootOk F' p n r:=λ F2 h2=>h F2 λ x hx=>h2 x (hs x hx)
section
variable {rs_:List Bx} {ds_:List Dr} {bp xp n:Nat} {S S3:Setup} {ct tr ix vv:Int} {W:Nat -> List Int} {Ln:Nat -> Nat} {pre:List (List Inp)} {G0 F:HL}
theorem ExeH.root (h:ExeH rs_ ds_ bp xp S S3 ct tr ix vv W Ln n pre G0) (hF:∀ x ∈ G0,x ∈ F) {t:Nat} (ht:t <= n) (hl:(W t).length <= 1000000):RootOk F xp t (oT (W t)):=λ F' hF'=>by
 cases h with
 | mk h3 hU hr hrl hrr hs hsl hst hle =>
  rename_i rc sc lc rA sA lA rl sl U Er Rr Es Ss El
  have hm:∀ {T:HL},T ∈ [U,Er,Rr,Es,Ss,El] -> ∀ x ∈ T,x ∈ F':=λ hT x hx=>hF' x (hF x (List.mem_append_right _ (List.mem_flatten.2 ⟨_,hT,hx⟩)))
  obtain ⟨q,e,hq⟩:=hst F' (hm (by simp)) t (by omega)
  exact CE S3 bp xp n (n+1) n rc sc lc q rA sA lA ct tr ix vv t sl (W t) F' (hF' _ (hF _ (by simp [ap]))) (hs.rowN (hm (by simp)) hsl) (by omega) e hq hl
end
end Go.Proofs.YtghjbimijeinfaaGreatDoor
