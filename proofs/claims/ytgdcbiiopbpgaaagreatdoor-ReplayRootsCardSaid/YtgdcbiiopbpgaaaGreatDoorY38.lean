import Derived.Test.YtgdcbiiopbpgaaaGreatDoorY21
import Derived.Test.YtgdcbiiopbpgaaaGreatDoorY36
import Derived.Test.YtgdcbiiopbpgaaaGreatDoorY37
set_option maxHeartbeats 4000000
set_option maxRecDepth 100000
set_option linter.unusedSimpArgs false
set_option linter.unusedVariables false
namespace Go.Proofs.YtgdcbiiopbpgaaaGreatDoor
open Go.RowKit
abbrev gi (S:Setup) (j:Nat × Int) (n:Nat) (xs:List Inp):Gm:=⟨S,none,cB j.1,0,bz j.1 0,bz j.1 1,bz j.1 2,j.2,0,0,n,0,0,xs,fF j.1⟩
def AtOk (F:HL) (bp:Nat) (t:Int) (j:Nat × Int):Prop:=∀ F',(∀ x ∈ F,x ∈ F') -> Sp Tryz.prog 124 #[vP bp 0,vI t] (ap [] []) F' (λ u H'=>∃ x:Option Addr × Nat × HL,H'=ap [] [x.2.2] /\ (u=.tuple #[vI j.2,.agg #[.slice x.1 (cB j.1) x.2.1,vI (bz j.1 0),vI (bz j.1 1),vI (bz j.1 2)]] /\ ClS gR 155 (fF j.1) x.1 x.2.1 x.2.2))
theorem AtOk.mono {F F':HL} {bp:Nat} {t:Int} {j:Nat × Int} (h:AtOk F bp t j) (hs:∀ x ∈ F,x ∈ F'):AtOk F' bp t j:=λ F2 h2=>h F2 λ x hx=>h2 x (hs x hx)
abbrev Nd (x:Eff × Bool):Array Value:=#[.agg #[vI x.1.t,vI x.1.i,vI x.1.k,vI x.1.v,.bool x.2]]
theorem ClS.code {j:Nat} (hj:j < 5) {A:Option Addr} {c:Nat} {Hl F:HL} (h:ClS gR 155 (fF j) A c Hl) (hF:∀ x ∈ Hl,x ∈ F):CodeIn F (fF j) A (cB j):=by
 have hl:=kY hj
 have hb:=pR hj
 obtain ⟨A0,h⟩:=h
 rcases h with ⟨h1,rfl,rfl,rfl⟩ | ⟨b,rfl,rfl,h3⟩
 ·rw [h1] at hl
  rw [<- hl]
  exact .nil _
 ·exact .mk b c _ (hF _ (List.mem_singleton.2 rfl)) (by rw [<- hl];exact h3) (by omega)
theorem ux {S:Setup} {A:Option Addr} {j:Nat × Int} {c ib io n ic N:Nat} {full xs:List Inp} (hx:∀ k,k < n -> full.getD (io+k) dI=xs.getD k dI):GEq ⟨S,A,cB j.1,c,bz j.1 0,bz j.1 1,bz j.1 2,j.2,ib,io,n,ic,N,full,fF j.1⟩ (gi S j n xs) :=
 ⟨rfl,λ k hk=>(hx k hk).trans (by rw [Nat.zero_add])⟩
theorem nH {g g0:Gm} (e:GEq g g0) (mb:Nat) (M:MemS) (k:Nat) (T F:HL) (hM:MemH mb M (k+20) T) (hg:GmIn F g) (h0:D1 M) (ver:Int) (hver:g.version=ver):Sp Tryz.prog 125 #[.iface 96 (vP mb 0),.agg #[vI g.S.players,vS g.S.bb (g.S.bo * 9) g.S.nb g.S.bc,vI g.S.box.x0,vI g.S.box.y0,vI g.S.box.x1,vI g.S.box.y1,.slice g.S.rA g.S.rn g.S.rc,.slice g.S.dA g.S.dn g.S.dc,vI g.S.fog,vI g.S.g.x,vI g.S.g.y,vI g.S.push,vI g.S.drag,vI g.S.rest,vI g.S.rounds,vI g.S.fuel],.agg #[.slice g.cA g.cn g.cc,vI g.e0,vI g.e1,vI g.e2],vI ver,vS g.ib (g.io * 3) g.ni g.ic] (ap [] [T]) F (λ u H'=>∃ x,H'=ap [] [x] /\ (MemH mb (kl g0 M) k x /\ u=.tuple #[.bool (iU g0 M),.agg #[vI ((eH g0 M).e.t),vI ((eH g0 M).e.i),vI ((eH g0 M).e.k),vI ((eH g0 M).e.v)],.bool ((eH g0 M).em)])):=by
 have h:=BG g mb M k T F hM hg h0 ver hver
 rwa [kl,Ec e,yc e] at h
theorem I4 (S:Setup) (bp gb mb q1 q2 ib io N ni ic m k:Nat) (j:Nat × Int) (full xs:List Inp) (M:MemS) (F:HL) (hj:j.1 < 5) (hA:AtOk F bp (M.get 0) j) (hg:(gb,.lit (dT S bp mb) 140 (0,0)) ∈ F) (h1:(q1,.lit [vP gb 0] 83 (0,0)) ∈ F) (h2:(q2,.lit [vS ib (io * 3) ni ic] 54 (0,0)) ∈ F) (hS:SetIn F S) (hE:dh F) (hI:(ib,.rows 3 N (kh full) 119 (0,0)) ∈ F) (hir:io+ni <= N /\ ni <= 1000000) (hx:∀ k,k < ni -> full.getD (io+k) dI=xs.getD k dI) (T:HL) (hM:MemH mb M (k+20 * m+20) T) (h0:0 <= M.get 0) (hgood:dG (gi S j ni xs) (m+1) M) (lp:Nat) (X:HL) (J:Nat -> HL -> Prop) (Jx:HL -> Prop) (T0:HL) (hY:∀ i x H Y,(iC (gi S j ni xs) (m+1) M)[i]?=some x -> J i H -> YL Tryz.prog lp (Nd x) H (Y++(X++F)) (λ b H'=>(b=true /\ J (i+1) H') \/ (b=false /\ Jx H'))) (hJ0:J 0 T0):Sp Tryz.prog 123 #[.func (.yield lp) #[] #[],vP q1 0,vP q2 0] (ap [] [T0,T]) (X++F) (λ _ H'=>∃ x:HL × HL,H'=ap [] [x.1,x.2] /\ ((J (iC (gi S j ni xs) (m+1) M).length x.1 /\ MemH mb (fU (gi S j ni xs) (m+1) M) k x.2) \/ Jx x.1)):=by
 have hg_:=List.mem_append_right X hg
 have h1_:=List.mem_append_right X h1
 have h2_:=List.mem_append_right X h2
 have hS_:SetIn (X++F) S:=hS.up
 have hE_:dh (X++F):=List.mem_append_right X hE
 have hI_:=List.mem_append_right X hI
 have hA_:AtOk (X++F) bp (M.get 0) j:=hA.mono λ x hx=>List.mem_append_right X hx
 refine Sp.run Tryz.func123 rfl (mc hg_ (mc h1_ (mc h2_ mn))) (A:=[]) (Ts:=[T0,T]) rfl λ w0=>?_
 refine ae 1 [] λ _=>RN.draw [12] []<|ag [] [0,4,1,2,3] [.ro 1,.ro 1,.ro 0]<|ar [] 5 (λ X_=>(wh S bp gb mb M (k+20 * m+20) T _ (pX hg_) hM (aR 1)))<|fH 6 10 ?_ ?_
 ·refine RDO.ct [] (Hp:=[]) (Tp:=[]) [] [] (hA_ _ (λ x hx=>aw hx)) ?_
  rintro _ ⟨A1,c2,T3⟩ ⟨rfl,hc4⟩
  dsimp only at hc4
  refine ag [] [7,8,9] []<|RD.one 10 (RDO.ev [] [] λ n5=>?_)
  refine ag [] [11] []<|RD.one 12 (RDO.ev [] [.own 0,.own 0,.own 0,.own 0] λ _=>?_)
  refine RD.fin<|ae 2 [] λ _=>RN.loop (σ:=Nat × Nat × MemS × HL × HL) (λ ⟨r,i_,M_,T_,J_⟩=>⟨[(0,.func (.yield lp) #[] #[]),(1,vP q1 0),(2,vP q2 0),(4,vI j.2),(5,vP (n5+0) 0)],[((n5+0),.lit [.slice A1 (cB j.1) c2,vI (bz j.1 0),vI (bz j.1 1),vI (bz j.1 2)] 109 (0,0))],[T_,J_,T3],i_+(r+1)=m+1 /\ dG (gi S j ni xs) (r+1) M_ /\ fU (gi S j ni xs) (r+1) M_=fU (gi S j ni xs) (m+1) M /\ MemH mb M_ (k+20 * r+20) T_ /\ (iC (gi S j ni xs) (m+1) M).drop i_=iC (gi S j ni xs) (r+1) M_ /\ J i_ J_,r⟩) (m,0,M,T,T0) [0] [2,1,0] (⟨by omega,hgood,rfl,hM,rfl,hJ0⟩) ?_
  rintro ⟨r,i_,M_,T_,J_⟩ ⟨hd_,hgood_,hrun_,hM_,hdr_,hJ_⟩ mt7
  refine ae 2 [] λ _=>RN.draw [12,19] []<|ag [] [0,5,9,10,11,1,6,2,7,3,8,4] [.ro 1,.ro 1,.own 0,.own 0,.own 0,.own 0,.ro 2,.ro 0,.ro 0,.ro 0,.ro 0,.ro 0,.ro 0,.ro 0,.ro 0,.ro 0,.ro 0,.ro 0,.ro 0,.ro 0,.ro 0,.ro 0,.ro 0,.ro 0]<|fH 12 17 ?_ ?_
  ·refine RDO.ct [] [] [0] (nH (g:=(⟨S,A1,cB j.1,c2,bz j.1 0,bz j.1 1,bz j.1 2,j.2,ib,io,ni,ic,N,full,fF j.1⟩:Gm)) (ux hx) mb M_ (k+20 * r) T_ _ hM_ ⟨hS_.up,aw hI_,hir,aw hE_,hc4.code hj (aA 1)⟩ hgood_.1 j.2 rfl) ?_
   rintro _ T8 ⟨hM9,rfl⟩
   refine ag [] [13,14,15,16] []<|RD.one 17 (RDO.ev [] [] λ n10=>?_)
   refine ag [] [18] []<|RD.one 19 (RDO.ev [] [.own 0,.own 0,.own 0,.own 0] λ _=>?_)
   refine ag [] [20] []<|RD.fin<|ae 7 [.own 0,.own 0,.own 0,.own 0] λ _=>RN.yield 1 (hY i_ ((eH (gi S j ni xs) M_).e,(eH (gi S j ni xs) M_).em) _ _ (gv hdr_).1 hJ_) ?_
   rintro b_ T11 (⟨rfl,hJ12⟩ | ⟨rfl,hJ12⟩)
   ·refine ae 6 [] λ _=>iZ (iU (gi S j ni xs) M_) 44 (λ h13=>?_) λ h13=>?_
    ·refine ae 1 [] λ _=>RN.ret [] [] [0,1] (v:=.tuple #[]) (H':=(ap [] [T11,T8])) ?_
     have er:r=0:=by
      rcases hgood_.2 with ⟨e,_⟩ | ⟨e,_⟩
      ·exact e
      ·have hh:iU (gi S j ni xs) M_=true:=by assumption
       rw [e] at hh;cases hh
     subst er
     have ed:i_+1=(iC (gi S j ni xs) (m+1) M).length:=by rw [iE];omega
     refine ⟨(T11,T8),rfl,.inl ⟨?_,?_⟩⟩
     ·rw [<- ed];exact hJ12
     ·rw [<- hrun_];exact hM9.weak (by omega)
    ·refine ae 3 [] λ _=>?_
     have hg2:=hgood_.2
     rcases hg2 with ⟨_,e_⟩ | ⟨_,hg2⟩
     ·exact absurd e_ (by assumption)
     rcases r with _ | r
     ·exact hg2.elim
     refine mt7 (r,i_+1,(kl (gi S j ni xs) M_),T8,T11) [1] [1,0,2] ?_
     try dsimp only
     exact ⟨⟨by omega,hg2,hrun_,hM9.weak (by omega),(gv hdr_).2,hJ12⟩,by omega⟩
   ·refine ae 7 [] λ _=>RN.ret [] [] [0,1] (v:=.tuple #[]) (H':=(ap [] [T11,T8])) ?_
    exact ⟨(T11,T8),rfl,.inr hJ12⟩
  ·refine RDO.ev [] [] λ n14=>RD.one 12 (RDO.ct [] [] [0] (nH (g:=(⟨S,A1,cB j.1,c2,bz j.1 0,bz j.1 1,bz j.1 2,j.2,ib,io,ni,ic,N,full,fF j.1⟩:Gm)) (ux hx) mb M_ (k+20 * r) T_ _ hM_ ⟨hS_.up,aw hI_,hir,aw hE_,hc4.code hj (aA 1)⟩ hgood_.1 j.2 rfl) ?_)
   rintro _ T15 ⟨hM16,rfl⟩
   refine ag [] [13,14,15,16,18] []<|RD.one 19 (RDO.ev [] [.own 0,.own 0,.own 0,.own 0] λ _=>?_)
   refine ag [] [20] []<|RD.fin<|ae 7 [.own 0,.own 0,.own 0,.own 0] λ _=>RN.yield 1 (hY i_ ((eH (gi S j ni xs) M_).e,(eH (gi S j ni xs) M_).em) _ _ (gv hdr_).1 hJ_) ?_
   rintro b_ T17 (⟨rfl,hJ18⟩ | ⟨rfl,hJ18⟩)
   ·refine ae 6 [] λ _=>iZ (iU (gi S j ni xs) M_) 44 (λ h19=>?_) λ h19=>?_
    ·refine ae 1 [] λ _=>RN.ret [] [] [0,1] (v:=.tuple #[]) (H':=(ap [] [T17,T15])) ?_
     have er:r=0:=by
      rcases hgood_.2 with ⟨e,_⟩ | ⟨e,_⟩
      ·exact e
      ·have hh:iU (gi S j ni xs) M_=true:=by assumption
       rw [e] at hh;cases hh
     subst er
     have ed:i_+1=(iC (gi S j ni xs) (m+1) M).length:=by rw [iE];omega
     refine ⟨(T17,T15),rfl,.inl ⟨?_,?_⟩⟩
     ·rw [<- ed];exact hJ18
     ·rw [<- hrun_];exact hM16.weak (by omega)
    ·refine ae 3 [] λ _=>?_
     have hg2:=hgood_.2
     rcases hg2 with ⟨_,e_⟩ | ⟨_,hg2⟩
     ·exact absurd e_ (by assumption)
     rcases r with _ | r
     ·exact hg2.elim
     refine mt7 (r,i_+1,(kl (gi S j ni xs) M_),T15,T17) [1] [1,0,2] ?_
     try dsimp only
     exact ⟨⟨by omega,hg2,hrun_,hM16.weak (by omega),(gv hdr_).2,hJ18⟩,by omega⟩
   ·refine ae 7 [] λ _=>RN.ret [] [] [0,1] (v:=.tuple #[]) (H':=(ap [] [T17,T15])) ?_
    exact ⟨(T17,T15),rfl,.inr hJ18⟩
 ·refine RDO.ev [] [] λ n20=>RD.one 6 (RDO.ct [] (Hp:=[]) (Tp:=[]) [] [] (hA_ _ (λ x hx=>aw hx)) ?_)
  rintro _ ⟨A21,c22,T23⟩ ⟨rfl,hc24⟩
  dsimp only at hc24
  refine ag [] [7,8,9,11] []<|RD.one 12 (RDO.ev [] [.own 0,.own 0,.own 0,.own 0] λ _=>?_)
  refine RD.fin<|ae 2 [] λ _=>RN.loop (σ:=Nat × Nat × MemS × HL × HL) (λ ⟨r,i_,M_,T_,J_⟩=>⟨[(0,.func (.yield lp) #[] #[]),(1,vP q1 0),(2,vP q2 0),(4,vI j.2),(5,vP (n20+0) 0)],[((n20+0),.lit [.slice A21 (cB j.1) c22,vI (bz j.1 0),vI (bz j.1 1),vI (bz j.1 2)] 109 (0,0))],[T_,J_,T23],i_+(r+1)=m+1 /\ dG (gi S j ni xs) (r+1) M_ /\ fU (gi S j ni xs) (r+1) M_=fU (gi S j ni xs) (m+1) M /\ MemH mb M_ (k+20 * r+20) T_ /\ (iC (gi S j ni xs) (m+1) M).drop i_=iC (gi S j ni xs) (r+1) M_ /\ J i_ J_,r⟩) (m,0,M,T,T0) [0] [2,1,0] (⟨by omega,hgood,rfl,hM,rfl,hJ0⟩) ?_
  rintro ⟨r,i_,M_,T_,J_⟩ ⟨hd_,hgood_,hrun_,hM_,hdr_,hJ_⟩ mt26
  refine ae 2 [] λ _=>RN.draw [12,19] []<|ag [] [0,5,9,10,11,1,6,2,7,3,8,4] [.ro 1,.ro 1,.own 0,.own 0,.own 0,.own 0,.ro 2,.ro 0,.ro 0,.ro 0,.ro 0,.ro 0,.ro 0,.ro 0,.ro 0,.ro 0,.ro 0,.ro 0,.ro 0,.ro 0,.ro 0,.ro 0,.ro 0,.ro 0]<|fH 12 17 ?_ ?_
  ·refine RDO.ct [] [] [0] (nH (g:=(⟨S,A21,cB j.1,c22,bz j.1 0,bz j.1 1,bz j.1 2,j.2,ib,io,ni,ic,N,full,fF j.1⟩:Gm)) (ux hx) mb M_ (k+20 * r) T_ _ hM_ ⟨hS_.up,aw hI_,hir,aw hE_,hc24.code hj (aA 1)⟩ hgood_.1 j.2 rfl) ?_
   rintro _ T27 ⟨hM28,rfl⟩
   refine ag [] [13,14,15,16] []<|RD.one 17 (RDO.ev [] [] λ n29=>?_)
   refine ag [] [18] []<|RD.one 19 (RDO.ev [] [.own 0,.own 0,.own 0,.own 0] λ _=>?_)
   refine ag [] [20] []<|RD.fin<|ae 7 [.own 0,.own 0,.own 0,.own 0] λ _=>RN.yield 1 (hY i_ ((eH (gi S j ni xs) M_).e,(eH (gi S j ni xs) M_).em) _ _ (gv hdr_).1 hJ_) ?_
   rintro b_ T30 (⟨rfl,hJ31⟩ | ⟨rfl,hJ31⟩)
   ·refine ae 6 [] λ _=>iZ (iU (gi S j ni xs) M_) 44 (λ h32=>?_) λ h32=>?_
    ·refine ae 1 [] λ _=>RN.ret [] [] [0,1] (v:=.tuple #[]) (H':=(ap [] [T30,T27])) ?_
     have er:r=0:=by
      rcases hgood_.2 with ⟨e,_⟩ | ⟨e,_⟩
      ·exact e
      ·have hh:iU (gi S j ni xs) M_=true:=by assumption
       rw [e] at hh;cases hh
     subst er
     have ed:i_+1=(iC (gi S j ni xs) (m+1) M).length:=by rw [iE];omega
     refine ⟨(T30,T27),rfl,.inl ⟨?_,?_⟩⟩
     ·rw [<- ed];exact hJ31
     ·rw [<- hrun_];exact hM28.weak (by omega)
    ·refine ae 3 [] λ _=>?_
     have hg2:=hgood_.2
     rcases hg2 with ⟨_,e_⟩ | ⟨_,hg2⟩
     ·exact absurd e_ (by assumption)
     rcases r with _ | r
     ·exact hg2.elim
     refine mt26 (r,i_+1,(kl (gi S j ni xs) M_),T27,T30) [1] [1,0,2] ?_
     try dsimp only
     exact ⟨⟨by omega,hg2,hrun_,hM28.weak (by omega),(gv hdr_).2,hJ31⟩,by omega⟩
   ·refine ae 7 [] λ _=>RN.ret [] [] [0,1] (v:=.tuple #[]) (H':=(ap [] [T30,T27])) ?_
    exact ⟨(T30,T27),rfl,.inr hJ31⟩
  ·refine RDO.ev [] [] λ n33=>RD.one 12 (RDO.ct [] [] [0] (nH (g:=(⟨S,A21,cB j.1,c22,bz j.1 0,bz j.1 1,bz j.1 2,j.2,ib,io,ni,ic,N,full,fF j.1⟩:Gm)) (ux hx) mb M_ (k+20 * r) T_ _ hM_ ⟨hS_.up,aw hI_,hir,aw hE_,hc24.code hj (aA 1)⟩ hgood_.1 j.2 rfl) ?_)
   rintro _ T34 ⟨hM35,rfl⟩
   refine ag [] [13,14,15,16,18] []<|RD.one 19 (RDO.ev [] [.own 0,.own 0,.own 0,.own 0] λ _=>?_)
   refine ag [] [20] []<|RD.fin<|ae 7 [.own 0,.own 0,.own 0,.own 0] λ _=>RN.yield 1 (hY i_ ((eH (gi S j ni xs) M_).e,(eH (gi S j ni xs) M_).em) _ _ (gv hdr_).1 hJ_) ?_
   rintro b_ T36 (⟨rfl,hJ37⟩ | ⟨rfl,hJ37⟩)
   ·refine ae 6 [] λ _=>iZ (iU (gi S j ni xs) M_) 44 (λ h38=>?_) λ h38=>?_
    ·refine ae 1 [] λ _=>RN.ret [] [] [0,1] (v:=.tuple #[]) (H':=(ap [] [T36,T34])) ?_
     have er:r=0:=by
      rcases hgood_.2 with ⟨e,_⟩ | ⟨e,_⟩
      ·exact e
      ·have hh:iU (gi S j ni xs) M_=true:=by assumption
       rw [e] at hh;cases hh
     subst er
     have ed:i_+1=(iC (gi S j ni xs) (m+1) M).length:=by rw [iE];omega
     refine ⟨(T36,T34),rfl,.inl ⟨?_,?_⟩⟩
     ·rw [<- ed];exact hJ37
     ·rw [<- hrun_];exact hM35.weak (by omega)
    ·refine ae 3 [] λ _=>?_
     have hg2:=hgood_.2
     rcases hg2 with ⟨_,e_⟩ | ⟨_,hg2⟩
     ·exact absurd e_ (by assumption)
     rcases r with _ | r
     ·exact hg2.elim
     refine mt26 (r,i_+1,(kl (gi S j ni xs) M_),T34,T36) [1] [1,0,2] ?_
     try dsimp only
     exact ⟨⟨by omega,hg2,hrun_,hM35.weak (by omega),(gv hdr_).2,hJ37⟩,by omega⟩
   ·refine ae 7 [] λ _=>RN.ret [] [] [0,1] (v:=.tuple #[]) (H':=(ap [] [T36,T34])) ?_
    exact ⟨(T36,T34),rfl,.inr hJ37⟩
theorem Lo (S:Setup) (bp gb mb q1 q2 ib io N ni ic m k:Nat) (j:Nat × Int) (full xs:List Inp) (M:MemS) (F:HL) (hj:j.1 < 5) (hA:AtOk F bp (M.get 0) j) (hg:(gb,.lit (dT S bp mb) 140 (0,0)) ∈ F) (h1:(q1,.lit [vP gb 0] 83 (0,0)) ∈ F) (h2:(q2,.lit [vS ib (io * 3) ni ic] 54 (0,0)) ∈ F) (hS:SetIn F S) (hE:dh F) (hI:(ib,.rows 3 N (kh full) 119 (0,0)) ∈ F) (hir:io+ni <= N /\ ni <= 1000000) (hx:∀ k,k < ni -> full.getD (io+k) dI=xs.getD k dI) (T:HL) (hM:MemH mb M (k+20 * m+20) T) (h0:0 <= M.get 0) (hgood:dG (gi S j ni xs) (m+1) M):N0 Tryz.prog 123 #[vP q1 0,vP q2 0] T F Nd (iC (gi S j ni xs) (m+1) M) (λ T1=>MemH mb (fU (gi S j ni xs) (m+1) M) k T1) (λ _=>True):=by
 intro X l J Jx H0 hY h0'
 have e:∀ A B:HL,ap [] [A,B]=A++B:=λ A B=>by simp [ap]
 have key:=I4 S bp gb mb q1 q2 ib io N ni ic m k j full xs M F hj hA hg h1 h2 hS hE hI hir hx T hM h0 hgood l X J Jx H0 hY h0'
 rw [e] at key
 refine key.mono λ u H' h=>?_
 obtain ⟨x,rfl,h⟩:=h
 refine ⟨x.1,x.2,e _ _,?_⟩
 rcases h with ⟨a,b⟩ | a
 ·exact .inl ⟨a,b⟩
 ·exact .inr ⟨a,trivial⟩
theorem F9 (e:Int) (S:Setup) (bp gb mb:Nat) (M:MemS) (k:Nat) (A:Option Addr) (n cap:Nat) (xs:List Inp) (T F:HL) (hg:(gb,.lit (dT S bp mb) 140 (0,0)) ∈ F) (hM:MemH mb M k T) (hT:∀ x ∈ T,x ∈ F) (hl:RowL fI 119 F A n xs) (hn:n <= 1000000) (he:fp S.players n xs (M.get 0)=e):Sp Tryz.prog 101 #[vP gb 0,.slice A n cap] [] F (λ u H'=>u=vI e /\ H'=[]):=he ▸ yu S bp gb mb M k A n cap xs T F hg hM hT hl hn
theorem Ga (c0 c1 c2 c3 c4:Value) (F:HL):SpD Tryz.prog 102 #[c0,c1,c2,c3,c4] (ap [] []) F (λ _ H'=>∃ _:Unit,H'=ap [] [] /\ True):=by
 exact (F8 c0 c1 c2 c3 c4 F).mono λ u H' h=>⟨(),h,trivial⟩
theorem Gb (S:Setup) (rs:List Bx) (ds:List Dr) (bp gb mb ib io N ni ic m k:Nat) (j:Nat × Int) (full xs:List Inp) (M:MemS) (T U F:HL) (hj:j.1 < 5) (hA:AtOk F bp (M.get 0) j) (hU:nr S rs ds U) (hE:dh F) (hI:(ib,.rows 3 N (kh full) 119 (0,0)) ∈ F) (hir:io+ni <= N) (hni:ni <= 1000000) (hmb:m <= 1000000) (hlen:xs.length=ni) (hx:∀ k,k < ni -> full.getD (io+k) dI=xs.getD k dI) (hM:MemH mb M (k+20 * m+20) T) (h0:0 <= M.get 0) (hgood:dG (gi S j ni xs) (m+1) M) (hw:fp S.players ni xs (M.get 0)=0):Sp Tryz.prog 70 #[vP gb 0,vS ib (io * 3) ni ic] (ap [(gb,.lit (dT S bp mb) 140 (0,0))] [T,U]) F (λ u H'=>∃ x:HL × Option Addr × Nat × HL,H'=ap [(gb,.lit (dT S bp mb) 140 (0,0))] [x.1,U,x.2.2.2] /\ (MemH mb (fU (gi S j ni xs) (m+1) M) k x.1 /\ SlIs vt 197 (fA (gi S j ni xs) (m+1) M) x.2.1 x.2.2.1 x.2.2.2 /\ u=.tuple #[.slice x.2.1 (fA (gi S j ni xs) (m+1) M).length x.2.2.1,vI ((m+1:Nat):Int),vI 0])):=by
 have hl:RowL fI 119 F (some ⟨ib,io * 3,none⟩) ni xs:=.rows ib io N full (0,0) ni xs hI hir hlen hx
 have hM2:=hM
 refine Sp.runM Tryz.func70 rfl mn (A:=[(gb,.lit (dT S bp mb) 140 (0,0))]) (Ts:=[T,U]) rfl λ w0=>?_
 refine ae 13 [.own 3] λ n1=>aj (F9 0 S bp gb mb M (k+20 * m+20) (some ⟨ib,io * 3,none⟩) ni ic xs T _ (aB 4) hM (aA 0) hl.up hni hw)<|ae 18 [.own 3,.own 4] λ _=>aj (wg hM (aA 0))<|ae 7 [.own 0] λ n2=>M8 (g:=102) (args:=#[]) (cap:=#[vP (n1+0) 0,vP (n2+0) 0,vP (n1+1) 0,vP (n1+2) 0,vP (n1+3) 0])<|ae 7 [.own 4] λ _=>RN.ct (Hp:=[]) (Tp:=[]) [] [] (yv gb ib io ni ic _) ?_
 rintro _ n3 rfl
 refine ae 3 [] λ _=>RN.nt<|m6 [1,0,2]<|CE (σ:=Nat × List Eff × Option Addr × Nat × HL) (τ:=(Nat × List Eff × Option Addr × Nat × HL) × Nat × (Eff × Bool)) (encs:=λ (x_:Eff × Bool)=>#[.agg #[vI x_.1.t,vI x_.1.i,vI x_.1.k,vI x_.1.v,.bool x_.2]]) (xs:=(iC (gi S j ni xs) (m+1) M)) (enters_of Tryz.func123 (by kernel_rfl) rfl) (λ ⟨c_,es_,B_,b_,E_⟩=>([((n1+1),.lit [.slice B_ es_.length b_] 145 (0,0)),((n1+2),.lit [vI (c_:Int)] 3 (0,0))],[E_])) (λ i_ ⟨c_,es_,B_,b_,E_⟩=>c_=i_ /\ es_=lO ((iC (gi S j ni xs) (m+1) M).take i_) /\ SlIs vt 197 es_ B_ b_ E_) (λ c_ ⟨c_,es_,B_,b_,E_⟩=>False) (λ ⟨⟨c_,es_,B_,b_,E_⟩,nn_,y_⟩=>⟨[(4,vP (n1+1) 0),(5,vP (n1+2) 0),(6,vP (n1+3) 0),(9,vP (nn_+0) 0)],[((nn_+0),.lit [vI y_.1.t,vI y_.1.i,vI y_.1.k,vI y_.1.v,.bool y_.2] 199 (0,0)),((n1+1),.lit [.slice B_ es_.length b_] 145 (0,0)),((n1+2),.lit [vI (c_:Int)] 3 (0,0))],[E_],True,0⟩) (λ i_ x_ ⟨⟨c_,es_,B_,b_,E_⟩,nn_,y_⟩=>(c_=i_ /\ es_=lO ((iC (gi S j ni xs) (m+1) M).take i_) /\ SlIs vt 197 es_ B_ b_ E_) /\ y_=x_) (0,[],none,0,[]) (⟨rfl,rfl,SlIs.nil _ _⟩) [5,4] [1] T (Lo S bp gb mb (n3+0) (n3+1) ib io N ni ic m k j full xs M _ hj (hA.mono λ x hx=>aw hx) (aB 5) (aB 1) (aB 0) (hU _ (aA 0)).1 (aw hE) (aw hI) ⟨hir,hni⟩ hx T hM2 h0 hgood) ?_ ?_ ?_ ?_
 ·rintro l_ i_ x_ ⟨c_,es_,B_,b_,E_⟩ Y4 w5 hx6 ⟨hc_,he_,hs_⟩ mt7
  refine ae 4 (ow 0 5) λ n8=>?_
  refine mt7 ((c_,es_,B_,b_,E_),n8,x_) [0,1,2] [0] ?_
  try dsimp only
  exact ⟨⟨hc_,he_,hs_⟩,rfl⟩
 ·rintro l_ i_ x_ ⟨⟨c_,es_,B_,b_,E_⟩,nn_,y_⟩ Y9 w10 hx11 ⟨⟨hc_,he_,hs_⟩,ey_⟩
  subst ey_
  have hbd_:i_ < m+1:=by have:=(List.getElem?_eq_some_iff.1 hx11).1;rwa [iE] at this
  have hel_:es_.length <= i_:=by rw [he_];have:=vL ((iC (gi S j ni xs) (m+1) M).take i_);rw [List.length_take] at this;omega
  refine ai 14 [.own 2,.nw,.own 2,.own 0] [bd ((c_:Int)+1)] λ _=>iZ (y_.2) 29 (λ h12=>?_) λ h12=>?_
  ·refine ae 6 [.own 1,.own 0,.own 0,.own 0,.own 0] λ n13=>gD KD es_ [y_.1] 0 0 rfl hs_ (by simp;omega) ?_
   rintro A14 c15 T16 ⟨hs17,hz18⟩
   refine ae 3 [.own 2] λ _=>cR 3 (congrArg (λ v_=>(.lit [vI v_] 3 (0,0):Blk)) (show ((c_:Int)+1)=((c_+1:Nat):Int) by omega))<|cR 2 (congrArg (λ v_=>(.lit [.slice A14 v_ c15] 145 (0,0):Blk)) (show es_.length+1=(es_++[y_.1]).length by simp))<|RN.rn (c_+1,es_++[y_.1],A14,c15,T16) [2,3] [0] ?_
   try dsimp only
   exact ⟨by omega,by rw [EA hx11 h12,<- he_],hs17⟩
  ·refine ae 3 [] λ _=>cR 2 (congrArg (λ v_=>(.lit [vI v_] 3 (0,0):Blk)) (show ((c_:Int)+1)=((c_+1:Nat):Int) by omega))<|RN.rn (c_+1,es_,B_,b_,E_) [1,2] [0] ?_
   try dsimp only
   exact ⟨by omega,by rw [H6 hx11 h12,<- he_],hs_⟩
 ·rintro d19 ⟨c_,es_,B_,b_,E_⟩ T20 ⟨hc_,he_,hs_⟩ hT21
  refine ae 3 [] λ _=>RN.draw [0,1,2,3,4] []<|jy (σ:=Unit) (λ _=>⟨[(4,vP (n1+1) 0),(5,vP (n1+2) 0),(6,vP (n1+3) 0)],[(d19,.obj (.deferred (some []))),((n1+1),.lit [.slice B_ es_.length b_] 145 (0,0)),((n1+2),.lit [vI (c_:Int)] 3 (0,0)),((n3+1),.lit [vS ib (io * 3) ni ic] 54 (0,0)),((n3+0),.lit [vP gb 0] 83 (0,0)),((n2+0),.lit [vI (aY (M.base+(M.lg.length:Int)))] 3 (0,0)),((n1+3),.lit [vI 0] 42 (0,0)),((n1+0),.lit [vP gb 0] 83 (0,0)),(gb,.lit (dT S bp mb) 140 (0,0))],[E_,T20,U],True,0⟩) ?_ ?_
  ·rintro ⟨⟩
   refine ae 1 [] λ _=>M9 ?_
   refine LV.mark 0 ?_
   refine Nb (enters_of Tryz.func102 (by kernel_rfl) rfl) [] [] (Ga _ _ _ _ _ _) ?_
   rintro _ _ _
   refine LV.ret [.own 0,.own 1,.own 5] [7] [1,2,0] (v:=.tuple #[.slice B_ es_.length b_,vI (c_:Int),vI 0]) (H':=(ap [(gb,.lit (dT S bp mb) 140 (0,0))] [T20,U,E_])) ?_
   have e1:es_=fA (gi S j ni xs) (m+1) M:=by rw [he_,List.take_length,vK]
   have e2:c_=m+1:=by rw [hc_,iE]
   subst e1
   subst e2
   exact ⟨(T20,B_,b_,E_),rfl,hT21,hs_,rfl⟩
  ·intro key22
   refine fH 0 1 ?_ ?_
   ·refine RDO.ev [] [.own 1] λ _=>fH 1 2 ?_ ?_
    ·refine RDO.ev [] [.own 2] λ _=>RD.one 2 (RDO.ev [] [.own 1] λ _=>?_)
     refine RD.one 3 (RDO.ev [] [.own 2] λ _=>?_)
     refine RD.one 4 (RDO.ev [] [.own 6] λ _=>?_)
     exact key22 () [0,1,2,3,4,5,6,7,8] [0,1,2]
    ·refine RDO.ev [] [.own 1] λ _=>RD.one 1 (RDO.ev [] [.own 2] λ _=>?_)
     refine RD.one 3 (RDO.ev [] [.own 2] λ _=>?_)
     refine RD.one 4 (RDO.ev [] [.own 6] λ _=>?_)
     exact key22 () [0,1,2,3,4,5,6,7,8] [0,1,2]
   ·refine RDO.ev [] [.own 2] λ _=>RD.one 0 (RDO.ev [] [.own 1] λ _=>?_)
    refine RD.one 2 (RDO.ev [] [.own 1] λ _=>?_)
    refine RD.one 3 (RDO.ev [] [.own 2] λ _=>?_)
    refine RD.one 4 (RDO.ev [] [.own 6] λ _=>?_)
    exact key22 () [0,1,2,3,4,5,6,7,8] [0,1,2]
 ·exact λ _ _ _ _ h _=>h.elim
end Go.Proofs.YtgdcbiiopbpgaaaGreatDoor
