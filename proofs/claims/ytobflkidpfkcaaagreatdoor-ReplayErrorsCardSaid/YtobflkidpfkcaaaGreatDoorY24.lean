import Derived.Test.YtobflkidpfkcaaaGreatDoorY12
import Derived.Test.YtobflkidpfkcaaaGreatDoorY23
import Derived.Test.YtobflkidpfkcaaaGreatDoorY04
import Derived.Test.YtobflkidpfkcaaaGreatDoorY05
import Derived.Test.YtobflkidpfkcaaaGreatDoorY14
import Derived.Test.YtobflkidpfkcaaaGreatDoorY13
set_option maxHeartbeats 4000000
set_option maxRecDepth 100000
set_option linter.unusedSimpArgs false
set_option linter.unusedVariables false
namespace Go.Proofs.YtobflkidpfkcaaaGreatDoor
open Go.RowKit
abbrev gh (S:Setup) (j:Nat × Int) (n:Nat) (xs:List Inp):Gm:=⟨S,none,cD j.1,0,bA j.1 0,bA j.1 1,bA j.1 2,j.2,0,0,n,0,0,xs,fE j.1⟩
def AtOk (F:HL) (bp:Nat) (t:Int) (j:Nat × Int):Prop:=∀ F',(∀ x ∈ F,x ∈ F') -> Sp Tryz.prog 117 #[vP bp 0,vI t] (ap [] []) F' (λ u H'=>∃ x:Option Addr × Nat × HL,H'=ap [] [x.2.2] /\ (u=.tuple #[vI j.2,.agg #[.slice x.1 (cD j.1) x.2.1,vI (bA j.1 0),vI (bA j.1 1),vI (bA j.1 2)]] /\ ClS gQ 176 (fE j.1) x.1 x.2.1 x.2.2))
theorem AtOk.mono {F F':HL} {bp:Nat} {t:Int} {j:Nat × Int} (h:AtOk F bp t j) (hs:∀ x ∈ F,x ∈ F'):AtOk F' bp t j:=λ F2 h2=>h F2 λ x hx=>h2 x (hs x hx)
abbrev Nv (x:Eff × Bool):Array Value:=#[.agg #[vI x.1.t,vI x.1.i,vI x.1.k,vI x.1.v,.bool x.2]]
theorem ClS.code {j:Nat} (hj:j < 5) {A:Option Addr} {c:Nat} {Hl F:HL} (h:ClS gQ 176 (fE j) A c Hl) (hF:∀ x ∈ Hl,x ∈ F):CodeIn F (fE j) A (cD j):=by
 have hl:=kX hj
 have hb:=pP hj
 obtain ⟨A0,h⟩:=h
 rcases h with ⟨h1,rfl,rfl,rfl⟩ | ⟨b,rfl,rfl,h3⟩
 ·rw [h1] at hl
  rw [<- hl]
  exact .nil _
 ·exact .mk b c _ (hF _ (List.mem_singleton.2 rfl)) (by rw [<- hl];exact h3) (by omega)
theorem ut {S:Setup} {A:Option Addr} {j:Nat × Int} {c ib n ic N:Nat} {xs:List Inp}:GEq ⟨S,A,cD j.1,c,bA j.1 0,bA j.1 1,bA j.1 2,j.2,ib,0,n,ic,N,xs,fE j.1⟩ (gh S j n xs):=⟨rfl,λ k hk=>rfl⟩
theorem nE {g g0:Gm} (e:GEq g g0) (mb:Nat) (M:MemS) (k:Nat) (T F:HL) (hM:MemH mb M (k+20) T) (hg:GmIn F g) (h0:BU M) (ver:Int) (hver:g.version=ver):Sp Tryz.prog 118 #[.iface 114 (vP mb 0),.agg #[vI g.S.players,vS g.S.bb (g.S.bo * 9) g.S.nb g.S.bc,vI g.S.box.x0,vI g.S.box.y0,vI g.S.box.x1,vI g.S.box.y1,.slice g.S.rA g.S.rn g.S.rc,.slice g.S.dA g.S.dn g.S.dc,vI g.S.fog,vI g.S.g.x,vI g.S.g.y,vI g.S.push,vI g.S.drag,vI g.S.rest,vI g.S.rounds,vI g.S.fuel],.agg #[.slice g.cA g.cn g.cc,vI g.e0,vI g.e1,vI g.e2],vI ver,vS g.ib g.iR g.ni g.ic] (ap [] [T]) F (λ u H'=>∃ x,H'=ap [] [x] /\ (MemH mb (jW g0 M) k x /\ u=.tuple #[.bool (iP g0 M),.agg #[vI ((eo g0 M).e.t),vI ((eo g0 M).e.i),vI ((eo g0 M).e.k),vI ((eo g0 M).e.v)],.bool ((eo g0 M).em)])):=by
 have h:=BV g mb M k T F hM hg h0 ver hver
 rwa [jW,Ey e,yh e] at h
theorem Jg (S:Setup) (bp gb mb q1 q2 ib ia ni ic m k:Nat) (j:Nat × Int) (xs:List Inp) (M:MemS) (F:HL) (hj:j.1 < 5) (hA:AtOk F bp (M.get 0) j) (hg:(gb,.lit (dp S bp mb) 118 (0,0)) ∈ F) (h1:(q1,.lit [vP gb 0] 67 (0,0)) ∈ F) (h2:(q2,.lit [vS ib ia ni ic] 23 (0,0)) ∈ F) (hS:SetIn F S) (hE:dg F) (hI:InB F ib ia ni λ k=>xs.getD k dI) (hni:ni <= 1000000) (T:HL) (hM:MemH mb M (k+20 * m+20) T) (h0:0 <= M.get 0) (hgood:dJ (gh S j ni xs) (m+1) M) (lp:Nat) (X:HL) (J:Nat -> HL -> Prop) (Jx:HL -> Prop) (T0:HL) (hY:∀ i x H Y,(iB (gh S j ni xs) (m+1) M)[i]?=some x -> J i H -> YL Tryz.prog lp (Nv x) H (Y++(X++F)) (λ b H'=>(b=true /\ J (i+1) H') \/ (b=false /\ Jx H'))) (hJ0:J 0 T0):Sp Tryz.prog 116 #[.func (.yield lp) #[] #[],vP q1 0,vP q2 0] (ap [] [T0,T]) (X++F) (λ _ H'=>∃ x:HL × HL,H'=ap [] [x.1,x.2] /\ ((J (iB (gh S j ni xs) (m+1) M).length x.1 /\ MemH mb (fU (gh S j ni xs) (m+1) M) k x.2) \/ Jx x.1)):=by
 have hg_:=List.mem_append_right X hg
 have h1_:=List.mem_append_right X h1
 have h2_:=List.mem_append_right X h2
 have hS_:SetIn (X++F) S:=hS.up
 have hE_:dg (X++F):=List.mem_append_right X hE
 have hI_:=InB.up (X:=X) hI
 have hA_:AtOk (X++F) bp (M.get 0) j:=hA.mono λ x hx=>List.mem_append_right X hx
 refine Sp.run Tryz.func116 rfl (mc hg_ (mc h1_ (mc h2_ mn))) (A:=[]) (Ts:=[T0,T]) rfl λ w0=>?_
 refine ae 1 [] λ _=>RN.draw [12] []<|ag [] [0,4,1,2,3] [.ro 1,.ro 1,.ro 0]<|au [] 5 (λ X_=>(v8 S bp gb mb M (k+20 * m+20) T _ (nJ hg_) hM (aU 1)))<|fH 6 10 ?_ ?_
 ·refine RDO.ct [] (Hp:=[]) (Tp:=[]) [] [] (hA_ _ (λ x hx=>aw hx)) ?_
  rintro _ ⟨A1,c2,T3⟩ ⟨rfl,hc4⟩
  dsimp only at hc4
  refine ag [] [7,8,9] []<|RD.one 10 (RDO.ev [] [] λ n5=>?_)
  refine ag [] [11] []<|RD.one 12 (RDO.ev [] [.own 0,.own 0,.own 0,.own 0] λ _=>?_)
  refine RD.fin<|ae 2 [] λ _=>RN.loop (σ:=Nat × Nat × MemS × HL × HL) (λ ⟨r,i_,M_,T_,J_⟩=>⟨[(0,.func (.yield lp) #[] #[]),(1,vP q1 0),(2,vP q2 0),(4,vI j.2),(5,vP (n5+0) 0)],[((n5+0),.lit [.slice A1 (cD j.1) c2,vI (bA j.1 0),vI (bA j.1 1),vI (bA j.1 2)] 103 (0,0))],[T_,J_,T3],i_+(r+1)=m+1 /\ dJ (gh S j ni xs) (r+1) M_ /\ fU (gh S j ni xs) (r+1) M_=fU (gh S j ni xs) (m+1) M /\ MemH mb M_ (k+20 * r+20) T_ /\ (iB (gh S j ni xs) (m+1) M).drop i_=iB (gh S j ni xs) (r+1) M_ /\ J i_ J_,r⟩) (m,0,M,T,T0) [0] [2,1,0] (⟨by omega,hgood,rfl,hM,rfl,hJ0⟩) ?_
  rintro ⟨r,i_,M_,T_,J_⟩ ⟨hd_,hgood_,hrun_,hM_,hdr_,hJ_⟩ mt7
  refine ae 2 [] λ _=>RN.draw [12,19] []<|ag [] [0,5,9,10,11,1,6,2,7,3,8,4] [.ro 1,.ro 1,.own 0,.own 0,.own 0,.own 0,.ro 2,.ro 0,.ro 0,.ro 0,.ro 0,.ro 0,.ro 0,.ro 0,.ro 0,.ro 0,.ro 0,.ro 0,.ro 0,.ro 0,.ro 0,.ro 0,.ro 0,.ro 0]<|fH 12 17 ?_ ?_
  ·refine RDO.ct [] [] [0] (nE (g:=(⟨S,A1,cD j.1,c2,bA j.1 0,bA j.1 1,bA j.1 2,j.2,ib,0,ni,ic,ia,xs,fE j.1⟩:Gm)) ut mb M_ (k+20 * r) T_ _ hM_ ⟨hS_.up,hI_.z.mono λ x hx=>aw hx,hni,aw hE_,hc4.code hj (av 1)⟩ hgood_.1 j.2 rfl) ?_
   rintro _ T8 ⟨hM9,rfl⟩
   refine ag [] [13,14,15,16] []<|RD.one 17 (RDO.ev [] [] λ n10=>?_)
   refine ag [] [18] []<|RD.one 19 (RDO.ev [] [.own 0,.own 0,.own 0,.own 0] λ _=>?_)
   refine ag [] [20] []<|RD.fin<|ae 7 [.own 0,.own 0,.own 0,.own 0] λ _=>RN.yield 1 (hY i_ ((eo (gh S j ni xs) M_).e,(eo (gh S j ni xs) M_).em) _ _ (gu hdr_).1 hJ_) ?_
   rintro b_ T11 (⟨rfl,hJ12⟩ | ⟨rfl,hJ12⟩)
   ·refine ae 6 [] λ _=>i0 (iP (gh S j ni xs) M_) 44 (λ h13=>?_) λ h13=>?_
    ·refine ae 1 [] λ _=>RN.ret [] [] [0,1] (v:=.tuple #[]) (H':=(ap [] [T11,T8])) ?_
     have er:r=0:=by
      rcases hgood_.2 with ⟨e,_⟩ | ⟨e,_⟩
      ·exact e
      ·have hh:iP (gh S j ni xs) M_=true:=by assumption
       rw [e] at hh;cases hh
     subst er
     have ed:i_+1=(iB (gh S j ni xs) (m+1) M).length:=by rw [iC];omega
     refine ⟨(T11,T8),rfl,.inl ⟨?_,?_⟩⟩
     ·rw [<- ed];exact hJ12
     ·rw [<- hrun_];exact hM9.weak (by omega)
    ·refine ae 3 [] λ _=>?_
     have hg2:=hgood_.2
     rcases hg2 with ⟨_,e_⟩ | ⟨_,hg2⟩
     ·exact absurd e_ (by assumption)
     rcases r with _ | r
     ·exact hg2.elim
     refine mt7 (r,i_+1,(jW (gh S j ni xs) M_),T8,T11) [1] [1,0,2] ?_
     try dsimp only
     exact ⟨⟨by omega,hg2,hrun_,hM9.weak (by omega),(gu hdr_).2,hJ12⟩,by omega⟩
   ·refine ae 7 [] λ _=>RN.ret [] [] [0,1] (v:=.tuple #[]) (H':=(ap [] [T11,T8])) ?_
    exact ⟨(T11,T8),rfl,.inr hJ12⟩
  ·refine RDO.ev [] [] λ n14=>RD.one 12 (RDO.ct [] [] [0] (nE (g:=(⟨S,A1,cD j.1,c2,bA j.1 0,bA j.1 1,bA j.1 2,j.2,ib,0,ni,ic,ia,xs,fE j.1⟩:Gm)) ut mb M_ (k+20 * r) T_ _ hM_ ⟨hS_.up,hI_.z.mono λ x hx=>aw hx,hni,aw hE_,hc4.code hj (av 1)⟩ hgood_.1 j.2 rfl) ?_)
   rintro _ T15 ⟨hM16,rfl⟩
   refine ag [] [13,14,15,16,18] []<|RD.one 19 (RDO.ev [] [.own 0,.own 0,.own 0,.own 0] λ _=>?_)
   refine ag [] [20] []<|RD.fin<|ae 7 [.own 0,.own 0,.own 0,.own 0] λ _=>RN.yield 1 (hY i_ ((eo (gh S j ni xs) M_).e,(eo (gh S j ni xs) M_).em) _ _ (gu hdr_).1 hJ_) ?_
   rintro b_ T17 (⟨rfl,hJ18⟩ | ⟨rfl,hJ18⟩)
   ·refine ae 6 [] λ _=>i0 (iP (gh S j ni xs) M_) 44 (λ h19=>?_) λ h19=>?_
    ·refine ae 1 [] λ _=>RN.ret [] [] [0,1] (v:=.tuple #[]) (H':=(ap [] [T17,T15])) ?_
     have er:r=0:=by
      rcases hgood_.2 with ⟨e,_⟩ | ⟨e,_⟩
      ·exact e
      ·have hh:iP (gh S j ni xs) M_=true:=by assumption
       rw [e] at hh;cases hh
     subst er
     have ed:i_+1=(iB (gh S j ni xs) (m+1) M).length:=by rw [iC];omega
     refine ⟨(T17,T15),rfl,.inl ⟨?_,?_⟩⟩
     ·rw [<- ed];exact hJ18
     ·rw [<- hrun_];exact hM16.weak (by omega)
    ·refine ae 3 [] λ _=>?_
     have hg2:=hgood_.2
     rcases hg2 with ⟨_,e_⟩ | ⟨_,hg2⟩
     ·exact absurd e_ (by assumption)
     rcases r with _ | r
     ·exact hg2.elim
     refine mt7 (r,i_+1,(jW (gh S j ni xs) M_),T15,T17) [1] [1,0,2] ?_
     try dsimp only
     exact ⟨⟨by omega,hg2,hrun_,hM16.weak (by omega),(gu hdr_).2,hJ18⟩,by omega⟩
   ·refine ae 7 [] λ _=>RN.ret [] [] [0,1] (v:=.tuple #[]) (H':=(ap [] [T17,T15])) ?_
    exact ⟨(T17,T15),rfl,.inr hJ18⟩
 ·refine RDO.ev [] [] λ n20=>RD.one 6 (RDO.ct [] (Hp:=[]) (Tp:=[]) [] [] (hA_ _ (λ x hx=>aw hx)) ?_)
  rintro _ ⟨A21,c22,T23⟩ ⟨rfl,hc24⟩
  dsimp only at hc24
  refine ag [] [7,8,9,11] []<|RD.one 12 (RDO.ev [] [.own 0,.own 0,.own 0,.own 0] λ _=>?_)
  refine RD.fin<|ae 2 [] λ _=>RN.loop (σ:=Nat × Nat × MemS × HL × HL) (λ ⟨r,i_,M_,T_,J_⟩=>⟨[(0,.func (.yield lp) #[] #[]),(1,vP q1 0),(2,vP q2 0),(4,vI j.2),(5,vP (n20+0) 0)],[((n20+0),.lit [.slice A21 (cD j.1) c22,vI (bA j.1 0),vI (bA j.1 1),vI (bA j.1 2)] 103 (0,0))],[T_,J_,T23],i_+(r+1)=m+1 /\ dJ (gh S j ni xs) (r+1) M_ /\ fU (gh S j ni xs) (r+1) M_=fU (gh S j ni xs) (m+1) M /\ MemH mb M_ (k+20 * r+20) T_ /\ (iB (gh S j ni xs) (m+1) M).drop i_=iB (gh S j ni xs) (r+1) M_ /\ J i_ J_,r⟩) (m,0,M,T,T0) [0] [2,1,0] (⟨by omega,hgood,rfl,hM,rfl,hJ0⟩) ?_
  rintro ⟨r,i_,M_,T_,J_⟩ ⟨hd_,hgood_,hrun_,hM_,hdr_,hJ_⟩ mt26
  refine ae 2 [] λ _=>RN.draw [12,19] []<|ag [] [0,5,9,10,11,1,6,2,7,3,8,4] [.ro 1,.ro 1,.own 0,.own 0,.own 0,.own 0,.ro 2,.ro 0,.ro 0,.ro 0,.ro 0,.ro 0,.ro 0,.ro 0,.ro 0,.ro 0,.ro 0,.ro 0,.ro 0,.ro 0,.ro 0,.ro 0,.ro 0,.ro 0]<|fH 12 17 ?_ ?_
  ·refine RDO.ct [] [] [0] (nE (g:=(⟨S,A21,cD j.1,c22,bA j.1 0,bA j.1 1,bA j.1 2,j.2,ib,0,ni,ic,ia,xs,fE j.1⟩:Gm)) ut mb M_ (k+20 * r) T_ _ hM_ ⟨hS_.up,hI_.z.mono λ x hx=>aw hx,hni,aw hE_,hc24.code hj (av 1)⟩ hgood_.1 j.2 rfl) ?_
   rintro _ T27 ⟨hM28,rfl⟩
   refine ag [] [13,14,15,16] []<|RD.one 17 (RDO.ev [] [] λ n29=>?_)
   refine ag [] [18] []<|RD.one 19 (RDO.ev [] [.own 0,.own 0,.own 0,.own 0] λ _=>?_)
   refine ag [] [20] []<|RD.fin<|ae 7 [.own 0,.own 0,.own 0,.own 0] λ _=>RN.yield 1 (hY i_ ((eo (gh S j ni xs) M_).e,(eo (gh S j ni xs) M_).em) _ _ (gu hdr_).1 hJ_) ?_
   rintro b_ T30 (⟨rfl,hJ31⟩ | ⟨rfl,hJ31⟩)
   ·refine ae 6 [] λ _=>i0 (iP (gh S j ni xs) M_) 44 (λ h32=>?_) λ h32=>?_
    ·refine ae 1 [] λ _=>RN.ret [] [] [0,1] (v:=.tuple #[]) (H':=(ap [] [T30,T27])) ?_
     have er:r=0:=by
      rcases hgood_.2 with ⟨e,_⟩ | ⟨e,_⟩
      ·exact e
      ·have hh:iP (gh S j ni xs) M_=true:=by assumption
       rw [e] at hh;cases hh
     subst er
     have ed:i_+1=(iB (gh S j ni xs) (m+1) M).length:=by rw [iC];omega
     refine ⟨(T30,T27),rfl,.inl ⟨?_,?_⟩⟩
     ·rw [<- ed];exact hJ31
     ·rw [<- hrun_];exact hM28.weak (by omega)
    ·refine ae 3 [] λ _=>?_
     have hg2:=hgood_.2
     rcases hg2 with ⟨_,e_⟩ | ⟨_,hg2⟩
     ·exact absurd e_ (by assumption)
     rcases r with _ | r
     ·exact hg2.elim
     refine mt26 (r,i_+1,(jW (gh S j ni xs) M_),T27,T30) [1] [1,0,2] ?_
     try dsimp only
     exact ⟨⟨by omega,hg2,hrun_,hM28.weak (by omega),(gu hdr_).2,hJ31⟩,by omega⟩
   ·refine ae 7 [] λ _=>RN.ret [] [] [0,1] (v:=.tuple #[]) (H':=(ap [] [T30,T27])) ?_
    exact ⟨(T30,T27),rfl,.inr hJ31⟩
  ·refine RDO.ev [] [] λ n33=>RD.one 12 (RDO.ct [] [] [0] (nE (g:=(⟨S,A21,cD j.1,c22,bA j.1 0,bA j.1 1,bA j.1 2,j.2,ib,0,ni,ic,ia,xs,fE j.1⟩:Gm)) ut mb M_ (k+20 * r) T_ _ hM_ ⟨hS_.up,hI_.z.mono λ x hx=>aw hx,hni,aw hE_,hc24.code hj (av 1)⟩ hgood_.1 j.2 rfl) ?_)
   rintro _ T34 ⟨hM35,rfl⟩
   refine ag [] [13,14,15,16,18] []<|RD.one 19 (RDO.ev [] [.own 0,.own 0,.own 0,.own 0] λ _=>?_)
   refine ag [] [20] []<|RD.fin<|ae 7 [.own 0,.own 0,.own 0,.own 0] λ _=>RN.yield 1 (hY i_ ((eo (gh S j ni xs) M_).e,(eo (gh S j ni xs) M_).em) _ _ (gu hdr_).1 hJ_) ?_
   rintro b_ T36 (⟨rfl,hJ37⟩ | ⟨rfl,hJ37⟩)
   ·refine ae 6 [] λ _=>i0 (iP (gh S j ni xs) M_) 44 (λ h38=>?_) λ h38=>?_
    ·refine ae 1 [] λ _=>RN.ret [] [] [0,1] (v:=.tuple #[]) (H':=(ap [] [T36,T34])) ?_
     have er:r=0:=by
      rcases hgood_.2 with ⟨e,_⟩ | ⟨e,_⟩
      ·exact e
      ·have hh:iP (gh S j ni xs) M_=true:=by assumption
       rw [e] at hh;cases hh
     subst er
     have ed:i_+1=(iB (gh S j ni xs) (m+1) M).length:=by rw [iC];omega
     refine ⟨(T36,T34),rfl,.inl ⟨?_,?_⟩⟩
     ·rw [<- ed];exact hJ37
     ·rw [<- hrun_];exact hM35.weak (by omega)
    ·refine ae 3 [] λ _=>?_
     have hg2:=hgood_.2
     rcases hg2 with ⟨_,e_⟩ | ⟨_,hg2⟩
     ·exact absurd e_ (by assumption)
     rcases r with _ | r
     ·exact hg2.elim
     refine mt26 (r,i_+1,(jW (gh S j ni xs) M_),T34,T36) [1] [1,0,2] ?_
     try dsimp only
     exact ⟨⟨by omega,hg2,hrun_,hM35.weak (by omega),(gu hdr_).2,hJ37⟩,by omega⟩
   ·refine ae 7 [] λ _=>RN.ret [] [] [0,1] (v:=.tuple #[]) (H':=(ap [] [T36,T34])) ?_
    exact ⟨(T36,T34),rfl,.inr hJ37⟩
theorem LB (S:Setup) (bp gb mb q1 q2 ib ia ni ic m k:Nat) (j:Nat × Int) (xs:List Inp) (M:MemS) (F:HL) (hj:j.1 < 5) (hA:AtOk F bp (M.get 0) j) (hg:(gb,.lit (dp S bp mb) 118 (0,0)) ∈ F) (h1:(q1,.lit [vP gb 0] 67 (0,0)) ∈ F) (h2:(q2,.lit [vS ib ia ni ic] 23 (0,0)) ∈ F) (hS:SetIn F S) (hE:dg F) (hI:InB F ib ia ni λ k=>xs.getD k dI) (hni:ni <= 1000000) (T:HL) (hM:MemH mb M (k+20 * m+20) T) (h0:0 <= M.get 0) (hgood:dJ (gh S j ni xs) (m+1) M):N0 Tryz.prog 116 #[vP q1 0,vP q2 0] T F Nv (iB (gh S j ni xs) (m+1) M) (λ T1=>MemH mb (fU (gh S j ni xs) (m+1) M) k T1) (λ _=>True):=by
 intro X l J Jx H0 hY h0'
 have e:∀ A B:HL,ap [] [A,B]=A++B:=λ A B=>by simp [ap]
 have key:=Jg S bp gb mb q1 q2 ib ia ni ic m k j xs M F hj hA hg h1 h2 hS hE hI hni T hM h0 hgood l X J Jx H0 hY h0'
 rw [e] at key
 refine key.mono λ u H' h=>?_
 obtain ⟨x,rfl,h⟩:=h
 refine ⟨x.1,x.2,e _ _,?_⟩
 rcases h with ⟨a,b⟩ | a
 ·exact .inl ⟨a,b⟩
 ·exact .inr ⟨a,trivial⟩
theorem wY (e:Int) (S:Setup) (bp gb mb:Nat) (M:MemS) (k:Nat) (A:Option Addr) (n cap:Nat) (xs:List Inp) (T F:HL) (hg:(gb,.lit (dp S bp mb) 118 (0,0)) ∈ F) (hM:MemH mb M k T) (hT:∀ x ∈ T,x ∈ F) (hl:RowB F A n λ k=>xs.getD k dI) (hn:n <= 1000000) (he:bF S.players n xs (M.get 0)=e):Sp Tryz.prog 89 #[vP gb 0,.slice A n cap] [] F (λ u H'=>u=vI e /\ H'=[]):=he ▸ yx S bp gb mb M k A n cap xs T F hg hM hT hl hn
theorem Gk (c0 c1 c2 c3 c4:Value) (F:HL):SpD Tryz.prog 90 #[c0,c1,c2,c3,c4] (ap [] []) F (λ _ H'=>∃ _:Unit,H'=ap [] [] /\ True):=by
 exact (Gj c0 c1 c2 c3 c4 F).mono λ u H' h=>⟨(),h,trivial⟩
theorem Gl (S:Setup) (rs:List Bx) (ds:List Dr) (bp gb mb ib ia ni ic m k:Nat) (j:Nat × Int) (xs:List Inp) (M:MemS) (T U F:HL) (hj:j.1 < 5) (hA:AtOk F bp (M.get 0) j) (hU:qA S rs ds U) (hE:dg F) (hI:InB F ib ia ni λ k=>xs.getD k dI) (hni:ni <= 1000000) (hmb:m <= 1000000) (hM:MemH mb M (k+20 * m+20) T) (h0:0 <= M.get 0) (hgood:dJ (gh S j ni xs) (m+1) M) (hw:bF S.players ni xs (M.get 0)=0):Sp Tryz.prog 60 #[vP gb 0,vS ib ia ni ic] (ap [(gb,.lit (dp S bp mb) 118 (0,0))] [T,U]) F (λ u H'=>∃ x:HL × Option Addr × Nat × HL,H'=ap [(gb,.lit (dp S bp mb) 118 (0,0))] [x.1,U,x.2.2.2] /\ (MemH mb (fU (gh S j ni xs) (m+1) M) k x.1 /\ SlIs vl 183 (fy (gh S j ni xs) (m+1) M) x.2.1 x.2.2.1 x.2.2.2 /\ u=.tuple #[.slice x.2.1 (fy (gh S j ni xs) (m+1) M).length x.2.2.1,vI ((m+1:Nat):Int),vI 0])):=by
 have hl:=hI.rB
 have hM2:=hM
 refine Sp.runM Tryz.func60 rfl mn (A:=[(gb,.lit (dp S bp mb) 118 (0,0))]) (Ts:=[T,U]) rfl λ w0=>?_
 refine ae 13 [.own 3] λ n1=>aj (wY 0 S bp gb mb M (k+20 * m+20) (some ⟨ib,ia,none⟩) ni ic xs T _ (aB 4) hM (av 0) hl.up hni hw)<|ae 18 [.own 3,.own 4] λ _=>aj (v7 hM (av 0))<|ae 7 [.own 0] λ n2=>Mr (g:=90) (args:=#[]) (cap:=#[vP (n1+0) 0,vP (n2+0) 0,vP (n1+1) 0,vP (n1+2) 0,vP (n1+3) 0])<|ae 7 [.own 4] λ _=>RN.ct (Hp:=[]) (Tp:=[]) [] [] (Cw gb ib ia ni ic _) ?_
 rintro _ n3 rfl
 refine ae 3 [] λ _=>RN.nt<|mZ [1,0,2]<|BD (σ:=Nat × List Eff × Option Addr × Nat × HL) (τ:=(Nat × List Eff × Option Addr × Nat × HL) × Nat × (Eff × Bool)) (encs:=λ (x_:Eff × Bool)=>#[.agg #[vI x_.1.t,vI x_.1.i,vI x_.1.k,vI x_.1.v,.bool x_.2]]) (xs:=(iB (gh S j ni xs) (m+1) M)) (enters_of Tryz.func116 (by kernel_rfl) rfl) (λ ⟨c_,es_,B_,b_,E_⟩=>([((n1+1),.lit [.slice B_ es_.length b_] 137 (0,0)),((n1+2),.lit [vI (c_:Int)] 3 (0,0))],[E_])) (λ i_ ⟨c_,es_,B_,b_,E_⟩=>c_=i_ /\ es_=lJ ((iB (gh S j ni xs) (m+1) M).take i_) /\ SlIs vl 183 es_ B_ b_ E_) (λ c_ ⟨c_,es_,B_,b_,E_⟩=>False) (λ ⟨⟨c_,es_,B_,b_,E_⟩,nn_,y_⟩=>⟨[(4,vP (n1+1) 0),(5,vP (n1+2) 0),(6,vP (n1+3) 0),(9,vP (nn_+0) 0)],[((nn_+0),.lit [vI y_.1.t,vI y_.1.i,vI y_.1.k,vI y_.1.v,.bool y_.2] 185 (0,0)),((n1+1),.lit [.slice B_ es_.length b_] 137 (0,0)),((n1+2),.lit [vI (c_:Int)] 3 (0,0))],[E_],True,0⟩) (λ i_ x_ ⟨⟨c_,es_,B_,b_,E_⟩,nn_,y_⟩=>(c_=i_ /\ es_=lJ ((iB (gh S j ni xs) (m+1) M).take i_) /\ SlIs vl 183 es_ B_ b_ E_) /\ y_=x_) (0,[],none,0,[]) (⟨rfl,rfl,SlIs.nil _ _⟩) [5,4] [1] T (LB S bp gb mb (n3+0) (n3+1) ib ia ni ic m k j xs M _ hj (hA.mono λ x hx=>aw hx) (aB 5) (aB 1) (aB 0) (hU _ (av 0)).1 (aw hE) (hI.mono λ x hx=>aw hx) hni T hM2 h0 hgood) ?_ ?_ ?_ ?_
 ·rintro l_ i_ x_ ⟨c_,es_,B_,b_,E_⟩ Y4 w5 hx6 ⟨hc_,he_,hs_⟩ mt7
  refine ae 4 (ow 0 5) λ n8=>?_
  refine mt7 ((c_,es_,B_,b_,E_),n8,x_) [0,1,2] [0] ?_
  try dsimp only
  exact ⟨⟨hc_,he_,hs_⟩,rfl⟩
 ·rintro l_ i_ x_ ⟨⟨c_,es_,B_,b_,E_⟩,nn_,y_⟩ Y9 w10 hx11 ⟨⟨hc_,he_,hs_⟩,ey_⟩
  subst ey_
  have hbd_:i_ < m+1:=by have:=(List.getElem?_eq_some_iff.1 hx11).1;rwa [iC] at this
  have hel_:es_.length <= i_:=by rw [he_];have:=vG ((iB (gh S j ni xs) (m+1) M).take i_);rw [List.length_take] at this;omega
  refine ai 14 [.own 2,.nw,.own 2,.own 0] [bg ((c_:Int)+1)] λ _=>i0 (y_.2) 29 (λ h12=>?_) λ h12=>?_
  ·refine ae 6 [.own 1,.own 0,.own 0,.own 0,.own 0] λ n13=>gB KS es_ [y_.1] 0 0 rfl hs_ (by simp;omega) ?_
   rintro A14 c15 T16 ⟨hs17,hz18⟩
   refine ae 3 [.own 2] λ _=>cS 3 (congrArg (λ v_=>(.lit [vI v_] 3 (0,0):Blk)) (show ((c_:Int)+1)=((c_+1:Nat):Int) by omega))<|cS 2 (congrArg (λ v_=>(.lit [.slice A14 v_ c15] 137 (0,0):Blk)) (show es_.length+1=(es_++[y_.1]).length by simp))<|RN.rn (c_+1,es_++[y_.1],A14,c15,T16) [2,3] [0] ?_
   try dsimp only
   exact ⟨by omega,by rw [ET hx11 h12,<- he_],hs17⟩
  ·refine ae 3 [] λ _=>cS 2 (congrArg (λ v_=>(.lit [vI v_] 3 (0,0):Blk)) (show ((c_:Int)+1)=((c_+1:Nat):Int) by omega))<|RN.rn (c_+1,es_,B_,b_,E_) [1,2] [0] ?_
   try dsimp only
   exact ⟨by omega,by rw [Ip hx11 h12,<- he_],hs_⟩
 ·rintro d19 ⟨c_,es_,B_,b_,E_⟩ T20 ⟨hc_,he_,hs_⟩ hT21
  refine ae 3 [] λ _=>RN.draw [0,1,2,3,4] []<|jy (σ:=Unit) (λ _=>⟨[(4,vP (n1+1) 0),(5,vP (n1+2) 0),(6,vP (n1+3) 0)],[(d19,.obj (.deferred (some []))),((n1+1),.lit [.slice B_ es_.length b_] 137 (0,0)),((n1+2),.lit [vI (c_:Int)] 3 (0,0)),((n3+1),.lit [vS ib ia ni ic] 23 (0,0)),((n3+0),.lit [vP gb 0] 67 (0,0)),((n2+0),.lit [vI (bd (M.base+(M.lg.length:Int)))] 3 (0,0)),((n1+3),.lit [vI 0] 37 (0,0)),((n1+0),.lit [vP gb 0] 67 (0,0)),(gb,.lit (dp S bp mb) 118 (0,0))],[E_,T20,U],True,0⟩) ?_ ?_
  ·rintro ⟨⟩
   refine ae 1 [] λ _=>JK ?_
   refine LV.mark 0 ?_
   refine Mt (enters_of Tryz.func90 (by kernel_rfl) rfl) [] [] (Gk _ _ _ _ _ _) ?_
   rintro _ _ _
   refine LV.ret [.own 0,.own 1,.own 5] [7] [1,2,0] (v:=.tuple #[.slice B_ es_.length b_,vI (c_:Int),vI 0]) (H':=(ap [(gb,.lit (dp S bp mb) 118 (0,0))] [T20,U,E_])) ?_
   have e1:es_=fy (gh S j ni xs) (m+1) M:=by rw [he_,List.take_length,vF]
   have e2:c_=m+1:=by rw [hc_,iC]
   subst e1
   subst e2
   exact ⟨(T20,B_,b_,E_),rfl,hT21,hs_,rfl⟩
  ·intro key22
   refine fH 0 1 ?_ ?_
   ·refine RDO.ev [] [.own 1] λ _=>fH 1 2 ?_ ?_
    ·refine RDO.ev [] [.own 2] λ _=>RD.one 2 (RDO.ev [] [.own 1] λ _=>?_)
     refine RD.one 3 (RDO.ev [] [.own 2] λ _=>?_)
     refine RD.one 4 (RDO.ev [] [.own 6] λ _=>?_)
     exact key22 () [0,1,2,3,4,5,6,7,8] [0,1,2]
    ·refine RDO.ev [] [.own 1] λ _=>RD.one 1 (RDO.ev [] [.own 2] λ _=>?_)
     refine RD.one 3 (RDO.ev [] [.own 2] λ _=>?_)
     refine RD.one 4 (RDO.ev [] [.own 6] λ _=>?_)
     exact key22 () [0,1,2,3,4,5,6,7,8] [0,1,2]
   ·refine RDO.ev [] [.own 2] λ _=>RD.one 0 (RDO.ev [] [.own 1] λ _=>?_)
    refine RD.one 2 (RDO.ev [] [.own 1] λ _=>?_)
    refine RD.one 3 (RDO.ev [] [.own 2] λ _=>?_)
    refine RD.one 4 (RDO.ev [] [.own 6] λ _=>?_)
    exact key22 () [0,1,2,3,4,5,6,7,8] [0,1,2]
 ·exact λ _ _ _ _ h _=>h.elim
theorem CT (e:Int) (S:Setup) (bp gb mb n cap k:Nat) (A:Option Addr) (xs:List Inp) (M:MemS) (T U F:HL) (hl:RowB F A n λ k=>xs.getD k dI) (hni:n <= 1000000) (hM:MemH mb M k T) (hw:bF S.players n xs (M.get 0)=e) (hne:¬ e=0):Sp Tryz.prog 60 #[vP gb 0,.slice A n cap] (ap [(gb,.lit (dp S bp mb) 118 (0,0))] [T,U]) F (λ u H'=>H'=ap [(gb,.lit (dp S bp mb) 118 (0,0))] [T,U] /\ u=.tuple #[.slice none 0 0,vI 0,vI e]):=by
 refine Sp.runM Tryz.func60 rfl mn (A:=[(gb,.lit (dp S bp mb) 118 (0,0))]) (Ts:=[T,U]) rfl λ w0=>?_
 refine ae 13 [.own 3] λ n1=>aj (wY e S bp gb mb M k A n cap xs T _ (aB 4) hM (av 0) hl.up hni hw)<|ae 9 [] λ _=>RN.fx 14 (nf (decide_eq_false hne))<|ae 9 [.own 2,.own 1,.own 0] λ _=>JK ?_
 exact LV.ret [.own 2,.own 1,.own 0] [4] [0,1] ⟨rfl,rfl⟩
structure Rw where (A:Option Addr) (n c:Nat)
def oz:Enc Rw:=⟨1,λ p k=>match k with | 0=>.slice p.A p.n p.c | _=>default,⟨none,0,0⟩⟩
noncomputable def Nw:TypeInfo:=match Tryz.prog.info? 23 with | some i=>i | none=>⟨.bool,"",0,0,false,0,0,none,false,#[]⟩
noncomputable def Ny:Value:=match Nw.zero with | some z=>z | none=>.bool false
theorem Gn:EncOk oz Tryz.prog 23 Nw Ny where
 info:=by kernel_rfl
 zero:=by kernel_rfl
 size:=by kernel_rfl
 zsize:=by kernel_rfl
 zcell:=λ k hk=>by
  have h:∀ k < 1,Ny.cells[k]?=some (oz.cell oz.dflt k):=by intro k hk;(iterate 1 (rcases k with _ | k;· kernel_rfl));omega
  exact h k hk
 one:=λ x k=>by unfold oz;dsimp only;split <;> rfl
 bytes:=Nat.le_of_ble_eq_true (by kernel_rfl)
inductive RwIn (F:HL) (xs:List Inp):Rw -> Prop
 | mk (b o N:Nat) (full:List Inp) (c:Nat) (hI:(b,.rows 3 N (D5 full) 76 (0,0)) ∈ F) (hir:o+xs.length <= N) (hx:∀ k,k < xs.length -> full.getD (o+k) dI=xs.getD k dI) (hcap:xs.length <= c):RwIn F xs ⟨some ⟨b,o * 3,none⟩,xs.length,c⟩
structure RwsIn (F:HL) (rs:List Rw) (xss:List (List Inp)):Prop where
 len:rs.length=xss.length
 row:∀ k,k < rs.length -> RwIn F (xss.getD k []) (rs.getD k oz.dflt)
def RwsT (rs:List Rw) (xss:List (List Inp)) (T:HL):Prop:=∀ F,(∀ x ∈ T,x ∈ F) -> RwsIn F rs xss
theorem RwIn.mono {F F':HL} {xs:List Inp} {p:Rw} (h:RwIn F xs p) (hs:∀ x ∈ F,x ∈ F'):RwIn F' xs p:=by
 cases h with
 | mk b o N full c hI hir hx hc=>exact .mk b o N full c (hs _ hI) hir hx hc
theorem RwsIn.mono {F F':HL} {rs:List Rw} {xss:List (List Inp)} (h:RwsIn F rs xss) (hs:∀ x ∈ F,x ∈ F'):RwsIn F' rs xss:=⟨h.len,λ k hk=>(h.row k hk).mono hs⟩
theorem RwsIn.get {F:HL} {rs:List Rw} {xss:List (List Inp)} (h:RwsIn F rs xss) {k:Nat} (hk:k < rs.length):∃ b o N full c,rs.getD k oz.dflt=⟨some ⟨b,o * 3,none⟩,(xss.getD k []).length,c⟩ /\ (b,.rows 3 N (D5 full) 76 (0,0)) ∈ F /\ o+(xss.getD k []).length <= N /\ (∀ i,i < (xss.getD k []).length -> full.getD (o+i) dI=(xss.getD k []).getD i dI) /\ (xss.getD k []).length <= c:=by
 have h1:=h.row k hk
 generalize rs.getD k oz.dflt=p at h1 ⊢
 cases h1 with
 | mk b o N full c hI hir hx hc=>exact ⟨b,o,N,full,c,rfl,hI,hir,hx,hc⟩
theorem SlIs.rw {xs:List Inp} {A:Option Addr} {c:Nat} {T F:HL} (h:SlIs gC 76 xs A c T) (hF:∀ x ∈ T,x ∈ F) (h1:1 <= xs.length) {n:Nat} (hn:n=xs.length):RwIn F xs ⟨A,n,c⟩:=by
 subst hn
 rcases h with ⟨_,_,rfl,_⟩ | ⟨b,o,full,rfl,rfl,h2,h3,h4⟩
 ·simp at h1
 ·refine .mk b o (o+c) full c (hF _ (List.mem_singleton.2 rfl)) (by omega) (λ k hk=>?_) h3
  have h5:((full.drop o).take xs.length)[k]?=xs[k]?:=by rw [h4]
  rw [List.getElem?_take,if_pos hk,List.getElem?_drop] at h5
  rw [List.getD_eq_getElem?_getD,List.getD_eq_getElem?_getD,h5]
theorem RwsT.nil:RwsT [] [] []:=λ F _=>⟨rfl,λ k hk=>absurd hk (Nat.not_lt_zero _)⟩
theorem hO {α:Type} (l:List α) (x d:α) (k:Nat):(l++[x]).getD k d=if k < l.length then l.getD k d else if k=l.length then x else d:=by
 rw [List.getD_eq_getElem?_getD,List.getElem?_append]
 split
 ·rw [List.getD_eq_getElem?_getD]
 ·split
  ·next h=>subst h;simp
  ·rw [List.getElem?_eq_none (by simp;omega)];rfl
theorem RwsT.snoc {rs:List Rw} {xss:List (List Inp)} {T T1:HL} {xs:List Inp} {A:Option Addr} {c n:Nat} (h:RwsT rs xss T) (hs:SlIs gC 76 xs A c T1) (h1:1 <= xs.length) (hn:n=xs.length):RwsT (rs++[⟨A,n,c⟩]) (xss++[xs]) (T++T1):=λ F hF=>by
 have h2:=h F λ x hx=>hF x (List.mem_append_left _ hx)
 refine ⟨by simp [h2.len],λ k hk=>?_⟩
 rw [hO,hO,<- h2.len]
 by_cases hk1:k < rs.length
 ·rw [if_pos hk1,if_pos hk1];exact h2.row k hk1
 ·have:k=rs.length:=by simp at hk;omega
  rw [if_neg hk1,if_neg hk1,if_pos this,if_pos this]
  exact hs.rw (λ x hx=>hF x (List.mem_append_right _ hx)) h1 hn
theorem J7 {g:Gm} {M:MemS} {m:Nat} (hm:m <= 999) (h:dJ g (m+1) M):fU g (m+1) M=nl g M /\ fy g (m+1) M=N4 g M:=by
 rw [nl,N4,EO m 1000 M h (by omega)]
 exact ⟨rfl,rfl⟩
def xB (G:Nat -> Gm) (M:MemS):Nat -> MemS
 | 0=>M
 | k+1=>nl (G k) (xB G M k)
abbrev rF (S:Setup) (j:Nat × Int) (xs:List Inp):Gm:=gh S j xs.length xs
abbrev rG (S:Setup) (J:Nat -> Nat × Int) (xss:List (List Inp)):Nat -> Gm:=λ k=>rF S (J k) (xss.getD k [])
structure TkOk (S:Setup) (j:Nat × Int) (xs:List Inp) (M:MemS):Prop where
 ex:∃ m,m <= 999 /\ dJ (rF S j xs) (m+1) M
 now:0 <= M.get 0
 ok:bF S.players xs.length xs (M.get 0)=0
theorem oA {M N:MemS} (h:M.cs=N.cs) (i:Int):M.get i=N.get i:=by unfold MemS.get;rw [h]
theorem mF (g:Gm) (l:List (Int × Int)) (b:Int):∀ (n:Nat) (M:MemS),dJ g n (M.sh l b) ↔ dJ g n M
 | 0,_=>Iff.rfl
 | n+1,M=>by rw [dJ,dJ,EN,jW,jW,yn,bH,mF g l b n];exact Iff.rfl
theorem yW {g:Gm} {M N:MemS} (h:M.cs=N.cs) (n:Nat) (hg:dJ g n M):dJ g n N:=by
 rw [<- qf M,mF] at hg
 rw [<- qf N,mF,<- h]
 exact hg
theorem TkOk.cs {S:Setup} {j:Nat × Int} {xs:List Inp} {M N:MemS} (e:M.cs=N.cs) (h:TkOk S j xs M):TkOk S j xs N:=by
 obtain ⟨m,h1,h2⟩:=h.ex
 exact ⟨⟨m,h1,yW e _ h2⟩,by rw [<- oA e];exact h.now,by rw [<- oA e];exact h.ok⟩
theorem wZ (g:Gm) (M:MemS):(nl g M).base=M.base:=by
 have h:=congrArg MemS.base (congrArg (nl g) (qf M))
 rw [yo] at h
 exact h.symm
theorem CU (mb cb n:Nat) (A:Option Addr) (m cap:Nat) (base:Int) (F:HL) (hm:(mb,.lit [vS cb 0 n n,.slice A m cap,vI base] 167 (0,0)) ∈ F) (hb:0 <= base /\ base <= 1000000000) (hl:m <= 100000000):Sp Tryz.prog 62 #[vP mb 0] [] F (λ u H'=>u=vI (base+(m:Int)) /\ H'=[]):=by
 have h:=v6 mb cb n A m cap base F hm
 rwa [cV (by omega)] at h
theorem LC {mb:Nat} {M:MemS} {k:Nat} {T F:HL} (h:MemH mb M k T) (hs:∀ x ∈ T,x ∈ F) (hb:0 <= M.base /\ M.base <= 1000000000):Sp Tryz.prog 62 #[vP mb 0] [] F (λ u H'=>u=vI (M.base+(M.lg.length:Int)) /\ H'=[]):=by
 have h1:=h.len2
 have h2:=v7 h hs
 rwa [cV (by omega)] at h2
theorem NewS.sl0 {A':Option Addr} {cap':Nat} {Hl':HL} (h:NewS jU 216 ([]:List (Int × Int)) none A' cap' Hl'):SlIs jU 216 [] A' cap' Hl':=by
 rcases h with ⟨_,rfl,rfl,rfl⟩ | ⟨b,rfl,rfl,_⟩
 ·exact SlIs.nil _ _
 ·refine .inr ⟨b,0,List.replicate cap' jU.dflt,by simp,?_,by simp,Nat.zero_le _,rfl⟩
  have:=jA (e:=jU) [] cap'
  rw [List.nil_append] at this
  rw [this,Nat.zero_add]
theorem Sp.tl {P:Program} {f:FuncId} {args:Array Value} {H F:HL} {R:Value -> HL -> Prop} (h:Sp P f args H F R):Sp P f args H F (λ u H'=>∃ x,H'=ap [] [x] /\ R u x):=h.mono λ u H' h=>⟨H',(bj H').symm,h⟩
theorem Nz {P:Program} {sz:Nat} {tx e':TypeId} {a:Addr} {m c':Nat} {w:World} (hm:m=0) (hk:P.underlying tx=some (.slice e')):Src P sz tx (.slice (some a) m c') 0 [] w:=by
 subst hm
 exact Src.ofSlice w hk a 0 c' [] (by simp) (λ j u h=>by simp at h) (λ u h=>by simp at h)
theorem mG (mb cb n:Nat) (A:Option Addr) (m cap:Nat) (base:Int) (F:HL) (hm:(mb,.lit [vS cb 0 n n,.slice A m cap,vI base] 167 (0,0)) ∈ F) (hb:0 <= base /\ base <= 1000000000) (hl:m <= 100000000):Sp Tryz.prog 93 #[vP mb 0,vI (base+(m:Int))] [] F (λ u H'=>u=vI 0 /\ H'=[]):=by
 refine Sp.run Tryz.func93 rfl (mc hm mn) (A:=[]) (Ts:=[]) rfl λ w0=>?_
 refine ae 18 [.ro 0] λ _=>RN.em (base+(m:Int) < base) 5 (λ h1=>?_) λ h1=>?_
 ·(exfalso;omega)
 ·refine ae 5 [] λ _=>aj (CU mb cb n A m cap base _ (aw hm) hb hl)<|ae 4 [] λ _=>RN.em (base+(m:Int) > base+(m:Int)) 12 (λ h2=>?_) λ h2=>?_
  ·(exfalso;omega)
  ·refine ae 9 [] λ _=>?_
   exact RN.ret [] [] [] ⟨rfl,rfl⟩
theorem Gp (mb cb k:Nat) (M:MemS) (F:HL) (hb:0 <= M.base /\ M.base <= 1000000000) (hc:M.cs.length <= 1000000) (hk:k <= 100000000):Sp Tryz.prog 61 #[vP mb 0,vI (M.base+((0:Nat):Int))] [(mb,.lit [vS cb 0 M.cs.length M.cs.length,.slice none 0 0,vI M.base] 167 (0,0)),(cb,.rows 1 M.cs.length (aO M.cs) 3 (0,0))] F (λ u H'=>u=vI 0 /\ MemH mb ⟨M.cs,[],M.base+((0:Nat):Int)⟩ k H'):=by
 refine Sp.run Tryz.func61 rfl mn (A:=[(mb,.lit [vS cb 0 M.cs.length M.cs.length,.slice none 0 0,vI M.base] 167 (0,0)),(cb,.rows 1 M.cs.length (aO M.cs) 3 (0,0))]) (Ts:=[]) rfl λ w0=>?_
 refine ae 10 [] λ _=>aj (mG mb cb M.cs.length none 0 0 M.base _ (aB 0) hb (by omega))<|ai 40 [.own 0,.nw,.own 0,.own 0] [bg ((M.base+((0:Nat):Int)) - M.base)] λ _=>aK 28 (congrArg (λ v_=>(vI v_:Value)) (show (M.base+((0:Nat):Int)) - M.base=0 by omega))<|ae 18 [.own 0,.own 0] λ _=>RN.em (0 < (M.base+((0:Nat):Int)) - M.base) 38 (λ h1=>?_) λ h1=>?_
 ·(exfalso;omega)
 ·refine ae 8 [] λ _=>RN.ret [] [0,1] [] (v:=vI 0) (H':=(ap [(mb,.lit [vS cb 0 M.cs.length M.cs.length,.slice none 0 0,vI (M.base+((0:Nat):Int))] 167 (0,0)),(cb,.rows 1 M.cs.length (aO M.cs) 3 (0,0))] [])) ?_
  refine ⟨rfl,?_⟩
  have h_:=MemH.mk (mb:=mb) (M:=⟨M.cs,[],M.base+((0:Nat):Int)⟩) (k:=k) cb none 0 ([]) (SlIs.nil _ _) hc (by simp;omega)
  simpa [ap] using h_
theorem Gq (mb cb k b o cap:Nat) (M:MemS) (full:List (Int × Int)) (F:HL) (hb:0 <= M.base /\ M.base <= 1000000000) (hc:M.cs.length <= 1000000) (hk:k <= 100000000) (hf:full.length=o+cap) (hn:M.lg.length=cap) (hl:M.lg.length <= 100000000):Sp Tryz.prog 61 #[vP mb 0,vI (M.base+(M.lg.length:Int))] [(mb,.lit [vS cb 0 M.cs.length M.cs.length,vS b (o * 2) M.lg.length cap,vI M.base] 167 (0,0)),(cb,.rows 1 M.cs.length (aO M.cs) 3 (0,0)),(b,.rows 2 (o+cap) (bn jU full) 216 (0,0))] F (λ u H'=>u=vI 0 /\ MemH mb ⟨M.cs,[],M.base+(M.lg.length:Int)⟩ k H'):=by
 refine Sp.run Tryz.func61 rfl mn (A:=[(mb,.lit [vS cb 0 M.cs.length M.cs.length,vS b (o * 2) M.lg.length cap,vI M.base] 167 (0,0)),(cb,.rows 1 M.cs.length (aO M.cs) 3 (0,0)),(b,.rows 2 (o+cap) (bn jU full) 216 (0,0))]) (Ts:=[]) rfl λ w0=>?_
 refine ae 10 [] λ _=>aj (mG mb cb M.cs.length (some ⟨b,o * 2,none⟩) M.lg.length cap M.base _ (aB 0) hb (by omega))<|ai 40 [.own 0,.nw,.own 0,.own 0] [bg ((M.base+(M.lg.length:Int)) - M.base)] λ _=>aK 28 (congrArg (λ v_=>(vI v_:Value)) (show (M.base+(M.lg.length:Int)) - M.base=(M.lg.length:Int) by omega))<|ai 18 [.sl M.lg.length M.lg.length true,.own 0,.own 0] [(M.lg.length:Int)=((M.lg.length:Nat):Int) /\ M.lg.length=M.lg.length /\ M.lg.length <= M.lg.length /\ M.lg.length <= cap /\ cap=M.lg.length] λ _=>RN.em ((((M.lg.length - M.lg.length):Nat):Int) < (M.base+(M.lg.length:Int)) - M.base) 38 (λ h1=>?_) λ h1=>?_
 ·refine ae 7 [.own 0] λ _=>RN.nt<|i3 (A:=none) (B:=(some ⟨b,o * 2,none⟩)) (c':=(cap - M.lg.length)) xP ([]:List (Int × Int)) 0 (λ a_ e_=>by cases e_) (m:=(M.lg.length - M.lg.length)) (tx:=165) (by simp) (by simp) (λ e_ he X w hR=>Nz (by simp) he) ?_
  rintro A2 c3 T4 hs5
  refine ae 10 [.own 0] λ _=>RN.ret [] [0,1] [0] (v:=vI 0) (H':=(ap [(mb,.lit [vS cb 0 M.cs.length M.cs.length,.slice A2 0 c3,vI (M.base+(M.lg.length:Int))] 167 (0,0)),(cb,.rows 1 M.cs.length (aO M.cs) 3 (0,0))] [T4])) ?_
  refine ⟨rfl,?_⟩
  have h_:=MemH.mk (mb:=mb) (M:=⟨M.cs,[],M.base+(M.lg.length:Int)⟩) (k:=k) cb A2 c3 T4 hs5.sl0 hc (by simp;omega)
  exact h_
 ·refine ae 8 [] λ _=>RN.ret [] [0,1,2] [] (v:=vI 0) (H':=(ap [(mb,.lit [vS cb 0 M.cs.length M.cs.length,vS b (o * 2) (M.lg.length - M.lg.length) (cap - M.lg.length),vI (M.base+(M.lg.length:Int))] 167 (0,0)),(cb,.rows 1 M.cs.length (aO M.cs) 3 (0,0)),(b,.rows 2 (o+cap) (bn jU full) 216 (0,0))] [])) ?_
  refine ⟨rfl,?_⟩
  rw [Nat.sub_self]
  have h_:=MemH.mk (mb:=mb) (M:=⟨M.cs,[],M.base+(M.lg.length:Int)⟩) (k:=k) cb (some ⟨b,o * 2,none⟩) (cap - M.lg.length) ([(b,.rows 2 (o+cap) (bn jU full) 216 (0,0))]) (.inr ⟨b,o,full,rfl,by rw [show o+(cap - M.lg.length)=o+cap by omega];rfl,by omega,Nat.zero_le _,rfl⟩) hc (by simp;omega)
  simpa [ap] using h_
theorem Gr (mb cb k b o cap:Nat) (M:MemS) (full:List (Int × Int)) (F:HL) (hb:0 <= M.base /\ M.base <= 1000000000) (hc:M.cs.length <= 1000000) (hk:k <= 100000000) (hf:full.length=o+cap) (hn:M.lg.length < cap) (hl:M.lg.length <= 100000000):Sp Tryz.prog 61 #[vP mb 0,vI (M.base+(M.lg.length:Int))] [(mb,.lit [vS cb 0 M.cs.length M.cs.length,vS b (o * 2) M.lg.length cap,vI M.base] 167 (0,0)),(cb,.rows 1 M.cs.length (aO M.cs) 3 (0,0)),(b,.rows 2 (o+cap) (bn jU full) 216 (0,0))] F (λ u H'=>u=vI 0 /\ MemH mb ⟨M.cs,[],M.base+(M.lg.length:Int)⟩ k H'):=by
 refine Sp.run Tryz.func61 rfl mn (A:=[(mb,.lit [vS cb 0 M.cs.length M.cs.length,vS b (o * 2) M.lg.length cap,vI M.base] 167 (0,0)),(cb,.rows 1 M.cs.length (aO M.cs) 3 (0,0)),(b,.rows 2 (o+cap) (bn jU full) 216 (0,0))]) (Ts:=[]) rfl λ w0=>?_
 refine ae 10 [] λ _=>aj (mG mb cb M.cs.length (some ⟨b,o * 2,none⟩) M.lg.length cap M.base _ (aB 0) hb (by omega))<|ai 40 [.own 0,.nw,.own 0,.own 0] [bg ((M.base+(M.lg.length:Int)) - M.base)] λ _=>aK 28 (congrArg (λ v_=>(vI v_:Value)) (show (M.base+(M.lg.length:Int)) - M.base=(M.lg.length:Int) by omega))<|ai 18 [.sl M.lg.length M.lg.length false,.own 0,.own 0] [(M.lg.length:Int)=((M.lg.length:Nat):Int) /\ M.lg.length=M.lg.length /\ M.lg.length <= M.lg.length /\ M.lg.length <= cap /\ cap ≠ M.lg.length] λ _=>RN.em ((((M.lg.length - M.lg.length):Nat):Int) < (M.base+(M.lg.length:Int)) - M.base) 38 (λ h1=>?_) λ h1=>?_
 ·refine ae 7 [.own 0] λ _=>RN.nt<|i3 (A:=none) (B:=(some ⟨b,(o * 2+M.lg.length * 2),none⟩)) (c':=(cap - M.lg.length)) xP ([]:List (Int × Int)) 0 (λ a_ e_=>by cases e_) (m:=(M.lg.length - M.lg.length)) (tx:=165) (by simp) (by simp) (λ e_ he X w hR=>Nz (by simp) he) ?_
  rintro A2 c3 T4 hs5
  refine ae 10 [.own 0] λ _=>RN.ret [] [0,1] [0] (v:=vI 0) (H':=(ap [(mb,.lit [vS cb 0 M.cs.length M.cs.length,.slice A2 0 c3,vI (M.base+(M.lg.length:Int))] 167 (0,0)),(cb,.rows 1 M.cs.length (aO M.cs) 3 (0,0))] [T4])) ?_
  refine ⟨rfl,?_⟩
  have h_:=MemH.mk (mb:=mb) (M:=⟨M.cs,[],M.base+(M.lg.length:Int)⟩) (k:=k) cb A2 c3 T4 hs5.sl0 hc (by simp;omega)
  exact h_
 ·refine ae 8 [] λ _=>RN.ret [] [0,1,2] [] (v:=vI 0) (H':=(ap [(mb,.lit [vS cb 0 M.cs.length M.cs.length,vS b (o * 2+M.lg.length * 2) (M.lg.length - M.lg.length) (cap - M.lg.length),vI (M.base+(M.lg.length:Int))] 167 (0,0)),(cb,.rows 1 M.cs.length (aO M.cs) 3 (0,0)),(b,.rows 2 (o+cap) (bn jU full) 216 (0,0))] [])) ?_
  refine ⟨rfl,?_⟩
  rw [Nat.sub_self]
  have h_:=MemH.mk (mb:=mb) (M:=⟨M.cs,[],M.base+(M.lg.length:Int)⟩) (k:=k) cb (some ⟨b,o * 2+M.lg.length * 2,none⟩) (cap - M.lg.length) ([(b,.rows 2 (o+cap) (bn jU full) 216 (0,0))]) (.inr ⟨b,o+M.lg.length,full,by rw [Nat.add_mul];rfl,by rw [show o+M.lg.length+(cap - M.lg.length)=o+cap by omega];rfl,by omega,Nat.zero_le _,rfl⟩) hc (by simp;omega)
  simpa [ap] using h_
theorem Gs {mb:Nat} {M:MemS} {k k2:Nat} {T:HL} (F:HL) (h:MemH mb M k T) (hb:0 <= M.base /\ M.base <= 1000000000) (hk:k2 <= 100000000):Sp Tryz.prog 61 #[vP mb 0,vI (M.base+(M.lg.length:Int))] (ap [] [T]) F (λ u H'=>∃ x,H'=ap [] [x] /\ (u=vI 0 /\ MemH mb ⟨M.cs,[],M.base+(M.lg.length:Int)⟩ k2 x)):=by
 rw [bj]
 cases h with
 | mk cb A cap Hl hs hc hl =>
  rcases hs with ⟨rfl,rfl,h1,rfl⟩ | ⟨b,o,full,rfl,rfl,h1,h2,h3⟩
  ·have e:M.lg.length=0:=by rw [h1];rfl
   rw [e]
   have key:=Gp mb cb k2 M F hb hc hk
   exact key.tl
  ·rcases Nat.lt_or_ge M.lg.length cap with h4 | h4
   ·have key:=Gr mb cb k2 b o cap M full F hb hc hk h1 h4 (by omega)
    exact key.tl
   ·have key:=Gq mb cb k2 b o cap M full F hb hc hk h1 (by omega) (by omega)
    exact key.tl
theorem Gt {n:Int} (h:mr n):0 <= qj n /\ qj n < 1000:=dF h 1000 (by decide)
theorem uu {n m:Int} (h0:0 <= n) (h1:n < m):aC n m=n:=by
 unfold aC
 rw [if_neg (by omega)]
 exact Int.tmod_eq_of_lt h0 h1
theorem yX {n:Int} (h:mr n):cK (qj n)=cK n:=by
 have hb:=Gt h
 have e:qj (qj n)=qj n:=uu hb.1 hb.2
 unfold cK nT
 rw [e]
theorem CV:∀ k:Fin 1000,jm ⟨(cK ((k.1:Nat):Int)).1,(cK ((k.1:Nat):Int)).2,none,0⟩:=by decide +kernel
theorem Gu {n:Int} (h:mr n) (A:Option Addr) (c:Nat):jm ⟨(cK n).1,(cK n).2,A,c⟩:=by
 have hb:=Gt h
 have:=CV ⟨(qj n).toNat,by omega⟩
 simp only at this
 rw [Int.toNat_of_nonneg hb.1,yX h] at this
 exact this
theorem LD (i:Nat):0 <= ([1024,1024,512,2048,0]:List Int).getD i 0 /\ ([1024,1024,512,2048,0]:List Int).getD i 0 <= 4096:=by
 rcases i with _ | _ | _ | _ | _ | i
 all_goals first | decide | simp
section
variable {xs:List Int} {F:HL} {A:Option Addr} {n:Nat} {S:Setup} {T:HL}
theorem Jh (hl:ArgL F A n xs) (k:Nat) (B:Option Addr) (c:Nat):fc (sC xs k B c) ⟨-12000,-9000,12000,9000⟩:=by
 have h1:=gM hl (4+2 * k)
 have h2:=gM hl (5+2 * k)
 have h3:=LD ((bM xs k / 5000) % 5).toNat
 simp only [fc,sC,sE,vR,and_true]
 rw [show kv xs (4+2 * k)=bN xs k from rfl] at h1
 rw [show kv xs (5+2 * k)=bM xs k from rfl] at h2
 refine ⟨h3,⟨⟨?_,?_⟩,?_,?_⟩,⟨?_,?_⟩,⟨?_,?_⟩,⟨?_,?_⟩,?_,?_⟩ <;> omega
theorem Gv (i:Nat):(jE i:Int) <= 16 /\ ∀ k,k < jE i -> qy 3 ((jY i).getD k mt.dflt):=by
 rcases i with _ | _ | i
 ·exact ⟨by decide,λ k hk=>absurd hk (Nat.not_lt_zero _)⟩
 ·exact ⟨by decide,by decide⟩
 ·exact ⟨by show ((2:Nat):Int) <= 16;decide,by show ∀ k,k < 2 -> qy 3 (([⟨0,2⟩,⟨1,2⟩]:List Dr).getD k mt.dflt);decide⟩
theorem CW (hl:ArgL F A n xs) (h:SetG xs S T):fh S ql (jY (kv xs 3 % 3).toNat)=0:=by
 have h1:=pJ hl
 have h2:=t8 hl
 have hn:=h.nb
 have k0:=gM hl 0
 have k1:=gM hl 1
 have k2:=gM hl 2
 obtain ⟨e1,e2,e3,e4,e5,e6,e7,e8⟩:=h.nums
 obtain ⟨⟨m1,m2⟩,-⟩:=h.maps
 have hd:=Gv (kv xs 3 % 3).toNat
 unfold fh
 rw [if_pos,if_pos,if_pos]
 ·intro k hk
  obtain ⟨B,c,hb⟩:=h.bod k hk
  rw [hb,e1]
  exact Jh hl k B c
 ·refine ⟨?_,?_,⟨?_,?_⟩,?_,?_⟩
  ·have hpl:=h.pl
   simp only [i8,sE,vR,and_true,e2,e3,e4,e5,e6,e7,e8,hpl]
   refine ⟨⟨?_,?_⟩,⟨?_,?_⟩,⟨?_,?_⟩,⟨⟨?_,?_⟩,?_,?_⟩,⟨?_,?_⟩,⟨⟨?_,?_⟩,?_,?_⟩,⟨?_,?_⟩,?_,?_⟩ <;> omega
  ·rw [e1];decide
  ·rw [m1];decide
  ·rw [m2];exact hd.1
  ·rw [m1];decide
  ·rw [m1,m2];exact hd.2
 ·intro k hk
  obtain ⟨B,c,hb⟩:=h.bod k hk
  rw [hb]
  have:=gM hl (4+2 * k)
  exact Gu ⟨by show _ <= kv xs (4+2 * k);omega,by show kv xs (4+2 * k) <= _;omega⟩ B c
end
theorem Sp.den {P:Program} {f:FuncId} {args:Array Value} {H F F':HL} {R:Value -> HL -> Prop} (h:Sp P f args H F R) (e:du F=du F'):Sp P f args H F' R:=by
 have e2:∀ X:HL,du (X++F)=du (X++F'):=λ X=>by simp only [du,List.map_append] at e ⊢;rw [e]
 intro w hR
 refine (h w (hR.den (e2 H).symm)).mono ?_
 rintro e' w' ⟨v,H',h1,h2,h3,h4⟩
 exact ⟨v,H',h1,h2,h3.den (e2 H'),h4⟩
def ArgD (F:HL) (A:Option Addr) (n:Nat) (xs:List Int):Prop:=∃ F',du F'=du F /\ ArgL F' A n xs
theorem ArgL.d {F F':HL} {A:Option Addr} {n:Nat} {xs:List Int} (h:ArgL F A n xs) (e:du F=du F'):ArgD F' A n xs:=⟨F,e,h⟩
theorem ArgD.up {F X:HL} {A:Option Addr} {n:Nat} {xs:List Int} (h:ArgD F A n xs):ArgD (X++F) A n xs:=by
 obtain ⟨F',e,h⟩:=h
 exact ⟨X++F',by simp only [du,List.map_append] at e ⊢;rw [e],h.up⟩
theorem ArgD.ex {F:HL} {A:Option Addr} {n:Nat} {xs:List Int} (h:ArgD F A n xs):∃ F',ArgL F' A n xs:=by
 obtain ⟨F',e,h⟩:=h
 exact ⟨F',h⟩
theorem ArgD.use {F:HL} {A:Option Addr} {n:Nat} {xs:List Int} (h:ArgD F A n xs) {P:Program} {f:FuncId} {args:Array Value} {H:HL} {R:Value -> HL -> Prop} (k:∀ F',ArgL F' A n xs -> Sp P f args H F' R):Sp P f args H F R:=by
 obtain ⟨F',e,h⟩:=h
 exact (k F' h).den e

noncomputable section
end
structure GF (xs:List Int) (S:Setup):Prop where
 pl:1 <= S.players /\ S.players <= 3
 nb:1 <= S.nb /\ S.nb <= 5
 rn:S.rn=3
 dn:S.dn <= 2
 sz:48 <= sizeOf S /\ sizeOf S <= 100
 val:fh S ql (jY (kv xs 3 % 3).toNat)=0
theorem LE {F:HL} {A:Option Addr} {n:Nat} {xs:List Int} (hl:ArgD F A n xs) {S:Setup} {T:HL} (h:SetG xs S T):GF xs S:=by
 obtain ⟨F',hl⟩:=hl.ex
 have h1:=pJ hl
 have h2:=t8 hl
 have hn:=h.nb
 have hp:=h.pl
 obtain ⟨⟨m1,m2⟩,-⟩:=h.maps
 have hd:jE (kv xs 3 % 3).toNat <= 2:=by
  generalize (kv xs 3 % 3).toNat=i
  rcases i with _ | _ | i
  ·exact Nat.zero_le _
  ·exact Nat.le_of_ble_eq_true rfl
  ·exact Nat.le_refl 2
 exact ⟨by omega,by omega,m1,by omega,by unfold sizeOf;omega,CW hl h⟩
structure SetV (S:Setup):Prop where
 pl:1 <= S.players /\ S.players <= 3
 nb:1 <= S.nb /\ S.nb <= 5
 ro:1 <= S.rounds /\ S.rounds <= 3
 fu:0 <= S.fuel /\ S.fuel <= 60
theorem aL (M:MemS) (i v:Int):(M.set i v).cs.length=M.cs.length:=by
 unfold MemS.set;split <;> simp
theorem bD {M:MemS} {i v j:Int} (h:j ≠ i):(M.set i v).get j=M.get j:=by
 unfold MemS.set
 split
 ·next hi =>
  unfold MemS.get
  simp only [List.length_set]
  split
  ·next hj =>
   rw [List.getD_eq_getElem?_getD,List.getD_eq_getElem?_getD,List.getElem?_set_ne (by omega)]
  ·rfl
 ·rfl
theorem jb {M:MemS} {i v:Int} (h:0 <= i /\ i < M.cs.length):(M.set i v).get i=v:=by
 unfold MemS.set
 rw [if_pos h]
 unfold MemS.get
 simp only [List.length_set]
 rw [if_pos h,List.getD_eq_getElem?_getD,List.getElem?_set_self (by omega)]
 rfl
theorem bQ {M:MemS} {i v:Int} (h:48 <= M.cs.length) (h0:0 <= i) (h1:i < 48) (j:Int):(M.set i v).get j=if j=i then v else M.get j:=by
 by_cases e:j=i
 ·rw [if_pos e,e,jb (by omega)]
 ·rw [if_neg e,bD e]
theorem nF {S:Setup} (hp:0 <= S.players) (k:Int):af S k=-1 \/ (0 <= k /\ k < S.nb /\ af S k=48+4 * S.players+8 * k):=by
 unfold af
 split
 ·exact .inl rfl
 ·split
  ·exact .inl rfl
  ·exact .inr ⟨by omega,by omega,rfl⟩
theorem th {S:Setup} (k:Int):(ah S k=-1 /\ (k < 0 \/ S.players <= k)) \/ (0 <= k /\ k < S.players /\ ah S k=48+4 * k):=by
 unfold ah
 split
 ·exact .inl ⟨rfl,by omega⟩
 ·split
  ·exact .inl ⟨rfl,by omega⟩
  ·exact .inr ⟨by omega,by omega,rfl⟩
structure Hi (P:Int) (M M':MemS):Prop where
 len:M'.cs.length=M.cs.length
 get:∀ j,j < 48+4 * P -> M'.get j=M.get j
theorem Hi.refl {P:Int} {M:MemS}:Hi P M M:=⟨rfl,λ _ _=>rfl⟩
theorem Hi.set {P:Int} {A M:MemS} (h:Hi P A M) {k:Int} (hk:48+4 * P <= k) (v:Int):Hi P A (M.set k v):=⟨(aL _ _ _).trans h.len,λ j hj=>(bD (by omega)).trans (h.get j hj)⟩
theorem Hi.setB {S:Setup} (hp:0 <= S.players) {A M:MemS} (h:Hi S.players A M) {k c:Int} (hb:af S k >= 0) (hc:0 <= c) (v:Int):Hi S.players A (M.set (af S k+c) v):=by
 rcases nF hp k with e | ⟨h0,h1,e⟩
 ·omega
 ·exact h.set (by omega) v
structure Kp (P:Int) (M M':MemS):Prop where
 len:M'.cs.length=M.cs.length
 get:∀ j,j <= 5 \/ (48 <= j /\ j < 48+4 * P) -> M'.get j=M.get j
theorem Kp.refl {P:Int} {M:MemS}:Kp P M M:=⟨rfl,λ _ _=>rfl⟩
theorem Kp.set {P:Int} {A M:MemS} (h:Kp P A M) {k:Int} (hk:5 < k /\ (k < 48 \/ 48+4 * P <= k)) (v:Int):Kp P A (M.set k v):=⟨(aL _ _ _).trans h.len,λ j hj=>(bD (by omega)).trans (h.get j hj)⟩
theorem Kp.trans {P:Int} {A B C:MemS} (h:Kp P A B) (h':Kp P B C):Kp P A C:=⟨h'.len.trans h.len,λ j hj=>(h'.get j hj).trans (h.get j hj)⟩
structure Ef (M:MemS) (r:VR):Prop where
 yes:r.em=true -> r.e.t=M.get 0 /\ r.e.i=M.get 11 /\ M.get 11 < 40 /\ r.M.get 11=M.get 11+1
 no:r.em=false -> r.M.get 11=M.get 11
theorem O3 {op:Int} (h:1 <= op /\ op <= 21):(0 <= eP op /\ eP op <= 2) /\ (0 <= eQ op /\ eQ op <= 1):=by
 obtain ⟨n,rfl⟩:=Int.eq_ofNat_of_zero_le (show 0 <= op by omega)
 have hn:n < 22:=by omega
 have key:∀ n:Fin 22,(0 <= (m9.getD n.1 (0,0,0)).1 /\ (m9.getD n.1 (0,0,0)).1 <= 2) /\ (0 <= (m9.getD n.1 (0,0,0)).2.1 /\ (m9.getD n.1 (0,0,0)).2.1 <= 1):=by decide
 exact key ⟨n,hn⟩
theorem Gw {op n sp:Int} (h:eK op n sp=true):(1 <= op /\ op <= 21) /\ sp <= 16 /\ eP op <= sp /\ ¬ bd (bd (sp - eP op)+eQ op) > 16 /\ (eN op=0 \/ (0 <= n /\ n < eN op)):=by
 unfold eK at h
 split at h
 ·cases h
 split at h
 ·cases h
 split at h
 ·cases h
 split at h
 ·cases h
 split at h
 ·cases h
 refine ⟨by omega,by omega,by omega,by assumption,?_⟩
 split at h
 ·left;assumption
 ·split at h
  ·right;exact ⟨by omega,of_decide_eq_true h⟩
  ·cases h
theorem Ji {M:MemS} {P k v:Int} (hl:48 <= M.cs.length) (h0:0 <= M.get 11 /\ M.get 11 <= 40):Kp P M (cL k v M).M /\ (cL k v M).M.get 8=M.get 8 /\ Ef M (cL k v M):=by
 unfold cL
 split
 ·exact ⟨.refl,rfl,⟨λ h=>by simp at h,λ _=>rfl⟩⟩
 ·refine ⟨((Kp.refl).set (by omega) _).set (by omega) _,?_,⟨λ _=>⟨rfl,rfl,by omega,?_⟩,λ h=>by simp at h⟩⟩
  ·simp only
   rw [bD (by decide),bD (by decide)]
  ·simp only
   rw [jb (by rw [aL];omega),cV (by omega)]
def Gd (P:Int) (M:MemS) (r:VR):Prop:=Kp P M r.M /\ r.M.get 8=M.get 8 /\ Ef M r
theorem mH {P:Int} {M:MemS} {c:Prop} [Decidable c] {x y:VR} (hx:c -> Gd P M x) (hy:¬ c -> Gd P M y):Gd P M (if c then x else y):=by
 split
 ·exact hx (by assumption)
 ·exact hy (by assumption)
theorem Gd.base {P:Int} {M:MemS} {v:Int}:Gd P M ⟨M,v,bz,false⟩:=⟨.refl,rfl,⟨λ h=>by simp at h,λ _=>rfl⟩⟩
theorem Gd.st {P:Int} {M:MemS} {k v u:Int} (hk:(5 < k /\ k ≠ 8 /\ k ≠ 11) /\ (k < 48 \/ 48+4 * P <= k)):Gd P M ⟨M.set k v,u,bz,false⟩ :=
 ⟨(Kp.refl).set (by omega) _,bD (by omega),⟨λ h=>by simp at h,λ _=>bD (by omega)⟩⟩
theorem Gd.mite {P:Int} {M X Y:MemS} {c:Prop} [Decidable c] {u:Int} (hx:c -> Gd P M ⟨X,u,bz,false⟩) (hy:¬ c -> Gd P M ⟨Y,u,bz,false⟩):Gd P M ⟨if c then X else Y,u,bz,false⟩:=by
 split
 ·exact hx (by assumption)
 ·exact hy (by assumption)
theorem Jj {S:Setup} (hS:SetV S) {M:MemS} {op n a b:Int} (hl:48 <= M.cs.length) (h0:0 <= M.get 11 /\ M.get 11 <= 40) (hn:eN op=0 \/ (0 <= n /\ n < eN op)):Gd S.players M (aF S op n a b M):=by
 have hpl:=hS.pl
 have hnb:=hS.nb
 unfold aF
 iterate 14 (refine mH (λ _=>.base) λ _=>?_)
 refine mH (λ e=>?_) λ _=>?_
 ·subst e
  have h16:0 <= n /\ n < 16:=by
   rcases hn with h | h
   ·exact absurd h (by decide)
   ·exact h
  rw [cV (by omega)]
  exact .st (by omega)
 refine mH (λ _=>.base) λ _=>?_
 refine mH (λ e=>?_) λ _=>?_
 ·subst e
  have h8:0 <= n /\ n < 8:=by
   rcases hn with h | h
   ·exact absurd h (by decide)
   ·exact h
  refine Gd.mite (λ hb=>?_) λ _=>.base
  rcases nF (S:=S) (by omega) a with e | ⟨b0,b1,e⟩
  ·omega
  ·rw [cV (by omega)]
   exact .st (by omega)
 refine mH (λ _=>.st (by omega)) λ _=>?_
 refine mH (λ _=>.mite (λ _=>.st (by omega)) λ _=>.base) λ _=>?_
 refine mH (λ _=>?_) λ _=>.base
 obtain ⟨q1,q2,q3⟩:=Ji (P:=S.players) (k:=a) (v:=b) hl h0
 exact ⟨q1,q2,⟨q3.yes,q3.no⟩⟩
theorem Jk {P:Int} {M:MemS} {op sp pc fuel:Int} (hl:48 <= M.cs.length):Kp P M (dC op sp pc fuel M) /\ (dC op sp pc fuel M).get 8=bd (fuel - 1) /\ (dC op sp pc fuel M).get 11=M.get 11:=by
 unfold dC
 split
 ·exact ⟨((Kp.refl).set (by omega) _).set (by omega) _,by rw [bD (by decide),jb (by omega)],by rw [bD (by decide),bD (by decide)]⟩
 ·exact ⟨(((Kp.refl).set (by omega) _).set (by omega) _).set (by omega) _,by rw [bD (by decide),bD (by decide),jb (by omega)],by rw [bD (by decide),bD (by decide),bD (by decide)]⟩
theorem w7 {S:Setup} (hS:SetV S) {M:MemS} {code:List Ins} {n:Nat} (hl:48 <= M.cs.length) (h0:0 <= M.get 11 /\ M.get 11 <= 40) (hf:0 <= M.get 8 /\ M.get 8 <= 60) :
  Kp S.players M (al S code n M).M /\ Ef M (al S code n M) /\ ((dQ code n M /\ (al S code n M).M.get 8=M.get 8 - 1 /\ 1 <= M.get 8) \/ (¬ dQ code n M /\ bu code n M=true /\ (al S code n M).M.get 8=M.get 8)):=by
 unfold al
 by_cases hr:dQ code n M
 ·rw [if_pos hr]
  obtain ⟨r1,r2,r3,r4⟩:=hr
  obtain ⟨x1,x2,x3,x4,x5⟩:=Gw r4
  have hp:=Jk (P:=S.players) (op:=(bm code M).op) (sp:=M.get 7) (pc:=M.get 6) (fuel:=M.get 8) hl
  generalize hM1:dC (bm code M).op (M.get 7) (M.get 6) (M.get 8) M=M1 at *
  obtain ⟨p1,p2,p3⟩:=hp
  rw [cV (by omega)] at p2
  have he:=Jj hS (M:=M1) (op:=(bm code M).op) (n:=(bm code M).n) (a:=dU (bm code M).op (M.get 7) M) (b:=dV (bm code M).op (M.get 7) M) (by rw [p1.len];exact hl) (by rw [p3];exact h0) x5
  unfold bW
  rw [hM1]
  generalize aF S (bm code M).op (bm code M).n (dU (bm code M).op (M.get 7) M) (dV (bm code M).op (M.get 7) M) M1=r at *
  obtain ⟨g1,g2,g3⟩:=he
  have hE:Ef M r:=⟨λ h=>by
   obtain ⟨a1,a2,a3,a4⟩:=g3.yes h
   rw [p1.get 0 (by omega)] at a1
   rw [p3] at a2 a3 a4
   exact ⟨a1,a2,a3,a4⟩,λ h=>by rw [g3.no h,p3]⟩
  have hb:=O3 x1
  unfold cj
  split
  ·have hq:bd (bd (16+M.get 7) - eP (bm code M).op)=16+M.get 7 - eP (bm code M).op:=by rw [cV (x:=16+M.get 7) (by omega),cV (by omega)]
   rw [cV (x:=M.get 7 - eP (bm code M).op) (by omega),cV (by omega)] at x4
   rw [hq]
   refine ⟨(p1.trans g1).set (by omega) _,⟨λ h=>?_,λ h=>?_⟩,.inl ⟨⟨r1,r2,r3,r4⟩,?_,by omega⟩⟩
   ·obtain ⟨a1,a2,a3,a4⟩:=hE.yes h
    exact ⟨a1,a2,a3,(bD (by omega)).trans a4⟩
   ·exact (bD (by omega)).trans (hE.no h)
   ·simp only
    rw [bD (by omega),g2,p2]
  ·exact ⟨p1.trans g1,hE,.inl ⟨⟨r1,r2,r3,r4⟩,by rw [g2,p2],by omega⟩⟩
 ·rw [if_neg hr]
  exact ⟨.refl,⟨λ h=>by simp at h,λ _=>rfl⟩,.inr ⟨hr,by unfold bu;rw [if_neg hr],rfl⟩⟩
def l6 (n i j fu:Int):Int:=(if j=0 then (n - i) * 62 else (n - i - 1) * 62+fu+1)+1+n
def l5 (n i j:Int):Int:=n * (n+1) - (i * (n+1)+j)+l6 n 0 0 0
def J8 (n i:Int):Int:=if i=0 then 0 else if i=1 then n - 1 else if i=2 then 2 * n - 3 else 3 * n - 6
def LF (n:Int):Int:=if n=2 then 1 else if n=3 then 3 else if n=4 then 6 else if n=5 then 10 else 0
def l4 (n R i j r:Int):Int:=(if n < 2 then 0 else (R - r) * LF n - (J8 n i+(j - i - 1)))+1+l5 n 0 0
def l3 (n R i:Int):Int:=n - i+l4 n R 0 1 0
def l2 (n R j fu:Int):Int:=(if j=0 then 62 else fu+1)+l3 n R 0
def l1 (P n R i j fu:Int):Int:=(if j=0 then (P - i) * 62 else (P - i - 1) * 62+fu+1)+1+l2 n R 0 0
def l0 (P n R i:Int):Int:=P - i+l1 P n R 0 0 0
def Dv (P n R p i j r fu:Int):Int:=if p=0 then l0 P n R i else if p=1 then l1 P n R i j fu else if p=2 then l2 n R j fu else if p=3 then l3 n R i else if p=4 then l4 n R i j r else if p=5 then l5 n i j else if p=6 then l6 n i j fu else n - i
def L8 (P n R p i j r fu:Int):Prop :=
 (p=0 /\ 0 <= i /\ i < P) \/ (p=1 /\ 0 <= i /\ i <= P /\ (j=0 \/ (j=1 /\ i < P /\ 0 <= fu /\ fu <= 60))) \/ (p=2 /\ (j=0 \/ (j=1 /\ 0 <= fu /\ fu <= 60))) \/ (p=3 /\ 0 <= i /\ i < n) \/
 (p=4 /\ 0 <= r /\ r <= R /\ (2 <= n -> 0 <= i /\ i < j /\ j < n /\ (r=R -> i=0 /\ j=1))) \/ (p=5 /\ 0 <= i /\ i < n /\ 0 <= j /\ j <= n) \/ (p=6 /\ 0 <= i /\ i <= n /\ (j=0 \/ (j=1 /\ i < n /\ 0 <= fu /\ fu <= 60))) \/ (p=7 /\ 0 <= i /\ i < n)
theorem Gx {n i j:Int} (hn:1 <= n /\ n <= 5) (hi:0 <= i /\ i < n) (hj:0 <= j /\ j <= n):0 < l5 n i j:=by
 unfold l5 l6
 obtain h | h | h | h | h:n=1 \/ n=2 \/ n=3 \/ n=4 \/ n=5:=by omega
 all_goals subst h;simp;omega
theorem AU {P n R p i j r fu:Int} (hP:1 <= P /\ P <= 3) (hn:1 <= n /\ n <= 5) (hR:1 <= R /\ R <= 3) (h:L8 P n R p i j r fu):0 < Dv P n R p i j r fu:=by
 have h5:=Gx hn (i:=0) (j:=0) (by omega) (by omega)
 have h4:∀ i j r,0 <= r -> r <= R -> (2 <= n -> 0 <= i /\ i < j /\ j < n) -> -9 <= (if n < 2 then 0 else (R - r) * LF n - (J8 n i+(j - i - 1))) -> 0 < l4 n R i j r+9:=λ i j r _ _ _ h=>by unfold l4;omega
 have k4:0 < l4 n R 0 1 0:=by
  unfold l4 LF J8
  obtain h | h | h | h | h:n=1 \/ n=2 \/ n=3 \/ n=4 \/ n=5:=by omega
  all_goals subst h;simp;omega
 have k3:0 < l3 n R 0:=by unfold l3;omega
 have k2:∀ j fu,(j=0 \/ (j=1 /\ 0 <= fu /\ fu <= 60)) -> 0 < l2 n R j fu:=λ j fu h=>by unfold l2;split <;> omega
 have k20:=k2 0 0 (.inl rfl)
 have k1:∀ i j fu,0 <= i -> i <= P -> (j=0 \/ (j=1 /\ i < P /\ 0 <= fu /\ fu <= 60)) -> 0 < l1 P n R i j fu:=λ i j fu _ _ h=>by unfold l1;split <;> omega
 have k10:=k1 0 0 0 (by omega) (by omega) (.inl rfl)
 rcases h with h | h | h | h | h | h | h | h <;> obtain ⟨rfl,h⟩:=h
 ·show 0 < l0 P n R i
  unfold l0;omega
 ·exact k1 i j fu h.1 h.2.1 h.2.2
 ·exact k2 j fu h
 ·show 0 < l3 n R i
  unfold l3;omega
 ·show 0 < l4 n R i j r
  unfold l4
  split
  ·omega
  ·obtain ⟨h1,h2,h3⟩:=h
   obtain ⟨h3,h4',h5',-⟩:=h3 (by omega)
   have:100 < l5 n 0 0:=by
    unfold l5 l6
    obtain h | h | h | h | h:n=1 \/ n=2 \/ n=3 \/ n=4 \/ n=5:=by omega
    all_goals first | omega | (subst h;simp)
   have h6:J8 n i <= 9:=by unfold J8;(repeat' split) <;> omega
   have h7:0 <= (R - r) * LF n:=Int.mul_nonneg (by omega) (by unfold LF;(repeat' split) <;> omega)
   omega
 ·exact Gx hn ⟨h.1,h.2.1⟩ h.2.2
 ·show 0 < l6 n i j fu
  unfold l6;split <;> omega
 ·show 0 < n - i
  omega
abbrev Dw (M:MemS):Prop:=M.get 1=0 /\ M.get 2=0
structure TV (S:Setup) (ins:Nat -> Inp) (M:MemS):Prop where
 len:(M.cs.length:Int)=sizeOf S
 t0:0 <= M.get 0 /\ M.get 0 <= 1000000
 ct:L8 S.players S.nb S.rounds (M.get 1) (M.get 2) (M.get 3) (M.get 4) (M.get 8)
 pl:∀ q:Nat,(q:Int) < (if M.get 1=0 then M.get 2 else S.players) -> M.get (48+4 * q)=(ins q).dx /\ M.get (48+4 * q+1)=(ins q).dy /\ M.get (48+4 * q+2)=(ins q).act
 ec:Dw M \/ (0 <= M.get 11 /\ M.get 11 <= 40)
abbrev mN (S:Setup) (M:MemS):Int:=Dv S.players S.nb S.rounds (M.get 1) (M.get 2) (M.get 3) (M.get 4) (M.get 8)
structure Nx (S:Setup) (ins:Nat -> Inp) (M:MemS) (r:VR):Prop where
 tv:TV S ins r.M
 lt:mN S r.M < mN S M
 ph:M.get 1 <= r.M.get 1
 t0:r.M.get 0=M.get 0
 ns:¬ Dw r.M
 yes:r.em=true -> ¬ Dw M /\ r.e.t=M.get 0 /\ r.e.i=M.get 11 /\ r.M.get 11=M.get 11+1
 no:r.em=false -> r.M.get 11=if Dw M then 0 else M.get 11
 up:r.M.get 1 <= M.get 1+1
theorem TV.l48 {S:Setup} (hS:SetV S) {ins:Nat -> Inp} {M:MemS} (h:TV S ins M):48 <= M.cs.length:=by
 have:=h.len;have:=hS.pl;unfold sizeOf at *;omega
theorem gO {S:Setup} (hS:SetV S) {ins:Nat -> Inp} {M N:MemS} {r:VR} {p i j q x fu:Int} (h:TV S ins M) (hp:1 <= M.get 1) (hN:Kp S.players M N) (hlen:r.M.cs.length=N.cs.length)
  (g:∀ k,r.M.get k=if k=1 then p else if k=2 then i else if k=3 then j else if k=4 then q else if k=5 then x else N.get k) (h8:N.get 8=fu)
  (hE:Ef M ⟨N,r.v,r.e,r.em⟩) (hc:L8 S.players S.nb S.rounds p i j q fu) (hph:M.get 1 <= p) (hlt:Dv S.players S.nb S.rounds p i j q fu < mN S M) (hup:p <= M.get 1+1:=by omega):Nx S ins M r:=by
 have ha:¬ Dw M:=λ e=>by have:=e.1;omega
 have g0:r.M.get 0=M.get 0:=by rw [g];simp;exact hN.get 0 (by omega)
 have g1:r.M.get 1=p:=by rw [g];simp
 have g2:r.M.get 2=i:=by rw [g];simp
 have g3:r.M.get 3=j:=by rw [g];simp
 have g4:r.M.get 4=q:=by rw [g];simp
 have g8:r.M.get 8=fu:=by rw [g];simp;exact h8
 have g11:r.M.get 11=N.get 11:=by rw [g];simp
 have gp:∀ k,48 <= k -> k < 48+4 * S.players -> r.M.get k=M.get k:=λ k h1 h2=>by
  rw [g,if_neg (by omega),if_neg (by omega),if_neg (by omega),if_neg (by omega),if_neg (by omega)]
  exact hN.get k (by omega)
 have hec:0 <= M.get 11 /\ M.get 11 <= 40:=by
  rcases h.ec with e | e
  ·exact absurd e ha
  ·exact e
 refine ⟨⟨by rw [hlen,hN.len];exact h.len,by rw [g0];exact h.t0,by rw [g1,g2,g3,g4,g8];exact hc,λ k hk=>?_,.inr ?_⟩,?_,by rw [g1];exact hph,g0,λ e=>by rw [Dw,g1] at e;have:=e.1;omega,λ e=>?_,λ e=>?_,by rw [g1];exact hup⟩
 ·rw [g1,if_neg (by omega)] at hk
  have:=h.pl k (by rw [if_neg (by omega)];exact hk)
  rw [gp _ (by omega) (by omega),gp _ (by omega) (by omega),gp _ (by omega) (by omega)]
  exact this
 ·rw [g11]
  cases he:r.em with
  | true=>obtain ⟨a,b,c,d⟩:=hE.yes he;simp only at d;omega
  | false=>have:=hE.no he;simp only at this;omega
 ·unfold mN;rw [g1,g2,g3,g4,g8];exact hlt
 ·obtain ⟨a,b,c,d⟩:=hE.yes e
  exact ⟨ha,a,b,by rw [g11];exact d⟩
 ·rw [if_neg ha,g11];exact hE.no e
theorem Hi.kp {P:Int} {M N:MemS} (h:Hi P M N) (hP:0 <= P):Kp P M N:=⟨h.len,λ j hj=>h.get j (by omega)⟩
theorem Hi.ef {P:Int} {M N:MemS} (h:Hi P M N) (hP:0 <= P) {v:Int} {e:Eff}:Ef M ⟨N,v,e,false⟩:=⟨λ h=>by simp at h,λ _=>h.get 11 (by omega)⟩
theorem jP {M:MemS} (h:48 <= M.cs.length) (t:Stp) (a b j:Int):(aM t a b M).get j=if j=3 then b else if j=2 then 0 else if j=1 then a else M.get j:=by
 unfold aM
 rw [bQ (by simp only [aL];exact h) (by omega) (by omega),bQ (by simp only [aL];exact h) (by omega) (by omega),bQ h (by omega) (by omega)]
theorem fL {M:MemS} (t:Stp) (a b:Int):(aM t a b M).cs.length=M.cs.length:=by unfold aM;simp only [aL]
theorem if5 {k p i j q x z:Int} {f:Int -> Int} (h:(if k=3 then j else if k=2 then i else if k=1 then p else f k)=z) (hq:q=f 4) (hx:x=f 5):z=if k=1 then p else if k=2 then i else if k=3 then j else if k=4 then q else if k=5 then x else f k:=by
 subst h hq hx
 by_cases e1:k=1
 ·subst e1;simp
 by_cases e2:k=2
 ·subst e2;simp
 by_cases e3:k=3
 ·subst e3;simp
 by_cases e4:k=4
 ·subst e4;simp
 by_cases e5:k=5
 ·subst e5;simp
 simp [e1,e2,e3,e4,e5]
theorem O4 {k i z:Int} {f:Int -> Int} (h:(if k=2 then i else f k)=z):z=if k=1 then f 1 else if k=2 then i else if k=3 then f 3 else if k=4 then f 4 else if k=5 then f 5 else f k:=by
 subst h
 by_cases e1:k=1
 ·subst e1;simp
 by_cases e2:k=2
 ·subst e2;simp
 by_cases e3:k=3
 ·subst e3;simp
 by_cases e4:k=4
 ·subst e4;simp
 by_cases e5:k=5
 ·subst e5;simp
 simp [e1,e2,e3,e4,e5]
theorem Gy {S:Setup} (hS:SetV S) {t:Stp} (ht:t.S=S) (M:MemS):Hi S.players M (bL t (bJ t M)):=by
 have hp:0 <= S.players:=by have:=hS.pl;omega
 subst ht
 have ha:Hi t.S.players M (bJ t M):=by
  unfold bJ
  split
  ·exact (Hi.refl).setB hp (by omega) (by omega) _
  ·exact .refl
 unfold bL
 split
 ·next hm =>
  have hb:af t.S t.i >= 0:=by
   rcases nF hp t.i with e | ⟨_,_,e⟩
   ·unfold af at e
    rw [if_neg (by have:=hm.1;omega),if_neg (by have:=hm.1;omega)] at e
    have:=hm.1;omega
   ·omega
  exact (ha.setB hp hb (by omega) _).setB hp hb (by omega) _
 ·exact ha
theorem q3 {S:Setup} (hS:SetV S) {g:Gm} (hg:g.S=S) {ins:Nat -> Inp} {M:MemS} (h:TV S ins M) (hp:M.get 1=3):Nx S ins M ⟨aR (g.step M) M,0,bz,false⟩:=by
 have hpl:=hS.pl
 have hnb:=hS.nb
 have hro:=hS.ro
 have hc:0 <= M.get 2 /\ M.get 2 < S.nb:=by rcases h.ct with h | h | h | h | h | h | h | h <;> omega
 have hh:=Gy hS (t:=g.step M) hg M
 have hl:=h.l48 hS
 unfold aR b7
 generalize bL (g.step M) (bJ (g.step M) M)=N at *
 have hlN:48 <= N.cs.length:=by rw [hh.len];exact hl
 have e1:=hh.get 1 (by omega);have e2:=hh.get 2 (by omega);have e3:=hh.get 3 (by omega);have e4:=hh.get 4 (by omega);have e8:=hh.get 8 (by omega)
 show Nx S ins M ⟨if bd (M.get 2+1) < g.S.nb then N.set 2 (bd (M.get 2+1)) else _,0,bz,false⟩
 rw [cV (by omega),hg]
 split
 ·refine gO hS h (by omega) (hh.kp (by omega)) (aL _ _ _) (λ k=>O4 (f:=N.get) (bQ hlN (by omega) (by omega) k).symm) e8 (hh.ef (by omega)) ?_ (by omega) ?_
  ·rw [e1,e3,e4,hp];exact .inr (.inr (.inr (.inl ⟨rfl,by omega,by omega⟩)))
  ·unfold mN;rw [e1,e3,e4,hp]
   show l3 S.nb S.rounds (M.get 2+1) < l3 S.nb S.rounds (M.get 2)
   unfold l3;omega
 ·refine gO hS h (by omega) (hh.kp (by omega)) ((aL _ _ _).trans (fL _ _ _)) (p:=4) (i:=0) (j:=1) (q:=0) (x:=N.get 5) (λ k=>?_) e8 (hh.ef (by omega)) ?_ (by omega) ?_
  ·rw [bQ (by rw [fL];exact hlN) (by omega) (by omega),jP hlN]
   by_cases k4:k=4
   ·subst k4;simp
   ·rw [if_neg k4]
    by_cases k1:k=1
    ·subst k1;simp
    by_cases k2:k=2
    ·subst k2;simp
    by_cases k3:k=3
    ·subst k3;simp
    by_cases k5:k=5
    ·subst k5;simp
    simp [k1,k2,k3,k4,k5]
  ·exact .inr (.inr (.inr (.inr (.inl ⟨rfl,by omega,by omega,λ _=>by omega⟩))))
  ·unfold mN;rw [hp]
   show l4 S.nb S.rounds 0 1 0 < l3 S.nb S.rounds (M.get 2)
   unfold l3;omega
end Go.Proofs.YtobflkidpfkcaaaGreatDoor
