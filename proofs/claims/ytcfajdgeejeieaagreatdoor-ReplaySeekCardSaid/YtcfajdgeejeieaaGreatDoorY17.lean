import Derived.Test.YtcfajdgeejeieaaGreatDoorY12
set_option maxHeartbeats 4000000
set_option maxRecDepth 100000
set_option linter.unusedSimpArgs false
set_option linter.unusedVariables false
namespace Go.Proofs.YtcfajdgeejeieaaGreatDoor
open Go.RowKit
def ff (a:Shp) (pa:V2) (b:Shp) (pb:V2) (xs:List V2):Nat -> Con
 | 0=>⟨0,0,9223372036854775807⟩
 | i+1=>if lW a pa b pb (xs.getD i ⟨0,0⟩) < (ff a pa b pb xs i).d then ⟨(xs.getD i ⟨0,0⟩).x,(xs.getD i ⟨0,0⟩).y,lW a pa b pb (xs.getD i ⟨0,0⟩)⟩ else ff a pa b pb xs i
def iI (a:Shp) (pa:V2) (b:Shp) (pb:V2) (xs:List V2):Nat -> Bool
 | 0=>true
 | i+1=>iI a pa b pb xs i && !decide (lW a pa b pb (xs.getD i ⟨0,0⟩) <= 0)
theorem uG {a:Shp} {pa:V2} {b:Shp} {pb:V2} {xs:List V2} {i:Nat} (h:iI a pa b pb xs i=false):∀ k,iI a pa b pb xs (i+k)=false
 | 0=>h
 | k+1=>by rw [<- Nat.add_assoc,iI,uG h k];rfl
def Dn (pa pb:V2) (c:Con):Con:=if cV (dj pb pa) ⟨c.nx,c.ny⟩ < 0 then ⟨(AM ⟨c.nx,c.ny⟩).x,(AM ⟨c.nx,c.ny⟩).y,c.d⟩ else c
def cr (a:Shp) (pa:V2) (b:Shp) (pb:V2):Con × Bool:=if KZ (dZ a pa) (dZ b pb) then (if iI a pa b pb (aH a pa b pb) (aH a pa b pb).length=true then (Dn pa pb (ff a pa b pb (aH a pa b pb) (aH a pa b pb).length),true) else (⟨0,0,0⟩,false)) else (⟨0,0,0⟩,false)
theorem G2 {xs:List V2} {i:Nat} {x:V2} (h:xs[i]?=some x):xs.getD i ⟨0,0⟩=x:=by rw [List.getD_eq_getElem?_getD,h];rfl
theorem G3 (a:Shp) (pa:V2) (b:Shp) (pb:V2) (q1 q2 q3 q4:Nat) (F:HL) (ha:ShIn F a) (hb:ShIn F b) (hq1:(q1,.lit [vI a.r,.slice a.A a.poly.length a.cap] 82 (0,0)) ∈ F) (hq2:(q2,.lit [vI b.r,.slice b.A b.poly.length b.cap] 82 (0,0)) ∈ F) (hq3:(q3,.lit [vI pb.x,vI pb.y] 29 (0,0)) ∈ F) (hq4:(q4,.lit [vI pa.x,vI pa.y] 29 (0,0)) ∈ F) :
  It Tryz.prog 262 #[vP q1 0,vP q2 0,vP q3 0,vP q4 0] F Db (aH a pa b pb):=by
 intro X l J Jx H0 hY h0
 have key:Sp Tryz.prog 262 #[.func (.yield l) #[] #[],vP q1 0,vP q2 0,vP q3 0,vP q4 0] (ap [] [H0]) (X++F) (λ _ H'=>J (aH a pa b pb).length H' \/ Jx H'):=by
  cases ha with
  | circle ra Aa ca =>
   cases hb with
   | circle rb Ab cb=>exact GU pa pb ra rb ca cb Aa Ab q1 q2 q3 q4 l X F J Jx H0 hq1 hq2 hq3 hq4 hY h0
   | poly rb lb bb cb h h3 h4 h5=>exact GV pa pb ra rb ca cb Aa lb bb q1 q2 q3 q4 l X F J Jx H0 hq1 hq2 hq3 hq4 h h3 h4 h5 hY h0
  | poly ra la ba ca g g3 g4 g5 =>
   cases hb with
   | circle rb Ab cb=>exact GW pa pb ra rb ca cb la ba Ab q1 q2 q3 q4 l X F J Jx H0 hq1 hq2 hq3 hq4 g g3 g4 g5 hY h0
   | poly rb lb bb cb h h3 h4 h5=>exact GX pa pb ra rb ca cb la ba lb bb q1 q2 q3 q4 l X F J Jx H0 hq1 hq2 hq3 hq4 g g3 g4 g5 h h3 h4 h5 hY h0
 rw [bF] at key
 exact key
theorem Bc (a:Shp) (pa:V2) (b:Shp) (pb:V2) (F:HL):Sp Tryz.prog 232 #[.agg #[vI a.r,.slice a.A a.poly.length a.cap],.agg #[vI pa.x,vI pa.y],.agg #[vI b.r,.slice b.A b.poly.length b.cap],.agg #[vI pb.x,vI pb.y]] [] F (λ u H'=>∃ n:Nat,H'=ap [((n+3),.lit [vI pb.x,vI pb.y] 29 (0,0)),((n+2),.lit [vI b.r,.slice b.A b.poly.length b.cap] 82 (0,0)),((n+1),.lit [vI pa.x,vI pa.y] 29 (0,0)),((n+0),.lit [vI a.r,.slice a.A a.poly.length a.cap] 82 (0,0))] [] /\ u=.func (.func 262) #[] #[vP (n+0) 0,vP (n+2) 0,vP (n+3) 0,vP (n+1) 0]):=by
 refine Sp.run Tryz.func232 rfl mn (A:=[]) (Ts:=[]) rfl λ w0=>?_
 refine ae 15 [] λ n1=>RN.ret [] [0,1,2,3] [] (v:=.func (.func 262) #[] #[vP (n1+0) 0,vP (n1+2) 0,vP (n1+3) 0,vP (n1+1) 0]) (H':=[((n1+3),.lit [vI pb.x,vI pb.y] 29 (0,0)),((n1+2),.lit [vI b.r,.slice b.A b.poly.length b.cap] 82 (0,0)),((n1+1),.lit [vI pa.x,vI pa.y] 29 (0,0)),((n1+0),.lit [vI a.r,.slice a.A a.poly.length a.cap] 82 (0,0))]) ?_
 exact ⟨_,rfl,rfl⟩
theorem Dp (a:Shp) (pa:V2) (b:Shp) (pb:V2) (F:HL):Sp Tryz.prog 232 #[KY a,.agg #[vI pa.x,vI pa.y],KY b,.agg #[vI pb.x,vI pb.y]] (ap [] []) F (λ u H'=>∃ n:Nat,H'=ap [((n+3),.lit [vI pb.x,vI pb.y] 29 (0,0)),((n+2),.lit [vI b.r,.slice b.A b.poly.length b.cap] 82 (0,0)),((n+1),.lit [vI pa.x,vI pa.y] 29 (0,0)),((n+0),.lit [vI a.r,.slice a.A a.poly.length a.cap] 82 (0,0))] [] /\ u=.func (.func 262) #[] #[vP (n+0) 0,vP (n+2) 0,vP (n+3) 0,vP (n+1) 0]):=Bc a pa b pb F
theorem oA (a:Shp) (pa:V2) (b:Shp) (pb:V2) (F:HL) (ha:ShIn F a) (hb:ShIn F b):Sp Tryz.prog 193 #[.agg #[vI a.r,.slice a.A a.poly.length a.cap],.agg #[vI pa.x,vI pa.y],.agg #[vI b.r,.slice b.A b.poly.length b.cap],.agg #[vI pb.x,vI pb.y]] [] F (λ u H'=>u=.tuple #[.agg #[vI (cr a pa b pb).1.nx,vI (cr a pa b pb).1.ny,vI (cr a pa b pb).1.d],.bool (cr a pa b pb).2] /\ H'=[]):=by
 refine Sp.runM Tryz.func193 rfl mn (A:=[]) (Ts:=[]) rfl λ w0=>?_
 refine ae 12 [] λ n1=>RN.draw [] []<|ag [] [0,1,3,4] [.own 5,.own 5,.own 4,.own 4,.own 3,.own 3,.own 2,.own 2]<|ar [] 2 (λ X_=>(pC a pa _ (ha.up.up)))<|ar [] 5 (λ X_=>(pC b pb _ (hb.up.up)))<|ar [] 6 (λ X_=>(GN (dZ a pa) (dZ b pb)  _))<|ag [] [7] []<|RD.fin<|ae 1 [] λ _=>RN.en (KZ (dZ a pa) (dZ b pb)) 20 (λ h2=>?_) λ h2=>?_
 ·refine ae 17 [.own 0,.own 0,.own 0,.own 6,.own 6,.own 5,.own 5,.own 4,.own 4,.own 3,.own 3] λ n3=>RN.ct (Hp:=[]) (Tp:=[]) [] [] (Dp a pa b pb _) ?_
  rintro _ m4 rfl
  refine ae 3 [] λ _=>RN.dn 4 (.lit [vI ((ff a pa b pb (aH a pa b pb) 0).nx),vI ((ff a pa b pb (aH a pa b pb) 0).ny),vI ((ff a pa b pb (aH a pa b pb) 0).d)] 300 (0,0))<|RN.range (σ:=Nat) (τ:=Nat × V2 × Nat) (encs:=λ (x_:V2)=>#[.agg #[vI x_.x,vI x_.y]]) (xs:=(aH a pa b pb)) (enters_of Tryz.func262 (by kernel_rfl) rfl) (λ m_=>([((n3+0),.lit [vI ((ff a pa b pb (aH a pa b pb) m_).nx),vI ((ff a pa b pb (aH a pa b pb) m_).ny),vI ((ff a pa b pb (aH a pa b pb) m_).d)] 300 (0,0)),((n1+5),.lit [.bool false] 4 (0,0)),((n1+4),.lit [vI 0,vI 0,vI 0] 300 (0,0))],[])) (λ i_ m_=>m_=i_ /\ iI a pa b pb (aH a pa b pb) m_=true) (λ c_ m_=>c_=Code.ret /\ iI a pa b pb (aH a pa b pb) (aH a pa b pb).length=false) (λ ⟨m_,y_,nb⟩=>⟨[(4,vP (n1+0) 0),(5,vP (n1+1) 0),(6,vP (n1+2) 0),(7,vP (n1+3) 0),(8,vP (n1+4) 0),(9,vP (n1+5) 0),(10,vP (n3+0) 0),(11,vP (nb+0) 0)],[((nb+0),.lit [vI y_.x,vI y_.y] 29 (0,0)),((n3+0),.lit [vI ((ff a pa b pb (aH a pa b pb) m_).nx),vI ((ff a pa b pb (aH a pa b pb) m_).ny),vI ((ff a pa b pb (aH a pa b pb) m_).d)] 300 (0,0)),((n1+5),.lit [.bool false] 4 (0,0)),((n1+4),.lit [vI 0,vI 0,vI 0] 300 (0,0))],[],True,0⟩) (λ i_ x_ ⟨m_,y_,nb⟩=>m_=i_ /\ iI a pa b pb (aH a pa b pb) m_=true /\ y_=x_) 0 (⟨rfl,rfl⟩) [4,5,6] [] (G3 a pa b pb (m4+0) (m4+2) (m4+3) (m4+1) _ ha.up hb.up (az 3) (az 1) (az 0) (az 2)) ?_ ?_ ?_ ?_
  ·rintro l_ i_ x_ m_ Y5 w6 hx7 hI_ mt8
   obtain ⟨rfl,hok⟩:=hI_
   refine ae 4 [.own 0,.own 0] λ n9=>?_
   refine mt8 (m_,x_,n9) [0,1,2,3] [] ?_
   try dsimp only
   exact ⟨rfl,hok,rfl⟩
  ·rintro l_ i_ x_ ⟨m_,y_,nb⟩ Y10 w11 hx12 hI_
   obtain ⟨rfl,hok,rfl⟩:=hI_
   have ex:=G2 hx12
   skip
   refine ae 8 [.ro 7,.ro 7,.ro 6,.ro 6,.ro 5,.ro 5,.ro 4,.ro 4,.own 0,.own 0] λ _=>ai (AW a pa b pb y_ _ (ha.up.up.up) (hb.up.up.up))<|ae 10 [] λ _=>RN.em (lW a pa b pb y_ <= 0) 36 (λ h13=>?_) λ h13=>?_
   ·refine ae 8 [.own 3,.own 3,.own 3,.own 2] λ _=>RN.rr m_ [1,2,3] [] ?_
    try dsimp only
    refine ⟨rfl,?_⟩
    have hl_:m_ < (aH a pa b pb).length:=(List.getElem?_eq_some_iff.1 hx12).1
    have h1_:iI a pa b pb (aH a pa b pb) (m_+1)=false:=by rw [iI,ex,hok,decide_eq_true h13];rfl
    have h2_:=uG h1_ ((aH a pa b pb).length - (m_+1))
    rwa [show m_+1+((aH a pa b pb).length - (m_+1))=(aH a pa b pb).length by omega] at h2_
   ·refine ae 11 [.own 1] λ _=>RN.em (lW a pa b pb y_ < (ff a pa b pb (aH a pa b pb) m_).d) 41 (λ h14=>?_) λ h14=>?_
    ·refine ae 8 [.own 0,.own 0,.own 1,.own 1,.own 1] λ _=>?_
     have hn1_:iI a pa b pb (aH a pa b pb) (m_+1)=true:=by rw [iI,ex,hok,decide_eq_false h13];rfl
     have e_:(ff a pa b pb (aH a pa b pb) (m_+1))=(⟨y_.x,y_.y,lW a pa b pb y_⟩:Con):=by rw [ff,ex,if_pos h14]
     refine eH 1 (congrArg (λ v_=>(.lit [vI v_.nx,vI v_.ny,vI v_.d] 300 (0,0):Blk)) e_.symm)<|RN.rn (m_+1) [1,2,3] [] ?_
     try dsimp only
     exact ⟨rfl,hn1_⟩
    ·refine ae 3 [] λ _=>?_
     have hn1_:iI a pa b pb (aH a pa b pb) (m_+1)=true:=by rw [iI,ex,hok,decide_eq_false h13];rfl
     have e_:(ff a pa b pb (aH a pa b pb) (m_+1))=(ff a pa b pb (aH a pa b pb) m_):=by rw [ff,ex,if_neg h14]
     refine eH 1 (congrArg (λ v_=>(.lit [vI v_.nx,vI v_.ny,vI v_.d] 300 (0,0):Blk)) e_.symm)<|RN.rn (m_+1) [1,2,3] [] ?_
     try dsimp only
     exact ⟨rfl,hn1_⟩
  ·rintro d15 m_  hI_
   obtain ⟨rfl,hok⟩:=hI_
   refine ae 4 [] λ _=>RN.draw [] []<|ag [] [0,1,3,4] [.own 8,.own 8,.own 10,.own 10,.own 1,.own 1]<|ar [] 2 (λ X_=>(hO pb pa  _))<|ar [] 5 (λ X_=>(mI (dj pb pa) (⟨(ff a pa b pb (aH a pa b pb) (aH a pa b pb).length).nx,(ff a pa b pb (aH a pa b pb) (aH a pa b pb).length).ny⟩:V2)  _))<|ag [] [6] []<|RD.fin<|ae 1 [] λ _=>RN.em (cV (dj pb pa) (⟨(ff a pa b pb (aH a pa b pb) (aH a pa b pb).length).nx,(ff a pa b pb (aH a pa b pb) (aH a pa b pb).length).ny⟩:V2) < 0) 51 (λ h16=>?_) λ h16=>?_
   ·refine ae 4 [.own 1,.own 1] λ _=>ai (C4 (⟨(ff a pa b pb (aH a pa b pb) (aH a pa b pb).length).nx,(ff a pa b pb (aH a pa b pb) (aH a pa b pb).length).ny⟩:V2)  _)<|ae 11 (ow 1 5++[.own 3,.own 3,.own 3,.own 2]) λ _=>RN.retM [d15] [0] [.own 2,.own 2,.own 2,.own 1] [] [] (v:=.tuple #[.agg #[vI ((AM (⟨(ff a pa b pb (aH a pa b pb) (aH a pa b pb).length).nx,(ff a pa b pb (aH a pa b pb) (aH a pa b pb).length).ny⟩:V2)).x),vI ((AM (⟨(ff a pa b pb (aH a pa b pb) (aH a pa b pb).length).nx,(ff a pa b pb (aH a pa b pb) (aH a pa b pb).length).ny⟩:V2)).y),vI ((ff a pa b pb (aH a pa b pb) (aH a pa b pb).length).d)],.bool true]) (H':=[]) ?_
    exact ⟨by simp only [cr,if_pos h2,hok,if_true,Dn,if_pos h16],rfl⟩
   ·refine ae 10 [.own 1,.own 1,.own 1,.own 3,.own 3,.own 3,.own 2] λ _=>RN.retM [d15] [0] [.own 2,.own 2,.own 2,.own 1] [] [] (v:=.tuple #[.agg #[vI ((ff a pa b pb (aH a pa b pb) (aH a pa b pb).length).nx),vI ((ff a pa b pb (aH a pa b pb) (aH a pa b pb).length).ny),vI ((ff a pa b pb (aH a pa b pb) (aH a pa b pb).length).d)],.bool true]) (H':=[]) ?_
    exact ⟨by simp only [cr,if_pos h2,hok,if_true,Dn,if_neg h16],rfl⟩
  ·rintro d17 c_ m_ ⟨rfl,hno⟩
   refine RN.retM [d17] [0] [.own 2,.own 2,.own 2,.own 1] [] [] (v:=.tuple #[.agg #[vI 0,vI 0,vI 0],.bool false]) (H':=[]) ?_
   exact ⟨by simp only [cr,if_pos h2,hno];rfl,rfl⟩
 ·refine ae 8 [.own 1,.own 1,.own 1,.own 0] λ _=>RN.retM [] [] [.own 1,.own 1,.own 1,.own 0] [] [] (v:=.tuple #[.agg #[vI 0,vI 0,vI 0],.bool false]) (H':=[]) ?_
  exact ⟨by simp only [cr,if_neg h2],rfl⟩
end Go.Proofs.YtcfajdgeejeieaaGreatDoor
