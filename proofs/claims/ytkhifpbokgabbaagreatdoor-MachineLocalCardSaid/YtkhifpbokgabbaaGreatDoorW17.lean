import Derived.Test.YtkhifpbokgabbaaGreatDoorW12
set_option maxHeartbeats 4000000
set_option maxRecDepth 100000
set_option linter.unusedSimpArgs false
set_option linter.unusedVariables false
namespace Go.Proofs.YtkhifpbokgabbaaGreatDoor
open Go.RowKit
def colN (a:Shp) (pa:V2) (b:Shp) (pb:V2) (xs:List V2):Nat -> Con
 | 0=>⟨0,0,9223372036854775807⟩
 | i+1=>if depthS a pa b pb (xs.getD i ⟨0,0⟩) < (colN a pa b pb xs i).d then ⟨(xs.getD i ⟨0,0⟩).x,(xs.getD i ⟨0,0⟩).y,depthS a pa b pb (xs.getD i ⟨0,0⟩)⟩ else colN a pa b pb xs i
def colOk (a:Shp) (pa:V2) (b:Shp) (pb:V2) (xs:List V2):Nat -> Bool
 | 0=>true
 | i+1=>colOk a pa b pb xs i && !decide (depthS a pa b pb (xs.getD i ⟨0,0⟩) <= 0)
theorem colOk_no {a:Shp} {pa:V2} {b:Shp} {pb:V2} {xs:List V2} {i:Nat} (h:colOk a pa b pb xs i=false):∀ k,colOk a pa b pb xs (i+k)=false
 | 0=>h
 | k+1=>by rw [<- Nat.add_assoc,colOk,colOk_no h k];rfl
def flipC (pa pb:V2) (c:Con):Con:=if vdot (vsub pb pa) ⟨c.nx,c.ny⟩ < 0 then ⟨(vneg ⟨c.nx,c.ny⟩).x,(vneg ⟨c.nx,c.ny⟩).y,c.d⟩ else c
def collideS (a:Shp) (pa:V2) (b:Shp) (pb:V2):Con × Bool:=if ovl (bounds a pa) (bounds b pb) then (if colOk a pa b pb (axesL a pa b pb) (axesL a pa b pb).length=true then (flipC pa pb (colN a pa b pb (axesL a pa b pb) (axesL a pa b pb).length),true) else (⟨0,0,0⟩,false)) else (⟨0,0,0⟩,false)
theorem getD_of {xs:List V2} {i:Nat} {x:V2} (h:xs[i]?=some x):xs.getD i ⟨0,0⟩=x:=by rw [List.getD_eq_getElem?_getD,h];rfl
theorem axes_it (a:Shp) (pa:V2) (b:Shp) (pb:V2) (q1 q2 q3 q4:Nat) (F:HL) (ha:ShIn F a) (hb:ShIn F b) (hq1:(q1,.lit [vI a.r,.slice a.A a.poly.length a.cap] 59 (0,0)) ∈ F) (hq2:(q2,.lit [vI b.r,.slice b.A b.poly.length b.cap] 59 (0,0)) ∈ F) (hq3:(q3,.lit [vI pb.x,vI pb.y] 29 (0,0)) ∈ F) (hq4:(q4,.lit [vI pa.x,vI pa.y] 29 (0,0)) ∈ F) :
  It Tryz.prog 144 #[vP q1 0,vP q2 0,vP q3 0,vP q4 0] F encV (axesL a pa b pb):=by
 intro X l J Jx H0 hY h0
 have key:Sp Tryz.prog 144 #[.func (.yield l) #[] #[],vP q1 0,vP q2 0,vP q3 0,vP q4 0] (ap [] [H0]) (X++F) (λ _ H'=>J (axesL a pa b pb).length H' \/ Jx H'):=by
  cases ha with
  | circle ra Aa ca =>
   cases hb with
   | circle rb Ab cb=>exact axes_cc pa pb ra rb ca cb Aa Ab q1 q2 q3 q4 l X F J Jx H0 hq1 hq2 hq3 hq4 hY h0
   | poly rb lb bb cb h h3 h4 h5=>exact axes_cp pa pb ra rb ca cb Aa lb bb q1 q2 q3 q4 l X F J Jx H0 hq1 hq2 hq3 hq4 h h3 h4 h5 hY h0
  | poly ra la ba ca g g3 g4 g5 =>
   cases hb with
   | circle rb Ab cb=>exact axes_pc pa pb ra rb ca cb la ba Ab q1 q2 q3 q4 l X F J Jx H0 hq1 hq2 hq3 hq4 g g3 g4 g5 hY h0
   | poly rb lb bb cb h h3 h4 h5=>exact axes_pp pa pb ra rb ca cb la ba lb bb q1 q2 q3 q4 l X F J Jx H0 hq1 hq2 hq3 hq4 g g3 g4 g5 h h3 h4 h5 hY h0
 rw [ap_one] at key
 exact key
theorem axesf_any (a:Shp) (pa:V2) (b:Shp) (pb:V2) (F:HL):Sp Tryz.prog 120 #[.agg #[vI a.r,.slice a.A a.poly.length a.cap],.agg #[vI pa.x,vI pa.y],.agg #[vI b.r,.slice b.A b.poly.length b.cap],.agg #[vI pb.x,vI pb.y]] [] F (λ u H'=>∃ n:Nat,H'=ap [((n+3),.lit [vI pb.x,vI pb.y] 29 (0,0)),((n+2),.lit [vI b.r,.slice b.A b.poly.length b.cap] 59 (0,0)),((n+1),.lit [vI pa.x,vI pa.y] 29 (0,0)),((n+0),.lit [vI a.r,.slice a.A a.poly.length a.cap] 59 (0,0))] [] /\ u=.func (.func 144) #[] #[vP (n+0) 0,vP (n+2) 0,vP (n+3) 0,vP (n+1) 0]):=by
 refine Sp.run Tryz.func120 rfl mn (A:=[]) (Ts:=[]) rfl λ w0=>?_
 refine RN.go 15 [] λ n1=>RN.ret [] [0,1,2,3] [] (v:=.func (.func 144) #[] #[vP (n1+0) 0,vP (n1+2) 0,vP (n1+3) 0,vP (n1+1) 0]) (H':=[((n1+3),.lit [vI pb.x,vI pb.y] 29 (0,0)),((n1+2),.lit [vI b.r,.slice b.A b.poly.length b.cap] 59 (0,0)),((n1+1),.lit [vI pa.x,vI pa.y] 29 (0,0)),((n1+0),.lit [vI a.r,.slice a.A a.poly.length a.cap] 59 (0,0))]) ?_
 exact ⟨_,rfl,rfl⟩
theorem axesf_ap (a:Shp) (pa:V2) (b:Shp) (pb:V2) (F:HL):Sp Tryz.prog 120 #[shV a,.agg #[vI pa.x,vI pa.y],shV b,.agg #[vI pb.x,vI pb.y]] (ap [] []) F (λ u H'=>∃ n:Nat,H'=ap [((n+3),.lit [vI pb.x,vI pb.y] 29 (0,0)),((n+2),.lit [vI b.r,.slice b.A b.poly.length b.cap] 59 (0,0)),((n+1),.lit [vI pa.x,vI pa.y] 29 (0,0)),((n+0),.lit [vI a.r,.slice a.A a.poly.length a.cap] 59 (0,0))] [] /\ u=.func (.func 144) #[] #[vP (n+0) 0,vP (n+2) 0,vP (n+3) 0,vP (n+1) 0]):=axesf_any a pa b pb F
theorem collide_any (a:Shp) (pa:V2) (b:Shp) (pb:V2) (F:HL) (ha:ShIn F a) (hb:ShIn F b):Sp Tryz.prog 85 #[.agg #[vI a.r,.slice a.A a.poly.length a.cap],.agg #[vI pa.x,vI pa.y],.agg #[vI b.r,.slice b.A b.poly.length b.cap],.agg #[vI pb.x,vI pb.y]] [] F (λ u H'=>u=.tuple #[.agg #[vI (collideS a pa b pb).1.nx,vI (collideS a pa b pb).1.ny,vI (collideS a pa b pb).1.d],.bool (collideS a pa b pb).2] /\ H'=[]):=by
 refine Sp.runM Tryz.func85 rfl mn (A:=[]) (Ts:=[]) rfl λ w0=>?_
 refine RN.go 12 [] λ n1=>RN.draw [] []<|RD.go [] [0,1,3,4] [.own 5,.own 5,.own 4,.own 4,.own 3,.own 3,.own 2,.own 2]<|RD.cp [] 2 (λ X_=>(bounds_any a pa _ (ha.up.up)))<|RD.cp [] 5 (λ X_=>(bounds_any b pb _ (hb.up.up)))<|RD.cp [] 6 (λ X_=>(ovl_any (bounds a pa) (bounds b pb)  _))<|RD.go [] [7] []<|RD.fin<|RN.go 1 [] λ _=>RN.en (ovl (bounds a pa) (bounds b pb)) 20 (λ h2=>?_) λ h2=>?_
 ·refine RN.go 17 [.own 0,.own 0,.own 0,.own 6,.own 6,.own 5,.own 5,.own 4,.own 4,.own 3,.own 3] λ n3=>RN.ct (Hp:=[]) (Tp:=[]) [] [] (axesf_ap a pa b pb _) ?_
  rintro _ m4 rfl
  refine RN.go 3 [] λ _=>RN.dn 4 (.lit [vI ((colN a pa b pb (axesL a pa b pb) 0).nx),vI ((colN a pa b pb (axesL a pa b pb) 0).ny),vI ((colN a pa b pb (axesL a pa b pb) 0).d)] 158 (0,0))<|RN.range (σ:=Nat) (τ:=Nat × V2 × Nat) (encs:=λ (x_:V2)=>#[.agg #[vI x_.x,vI x_.y]]) (xs:=(axesL a pa b pb)) (enters_of Tryz.func144 (by kernel_rfl) rfl) (λ m_=>([((n3+0),.lit [vI ((colN a pa b pb (axesL a pa b pb) m_).nx),vI ((colN a pa b pb (axesL a pa b pb) m_).ny),vI ((colN a pa b pb (axesL a pa b pb) m_).d)] 158 (0,0)),((n1+5),.lit [.bool false] 4 (0,0)),((n1+4),.lit [vI 0,vI 0,vI 0] 158 (0,0))],[])) (λ i_ m_=>m_=i_ /\ colOk a pa b pb (axesL a pa b pb) m_=true) (λ c_ m_=>c_=Code.ret /\ colOk a pa b pb (axesL a pa b pb) (axesL a pa b pb).length=false) (λ ⟨m_,y_,nb⟩=>⟨[(4,vP (n1+0) 0),(5,vP (n1+1) 0),(6,vP (n1+2) 0),(7,vP (n1+3) 0),(8,vP (n1+4) 0),(9,vP (n1+5) 0),(10,vP (n3+0) 0),(11,vP (nb+0) 0)],[((nb+0),.lit [vI y_.x,vI y_.y] 29 (0,0)),((n3+0),.lit [vI ((colN a pa b pb (axesL a pa b pb) m_).nx),vI ((colN a pa b pb (axesL a pa b pb) m_).ny),vI ((colN a pa b pb (axesL a pa b pb) m_).d)] 158 (0,0)),((n1+5),.lit [.bool false] 4 (0,0)),((n1+4),.lit [vI 0,vI 0,vI 0] 158 (0,0))],[],True,0⟩) (λ i_ x_ ⟨m_,y_,nb⟩=>m_=i_ /\ colOk a pa b pb (axesL a pa b pb) m_=true /\ y_=x_) 0 (⟨rfl,rfl⟩) [4,5,6] [] (axes_it a pa b pb (m4+0) (m4+2) (m4+3) (m4+1) _ ha.up hb.up (in_ap 3) (in_ap 1) (in_ap 0) (in_ap 2)) ?_ ?_ ?_ ?_
  ·rintro l_ i_ x_ m_ Y5 w6 hx7 hI_ mt8
   obtain ⟨rfl,hok⟩:=hI_
   refine RN.go 4 [.own 0,.own 0] λ n9=>?_
   refine mt8 (m_,x_,n9) [0,1,2,3] [] ?_
   try dsimp only
   exact ⟨rfl,hok,rfl⟩
  ·rintro l_ i_ x_ ⟨m_,y_,nb⟩ Y10 w11 hx12 hI_
   obtain ⟨rfl,hok,rfl⟩:=hI_
   have ex:=getD_of hx12
   skip
   refine RN.go 8 [.ro 7,.ro 7,.ro 6,.ro 6,.ro 5,.ro 5,.ro 4,.ro 4,.own 0,.own 0] λ _=>RN.cp (depth_any a pa b pb y_ _ (ha.up.up.up) (hb.up.up.up))<|RN.go 10 [] λ _=>RN.em (depthS a pa b pb y_ <= 0) 36 (λ h13=>?_) λ h13=>?_
   ·refine RN.go 8 [.own 3,.own 3,.own 3,.own 2] λ _=>RN.rr m_ [1,2,3] [] ?_
    try dsimp only
    refine ⟨rfl,?_⟩
    have hl_:m_ < (axesL a pa b pb).length:=(List.getElem?_eq_some_iff.1 hx12).1
    have h1_:colOk a pa b pb (axesL a pa b pb) (m_+1)=false:=by rw [colOk,ex,hok,decide_eq_true h13];rfl
    have h2_:=colOk_no h1_ ((axesL a pa b pb).length - (m_+1))
    rwa [show m_+1+((axesL a pa b pb).length - (m_+1))=(axesL a pa b pb).length by omega] at h2_
   ·refine RN.go 11 [.own 1] λ _=>RN.em (depthS a pa b pb y_ < (colN a pa b pb (axesL a pa b pb) m_).d) 41 (λ h14=>?_) λ h14=>?_
    ·refine RN.go 8 [.own 0,.own 0,.own 1,.own 1,.own 1] λ _=>?_
     have hn1_:colOk a pa b pb (axesL a pa b pb) (m_+1)=true:=by rw [colOk,ex,hok,decide_eq_false h13];rfl
     have e_:(colN a pa b pb (axesL a pa b pb) (m_+1))=(⟨y_.x,y_.y,depthS a pa b pb y_⟩:Con):=by rw [colN,ex,if_pos h14]
     refine RN.bv 1 (congrArg (λ v_=>(.lit [vI v_.nx,vI v_.ny,vI v_.d] 158 (0,0):Blk)) e_.symm)<|RN.rn (m_+1) [1,2,3] [] ?_
     try dsimp only
     exact ⟨rfl,hn1_⟩
    ·refine RN.go 3 [] λ _=>?_
     have hn1_:colOk a pa b pb (axesL a pa b pb) (m_+1)=true:=by rw [colOk,ex,hok,decide_eq_false h13];rfl
     have e_:(colN a pa b pb (axesL a pa b pb) (m_+1))=(colN a pa b pb (axesL a pa b pb) m_):=by rw [colN,ex,if_neg h14]
     refine RN.bv 1 (congrArg (λ v_=>(.lit [vI v_.nx,vI v_.ny,vI v_.d] 158 (0,0):Blk)) e_.symm)<|RN.rn (m_+1) [1,2,3] [] ?_
     try dsimp only
     exact ⟨rfl,hn1_⟩
  ·rintro d15 m_  hI_
   obtain ⟨rfl,hok⟩:=hI_
   refine RN.go 4 [] λ _=>RN.draw [] []<|RD.go [] [0,1,3,4] [.own 8,.own 8,.own 10,.own 10,.own 1,.own 1]<|RD.cp [] 2 (λ X_=>(vsub_any pb pa  _))<|RD.cp [] 5 (λ X_=>(vdot_any (vsub pb pa) (⟨(colN a pa b pb (axesL a pa b pb) (axesL a pa b pb).length).nx,(colN a pa b pb (axesL a pa b pb) (axesL a pa b pb).length).ny⟩:V2)  _))<|RD.go [] [6] []<|RD.fin<|RN.go 1 [] λ _=>RN.em (vdot (vsub pb pa) (⟨(colN a pa b pb (axesL a pa b pb) (axesL a pa b pb).length).nx,(colN a pa b pb (axesL a pa b pb) (axesL a pa b pb).length).ny⟩:V2) < 0) 51 (λ h16=>?_) λ h16=>?_
   ·refine RN.go 4 [.own 1,.own 1] λ _=>RN.cp (vneg_any (⟨(colN a pa b pb (axesL a pa b pb) (axesL a pa b pb).length).nx,(colN a pa b pb (axesL a pa b pb) (axesL a pa b pb).length).ny⟩:V2)  _)<|RN.go 11 (ow 1 5++[.own 3,.own 3,.own 3,.own 2]) λ _=>RN.retM [d15] [0] [.own 2,.own 2,.own 2,.own 1] [] [] (v:=.tuple #[.agg #[vI ((vneg (⟨(colN a pa b pb (axesL a pa b pb) (axesL a pa b pb).length).nx,(colN a pa b pb (axesL a pa b pb) (axesL a pa b pb).length).ny⟩:V2)).x),vI ((vneg (⟨(colN a pa b pb (axesL a pa b pb) (axesL a pa b pb).length).nx,(colN a pa b pb (axesL a pa b pb) (axesL a pa b pb).length).ny⟩:V2)).y),vI ((colN a pa b pb (axesL a pa b pb) (axesL a pa b pb).length).d)],.bool true]) (H':=[]) ?_
    exact ⟨by simp only [collideS,if_pos h2,hok,if_true,flipC,if_pos h16],rfl⟩
   ·refine RN.go 10 [.own 1,.own 1,.own 1,.own 3,.own 3,.own 3,.own 2] λ _=>RN.retM [d15] [0] [.own 2,.own 2,.own 2,.own 1] [] [] (v:=.tuple #[.agg #[vI ((colN a pa b pb (axesL a pa b pb) (axesL a pa b pb).length).nx),vI ((colN a pa b pb (axesL a pa b pb) (axesL a pa b pb).length).ny),vI ((colN a pa b pb (axesL a pa b pb) (axesL a pa b pb).length).d)],.bool true]) (H':=[]) ?_
    exact ⟨by simp only [collideS,if_pos h2,hok,if_true,flipC,if_neg h16],rfl⟩
  ·rintro d17 c_ m_ ⟨rfl,hno⟩
   refine RN.retM [d17] [0] [.own 2,.own 2,.own 2,.own 1] [] [] (v:=.tuple #[.agg #[vI 0,vI 0,vI 0],.bool false]) (H':=[]) ?_
   exact ⟨by simp only [collideS,if_pos h2,hno];rfl,rfl⟩
 ·refine RN.go 8 [.own 1,.own 1,.own 1,.own 0] λ _=>RN.retM [] [] [.own 1,.own 1,.own 1,.own 0] [] [] (v:=.tuple #[.agg #[vI 0,vI 0,vI 0],.bool false]) (H':=[]) ?_
  exact ⟨by simp only [collideS,if_neg h2],rfl⟩
end Go.Proofs.YtkhifpbokgabbaaGreatDoor
