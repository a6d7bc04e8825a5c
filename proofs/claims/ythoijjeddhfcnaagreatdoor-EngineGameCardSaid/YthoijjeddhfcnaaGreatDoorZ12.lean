import Derived.Test.YthoijjeddhfcnaaGreatDoorZ08
set_option maxHeartbeats 4000000
set_option maxRecDepth 100000
set_option linter.unusedSimpArgs false
set_option linter.unusedVariables false
namespace Go.Proofs.YthoijjeddhfcnaaGreatDoor
open IntKind
open Go.RowKit
def fE(a:Shp)(pa:V2)(b:Shp)(pb:V2)(xs:List V2):Nat -> Con
 | 0=>⟨0,0,9223372036854775807⟩
 | i+1=>if l9 a pa b pb (xs.getD i ⟨0,0⟩)<(fE a pa b pb xs i).d then ⟨(xs.getD i ⟨0,0⟩).x,(xs.getD i ⟨0,0⟩).y,l9 a pa b pb (xs.getD i ⟨0,0⟩)⟩ else fE a pa b pb xs i
def iT(a:Shp)(pa:V2)(b:Shp)(pb:V2)(xs:List V2):Nat -> Bool
 | 0=>true
 | i+1=>iT a pa b pb xs i && !decide (l9 a pa b pb (xs.getD i ⟨0,0⟩) <= 0)
theorem uM{a:Shp}{pa:V2}{b:Shp}{pb:V2}{xs:List V2}{i:Nat}(h:iT a pa b pb xs i=false):∀k,iT a pa b pb xs (i+k)=false
 | 0=>h
 | k+1=>by rw[<- Nat.add_assoc,iT,uM h k];rfl
def D4(pa pb:V2)(c:Con):Con:=if du (dL pb pa) ⟨c.nx,c.ny⟩<0 then ⟨(Bk ⟨c.nx,c.ny⟩).x,(Bk ⟨c.nx,c.ny⟩).y,c.d⟩ else c
def aG(a:Shp)(pa:V2)(b:Shp)(pb:V2):Con × Bool:=if xh (aI a pa) (aI b pb) then (if iT a pa b pb (aO a pa b pb) (aO a pa b pb).length=true then (D4 pa pb (fE a pa b pb (aO a pa b pb) (aO a pa b pb).length),true) else (⟨0,0,0⟩,false)) else (⟨0,0,0⟩,false)
theorem HY{xs:List V2}{i:Nat}{x:V2}(h:xs[i]?=some x):xs.getD i ⟨0,0⟩=x:=by rw[List.getD_eq_getElem?_getD,h];rfl
theorem HZ(a:Shp)(pa:V2)(b:Shp)(pb:V2)(q1 q2 q3 q4:Nat)(F:HL)(ha:ShIn F a)(hb:ShIn F b)(Rc:(q1,.lit [vI a.r,.slice a.A a.poly.length a.cap] 71 (0,0))∈F)(PA:(q2,.lit [vI b.r,.slice b.A b.poly.length b.cap] 71 (0,0))∈F)(RI:(q3,.lit [vI pb.x,vI pb.y] 29 (0,0))∈F)(Rp:(q4,.lit [vI pa.x,vI pa.y] 29 (0,0))∈F) :
  It Tryz.prog 203 #[vP q1 0,vP q2 0,vP q3 0,vP q4 0] F DP (aO a pa b pb):=by
 intro X l J Jx H0 hY h0
 have key:Sp Tryz.prog 203 #[.func (.yield l) #[] #[],vP q1 0,vP q2 0,vP q3 0,vP q4 0] (ap [] [H0]) (X++F) (λ _ H'=>J (aO a pa b pb).length H' \/ Jx H'):=by
  cases ha with
  | circle ra Aa ca =>
   cases hb with
   | circle rb Ab cb=>exact HQ pa pb ra rb ca cb Aa Ab q1 q2 q3 q4 l X F J Jx H0 Rc PA RI Rp hY h0
   | poly rb lb bb cb h h3 h4 h5=>exact HS pa pb ra rb ca cb Aa lb bb q1 q2 q3 q4 l X F J Jx H0 Rc PA RI Rp h h3 h4 h5 hY h0
  | poly ra la ba ca g g3 g4 g5 =>
   cases hb with
   | circle rb Ab cb=>exact HT pa pb ra rb ca cb la ba Ab q1 q2 q3 q4 l X F J Jx H0 Rc PA RI Rp g g3 g4 g5 hY h0
   | poly rb lb bb cb h h3 h4 h5=>exact HU pa pb ra rb ca cb la ba lb bb q1 q2 q3 q4 l X F J Jx H0 Rc PA RI Rp g g3 g4 g5 h h3 h4 h5 hY h0
 rw[dS] at key
 exact key
theorem BB(a:Shp)(pa:V2)(b:Shp)(pb:V2)(F:HL):Sp Tryz.prog 175 #[.agg #[vI a.r,.slice a.A a.poly.length a.cap],.agg #[vI pa.x,vI pa.y],.agg #[vI b.r,.slice b.A b.poly.length b.cap],.agg #[vI pb.x,vI pb.y]] [] F (λ u H'=>∃n:Nat,H'=ap [((n+3),.lit [vI pb.x,vI pb.y] 29 (0,0)),((n+2),.lit [vI b.r,.slice b.A b.poly.length b.cap] 71 (0,0)),((n+1),.lit [vI pa.x,vI pa.y] 29 (0,0)),((n+0),.lit [vI a.r,.slice a.A a.poly.length a.cap] 71 (0,0))] [] /\ u=.func (.func 203) #[] #[vP (n+0) 0,vP (n+2) 0,vP (n+3) 0,vP (n+1) 0]):=by
 refine Sp.run Tryz.func175 rfl mn (A:=[]) (Ts:=[]) rfl λ w0=>?_
 refine aa 15 [] λ n1=>RN.ret [] [0,1,2,3] [] (v:=.func (.func 203) #[] #[vP (n1+0) 0,vP (n1+2) 0,vP (n1+3) 0,vP (n1+1) 0]) (H':=[((n1+3),.lit [vI pb.x,vI pb.y] 29 (0,0)),((n1+2),.lit [vI b.r,.slice b.A b.poly.length b.cap] 71 (0,0)),((n1+1),.lit [vI pa.x,vI pa.y] 29 (0,0)),((n1+0),.lit [vI a.r,.slice a.A a.poly.length a.cap] 71 (0,0))]) ?_
 exact⟨_,rfl,rfl⟩
theorem D5(a:Shp)(pa:V2)(b:Shp)(pb:V2)(F:HL):Sp Tryz.prog 175 #[Mw a,.agg #[vI pa.x,vI pa.y],Mw b,.agg #[vI pb.x,vI pb.y]] (ap [] []) F (λ u H'=>∃n:Nat,H'=ap [((n+3),.lit [vI pb.x,vI pb.y] 29 (0,0)),((n+2),.lit [vI b.r,.slice b.A b.poly.length b.cap] 71 (0,0)),((n+1),.lit [vI pa.x,vI pa.y] 29 (0,0)),((n+0),.lit [vI a.r,.slice a.A a.poly.length a.cap] 71 (0,0))] [] /\ u=.func (.func 203) #[] #[vP (n+0) 0,vP (n+2) 0,vP (n+3) 0,vP (n+1) 0]):=BB a pa b pb F
theorem kH(a:Shp)(pa:V2)(b:Shp)(pb:V2)(F:HL)(ha:ShIn F a)(hb:ShIn F b):Sp Tryz.prog 133 #[.agg #[vI a.r,.slice a.A a.poly.length a.cap],.agg #[vI pa.x,vI pa.y],.agg #[vI b.r,.slice b.A b.poly.length b.cap],.agg #[vI pb.x,vI pb.y]] [] F (λ u H'=>u=.tuple #[.agg #[vI (aG a pa b pb).1.nx,vI (aG a pa b pb).1.ny,vI (aG a pa b pb).1.d],.bool (aG a pa b pb).2] /\ H'=[]):=by
 refine Sp.runM Tryz.func133 rfl mn (A:=[]) (Ts:=[]) rfl λ w0=>?_
 refine aa 12 [] λ n1=>RN.draw [] []<|af [] [0,1,3,4] [.own 5,.own 5,.own 4,.own 4,.own 3,.own 3,.own 2,.own 2]<|au [] 2 (λ X_=>(jL a pa _ (ha.up.up)))<|au [] 5 (λ X_=>(jL b pb _ (hb.up.up)))<|au [] 6 (λ X_=>(td (aI a pa) (aI b pb)  _))<|af [] [7] []<|RD.fin<|aa 1 [] λ _=>RN.en (xh (aI a pa) (aI b pb)) 20 (λ h2=>?_) λ h2=>?_
 ·refine aa 17 [.own 0,.own 0,.own 0,.own 6,.own 6,.own 5,.own 5,.own 4,.own 4,.own 3,.own 3] λ n3=>RN.ct (Hp:=[]) (Tp:=[]) [] [] (D5 a pa b pb _) ?_
  rintro _ m4 rfl
  refine aa 3 [] λ _=>RN.dn 4 (.lit [vI ((fE a pa b pb (aO a pa b pb) 0).nx),vI ((fE a pa b pb (aO a pa b pb) 0).ny),vI ((fE a pa b pb (aO a pa b pb) 0).d)] 231 (0,0))<|RN.range (σ:=Nat) (τ:=Nat × V2 × Nat) (encs:=λ (x_:V2)=>#[.agg #[vI x_.x,vI x_.y]]) (xs:=(aO a pa b pb)) (enters_of Tryz.func203 (by kernel_rfl) rfl) (λ m_=>([((n3+0),.lit [vI ((fE a pa b pb (aO a pa b pb) m_).nx),vI ((fE a pa b pb (aO a pa b pb) m_).ny),vI ((fE a pa b pb (aO a pa b pb) m_).d)] 231 (0,0)),((n1+5),.lit [.bool false] 4 (0,0)),((n1+4),.lit [vI 0,vI 0,vI 0] 231 (0,0))],[])) (λ i_ m_=>m_=i_ /\ iT a pa b pb (aO a pa b pb) m_=true) (λ c_ m_=>c_=Code.ret /\ iT a pa b pb (aO a pa b pb) (aO a pa b pb).length=false) (λ ⟨m_,y_,nb⟩=>⟨[(4,vP (n1+0) 0),(5,vP (n1+1) 0),(6,vP (n1+2) 0),(7,vP (n1+3) 0),(8,vP (n1+4) 0),(9,vP (n1+5) 0),(10,vP (n3+0) 0),(11,vP (nb+0) 0)],[((nb+0),.lit [vI y_.x,vI y_.y] 29 (0,0)),((n3+0),.lit [vI ((fE a pa b pb (aO a pa b pb) m_).nx),vI ((fE a pa b pb (aO a pa b pb) m_).ny),vI ((fE a pa b pb (aO a pa b pb) m_).d)] 231 (0,0)),((n1+5),.lit [.bool false] 4 (0,0)),((n1+4),.lit [vI 0,vI 0,vI 0] 231 (0,0))],[],True,0⟩) (λ i_ x_ ⟨m_,y_,nb⟩=>m_=i_ /\ iT a pa b pb (aO a pa b pb) m_=true /\ y_=x_) 0 (⟨rfl,rfl⟩) [4,5,6] [] (HZ a pa b pb (m4+0) (m4+2) (m4+3) (m4+1) _ ha.up hb.up (aC 3) (aC 1) (aC 0) (aC 2)) ?_ ?_ ?_ ?_
  ·rintro l_ i_ x_ m_ Y5 w6 hx7 Qc Zk
   obtain⟨rfl,aT⟩:=Qc
   refine aa 4 [.own 0,.own 0] λ n9=>?_
   refine Zk (m_,x_,n9) [0,1,2,3] [] ?_
   try dsimp only
   exact⟨rfl,aT,rfl⟩
  ·rintro l_ i_ x_ ⟨m_,y_,nb⟩ Y10 w11 W9 Qc
   obtain⟨rfl,aT,rfl⟩:=Qc
   have ex:=HY W9
   skip
   refine aa 8 [.ro 7,.ro 7,.ro 6,.ro 6,.ro 5,.ro 5,.ro 4,.ro 4,.own 0,.own 0] λ _=>al (Bt a pa b pb y_ _ (ha.up.up.up) (hb.up.up.up))<|aa 10 [] λ _=>RN.em (l9 a pa b pb y_ <= 0) 36 (λ Qd=>?_) λ Qd=>?_
   ·refine aa 8 [.own 3,.own 3,.own 3,.own 2] λ _=>RN.rr m_ [1,2,3] [] ?_
    try dsimp only
    refine⟨rfl,?_⟩
    have hl_:m_<(aO a pa b pb).length:=(List.getElem?_eq_some_iff.1 W9).1
    have PY:iT a pa b pb (aO a pa b pb) (m_+1)=false:=by rw[iT,ex,aT,decide_eq_true Qd];rfl
    have L_:=uM PY ((aO a pa b pb).length-(m_+1))
    rwa [show m_+1+((aO a pa b pb).length-(m_+1))=(aO a pa b pb).length by omega] at L_
   ·refine aa 11 [.own 1] λ _=>RN.em (l9 a pa b pb y_<(fE a pa b pb (aO a pa b pb) m_).d) 41 (λ QD=>?_) λ QD=>?_
    ·refine aa 8 [.own 0,.own 0,.own 1,.own 1,.own 1] λ _=>?_
     have VD:iT a pa b pb (aO a pa b pb) (m_+1)=true:=by rw[iT,ex,aT,decide_eq_false Qd];rfl
     have e_:(fE a pa b pb (aO a pa b pb) (m_+1))=(⟨y_.x,y_.y,l9 a pa b pb y_⟩:Con):=by rw[fE,ex,if_pos QD]
     refine fS 1 (congrArg (λ v_=>(.lit [vI v_.nx,vI v_.ny,vI v_.d] 231 (0,0):Blk)) e_.symm)<|RN.rn (m_+1) [1,2,3] [] ?_
     try dsimp only
     exact⟨rfl,VD⟩
    ·refine aa 3 [] λ _=>?_
     have VD:iT a pa b pb (aO a pa b pb) (m_+1)=true:=by rw[iT,ex,aT,decide_eq_false Qd];rfl
     have e_:(fE a pa b pb (aO a pa b pb) (m_+1))=(fE a pa b pb (aO a pa b pb) m_):=by rw[fE,ex,if_neg QD]
     refine fS 1 (congrArg (λ v_=>(.lit [vI v_.nx,vI v_.ny,vI v_.d] 231 (0,0):Blk)) e_.symm)<|RN.rn (m_+1) [1,2,3] [] ?_
     try dsimp only
     exact⟨rfl,VD⟩
  ·rintro d15 m_  Qc
   obtain⟨rfl,aT⟩:=Qc
   refine aa 4 [] λ _=>RN.draw [] []<|af [] [0,1,3,4] [.own 8,.own 8,.own 10,.own 10,.own 1,.own 1]<|au [] 2 (λ X_=>(gY pb pa  _))<|au [] 5 (λ X_=>(mL (dL pb pa) (⟨(fE a pa b pb (aO a pa b pb) (aO a pa b pb).length).nx,(fE a pa b pb (aO a pa b pb) (aO a pa b pb).length).ny⟩:V2)  _))<|af [] [6] []<|RD.fin<|aa 1 [] λ _=>RN.em (du (dL pb pa) (⟨(fE a pa b pb (aO a pa b pb) (aO a pa b pb).length).nx,(fE a pa b pb (aO a pa b pb) (aO a pa b pb).length).ny⟩:V2)<0) 51 (λ PZ=>?_) λ PZ=>?_
   ·refine aa 4 [.own 1,.own 1] λ _=>al (DD (⟨(fE a pa b pb (aO a pa b pb) (aO a pa b pb).length).nx,(fE a pa b pb (aO a pa b pb) (aO a pa b pb).length).ny⟩:V2)  _)<|aa 11 (ow 1 5++[.own 3,.own 3,.own 3,.own 2]) λ _=>RN.retM [d15] [0] [.own 2,.own 2,.own 2,.own 1] [] [] (v:=.tuple #[.agg #[vI ((Bk (⟨(fE a pa b pb (aO a pa b pb) (aO a pa b pb).length).nx,(fE a pa b pb (aO a pa b pb) (aO a pa b pb).length).ny⟩:V2)).x),vI ((Bk (⟨(fE a pa b pb (aO a pa b pb) (aO a pa b pb).length).nx,(fE a pa b pb (aO a pa b pb) (aO a pa b pb).length).ny⟩:V2)).y),vI ((fE a pa b pb (aO a pa b pb) (aO a pa b pb).length).d)],.bool true]) (H':=[]) ?_
    exact⟨by simp only[aG,if_pos h2,aT,if_true,D4,if_pos PZ],rfl⟩
   ·refine aa 10 [.own 1,.own 1,.own 1,.own 3,.own 3,.own 3,.own 2] λ _=>RN.retM [d15] [0] [.own 2,.own 2,.own 2,.own 1] [] [] (v:=.tuple #[.agg #[vI ((fE a pa b pb (aO a pa b pb) (aO a pa b pb).length).nx),vI ((fE a pa b pb (aO a pa b pb) (aO a pa b pb).length).ny),vI ((fE a pa b pb (aO a pa b pb) (aO a pa b pb).length).d)],.bool true]) (H':=[]) ?_
    exact⟨by simp only[aG,if_pos h2,aT,if_true,D4,if_neg PZ],rfl⟩
  ·rintro d17 c_ m_ ⟨rfl,Qp⟩
   refine RN.retM [d17] [0] [.own 2,.own 2,.own 2,.own 1] [] [] (v:=.tuple #[.agg #[vI 0,vI 0,vI 0],.bool false]) (H':=[]) ?_
   exact⟨by simp only[aG,if_pos h2,Qp];rfl,rfl⟩
 ·refine aa 8 [.own 1,.own 1,.own 1,.own 0] λ _=>RN.retM [] [] [.own 1,.own 1,.own 1,.own 0] [] [] (v:=.tuple #[.agg #[vI 0,vI 0,vI 0],.bool false]) (H':=[]) ?_
  exact⟨by simp only[aG,if_neg h2],rfl⟩
def nz(a:V2)(m:Int):V2:=⟨az a.x (aV (0-m)) m,az a.y (aV (0-m)) m⟩
def ee(m:Mot)(b:V2):Mot:=⟨m.px,m.py,(dL ⟨m.vx,m.vy⟩ b).x,(dL ⟨m.vx,m.vy⟩ b).y,m.inv⟩
def cU(m:Mot)(b:V2):Mot:=⟨m.px,m.py,(ay ⟨m.vx,m.vy⟩ b).x,(ay ⟨m.vx,m.vy⟩ b).y,m.inv⟩
def fy(m:Mot)(b:V2):Mot:=⟨(ay ⟨m.px,m.py⟩ b).x,(ay ⟨m.px,m.py⟩ b).y,m.vx,m.vy,m.inv⟩
def dz(m:Mot)(b:V2):Mot:=⟨(dL ⟨m.px,m.py⟩ b).x,(dL ⟨m.px,m.py⟩ b).y,m.vx,m.vy,m.inv⟩
def eZ(m:Mot):Mot:=⟨(nz ⟨m.px,m.py⟩ 1048576).x,(nz ⟨m.px,m.py⟩ 1048576).y,(nz ⟨m.vx,m.vy⟩ 16384).x,(nz ⟨m.vx,m.vy⟩ 16384).y,m.inv⟩
def xG(a b:Mot)(c:Con):Int:=du (dL ⟨b.vx,b.vy⟩ ⟨a.vx,a.vy⟩) ⟨c.nx,c.ny⟩
def J5(a b:Mot)(c:Con)(rest:Int):Int:=aw (aV (0-xG a b c)) (aV (1024+rest)) (aV (a.inv+b.inv))
def M8(a b:Mot)(c:Con)(rest:Int):Mot:=if xG a b c<0 then ee a (ar ⟨c.nx,c.ny⟩ (eS (J5 a b c rest) a.inv)) else a
def M9(a b:Mot)(c:Con)(rest:Int):Mot:=if xG a b c<0 then cU b (ar ⟨c.nx,c.ny⟩ (eS (J5 a b c rest) b.inv)) else b
def aJ(a b:Mot)(c:Con)(rest:Int):Mot × Mot:=if aV (a.inv+b.inv)=0 then (a,b) else (eZ (dz (M8 a b c rest) (ar ⟨c.nx,c.ny⟩ (aw c.d a.inv (aV (a.inv+b.inv))))),eZ (fy (M9 a b c rest) (ar ⟨c.nx,c.ny⟩ (aw c.d b.inv (aV (a.inv+b.inv))))))
theorem pv(a:V2)(m:Int)  (F:HL):Sp Tryz.prog 210 #[.agg #[vI a.x,vI a.y],vI m] [] F (λ u H'=>u=.agg #[vI ((nz a m).x),vI ((nz a m).y)] /\ H'=[]):=by
 refine Sp.run Tryz.func210 rfl mn (A:=[]) (Ts:=[]) rfl λ w0=>?_
 refine aa 7 [] λ n1=>RN.draw [13] []<|af [] [0,2,4,6,8,10,1,3,7,9] [.own 1,.own 1]<|au [] 5 (λ X_=>(cJ a.x (i64.wrap (0-m)) m  _))<|au [] 11 (λ X_=>(cJ a.y (i64.wrap (0-m)) m  _))<|af [] [12] []<|RD.one 13 (RDO.ev [] [.own 0,.own 0] λ _=>?_)
 refine RD.fin<|aa 1 [] λ _=>?_
 exact RN.ret [.own 0,.own 0] [] [] ⟨rfl,rfl⟩
theorem te(m:Mot)(b:V2)(q:Nat)(F:HL):Sp Tryz.prog 182 #[vP q 0,.agg #[vI b.x,vI b.y]] [(q,.lit [vI m.px,vI m.py,vI m.vx,vI m.vy,vI m.inv] 269 (0,0))] F (λ u H'=>∃x:Unit,H'=ap [(q,.lit [vI ((ee m b).px),vI ((ee m b).py),vI ((ee m b).vx),vI ((ee m b).vy),vI ((ee m b).inv)] 269 (0,0))] [] /\ True):=by
 refine Sp.run Tryz.func182 rfl mn (A:=[(q,.lit [vI m.px,vI m.py,vI m.vx,vI m.vy,vI m.inv] 269 (0,0))]) (Ts:=[]) rfl λ w0=>?_
 refine aa 5 [] λ n1=>RN.draw [11] []<|af [] [0,1,6,2,3,4,5] [.own 0,.own 0,.own 1,.own 1]<|au [] 7 (λ X_=>(gY (⟨m.vx,m.vy⟩:V2) b  _))<|af [] [8,9,10] []<|RD.one 11 (RDO.ev [] [.own 1,.own 1] λ _=>?_)
 refine RD.fin<|RN.ret [] [1] [] (v:=.tuple #[]) (H':=(ap [(q,.lit [vI m.px,vI m.py,vI ((dL (⟨m.vx,m.vy⟩:V2) b).x),vI ((dL (⟨m.vx,m.vy⟩:V2) b).y),vI m.inv] 269 (0,0))] [])) ?_
 exact⟨(),rfl,trivial⟩
theorem uN(m:Mot)(b:V2)(q:Nat)(F:HL):Sp Tryz.prog 182 #[vP q 0,.agg #[vI b.x,vI b.y]] (ap [(q,.lit [vI m.px,vI m.py,vI m.vx,vI m.vy,vI m.inv] 269 (0,0))] []) F (λ u H'=>∃x:Unit,H'=ap [(q,.lit [vI ((ee m b).px),vI ((ee m b).py),vI ((ee m b).vx),vI ((ee m b).vy),vI ((ee m b).inv)] 269 (0,0))] [] /\ True):=by
 have e:ap [(q,.lit [vI m.px,vI m.py,vI m.vx,vI m.vy,vI m.inv] 269 (0,0))] []=[(q,.lit [vI m.px,vI m.py,vI m.vx,vI m.vy,vI m.inv] 269 (0,0))]:=by simp
 rw[e]
 exact te m b q F
theorem uO(m:Mot)(b:V2)(q:Nat)(F:HL):Sp Tryz.prog 183 #[vP q 0,.agg #[vI b.x,vI b.y]] [(q,.lit [vI m.px,vI m.py,vI m.vx,vI m.vy,vI m.inv] 269 (0,0))] F (λ u H'=>∃x:Unit,H'=ap [(q,.lit [vI ((cU m b).px),vI ((cU m b).py),vI ((cU m b).vx),vI ((cU m b).vy),vI ((cU m b).inv)] 269 (0,0))] [] /\ True):=by
 refine Sp.run Tryz.func183 rfl mn (A:=[(q,.lit [vI m.px,vI m.py,vI m.vx,vI m.vy,vI m.inv] 269 (0,0))]) (Ts:=[]) rfl λ w0=>?_
 refine aa 5 [] λ n1=>RN.draw [11] []<|af [] [0,1,6,2,3,4,5] [.own 0,.own 0,.own 1,.own 1]<|au [] 7 (λ X_=>(dM (⟨m.vx,m.vy⟩:V2) b  _))<|af [] [8,9,10] []<|RD.one 11 (RDO.ev [] [.own 1,.own 1] λ _=>?_)
 refine RD.fin<|RN.ret [] [1] [] (v:=.tuple #[]) (H':=(ap [(q,.lit [vI m.px,vI m.py,vI ((ay (⟨m.vx,m.vy⟩:V2) b).x),vI ((ay (⟨m.vx,m.vy⟩:V2) b).y),vI m.inv] 269 (0,0))] [])) ?_
 exact⟨(),rfl,trivial⟩
theorem xH(m:Mot)(b:V2)(q:Nat)(F:HL):Sp Tryz.prog 183 #[vP q 0,.agg #[vI b.x,vI b.y]] (ap [(q,.lit [vI m.px,vI m.py,vI m.vx,vI m.vy,vI m.inv] 269 (0,0))] []) F (λ u H'=>∃x:Unit,H'=ap [(q,.lit [vI ((cU m b).px),vI ((cU m b).py),vI ((cU m b).vx),vI ((cU m b).vy),vI ((cU m b).inv)] 269 (0,0))] [] /\ True):=by
 have e:ap [(q,.lit [vI m.px,vI m.py,vI m.vx,vI m.vy,vI m.inv] 269 (0,0))] []=[(q,.lit [vI m.px,vI m.py,vI m.vx,vI m.vy,vI m.inv] 269 (0,0))]:=by simp
 rw[e]
 exact uO m b q F
theorem uP(m:Mot)(b:V2)(q:Nat)(F:HL):Sp Tryz.prog 185 #[vP q 0,.agg #[vI b.x,vI b.y]] [(q,.lit [vI m.px,vI m.py,vI m.vx,vI m.vy,vI m.inv] 269 (0,0))] F (λ u H'=>∃x:Unit,H'=ap [(q,.lit [vI ((fy m b).px),vI ((fy m b).py),vI ((fy m b).vx),vI ((fy m b).vy),vI ((fy m b).inv)] 269 (0,0))] [] /\ True):=by
 refine Sp.run Tryz.func185 rfl mn (A:=[(q,.lit [vI m.px,vI m.py,vI m.vx,vI m.vy,vI m.inv] 269 (0,0))]) (Ts:=[]) rfl λ w0=>?_
 refine aa 5 [] λ n1=>RN.draw [11] []<|af [] [0,1,6,2,3,4,5] [.own 0,.own 0,.own 1,.own 1]<|au [] 7 (λ X_=>(dM (⟨m.px,m.py⟩:V2) b  _))<|af [] [8,9,10] []<|RD.one 11 (RDO.ev [] [.own 1,.own 1] λ _=>?_)
 refine RD.fin<|RN.ret [] [1] [] (v:=.tuple #[]) (H':=(ap [(q,.lit [vI ((ay (⟨m.px,m.py⟩:V2) b).x),vI ((ay (⟨m.px,m.py⟩:V2) b).y),vI m.vx,vI m.vy,vI m.inv] 269 (0,0))] [])) ?_
 exact⟨(),rfl,trivial⟩
theorem xJ(m:Mot)(b:V2)(q:Nat)(F:HL):Sp Tryz.prog 185 #[vP q 0,.agg #[vI b.x,vI b.y]] (ap [(q,.lit [vI m.px,vI m.py,vI m.vx,vI m.vy,vI m.inv] 269 (0,0))] []) F (λ u H'=>∃x:Unit,H'=ap [(q,.lit [vI ((fy m b).px),vI ((fy m b).py),vI ((fy m b).vx),vI ((fy m b).vy),vI ((fy m b).inv)] 269 (0,0))] [] /\ True):=by
 have e:ap [(q,.lit [vI m.px,vI m.py,vI m.vx,vI m.vy,vI m.inv] 269 (0,0))] []=[(q,.lit [vI m.px,vI m.py,vI m.vx,vI m.vy,vI m.inv] 269 (0,0))]:=by simp
 rw[e]
 exact uP m b q F
theorem uQ(m:Mot)(b:V2)(q:Nat)(F:HL):Sp Tryz.prog 184 #[vP q 0,.agg #[vI b.x,vI b.y]] [(q,.lit [vI m.px,vI m.py,vI m.vx,vI m.vy,vI m.inv] 269 (0,0))] F (λ u H'=>∃x:Unit,H'=ap [(q,.lit [vI ((dz m b).px),vI ((dz m b).py),vI ((dz m b).vx),vI ((dz m b).vy),vI ((dz m b).inv)] 269 (0,0))] [] /\ True):=by
 refine Sp.run Tryz.func184 rfl mn (A:=[(q,.lit [vI m.px,vI m.py,vI m.vx,vI m.vy,vI m.inv] 269 (0,0))]) (Ts:=[]) rfl λ w0=>?_
 refine aa 5 [] λ n1=>RN.draw [11] []<|af [] [0,1,6,2,3,4,5] [.own 0,.own 0,.own 1,.own 1]<|au [] 7 (λ X_=>(gY (⟨m.px,m.py⟩:V2) b  _))<|af [] [8,9,10] []<|RD.one 11 (RDO.ev [] [.own 1,.own 1] λ _=>?_)
 refine RD.fin<|RN.ret [] [1] [] (v:=.tuple #[]) (H':=(ap [(q,.lit [vI ((dL (⟨m.px,m.py⟩:V2) b).x),vI ((dL (⟨m.px,m.py⟩:V2) b).y),vI m.vx,vI m.vy,vI m.inv] 269 (0,0))] [])) ?_
 exact⟨(),rfl,trivial⟩
theorem xK(m:Mot)(b:V2)(q:Nat)(F:HL):Sp Tryz.prog 184 #[vP q 0,.agg #[vI b.x,vI b.y]] (ap [(q,.lit [vI m.px,vI m.py,vI m.vx,vI m.vy,vI m.inv] 269 (0,0))] []) F (λ u H'=>∃x:Unit,H'=ap [(q,.lit [vI ((dz m b).px),vI ((dz m b).py),vI ((dz m b).vx),vI ((dz m b).vy),vI ((dz m b).inv)] 269 (0,0))] [] /\ True):=by
 have e:ap [(q,.lit [vI m.px,vI m.py,vI m.vx,vI m.vy,vI m.inv] 269 (0,0))] []=[(q,.lit [vI m.px,vI m.py,vI m.vx,vI m.vy,vI m.inv] 269 (0,0))]:=by simp
 rw[e]
 exact uQ m b q F
theorem iU(m:Mot)(q:Nat)(F:HL)(hq:(q,.lit [vI m.px,vI m.py,vI m.vx,vI m.vy,vI m.inv] 269 (0,0))∈F):Sp Tryz.prog 186 #[vP q 0] [] F (λ u H'=>u=.agg #[vI ((eZ m).px),vI ((eZ m).py),vI ((eZ m).vx),vI ((eZ m).vy),vI ((eZ m).inv)] /\ H'=[]):=by
 refine Sp.run Tryz.func186 rfl (mc hq mn) (A:=[]) (Ts:=[]) rfl λ w0=>?_
 refine aa 6 [] λ n1=>RN.draw [18] []<|af [] [0,6,12,1,7,13,2,8,14,3,9,15,4,10,16] [.ro 0,.ro 0,.ro 0,.ro 0,.ro 0]<|au [] 5 (λ X_=>(pv (⟨m.px,m.py⟩:V2) 1048576  _))<|au [] 11 (λ X_=>(pv (⟨m.vx,m.vy⟩:V2) 16384  _))<|af [] [17] []<|RD.one 18 (RDO.ev [] (ow 0 5) λ _=>?_)
 refine RD.fin<|aa 1 [] λ _=>?_
 exact RN.ret (ow 0 5) [] [] ⟨rfl,rfl⟩
theorem tf(m:Mot)(c:Con)(am:Int)(q qc:Nat)(F:HL)(hc:(qc,.lit [vI c.nx,vI c.ny,vI c.d] 231 (0,0))∈F):Sp Tryz.prog 180 #[.func (.func 182) #[vP q 0] #[],vI am,vP qc 0] (ap [(q,.lit [vI m.px,vI m.py,vI m.vx,vI m.vy,vI m.inv] 269 (0,0))] []) F (λ u H'=>∃x:Unit,H'=ap [(q,.lit [vI ((ee m (ar ⟨c.nx,c.ny⟩ am)).px),vI ((ee m (ar ⟨c.nx,c.ny⟩ am)).py),vI ((ee m (ar ⟨c.nx,c.ny⟩ am)).vx),vI ((ee m (ar ⟨c.nx,c.ny⟩ am)).vy),vI ((ee m (ar ⟨c.nx,c.ny⟩ am)).inv)] 269 (0,0))] [] /\ True):=by
 refine Sp.run Tryz.func180 rfl (mc hc mn) (A:=[(q,.lit [vI m.px,vI m.py,vI m.vx,vI m.vy,vI m.inv] 269 (0,0))]) (Ts:=[]) rfl λ w0=>?_
 refine aa 5 [.ro 0,.ro 0] λ _=>al (eU (⟨c.nx,c.ny⟩:V2) am  _)<|RN.ct [0] [] (uN m (ar (⟨c.nx,c.ny⟩:V2) am) q _) ?_
 rintro _ _ _
 refine aa 1 [] λ _=>RN.ret [] [0] [] (v:=.tuple #[]) (H':=(ap [(q,.lit [vI ((ee m (ar (⟨c.nx,c.ny⟩:V2) am)).px),vI ((ee m (ar (⟨c.nx,c.ny⟩:V2) am)).py),vI ((ee m (ar (⟨c.nx,c.ny⟩:V2) am)).vx),vI ((ee m (ar (⟨c.nx,c.ny⟩:V2) am)).vy),vI ((ee m (ar (⟨c.nx,c.ny⟩:V2) am)).inv)] 269 (0,0))] [])) ?_
 exact⟨(),rfl,trivial⟩
theorem uR(m:Mot)(c:Con)(am:Int)(q qc:Nat)(F:HL)(hc:(qc,.lit [vI c.nx,vI c.ny,vI c.d] 231 (0,0))∈F):Sp Tryz.prog 180 #[.func (.func 183) #[vP q 0] #[],vI am,vP qc 0] (ap [(q,.lit [vI m.px,vI m.py,vI m.vx,vI m.vy,vI m.inv] 269 (0,0))] []) F (λ u H'=>∃x:Unit,H'=ap [(q,.lit [vI ((cU m (ar ⟨c.nx,c.ny⟩ am)).px),vI ((cU m (ar ⟨c.nx,c.ny⟩ am)).py),vI ((cU m (ar ⟨c.nx,c.ny⟩ am)).vx),vI ((cU m (ar ⟨c.nx,c.ny⟩ am)).vy),vI ((cU m (ar ⟨c.nx,c.ny⟩ am)).inv)] 269 (0,0))] [] /\ True):=by
 refine Sp.run Tryz.func180 rfl (mc hc mn) (A:=[(q,.lit [vI m.px,vI m.py,vI m.vx,vI m.vy,vI m.inv] 269 (0,0))]) (Ts:=[]) rfl λ w0=>?_
 refine aa 5 [.ro 0,.ro 0] λ _=>al (eU (⟨c.nx,c.ny⟩:V2) am  _)<|RN.ct [0] [] (xH m (ar (⟨c.nx,c.ny⟩:V2) am) q _) ?_
 rintro _ _ _
 refine aa 1 [] λ _=>RN.ret [] [0] [] (v:=.tuple #[]) (H':=(ap [(q,.lit [vI ((cU m (ar (⟨c.nx,c.ny⟩:V2) am)).px),vI ((cU m (ar (⟨c.nx,c.ny⟩:V2) am)).py),vI ((cU m (ar (⟨c.nx,c.ny⟩:V2) am)).vx),vI ((cU m (ar (⟨c.nx,c.ny⟩:V2) am)).vy),vI ((cU m (ar (⟨c.nx,c.ny⟩:V2) am)).inv)] 269 (0,0))] [])) ?_
 exact⟨(),rfl,trivial⟩
theorem ol(m:Mot)(c:Con)(am:Int)(q qc:Nat)(F:HL)(hc:(qc,.lit [vI c.nx,vI c.ny,vI c.d] 231 (0,0))∈F):Sp Tryz.prog 180 #[.func (.func 185) #[vP q 0] #[],vI am,vP qc 0] (ap [(q,.lit [vI m.px,vI m.py,vI m.vx,vI m.vy,vI m.inv] 269 (0,0))] []) F (λ u H'=>∃x:Unit,H'=ap [(q,.lit [vI ((fy m (ar ⟨c.nx,c.ny⟩ am)).px),vI ((fy m (ar ⟨c.nx,c.ny⟩ am)).py),vI ((fy m (ar ⟨c.nx,c.ny⟩ am)).vx),vI ((fy m (ar ⟨c.nx,c.ny⟩ am)).vy),vI ((fy m (ar ⟨c.nx,c.ny⟩ am)).inv)] 269 (0,0))] [] /\ True):=by
 refine Sp.run Tryz.func180 rfl (mc hc mn) (A:=[(q,.lit [vI m.px,vI m.py,vI m.vx,vI m.vy,vI m.inv] 269 (0,0))]) (Ts:=[]) rfl λ w0=>?_
 refine aa 5 [.ro 0,.ro 0] λ _=>al (eU (⟨c.nx,c.ny⟩:V2) am  _)<|RN.ct [0] [] (xJ m (ar (⟨c.nx,c.ny⟩:V2) am) q _) ?_
 rintro _ _ _
 refine aa 1 [] λ _=>RN.ret [] [0] [] (v:=.tuple #[]) (H':=(ap [(q,.lit [vI ((fy m (ar (⟨c.nx,c.ny⟩:V2) am)).px),vI ((fy m (ar (⟨c.nx,c.ny⟩:V2) am)).py),vI ((fy m (ar (⟨c.nx,c.ny⟩:V2) am)).vx),vI ((fy m (ar (⟨c.nx,c.ny⟩:V2) am)).vy),vI ((fy m (ar (⟨c.nx,c.ny⟩:V2) am)).inv)] 269 (0,0))] [])) ?_
 exact⟨(),rfl,trivial⟩
theorem om(m:Mot)(c:Con)(am:Int)(q qc:Nat)(F:HL)(hc:(qc,.lit [vI c.nx,vI c.ny,vI c.d] 231 (0,0))∈F):Sp Tryz.prog 180 #[.func (.func 184) #[vP q 0] #[],vI am,vP qc 0] (ap [(q,.lit [vI m.px,vI m.py,vI m.vx,vI m.vy,vI m.inv] 269 (0,0))] []) F (λ u H'=>∃x:Unit,H'=ap [(q,.lit [vI ((dz m (ar ⟨c.nx,c.ny⟩ am)).px),vI ((dz m (ar ⟨c.nx,c.ny⟩ am)).py),vI ((dz m (ar ⟨c.nx,c.ny⟩ am)).vx),vI ((dz m (ar ⟨c.nx,c.ny⟩ am)).vy),vI ((dz m (ar ⟨c.nx,c.ny⟩ am)).inv)] 269 (0,0))] [] /\ True):=by
 refine Sp.run Tryz.func180 rfl (mc hc mn) (A:=[(q,.lit [vI m.px,vI m.py,vI m.vx,vI m.vy,vI m.inv] 269 (0,0))]) (Ts:=[]) rfl λ w0=>?_
 refine aa 5 [.ro 0,.ro 0] λ _=>al (eU (⟨c.nx,c.ny⟩:V2) am  _)<|RN.ct [0] [] (xK m (ar (⟨c.nx,c.ny⟩:V2) am) q _) ?_
 rintro _ _ _
 refine aa 1 [] λ _=>RN.ret [] [0] [] (v:=.tuple #[]) (H':=(ap [(q,.lit [vI ((dz m (ar (⟨c.nx,c.ny⟩:V2) am)).px),vI ((dz m (ar (⟨c.nx,c.ny⟩:V2) am)).py),vI ((dz m (ar (⟨c.nx,c.ny⟩:V2) am)).vx),vI ((dz m (ar (⟨c.nx,c.ny⟩:V2) am)).vy),vI ((dz m (ar (⟨c.nx,c.ny⟩:V2) am)).inv)] 269 (0,0))] [])) ?_
 exact⟨(),rfl,trivial⟩
theorem oq(a b:Mot)(c:Con)(rest:Int)(F:HL):Sp Tryz.prog 134 #[.agg #[vI a.px,vI a.py,vI a.vx,vI a.vy,vI a.inv],.agg #[vI b.px,vI b.py,vI b.vx,vI b.vy,vI b.inv],.agg #[vI c.nx,vI c.ny,vI c.d],vI rest] [] F (λ u H'=>u=.tuple #[.agg #[vI (((aJ a b c rest).1).px),vI (((aJ a b c rest).1).py),vI (((aJ a b c rest).1).vx),vI (((aJ a b c rest).1).vy),vI (((aJ a b c rest).1).inv)],.agg #[vI (((aJ a b c rest).2).px),vI (((aJ a b c rest).2).py),vI (((aJ a b c rest).2).vx),vI (((aJ a b c rest).2).vy),vI (((aJ a b c rest).2).inv)]] /\ H'=[]):=by
 refine Sp.run Tryz.func134 rfl mn (A:=[]) (Ts:=[]) rfl λ w0=>?_
 refine aa 26 [.own 4,.own 3] λ n1=>RN.em (i64.wrap (a.inv+b.inv)=0) 22 (λ h2=>?_) λ h2=>?_
 ·refine aa 2 [] λ _=>RN.draw [2,3] [2,3,4]<|af [2,3,4] [0,1] (ow 4 5++[.ro 1,.ro 1,.ro 1,.ro 1,.ro 1])<|RD.one 2 (RDO.ev [2,3,4] (ow 1 5) λ _=>?_)
  refine RD.one 3 (RDO.ev [2,3,4] (ow 0 5) λ _=>?_)
  refine RD.fin<|aa 1 [] λ _=>RN.ret (ow 1 5++ow 0 5) [] [] (v:=.tuple #[.agg #[vI a.px,vI a.py,vI a.vx,vI a.vy,vI a.inv],.agg #[vI b.px,vI b.py,vI b.vx,vI b.vy,vI b.inv]]) (H':=[]) ?_
  refine⟨?_,rfl⟩
  rw[show aJ a b c rest=(a,b) from if_pos (show aV (a.inv+b.inv)=0 from h2)]
 ·refine aa 4 [] λ _=>RN.draw [6,7] [0,1,2,3,4]<|af [0,1,2,3,4] [0,2,1,3] (ow 4 5++[.ro 3,.ro 3,.ro 3,.ro 3,.ro 3])<|fD (σ:=Nat × Nat) (λ ⟨n5,n6⟩=>⟨[(3,vI rest),(4,vP (n1+0) 0),(5,vP (n1+1) 0),(6,vP (n1+2) 0),(8,vP (n1+3) 0),(9,vP (n1+4) 0),(10,vI (i64.wrap (a.inv+b.inv))),(11,vP (n5+0) 0),(12,vP (n6+0) 0)],[((n6+0),.lit [vI b.px,vI b.py,vI b.vx,vI b.vy,vI b.inv] 269 (0,0)),((n5+0),.lit [vI a.px,vI a.py,vI a.vx,vI a.vy,vI a.inv] 269 (0,0)),((n1+4),.lit [vI 0,vI 0,vI 0,vI 0,vI 0] 68 (0,0)),((n1+3),.lit [vI 0,vI 0,vI 0,vI 0,vI 0] 68 (0,0)),((n1+2),.lit [vI c.nx,vI c.ny,vI c.d] 231 (0,0)),((n1+1),.lit [vI b.px,vI b.py,vI b.vx,vI b.vy,vI b.inv] 68 (0,0)),((n1+0),.lit [vI a.px,vI a.py,vI a.vx,vI a.vy,vI a.inv] 68 (0,0))],[],True,0⟩) ?_ ?_
  ·rintro⟨n5,n6⟩
   refine aa 9 [] λ _=>RN.draw [] []<|af [] [0,2,5,1,3,6] [.own 5,.own 5,.own 6,.own 6,.own 4,.own 4]<|au [] 4 (λ X_=>(gY (⟨b.vx,b.vy⟩:V2) (⟨a.vx,a.vy⟩:V2)  _))<|au [] 7 (λ X_=>(mL (dL (⟨b.vx,b.vy⟩:V2) (⟨a.vx,a.vy⟩:V2)) (⟨c.nx,c.ny⟩:V2)  _))<|af [] [8] []<|RD.fin<|aa 7 [] λ _=>RN.em (du (dL (⟨b.vx,b.vy⟩:V2) (⟨a.vx,a.vy⟩:V2)) (⟨c.nx,c.ny⟩:V2)<0) 39 (λ h7=>?_) λ h7=>?_
   ·refine aa 8 [] λ _=>al (fX (i64.wrap (0-(du (dL (⟨b.vx,b.vy⟩:V2) (⟨a.vx,a.vy⟩:V2)) (⟨c.nx,c.ny⟩:V2)))) (i64.wrap (1024+rest)) (i64.wrap (a.inv+b.inv))  _)<|aa 10 [.own 6] λ _=>al (k8 (aw (i64.wrap (0-(du (dL (⟨b.vx,b.vy⟩:V2) (⟨a.vx,a.vy⟩:V2)) (⟨c.nx,c.ny⟩:V2)))) (i64.wrap (1024+rest)) (i64.wrap (a.inv+b.inv))) a.inv  _)<|RN.ct [1] [] (tf a c (eS (aw (i64.wrap (0-(du (dL (⟨b.vx,b.vy⟩:V2) (⟨a.vx,a.vy⟩:V2)) (⟨c.nx,c.ny⟩:V2)))) (i64.wrap (1024+rest)) (i64.wrap (a.inv+b.inv))) a.inv) (n5+0) (n1+2) _ (aC 3)) ?_
    rintro _ _ _
    refine aa 8 [.own 5] λ _=>al (k8 (aw (i64.wrap (0-(du (dL (⟨b.vx,b.vy⟩:V2) (⟨a.vx,a.vy⟩:V2)) (⟨c.nx,c.ny⟩:V2)))) (i64.wrap (1024+rest)) (i64.wrap (a.inv+b.inv))) b.inv  _)<|RN.ct [1] [] (uR b c (eS (aw (i64.wrap (0-(du (dL (⟨b.vx,b.vy⟩:V2) (⟨a.vx,a.vy⟩:V2)) (⟨c.nx,c.ny⟩:V2)))) (i64.wrap (1024+rest)) (i64.wrap (a.inv+b.inv))) b.inv) (n6+0) (n1+2) _ (aC 3)) ?_
    rintro _ _ _
    refine aa 11 [.own 4,.own 6] λ _=>al (fX c.d a.inv (i64.wrap (a.inv+b.inv))  _)<|RN.ct [1] [] (om (ee a (ar ⟨c.nx,c.ny⟩ (eS (aw (i64.wrap (0-(du (dL (⟨b.vx,b.vy⟩:V2) (⟨a.vx,a.vy⟩:V2)) (⟨c.nx,c.ny⟩:V2)))) (i64.wrap (1024+rest)) (i64.wrap (a.inv+b.inv))) a.inv))) c (aw c.d a.inv (i64.wrap (a.inv+b.inv))) (n5+0) (n1+2) _ (aC 3)) ?_
    rintro _ _ _
    refine aa 11 [.own 4,.own 5] λ _=>al (fX c.d b.inv (i64.wrap (a.inv+b.inv))  _)<|RN.ct [1] [] (ol (cU b (ar ⟨c.nx,c.ny⟩ (eS (aw (i64.wrap (0-(du (dL (⟨b.vx,b.vy⟩:V2) (⟨a.vx,a.vy⟩:V2)) (⟨c.nx,c.ny⟩:V2)))) (i64.wrap (1024+rest)) (i64.wrap (a.inv+b.inv))) b.inv))) c (aw c.d b.inv (i64.wrap (a.inv+b.inv))) (n6+0) (n1+2) _ (aC 3)) ?_
    rintro _ _ _
    refine aa 4 [] λ _=>al (iU (dz (ee a (ar ⟨c.nx,c.ny⟩ (eS (aw (i64.wrap (0-(du (dL (⟨b.vx,b.vy⟩:V2) (⟨a.vx,a.vy⟩:V2)) (⟨c.nx,c.ny⟩:V2)))) (i64.wrap (1024+rest)) (i64.wrap (a.inv+b.inv))) a.inv))) (ar ⟨c.nx,c.ny⟩ (aw c.d a.inv (i64.wrap (a.inv+b.inv))))) (n5+0) _ (aC 1))<|al (iU (fy (cU b (ar ⟨c.nx,c.ny⟩ (eS (aw (i64.wrap (0-(du (dL (⟨b.vx,b.vy⟩:V2) (⟨a.vx,a.vy⟩:V2)) (⟨c.nx,c.ny⟩:V2)))) (i64.wrap (1024+rest)) (i64.wrap (a.inv+b.inv))) b.inv))) (ar ⟨c.nx,c.ny⟩ (aw c.d b.inv (i64.wrap (a.inv+b.inv))))) (n6+0) _ (aC 0))<|aa 4 (ow 3 5++ow 2 5) λ _=>RN.ret (ow 3 5++ow 2 5) [] [] (v:=.tuple #[.agg #[vI ((eZ (dz (ee a (ar ⟨c.nx,c.ny⟩ (eS (aw (i64.wrap (0-(du (dL (⟨b.vx,b.vy⟩:V2) (⟨a.vx,a.vy⟩:V2)) (⟨c.nx,c.ny⟩:V2)))) (i64.wrap (1024+rest)) (i64.wrap (a.inv+b.inv))) a.inv))) (ar ⟨c.nx,c.ny⟩ (aw c.d a.inv (i64.wrap (a.inv+b.inv)))))).px),vI ((eZ (dz (ee a (ar ⟨c.nx,c.ny⟩ (eS (aw (i64.wrap (0-(du (dL (⟨b.vx,b.vy⟩:V2) (⟨a.vx,a.vy⟩:V2)) (⟨c.nx,c.ny⟩:V2)))) (i64.wrap (1024+rest)) (i64.wrap (a.inv+b.inv))) a.inv))) (ar ⟨c.nx,c.ny⟩ (aw c.d a.inv (i64.wrap (a.inv+b.inv)))))).py),vI ((eZ (dz (ee a (ar ⟨c.nx,c.ny⟩ (eS (aw (i64.wrap (0-(du (dL (⟨b.vx,b.vy⟩:V2) (⟨a.vx,a.vy⟩:V2)) (⟨c.nx,c.ny⟩:V2)))) (i64.wrap (1024+rest)) (i64.wrap (a.inv+b.inv))) a.inv))) (ar ⟨c.nx,c.ny⟩ (aw c.d a.inv (i64.wrap (a.inv+b.inv)))))).vx),vI ((eZ (dz (ee a (ar ⟨c.nx,c.ny⟩ (eS (aw (i64.wrap (0-(du (dL (⟨b.vx,b.vy⟩:V2) (⟨a.vx,a.vy⟩:V2)) (⟨c.nx,c.ny⟩:V2)))) (i64.wrap (1024+rest)) (i64.wrap (a.inv+b.inv))) a.inv))) (ar ⟨c.nx,c.ny⟩ (aw c.d a.inv (i64.wrap (a.inv+b.inv)))))).vy),vI ((eZ (dz (ee a (ar ⟨c.nx,c.ny⟩ (eS (aw (i64.wrap (0-(du (dL (⟨b.vx,b.vy⟩:V2) (⟨a.vx,a.vy⟩:V2)) (⟨c.nx,c.ny⟩:V2)))) (i64.wrap (1024+rest)) (i64.wrap (a.inv+b.inv))) a.inv))) (ar ⟨c.nx,c.ny⟩ (aw c.d a.inv (i64.wrap (a.inv+b.inv)))))).inv)],.agg #[vI ((eZ (fy (cU b (ar ⟨c.nx,c.ny⟩ (eS (aw (i64.wrap (0-(du (dL (⟨b.vx,b.vy⟩:V2) (⟨a.vx,a.vy⟩:V2)) (⟨c.nx,c.ny⟩:V2)))) (i64.wrap (1024+rest)) (i64.wrap (a.inv+b.inv))) b.inv))) (ar ⟨c.nx,c.ny⟩ (aw c.d b.inv (i64.wrap (a.inv+b.inv)))))).px),vI ((eZ (fy (cU b (ar ⟨c.nx,c.ny⟩ (eS (aw (i64.wrap (0-(du (dL (⟨b.vx,b.vy⟩:V2) (⟨a.vx,a.vy⟩:V2)) (⟨c.nx,c.ny⟩:V2)))) (i64.wrap (1024+rest)) (i64.wrap (a.inv+b.inv))) b.inv))) (ar ⟨c.nx,c.ny⟩ (aw c.d b.inv (i64.wrap (a.inv+b.inv)))))).py),vI ((eZ (fy (cU b (ar ⟨c.nx,c.ny⟩ (eS (aw (i64.wrap (0-(du (dL (⟨b.vx,b.vy⟩:V2) (⟨a.vx,a.vy⟩:V2)) (⟨c.nx,c.ny⟩:V2)))) (i64.wrap (1024+rest)) (i64.wrap (a.inv+b.inv))) b.inv))) (ar ⟨c.nx,c.ny⟩ (aw c.d b.inv (i64.wrap (a.inv+b.inv)))))).vx),vI ((eZ (fy (cU b (ar ⟨c.nx,c.ny⟩ (eS (aw (i64.wrap (0-(du (dL (⟨b.vx,b.vy⟩:V2) (⟨a.vx,a.vy⟩:V2)) (⟨c.nx,c.ny⟩:V2)))) (i64.wrap (1024+rest)) (i64.wrap (a.inv+b.inv))) b.inv))) (ar ⟨c.nx,c.ny⟩ (aw c.d b.inv (i64.wrap (a.inv+b.inv)))))).vy),vI ((eZ (fy (cU b (ar ⟨c.nx,c.ny⟩ (eS (aw (i64.wrap (0-(du (dL (⟨b.vx,b.vy⟩:V2) (⟨a.vx,a.vy⟩:V2)) (⟨c.nx,c.ny⟩:V2)))) (i64.wrap (1024+rest)) (i64.wrap (a.inv+b.inv))) b.inv))) (ar ⟨c.nx,c.ny⟩ (aw c.d b.inv (i64.wrap (a.inv+b.inv)))))).inv)]]) (H':=[]) ?_
    refine⟨?_,rfl⟩
    rw[show aJ a b c rest=_ from if_neg (show ¬ aV (a.inv+b.inv)=0 from h2)]
    rw[show M8 a b c rest=_ from if_pos (show xG a b c<0 from h7),show M9 a b c rest=_ from if_pos (show xG a b c<0 from h7)]
    first|rfl|skip
   ·refine aa 12 [.own 4,.own 6] λ _=>al (fX c.d a.inv (i64.wrap (a.inv+b.inv))  _)<|RN.ct [1] [] (om a c (aw c.d a.inv (i64.wrap (a.inv+b.inv))) (n5+0) (n1+2) _ (aC 3)) ?_
    rintro _ _ _
    refine aa 11 [.own 4,.own 5] λ _=>al (fX c.d b.inv (i64.wrap (a.inv+b.inv))  _)<|RN.ct [1] [] (ol b c (aw c.d b.inv (i64.wrap (a.inv+b.inv))) (n6+0) (n1+2) _ (aC 3)) ?_
    rintro _ _ _
    refine aa 4 [] λ _=>al (iU (dz a (ar ⟨c.nx,c.ny⟩ (aw c.d a.inv (i64.wrap (a.inv+b.inv))))) (n5+0) _ (aC 1))<|al (iU (fy b (ar ⟨c.nx,c.ny⟩ (aw c.d b.inv (i64.wrap (a.inv+b.inv))))) (n6+0) _ (aC 0))<|aa 4 (ow 3 5++ow 2 5) λ _=>RN.ret (ow 3 5++ow 2 5) [] [] (v:=.tuple #[.agg #[vI ((eZ (dz a (ar ⟨c.nx,c.ny⟩ (aw c.d a.inv (i64.wrap (a.inv+b.inv)))))).px),vI ((eZ (dz a (ar ⟨c.nx,c.ny⟩ (aw c.d a.inv (i64.wrap (a.inv+b.inv)))))).py),vI ((eZ (dz a (ar ⟨c.nx,c.ny⟩ (aw c.d a.inv (i64.wrap (a.inv+b.inv)))))).vx),vI ((eZ (dz a (ar ⟨c.nx,c.ny⟩ (aw c.d a.inv (i64.wrap (a.inv+b.inv)))))).vy),vI ((eZ (dz a (ar ⟨c.nx,c.ny⟩ (aw c.d a.inv (i64.wrap (a.inv+b.inv)))))).inv)],.agg #[vI ((eZ (fy b (ar ⟨c.nx,c.ny⟩ (aw c.d b.inv (i64.wrap (a.inv+b.inv)))))).px),vI ((eZ (fy b (ar ⟨c.nx,c.ny⟩ (aw c.d b.inv (i64.wrap (a.inv+b.inv)))))).py),vI ((eZ (fy b (ar ⟨c.nx,c.ny⟩ (aw c.d b.inv (i64.wrap (a.inv+b.inv)))))).vx),vI ((eZ (fy b (ar ⟨c.nx,c.ny⟩ (aw c.d b.inv (i64.wrap (a.inv+b.inv)))))).vy),vI ((eZ (fy b (ar ⟨c.nx,c.ny⟩ (aw c.d b.inv (i64.wrap (a.inv+b.inv)))))).inv)]]) (H':=[]) ?_
    refine⟨?_,rfl⟩
    rw[show aJ a b c rest=_ from if_neg (show ¬ aV (a.inv+b.inv)=0 from h2)]
    rw[show M8 a b c rest=_ from if_neg (show ¬ xG a b c<0 from h7),show M9 a b c rest=_ from if_neg (show ¬ xG a b c<0 from h7)]
    first|rfl|skip
  ·intro QY
   refine d5 4 5 ?_ ?_
   ·refine RDO.ev [] [] λ n9=>RD.one 5 (RDO.ev [] [] λ Qw=>?_)
    refine RD.one 6 (RDO.ev [2,3,4,5,6] (ow 1 5) λ _=>?_)
    refine RD.one 7 (RDO.ev [2,3,4,5,6] (ow 0 5) λ _=>?_)
    exact QY ⟨n9,Qw⟩ [0,1,2,3,4,5,6] []
   ·refine RDO.ev [] [] λ n11=>RD.one 4 (RDO.ev [] [] λ TF=>?_)
    refine RD.one 6 (RDO.ev [2,3,4,5,6] (ow 0 5) λ _=>?_)
    refine RD.one 7 (RDO.ev [2,3,4,5,6] (ow 1 5) λ _=>?_)
    exact QY ⟨TF,n11⟩ [1,0,2,3,4,5,6] []
def i6(pos UA:V2)(k:Int):V2:=ay pos (aY UA k 8)
def kI(a:Shp)(pa va:V2)(b:Shp)(pb vb:V2)(k:Int):Bool:=(aG a (i6 pa va k) b (i6 pb vb k)).2
def jl(a:Shp)(pa va:V2)(b:Shp)(pb vb:V2):Nat -> Nat -> Int
 | 0,_=>1024
 | n+1,k=>if kI a pa va b pb vb ((k:Int)+1)=true then ((k:Int)*1024) / 8 else jl a pa va b pb vb n (k+1)
def fw(a:Shp)(pa va:V2)(b:Shp)(pb vb:V2):Int:=if kI a pa va b pb vb 0=true then 1024 else jl a pa va b pb vb 8 0
theorem rJ(pos:V2)(UA:V2)(k:Int)  (F:HL):Sp Tryz.prog 189 #[.agg #[vI pos.x,vI pos.y],.agg #[vI UA.x,vI UA.y],vI k] [] F (λ u H'=>u=.agg #[vI ((i6 pos UA k).x),vI ((i6 pos UA k).y)] /\ H'=[]):=by
 refine Sp.run Tryz.func189 rfl mn (A:=[]) (Ts:=[]) rfl λ w0=>?_
 refine aa 8 [] λ n1=>RN.draw [5] []<|af [] [0,1,2] [.own 2,.own 2,.own 1,.own 1]<|au [] 3 (λ X_=>(iM UA k 8  _))<|au [] 4 (λ X_=>(dM pos (aY UA k 8)  _))<|RD.one 5 (RDO.ev [] [.own 0,.own 0] λ _=>?_)
 refine RD.fin<|aa 1 [] λ _=>?_
 exact RN.ret [.own 0,.own 0] [] [] ⟨rfl,rfl⟩
theorem rK(a:Shp)(pa va:V2)(b:Shp)(pb vb:V2)(k:Int)(q1 q2 q3 q4 q5 q6:Nat)(F:HL)(ha:ShIn F a)(hb:ShIn F b)(Rc:(q1,.lit [vI a.r,.slice a.A a.poly.length a.cap] 71 (0,0))∈F)(PA:(q2,.lit [vI pa.x,vI pa.y] 29 (0,0))∈F)(RI:(q3,.lit [vI va.x,vI va.y] 29 (0,0))∈F)(Rp:(q4,.lit [vI b.r,.slice b.A b.poly.length b.cap] 71 (0,0))∈F)(hq5:(q5,.lit [vI pb.x,vI pb.y] 29 (0,0))∈F)(hq6:(q6,.lit [vI vb.x,vI vb.y] 29 (0,0))∈F):Sp Tryz.prog 188 #[vI k,vP q1 0,vP q2 0,vP q3 0,vP q4 0,vP q5 0,vP q6 0] [] F (λ u H'=>u=.bool (kI a pa va b pb vb k) /\ H'=[]):=by
 refine Sp.run Tryz.func188 rfl (mc Rc (mc PA (mc RI (mc Rp (mc hq5 (mc hq6 mn)))))) (A:=[]) (Ts:=[]) rfl λ w0=>?_
 refine aa 6 [] λ _=>RN.draw [15] []<|af [] [0,1,2,3,5,6,7,8] [.ro 0,.ro 0,.ro 1,.ro 1,.ro 2,.ro 2,.ro 3,.ro 3,.ro 4,.ro 4,.ro 5,.ro 5]<|au [] 4 (λ X_=>(rJ pa va k  _))<|au [] 9 (λ X_=>(rJ pb vb k  _))<|au [] 10 (λ X_=>(kH a (i6 pa va k) b (i6 pb vb k) _ (ha.up.up) (hb.up.up)))<|af [] [11,12,13] []<|RD.one 14 (RDO.ev [] [] λ n2=>?_)
 refine RD.one 15 (RDO.ev [] [.own 0,.own 0,.own 0] λ _=>?_)
 refine af [] [16] []<|RD.fin<|aa 7 [] λ _=>?_
 exact RN.ret [] [] [] ⟨rfl,rfl⟩
theorem mT(a:Shp)(pa va:V2)(b:Shp)(pb vb:V2)(F:HL)(ha:ShIn F a)(hb:ShIn F b):Sp Tryz.prog 139 #[.agg #[vI a.r,.slice a.A a.poly.length a.cap],.agg #[vI pa.x,vI pa.y],.agg #[vI va.x,vI va.y],.agg #[vI b.r,.slice b.A b.poly.length b.cap],.agg #[vI pb.x,vI pb.y],.agg #[vI vb.x,vI vb.y]] [] F (λ u H'=>u=vI (fw a pa va b pb vb) /\ H'=[]):=by
 refine Sp.run Tryz.func139 rfl mn (A:=[]) (Ts:=[]) rfl λ w0=>?_
 refine aa 21 [] λ n1=>al (rK a pa va b pb vb 0 (n1+0) (n1+1) (n1+2) (n1+3) (n1+4) (n1+5) _ ha.up hb.up (aC 5) (aC 4) (aC 3) (aC 2) (aC 1) (aC 0))<|aa 2 [] λ _=>RN.eb (kI a pa va b pb vb 0) 17 (λ h2=>?_) λ h2=>?_
 ·refine aa 6 [] λ _=>RN.ret [] [] [] (v:=vI 1024) (H':=[]) ?_
  exact⟨by rw[fw,if_pos h2],rfl⟩
 ·refine aa 10 [] λ _=>RN.loop (σ:=Nat) (λ n=>⟨[(13,.func (.func 188) #[] #[vP (n1+0) 0,vP (n1+1) 0,vP (n1+2) 0,vP (n1+3) 0,vP (n1+4) 0,vP (n1+5) 0]),(18,vI (n:Int))],[((n1+5),.lit [vI vb.x,vI vb.y] 29 (0,0)),((n1+4),.lit [vI pb.x,vI pb.y] 29 (0,0)),((n1+3),.lit [vI b.r,.slice b.A b.poly.length b.cap] 71 (0,0)),((n1+2),.lit [vI va.x,vI va.y] 29 (0,0)),((n1+1),.lit [vI pa.x,vI pa.y] 29 (0,0)),((n1+0),.lit [vI a.r,.slice a.A a.poly.length a.cap] 71 (0,0))],[],n <= 8 /\ jl a pa va b pb vb (8-n) n=jl a pa va b pb vb 8 0,8-n⟩) 0 [0,1,2,3,4,5] [] (⟨Nat.zero_le _,rfl⟩) ?_
  rintro n ⟨Tm,UZ⟩ Sq
  refine aa 6 [] λ _=>RN.em ((n:Int)<8) 19 (λ h5=>?_) λ h5=>?_
  ·refine aq 16 [.nw] [bF ((n:Int)+1)] λ _=>al (rK a pa va b pb vb ((n:Int)+1) (n1+0) (n1+1) (n1+2) (n1+3) (n1+4) (n1+5) _ ha.up hb.up (aC 5) (aC 4) (aC 3) (aC 2) (aC 1) (aC 0))<|aa 2 [] λ _=>RN.eb (kI a pa va b pb vb ((n:Int)+1)) 24 (λ h6=>?_) λ h6=>?_
   ·refine aq 9 [.nw,.nw] [0 <= (n:Int)*1024 /\ (0:Int)<8 /\ (n:Int)*1024 <= 9223372036854775807,bF ((n:Int)*1024)] λ _=>RN.ret [] [] [] (v:=vI (((n:Int)*1024) / 8)) (H':=[]) ?_
    refine⟨?_,rfl⟩
    rw[fw,if_neg h2,<- UZ]
    rw[show 8-n=(8-(n+1))+1 by omega,jl,if_pos h6]
   ·refine aq 8 [.nw] [bF ((n:Int)+1)] λ _=>?_
    refine Sq (n+1) [0,1,2,3,4,5] [] ?_
    try dsimp only
    refine⟨⟨by omega,?_⟩,by omega⟩
    rw[<- UZ,show 8-n=(8-(n+1))+1 by omega,jl,if_neg h6]
  ·refine aa 11 [] λ _=>RN.ret [] [] [] (v:=vI 1024) (H':=[]) ?_
   refine⟨?_,rfl⟩
   rw[fw,if_neg h2,<- UZ]
   rw[show 8-n=0 by omega,jl]
end Go.Proofs.YthoijjeddhfcnaaGreatDoor
