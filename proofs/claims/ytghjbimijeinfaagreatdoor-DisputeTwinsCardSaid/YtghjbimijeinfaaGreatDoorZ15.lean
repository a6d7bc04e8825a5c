import Derived.Test.YtghjbimijeinfaaGreatDoorZ10
set_option maxHeartbeats 4000000
set_option maxRecDepth 100000
set_option linter.unusedSimpArgs false
set_option linter.unusedVariables false
namespace Go.Proofs.YtghjbimijeinfaaGreatDoor
open Go.RowKit
def ff (a:Shp) (pa:V2) (b:Shp) (pb:V2) (xs:List V2):Nat -> Con
 | 0=>⟨0,0,9223372036854775807⟩
 | i+1=>if lY a pa b pb (xs.getD i ⟨0,0⟩) < (ff a pa b pb xs i).d then ⟨(xs.getD i ⟨0,0⟩).x,(xs.getD i ⟨0,0⟩).y,lY a pa b pb (xs.getD i ⟨0,0⟩)⟩ else ff a pa b pb xs i
def iM (a:Shp) (pa:V2) (b:Shp) (pb:V2) (xs:List V2):Nat -> Bool
 | 0=>true
 | i+1=>iM a pa b pb xs i && !decide (lY a pa b pb (xs.getD i ⟨0,0⟩) <= 0)
theorem uK {a:Shp} {pa:V2} {b:Shp} {pb:V2} {xs:List V2} {i:Nat} (h:iM a pa b pb xs i=false):∀ k,iM a pa b pb xs (i+k)=false
 | 0=>h
 | k+1=>by rw [<- Nat.add_assoc,iM,uK h k];rfl
def Ds (pa pb:V2) (c:Con):Con:=if cS (de pb pa) ⟨c.nx,c.ny⟩ < 0 then ⟨(AW ⟨c.nx,c.ny⟩).x,(AW ⟨c.nx,c.ny⟩).y,c.d⟩ else c
def ck (a:Shp) (pa:V2) (b:Shp) (pb:V2):Con × Bool:=if Lt (dW a pa) (dW b pb) then (if iM a pa b pb (aG a pa b pb) (aG a pa b pb).length=true then (Ds pa pb (ff a pa b pb (aG a pa b pb) (aG a pa b pb).length),true) else (⟨0,0,0⟩,false)) else (⟨0,0,0⟩,false)
theorem G5 {xs:List V2} {i:Nat} {x:V2} (h:xs[i]?=some x):xs.getD i ⟨0,0⟩=x:=by rw [List.getD_eq_getElem?_getD,h];rfl
theorem G6 (a:Shp) (pa:V2) (b:Shp) (pb:V2) (q1 q2 q3 q4:Nat) (F:HL) (ha:ShIn F a) (hb:ShIn F b) (hq1:(q1,.lit [vI a.r,.slice a.A a.poly.length a.cap] 101 (0,0)) ∈ F) (hq2:(q2,.lit [vI b.r,.slice b.A b.poly.length b.cap] 101 (0,0)) ∈ F) (hq3:(q3,.lit [vI pb.x,vI pb.y] 29 (0,0)) ∈ F) (hq4:(q4,.lit [vI pa.x,vI pa.y] 29 (0,0)) ∈ F) :
  It Tryz.prog 254 #[vP q1 0,vP q2 0,vP q3 0,vP q4 0] F De (aG a pa b pb):=by
 intro X l J Jx H0 hY h0
 have key:Sp Tryz.prog 254 #[.func (.yield l) #[] #[],vP q1 0,vP q2 0,vP q3 0,vP q4 0] (ap [] [H0]) (X++F) (λ _ H'=>J (aG a pa b pb).length H' \/ Jx H'):=by
  cases ha with
  | circle ra Aa ca =>
   cases hb with
   | circle rb Ab cb=>exact GX pa pb ra rb ca cb Aa Ab q1 q2 q3 q4 l X F J Jx H0 hq1 hq2 hq3 hq4 hY h0
   | poly rb lb bb cb h h3 h4 h5=>exact GY pa pb ra rb ca cb Aa lb bb q1 q2 q3 q4 l X F J Jx H0 hq1 hq2 hq3 hq4 h h3 h4 h5 hY h0
  | poly ra la ba ca g g3 g4 g5 =>
   cases hb with
   | circle rb Ab cb=>exact GZ pa pb ra rb ca cb la ba Ab q1 q2 q3 q4 l X F J Jx H0 hq1 hq2 hq3 hq4 g g3 g4 g5 hY h0
   | poly rb lb bb cb h h3 h4 h5=>exact G1 pa pb ra rb ca cb la ba lb bb q1 q2 q3 q4 l X F J Jx H0 hq1 hq2 hq3 hq4 g g3 g4 g5 h h3 h4 h5 hY h0
 rw [cQ] at key
 exact key
theorem Bf (a:Shp) (pa:V2) (b:Shp) (pb:V2) (F:HL):Sp Tryz.prog 205 #[.agg #[vI a.r,.slice a.A a.poly.length a.cap],.agg #[vI pa.x,vI pa.y],.agg #[vI b.r,.slice b.A b.poly.length b.cap],.agg #[vI pb.x,vI pb.y]] [] F (λ u H'=>∃ n:Nat,H'=ap [((n+3),.lit [vI pb.x,vI pb.y] 29 (0,0)),((n+2),.lit [vI b.r,.slice b.A b.poly.length b.cap] 101 (0,0)),((n+1),.lit [vI pa.x,vI pa.y] 29 (0,0)),((n+0),.lit [vI a.r,.slice a.A a.poly.length a.cap] 101 (0,0))] [] /\ u=.func (.func 254) #[] #[vP (n+0) 0,vP (n+2) 0,vP (n+3) 0,vP (n+1) 0]):=by
 refine Sp.run Tryz.func205 rfl mn (A:=[]) (Ts:=[]) rfl λ w0=>?_
 refine ae 15 [] λ n1=>RN.ret [] [0,1,2,3] [] (v:=.func (.func 254) #[] #[vP (n1+0) 0,vP (n1+2) 0,vP (n1+3) 0,vP (n1+1) 0]) (H':=[((n1+3),.lit [vI pb.x,vI pb.y] 29 (0,0)),((n1+2),.lit [vI b.r,.slice b.A b.poly.length b.cap] 101 (0,0)),((n1+1),.lit [vI pa.x,vI pa.y] 29 (0,0)),((n1+0),.lit [vI a.r,.slice a.A a.poly.length a.cap] 101 (0,0))]) ?_
 exact ⟨_,rfl,rfl⟩
theorem Dt (a:Shp) (pa:V2) (b:Shp) (pb:V2) (F:HL):Sp Tryz.prog 205 #[Ls a,.agg #[vI pa.x,vI pa.y],Ls b,.agg #[vI pb.x,vI pb.y]] (ap [] []) F (λ u H'=>∃ n:Nat,H'=ap [((n+3),.lit [vI pb.x,vI pb.y] 29 (0,0)),((n+2),.lit [vI b.r,.slice b.A b.poly.length b.cap] 101 (0,0)),((n+1),.lit [vI pa.x,vI pa.y] 29 (0,0)),((n+0),.lit [vI a.r,.slice a.A a.poly.length a.cap] 101 (0,0))] [] /\ u=.func (.func 254) #[] #[vP (n+0) 0,vP (n+2) 0,vP (n+3) 0,vP (n+1) 0]):=Bf a pa b pb F
theorem oy (a:Shp) (pa:V2) (b:Shp) (pb:V2) (F:HL) (ha:ShIn F a) (hb:ShIn F b):Sp Tryz.prog 155 #[.agg #[vI a.r,.slice a.A a.poly.length a.cap],.agg #[vI pa.x,vI pa.y],.agg #[vI b.r,.slice b.A b.poly.length b.cap],.agg #[vI pb.x,vI pb.y]] [] F (λ u H'=>u=.tuple #[.agg #[vI (ck a pa b pb).1.nx,vI (ck a pa b pb).1.ny,vI (ck a pa b pb).1.d],.bool (ck a pa b pb).2] /\ H'=[]):=by
 refine Sp.runM Tryz.func155 rfl mn (A:=[]) (Ts:=[]) rfl λ w0=>?_
 refine ae 12 [] λ n1=>RN.draw [] []<|ag [] [0,1,3,4] [.own 5,.own 5,.own 4,.own 4,.own 3,.own 3,.own 2,.own 2]<|ar [] 2 (λ X_=>(pG a pa _ (ha.up.up)))<|ar [] 5 (λ X_=>(pG b pb _ (hb.up.up)))<|ar [] 6 (λ X_=>(GQ (dW a pa) (dW b pb)  _))<|ag [] [7] []<|RD.fin<|ae 1 [] λ _=>RN.en (Lt (dW a pa) (dW b pb)) 20 (λ h2=>?_) λ h2=>?_
 ·refine ae 17 [.own 0,.own 0,.own 0,.own 6,.own 6,.own 5,.own 5,.own 4,.own 4,.own 3,.own 3] λ n3=>RN.ct (Hp:=[]) (Tp:=[]) [] [] (Dt a pa b pb _) ?_
  rintro _ m4 rfl
  refine ae 3 [] λ _=>RN.dn 4 (.lit [vI ((ff a pa b pb (aG a pa b pb) 0).nx),vI ((ff a pa b pb (aG a pa b pb) 0).ny),vI ((ff a pa b pb (aG a pa b pb) 0).d)] 278 (0,0))<|RN.range (σ:=Nat) (τ:=Nat × V2 × Nat) (encs:=λ (x_:V2)=>#[.agg #[vI x_.x,vI x_.y]]) (xs:=(aG a pa b pb)) (enters_of Tryz.func254 (by kernel_rfl) rfl) (λ m_=>([((n3+0),.lit [vI ((ff a pa b pb (aG a pa b pb) m_).nx),vI ((ff a pa b pb (aG a pa b pb) m_).ny),vI ((ff a pa b pb (aG a pa b pb) m_).d)] 278 (0,0)),((n1+5),.lit [.bool false] 4 (0,0)),((n1+4),.lit [vI 0,vI 0,vI 0] 278 (0,0))],[])) (λ i_ m_=>m_=i_ /\ iM a pa b pb (aG a pa b pb) m_=true) (λ c_ m_=>c_=Code.ret /\ iM a pa b pb (aG a pa b pb) (aG a pa b pb).length=false) (λ ⟨m_,y_,nb⟩=>⟨[(4,vP (n1+0) 0),(5,vP (n1+1) 0),(6,vP (n1+2) 0),(7,vP (n1+3) 0),(8,vP (n1+4) 0),(9,vP (n1+5) 0),(10,vP (n3+0) 0),(11,vP (nb+0) 0)],[((nb+0),.lit [vI y_.x,vI y_.y] 29 (0,0)),((n3+0),.lit [vI ((ff a pa b pb (aG a pa b pb) m_).nx),vI ((ff a pa b pb (aG a pa b pb) m_).ny),vI ((ff a pa b pb (aG a pa b pb) m_).d)] 278 (0,0)),((n1+5),.lit [.bool false] 4 (0,0)),((n1+4),.lit [vI 0,vI 0,vI 0] 278 (0,0))],[],True,0⟩) (λ i_ x_ ⟨m_,y_,nb⟩=>m_=i_ /\ iM a pa b pb (aG a pa b pb) m_=true /\ y_=x_) 0 (⟨rfl,rfl⟩) [4,5,6] [] (G6 a pa b pb (m4+0) (m4+2) (m4+3) (m4+1) _ ha.up hb.up (aC 3) (aC 1) (aC 0) (aC 2)) ?_ ?_ ?_ ?_
  ·rintro l_ i_ x_ m_ Y5 w6 hx7 hI_ mt8
   obtain ⟨rfl,hok⟩:=hI_
   refine ae 4 [.own 0,.own 0] λ n9=>?_
   refine mt8 (m_,x_,n9) [0,1,2,3] [] ?_
   try dsimp only
   exact ⟨rfl,hok,rfl⟩
  ·rintro l_ i_ x_ ⟨m_,y_,nb⟩ Y10 w11 hx12 hI_
   obtain ⟨rfl,hok,rfl⟩:=hI_
   have ex:=G5 hx12
   skip
   refine ae 8 [.ro 7,.ro 7,.ro 6,.ro 6,.ro 5,.ro 5,.ro 4,.ro 4,.own 0,.own 0] λ _=>aj (A8 a pa b pb y_ _ (ha.up.up.up) (hb.up.up.up))<|ae 10 [] λ _=>RN.em (lY a pa b pb y_ <= 0) 36 (λ h13=>?_) λ h13=>?_
   ·refine ae 8 [.own 3,.own 3,.own 3,.own 2] λ _=>RN.rr m_ [1,2,3] [] ?_
    try dsimp only
    refine ⟨rfl,?_⟩
    have hl_:m_ < (aG a pa b pb).length:=(List.getElem?_eq_some_iff.1 hx12).1
    have h1_:iM a pa b pb (aG a pa b pb) (m_+1)=false:=by rw [iM,ex,hok,decide_eq_true h13];rfl
    have h2_:=uK h1_ ((aG a pa b pb).length - (m_+1))
    rwa [show m_+1+((aG a pa b pb).length - (m_+1))=(aG a pa b pb).length by omega] at h2_
   ·refine ae 11 [.own 1] λ _=>RN.em (lY a pa b pb y_ < (ff a pa b pb (aG a pa b pb) m_).d) 41 (λ h14=>?_) λ h14=>?_
    ·refine ae 8 [.own 0,.own 0,.own 1,.own 1,.own 1] λ _=>?_
     have hn1_:iM a pa b pb (aG a pa b pb) (m_+1)=true:=by rw [iM,ex,hok,decide_eq_false h13];rfl
     have e_:(ff a pa b pb (aG a pa b pb) (m_+1))=(⟨y_.x,y_.y,lY a pa b pb y_⟩:Con):=by rw [ff,ex,if_pos h14]
     refine fc 1 (congrArg (λ v_=>(.lit [vI v_.nx,vI v_.ny,vI v_.d] 278 (0,0):Blk)) e_.symm)<|RN.rn (m_+1) [1,2,3] [] ?_
     try dsimp only
     exact ⟨rfl,hn1_⟩
    ·refine ae 3 [] λ _=>?_
     have hn1_:iM a pa b pb (aG a pa b pb) (m_+1)=true:=by rw [iM,ex,hok,decide_eq_false h13];rfl
     have e_:(ff a pa b pb (aG a pa b pb) (m_+1))=(ff a pa b pb (aG a pa b pb) m_):=by rw [ff,ex,if_neg h14]
     refine fc 1 (congrArg (λ v_=>(.lit [vI v_.nx,vI v_.ny,vI v_.d] 278 (0,0):Blk)) e_.symm)<|RN.rn (m_+1) [1,2,3] [] ?_
     try dsimp only
     exact ⟨rfl,hn1_⟩
  ·rintro d15 m_  hI_
   obtain ⟨rfl,hok⟩:=hI_
   refine ae 4 [] λ _=>RN.draw [] []<|ag [] [0,1,3,4] [.own 8,.own 8,.own 10,.own 10,.own 1,.own 1]<|ar [] 2 (λ X_=>(ig pb pa  _))<|ar [] 5 (λ X_=>(mM (de pb pa) (⟨(ff a pa b pb (aG a pa b pb) (aG a pa b pb).length).nx,(ff a pa b pb (aG a pa b pb) (aG a pa b pb).length).ny⟩:V2)  _))<|ag [] [6] []<|RD.fin<|ae 1 [] λ _=>RN.em (cS (de pb pa) (⟨(ff a pa b pb (aG a pa b pb) (aG a pa b pb).length).nx,(ff a pa b pb (aG a pa b pb) (aG a pa b pb).length).ny⟩:V2) < 0) 51 (λ h16=>?_) λ h16=>?_
   ·refine ae 4 [.own 1,.own 1] λ _=>aj (C7 (⟨(ff a pa b pb (aG a pa b pb) (aG a pa b pb).length).nx,(ff a pa b pb (aG a pa b pb) (aG a pa b pb).length).ny⟩:V2)  _)<|ae 11 (ow 1 5++[.own 3,.own 3,.own 3,.own 2]) λ _=>RN.retM [d15] [0] [.own 2,.own 2,.own 2,.own 1] [] [] (v:=.tuple #[.agg #[vI ((AW (⟨(ff a pa b pb (aG a pa b pb) (aG a pa b pb).length).nx,(ff a pa b pb (aG a pa b pb) (aG a pa b pb).length).ny⟩:V2)).x),vI ((AW (⟨(ff a pa b pb (aG a pa b pb) (aG a pa b pb).length).nx,(ff a pa b pb (aG a pa b pb) (aG a pa b pb).length).ny⟩:V2)).y),vI ((ff a pa b pb (aG a pa b pb) (aG a pa b pb).length).d)],.bool true]) (H':=[]) ?_
    exact ⟨by simp only [ck,if_pos h2,hok,if_true,Ds,if_pos h16],rfl⟩
   ·refine ae 10 [.own 1,.own 1,.own 1,.own 3,.own 3,.own 3,.own 2] λ _=>RN.retM [d15] [0] [.own 2,.own 2,.own 2,.own 1] [] [] (v:=.tuple #[.agg #[vI ((ff a pa b pb (aG a pa b pb) (aG a pa b pb).length).nx),vI ((ff a pa b pb (aG a pa b pb) (aG a pa b pb).length).ny),vI ((ff a pa b pb (aG a pa b pb) (aG a pa b pb).length).d)],.bool true]) (H':=[]) ?_
    exact ⟨by simp only [ck,if_pos h2,hok,if_true,Ds,if_neg h16],rfl⟩
  ·rintro d17 c_ m_ ⟨rfl,hno⟩
   refine RN.retM [d17] [0] [.own 2,.own 2,.own 2,.own 1] [] [] (v:=.tuple #[.agg #[vI 0,vI 0,vI 0],.bool false]) (H':=[]) ?_
   exact ⟨by simp only [ck,if_pos h2,hno];rfl,rfl⟩
 ·refine ae 8 [.own 1,.own 1,.own 1,.own 0] λ _=>RN.retM [] [] [.own 1,.own 1,.own 1,.own 0] [] [] (v:=.tuple #[.agg #[vI 0,vI 0,vI 0],.bool false]) (H':=[]) ?_
  exact ⟨by simp only [ck,if_neg h2],rfl⟩
def nz (a:V2) (m:Int):V2:=⟨aF a.x (aY (0 - m)) m,aF a.y (aY (0 - m)) m⟩
def dK (m:Mot) (b:V2):Mot:=⟨m.px,m.py,(de ⟨m.vx,m.vy⟩ b).x,(de ⟨m.vx,m.vy⟩ b).y,m.inv⟩
def cB (m:Mot) (b:V2):Mot:=⟨m.px,m.py,(aD ⟨m.vx,m.vy⟩ b).x,(aD ⟨m.vx,m.vy⟩ b).y,m.inv⟩
def fd (m:Mot) (b:V2):Mot:=⟨(aD ⟨m.px,m.py⟩ b).x,(aD ⟨m.px,m.py⟩ b).y,m.vx,m.vy,m.inv⟩
def cU (m:Mot) (b:V2):Mot:=⟨(de ⟨m.px,m.py⟩ b).x,(de ⟨m.px,m.py⟩ b).y,m.vx,m.vy,m.inv⟩
def fR (m:Mot):Mot:=⟨(nz ⟨m.px,m.py⟩ 1048576).x,(nz ⟨m.px,m.py⟩ 1048576).y,(nz ⟨m.vx,m.vy⟩ 16384).x,(nz ⟨m.vx,m.vy⟩ 16384).y,m.inv⟩
def rsSp (a b:Mot) (c:Con):Int:=cS (de ⟨b.vx,b.vy⟩ ⟨a.vx,a.vy⟩) ⟨c.nx,c.ny⟩
def Jd (a b:Mot) (c:Con) (rest:Int):Int:=ay (aY (0 - rsSp a b c)) (aY (1024+rest)) (aY (a.inv+b.inv))
def NC (a b:Mot) (c:Con) (rest:Int):Mot:=if rsSp a b c < 0 then dK a (ao ⟨c.nx,c.ny⟩ (fL (Jd a b c rest) a.inv)) else a
def ND (a b:Mot) (c:Con) (rest:Int):Mot:=if rsSp a b c < 0 then cB b (ao ⟨c.nx,c.ny⟩ (fL (Jd a b c rest) b.inv)) else b
def cm (a b:Mot) (c:Con) (rest:Int):Mot × Mot:=if aY (a.inv+b.inv)=0 then (a,b) else (fR (cU (NC a b c rest) (ao ⟨c.nx,c.ny⟩ (ay c.d a.inv (aY (a.inv+b.inv))))),fR (fd (ND a b c rest) (ao ⟨c.nx,c.ny⟩ (ay c.d b.inv (aY (a.inv+b.inv))))))
theorem pN (a:V2) (m:Int)  (F:HL):Sp Tryz.prog 261 #[.agg #[vI a.x,vI a.y],vI m] [] F (λ u H'=>u=.agg #[vI ((nz a m).x),vI ((nz a m).y)] /\ H'=[]):=by
 refine Sp.run Tryz.func261 rfl mn (A:=[]) (Ts:=[]) rfl λ w0=>?_
 refine ae 7 [] λ n1=>RN.draw [13] []<|ag [] [0,2,4,6,8,10,1,3,7,9] [.own 1,.own 1]<|ar [] 5 (λ X_=>(cq a.x (IntKind.i64.wrap (0 - m)) m  _))<|ar [] 11 (λ X_=>(cq a.y (IntKind.i64.wrap (0 - m)) m  _))<|ag [] [12] []<|RD.one 13 (RDO.ev [] [.own 0,.own 0] λ _=>?_)
 refine RD.fin<|ae 1 [] λ _=>?_
 exact RN.ret [.own 0,.own 0] [] [] ⟨rfl,rfl⟩
theorem tn (m:Mot) (b:V2) (q:Nat) (F:HL):Sp Tryz.prog 212 #[vP q 0,.agg #[vI b.x,vI b.y]] [(q,.lit [vI m.px,vI m.py,vI m.vx,vI m.vy,vI m.inv] 337 (0,0))] F (λ u H'=>∃ x:Unit,H'=ap [(q,.lit [vI ((dK m b).px),vI ((dK m b).py),vI ((dK m b).vx),vI ((dK m b).vy),vI ((dK m b).inv)] 337 (0,0))] [] /\ True):=by
 refine Sp.run Tryz.func212 rfl mn (A:=[(q,.lit [vI m.px,vI m.py,vI m.vx,vI m.vy,vI m.inv] 337 (0,0))]) (Ts:=[]) rfl λ w0=>?_
 refine ae 5 [] λ n1=>RN.draw [11] []<|ag [] [0,1,6,2,3,4,5] [.own 0,.own 0,.own 1,.own 1]<|ar [] 7 (λ X_=>(ig (⟨m.vx,m.vy⟩:V2) b  _))<|ag [] [8,9,10] []<|RD.one 11 (RDO.ev [] [.own 1,.own 1] λ _=>?_)
 refine RD.fin<|RN.ret [] [1] [] (v:=.tuple #[]) (H':=(ap [(q,.lit [vI m.px,vI m.py,vI ((de (⟨m.vx,m.vy⟩:V2) b).x),vI ((de (⟨m.vx,m.vy⟩:V2) b).y),vI m.inv] 337 (0,0))] [])) ?_
 exact ⟨(),rfl,trivial⟩
theorem uL (m:Mot) (b:V2) (q:Nat) (F:HL):Sp Tryz.prog 212 #[vP q 0,.agg #[vI b.x,vI b.y]] (ap [(q,.lit [vI m.px,vI m.py,vI m.vx,vI m.vy,vI m.inv] 337 (0,0))] []) F (λ u H'=>∃ x:Unit,H'=ap [(q,.lit [vI ((dK m b).px),vI ((dK m b).py),vI ((dK m b).vx),vI ((dK m b).vy),vI ((dK m b).inv)] 337 (0,0))] [] /\ True):=by
 have e:ap [(q,.lit [vI m.px,vI m.py,vI m.vx,vI m.vy,vI m.inv] 337 (0,0))] []=[(q,.lit [vI m.px,vI m.py,vI m.vx,vI m.vy,vI m.inv] 337 (0,0))]:=by simp
 rw [e]
 exact tn m b q F
theorem uM (m:Mot) (b:V2) (q:Nat) (F:HL):Sp Tryz.prog 213 #[vP q 0,.agg #[vI b.x,vI b.y]] [(q,.lit [vI m.px,vI m.py,vI m.vx,vI m.vy,vI m.inv] 337 (0,0))] F (λ u H'=>∃ x:Unit,H'=ap [(q,.lit [vI ((cB m b).px),vI ((cB m b).py),vI ((cB m b).vx),vI ((cB m b).vy),vI ((cB m b).inv)] 337 (0,0))] [] /\ True):=by
 refine Sp.run Tryz.func213 rfl mn (A:=[(q,.lit [vI m.px,vI m.py,vI m.vx,vI m.vy,vI m.inv] 337 (0,0))]) (Ts:=[]) rfl λ w0=>?_
 refine ae 5 [] λ n1=>RN.draw [11] []<|ag [] [0,1,6,2,3,4,5] [.own 0,.own 0,.own 1,.own 1]<|ar [] 7 (λ X_=>(dR (⟨m.vx,m.vy⟩:V2) b  _))<|ag [] [8,9,10] []<|RD.one 11 (RDO.ev [] [.own 1,.own 1] λ _=>?_)
 refine RD.fin<|RN.ret [] [1] [] (v:=.tuple #[]) (H':=(ap [(q,.lit [vI m.px,vI m.py,vI ((aD (⟨m.vx,m.vy⟩:V2) b).x),vI ((aD (⟨m.vx,m.vy⟩:V2) b).y),vI m.inv] 337 (0,0))] [])) ?_
 exact ⟨(),rfl,trivial⟩
theorem xq (m:Mot) (b:V2) (q:Nat) (F:HL):Sp Tryz.prog 213 #[vP q 0,.agg #[vI b.x,vI b.y]] (ap [(q,.lit [vI m.px,vI m.py,vI m.vx,vI m.vy,vI m.inv] 337 (0,0))] []) F (λ u H'=>∃ x:Unit,H'=ap [(q,.lit [vI ((cB m b).px),vI ((cB m b).py),vI ((cB m b).vx),vI ((cB m b).vy),vI ((cB m b).inv)] 337 (0,0))] [] /\ True):=by
 have e:ap [(q,.lit [vI m.px,vI m.py,vI m.vx,vI m.vy,vI m.inv] 337 (0,0))] []=[(q,.lit [vI m.px,vI m.py,vI m.vx,vI m.vy,vI m.inv] 337 (0,0))]:=by simp
 rw [e]
 exact uM m b q F
theorem uN (m:Mot) (b:V2) (q:Nat) (F:HL):Sp Tryz.prog 215 #[vP q 0,.agg #[vI b.x,vI b.y]] [(q,.lit [vI m.px,vI m.py,vI m.vx,vI m.vy,vI m.inv] 337 (0,0))] F (λ u H'=>∃ x:Unit,H'=ap [(q,.lit [vI ((fd m b).px),vI ((fd m b).py),vI ((fd m b).vx),vI ((fd m b).vy),vI ((fd m b).inv)] 337 (0,0))] [] /\ True):=by
 refine Sp.run Tryz.func215 rfl mn (A:=[(q,.lit [vI m.px,vI m.py,vI m.vx,vI m.vy,vI m.inv] 337 (0,0))]) (Ts:=[]) rfl λ w0=>?_
 refine ae 5 [] λ n1=>RN.draw [11] []<|ag [] [0,1,6,2,3,4,5] [.own 0,.own 0,.own 1,.own 1]<|ar [] 7 (λ X_=>(dR (⟨m.px,m.py⟩:V2) b  _))<|ag [] [8,9,10] []<|RD.one 11 (RDO.ev [] [.own 1,.own 1] λ _=>?_)
 refine RD.fin<|RN.ret [] [1] [] (v:=.tuple #[]) (H':=(ap [(q,.lit [vI ((aD (⟨m.px,m.py⟩:V2) b).x),vI ((aD (⟨m.px,m.py⟩:V2) b).y),vI m.vx,vI m.vy,vI m.inv] 337 (0,0))] [])) ?_
 exact ⟨(),rfl,trivial⟩
theorem xr (m:Mot) (b:V2) (q:Nat) (F:HL):Sp Tryz.prog 215 #[vP q 0,.agg #[vI b.x,vI b.y]] (ap [(q,.lit [vI m.px,vI m.py,vI m.vx,vI m.vy,vI m.inv] 337 (0,0))] []) F (λ u H'=>∃ x:Unit,H'=ap [(q,.lit [vI ((fd m b).px),vI ((fd m b).py),vI ((fd m b).vx),vI ((fd m b).vy),vI ((fd m b).inv)] 337 (0,0))] [] /\ True):=by
 have e:ap [(q,.lit [vI m.px,vI m.py,vI m.vx,vI m.vy,vI m.inv] 337 (0,0))] []=[(q,.lit [vI m.px,vI m.py,vI m.vx,vI m.vy,vI m.inv] 337 (0,0))]:=by simp
 rw [e]
 exact uN m b q F
theorem uO (m:Mot) (b:V2) (q:Nat) (F:HL):Sp Tryz.prog 214 #[vP q 0,.agg #[vI b.x,vI b.y]] [(q,.lit [vI m.px,vI m.py,vI m.vx,vI m.vy,vI m.inv] 337 (0,0))] F (λ u H'=>∃ x:Unit,H'=ap [(q,.lit [vI ((cU m b).px),vI ((cU m b).py),vI ((cU m b).vx),vI ((cU m b).vy),vI ((cU m b).inv)] 337 (0,0))] [] /\ True):=by
 refine Sp.run Tryz.func214 rfl mn (A:=[(q,.lit [vI m.px,vI m.py,vI m.vx,vI m.vy,vI m.inv] 337 (0,0))]) (Ts:=[]) rfl λ w0=>?_
 refine ae 5 [] λ n1=>RN.draw [11] []<|ag [] [0,1,6,2,3,4,5] [.own 0,.own 0,.own 1,.own 1]<|ar [] 7 (λ X_=>(ig (⟨m.px,m.py⟩:V2) b  _))<|ag [] [8,9,10] []<|RD.one 11 (RDO.ev [] [.own 1,.own 1] λ _=>?_)
 refine RD.fin<|RN.ret [] [1] [] (v:=.tuple #[]) (H':=(ap [(q,.lit [vI ((de (⟨m.px,m.py⟩:V2) b).x),vI ((de (⟨m.px,m.py⟩:V2) b).y),vI m.vx,vI m.vy,vI m.inv] 337 (0,0))] [])) ?_
 exact ⟨(),rfl,trivial⟩
theorem xt (m:Mot) (b:V2) (q:Nat) (F:HL):Sp Tryz.prog 214 #[vP q 0,.agg #[vI b.x,vI b.y]] (ap [(q,.lit [vI m.px,vI m.py,vI m.vx,vI m.vy,vI m.inv] 337 (0,0))] []) F (λ u H'=>∃ x:Unit,H'=ap [(q,.lit [vI ((cU m b).px),vI ((cU m b).py),vI ((cU m b).vx),vI ((cU m b).vy),vI ((cU m b).inv)] 337 (0,0))] [] /\ True):=by
 have e:ap [(q,.lit [vI m.px,vI m.py,vI m.vx,vI m.vy,vI m.inv] 337 (0,0))] []=[(q,.lit [vI m.px,vI m.py,vI m.vx,vI m.vy,vI m.inv] 337 (0,0))]:=by simp
 rw [e]
 exact uO m b q F
theorem iO (m:Mot) (q:Nat) (F:HL) (hq:(q,.lit [vI m.px,vI m.py,vI m.vx,vI m.vy,vI m.inv] 337 (0,0)) ∈ F):Sp Tryz.prog 216 #[vP q 0] [] F (λ u H'=>u=.agg #[vI ((fR m).px),vI ((fR m).py),vI ((fR m).vx),vI ((fR m).vy),vI ((fR m).inv)] /\ H'=[]):=by
 refine Sp.run Tryz.func216 rfl (mc hq mn) (A:=[]) (Ts:=[]) rfl λ w0=>?_
 refine ae 6 [] λ n1=>RN.draw [18] []<|ag [] [0,6,12,1,7,13,2,8,14,3,9,15,4,10,16] [.ro 0,.ro 0,.ro 0,.ro 0,.ro 0]<|ar [] 5 (λ X_=>(pN (⟨m.px,m.py⟩:V2) 1048576  _))<|ar [] 11 (λ X_=>(pN (⟨m.vx,m.vy⟩:V2) 16384  _))<|ag [] [17] []<|RD.one 18 (RDO.ev [] (ow 0 5) λ _=>?_)
 refine RD.fin<|ae 1 [] λ _=>?_
 exact RN.ret (ow 0 5) [] [] ⟨rfl,rfl⟩
theorem tp (m:Mot) (c:Con) (am:Int) (q qc:Nat) (F:HL) (hc:(qc,.lit [vI c.nx,vI c.ny,vI c.d] 278 (0,0)) ∈ F):Sp Tryz.prog 210 #[.func (.func 212) #[vP q 0] #[],vI am,vP qc 0] (ap [(q,.lit [vI m.px,vI m.py,vI m.vx,vI m.vy,vI m.inv] 337 (0,0))] []) F (λ u H'=>∃ x:Unit,H'=ap [(q,.lit [vI ((dK m (ao ⟨c.nx,c.ny⟩ am)).px),vI ((dK m (ao ⟨c.nx,c.ny⟩ am)).py),vI ((dK m (ao ⟨c.nx,c.ny⟩ am)).vx),vI ((dK m (ao ⟨c.nx,c.ny⟩ am)).vy),vI ((dK m (ao ⟨c.nx,c.ny⟩ am)).inv)] 337 (0,0))] [] /\ True):=by
 refine Sp.run Tryz.func210 rfl (mc hc mn) (A:=[(q,.lit [vI m.px,vI m.py,vI m.vx,vI m.vy,vI m.inv] 337 (0,0))]) (Ts:=[]) rfl λ w0=>?_
 refine ae 5 [.ro 0,.ro 0] λ _=>aj (eE (⟨c.nx,c.ny⟩:V2) am  _)<|RN.ct [0] [] (uL m (ao (⟨c.nx,c.ny⟩:V2) am) q _) ?_
 rintro _ _ _
 refine ae 1 [] λ _=>RN.ret [] [0] [] (v:=.tuple #[]) (H':=(ap [(q,.lit [vI ((dK m (ao (⟨c.nx,c.ny⟩:V2) am)).px),vI ((dK m (ao (⟨c.nx,c.ny⟩:V2) am)).py),vI ((dK m (ao (⟨c.nx,c.ny⟩:V2) am)).vx),vI ((dK m (ao (⟨c.nx,c.ny⟩:V2) am)).vy),vI ((dK m (ao (⟨c.nx,c.ny⟩:V2) am)).inv)] 337 (0,0))] [])) ?_
 exact ⟨(),rfl,trivial⟩
theorem uP (m:Mot) (c:Con) (am:Int) (q qc:Nat) (F:HL) (hc:(qc,.lit [vI c.nx,vI c.ny,vI c.d] 278 (0,0)) ∈ F):Sp Tryz.prog 210 #[.func (.func 213) #[vP q 0] #[],vI am,vP qc 0] (ap [(q,.lit [vI m.px,vI m.py,vI m.vx,vI m.vy,vI m.inv] 337 (0,0))] []) F (λ u H'=>∃ x:Unit,H'=ap [(q,.lit [vI ((cB m (ao ⟨c.nx,c.ny⟩ am)).px),vI ((cB m (ao ⟨c.nx,c.ny⟩ am)).py),vI ((cB m (ao ⟨c.nx,c.ny⟩ am)).vx),vI ((cB m (ao ⟨c.nx,c.ny⟩ am)).vy),vI ((cB m (ao ⟨c.nx,c.ny⟩ am)).inv)] 337 (0,0))] [] /\ True):=by
 refine Sp.run Tryz.func210 rfl (mc hc mn) (A:=[(q,.lit [vI m.px,vI m.py,vI m.vx,vI m.vy,vI m.inv] 337 (0,0))]) (Ts:=[]) rfl λ w0=>?_
 refine ae 5 [.ro 0,.ro 0] λ _=>aj (eE (⟨c.nx,c.ny⟩:V2) am  _)<|RN.ct [0] [] (xq m (ao (⟨c.nx,c.ny⟩:V2) am) q _) ?_
 rintro _ _ _
 refine ae 1 [] λ _=>RN.ret [] [0] [] (v:=.tuple #[]) (H':=(ap [(q,.lit [vI ((cB m (ao (⟨c.nx,c.ny⟩:V2) am)).px),vI ((cB m (ao (⟨c.nx,c.ny⟩:V2) am)).py),vI ((cB m (ao (⟨c.nx,c.ny⟩:V2) am)).vx),vI ((cB m (ao (⟨c.nx,c.ny⟩:V2) am)).vy),vI ((cB m (ao (⟨c.nx,c.ny⟩:V2) am)).inv)] 337 (0,0))] [])) ?_
 exact ⟨(),rfl,trivial⟩
theorem oz (m:Mot) (c:Con) (am:Int) (q qc:Nat) (F:HL) (hc:(qc,.lit [vI c.nx,vI c.ny,vI c.d] 278 (0,0)) ∈ F):Sp Tryz.prog 210 #[.func (.func 215) #[vP q 0] #[],vI am,vP qc 0] (ap [(q,.lit [vI m.px,vI m.py,vI m.vx,vI m.vy,vI m.inv] 337 (0,0))] []) F (λ u H'=>∃ x:Unit,H'=ap [(q,.lit [vI ((fd m (ao ⟨c.nx,c.ny⟩ am)).px),vI ((fd m (ao ⟨c.nx,c.ny⟩ am)).py),vI ((fd m (ao ⟨c.nx,c.ny⟩ am)).vx),vI ((fd m (ao ⟨c.nx,c.ny⟩ am)).vy),vI ((fd m (ao ⟨c.nx,c.ny⟩ am)).inv)] 337 (0,0))] [] /\ True):=by
 refine Sp.run Tryz.func210 rfl (mc hc mn) (A:=[(q,.lit [vI m.px,vI m.py,vI m.vx,vI m.vy,vI m.inv] 337 (0,0))]) (Ts:=[]) rfl λ w0=>?_
 refine ae 5 [.ro 0,.ro 0] λ _=>aj (eE (⟨c.nx,c.ny⟩:V2) am  _)<|RN.ct [0] [] (xr m (ao (⟨c.nx,c.ny⟩:V2) am) q _) ?_
 rintro _ _ _
 refine ae 1 [] λ _=>RN.ret [] [0] [] (v:=.tuple #[]) (H':=(ap [(q,.lit [vI ((fd m (ao (⟨c.nx,c.ny⟩:V2) am)).px),vI ((fd m (ao (⟨c.nx,c.ny⟩:V2) am)).py),vI ((fd m (ao (⟨c.nx,c.ny⟩:V2) am)).vx),vI ((fd m (ao (⟨c.nx,c.ny⟩:V2) am)).vy),vI ((fd m (ao (⟨c.nx,c.ny⟩:V2) am)).inv)] 337 (0,0))] [])) ?_
 exact ⟨(),rfl,trivial⟩
theorem oA (m:Mot) (c:Con) (am:Int) (q qc:Nat) (F:HL) (hc:(qc,.lit [vI c.nx,vI c.ny,vI c.d] 278 (0,0)) ∈ F):Sp Tryz.prog 210 #[.func (.func 214) #[vP q 0] #[],vI am,vP qc 0] (ap [(q,.lit [vI m.px,vI m.py,vI m.vx,vI m.vy,vI m.inv] 337 (0,0))] []) F (λ u H'=>∃ x:Unit,H'=ap [(q,.lit [vI ((cU m (ao ⟨c.nx,c.ny⟩ am)).px),vI ((cU m (ao ⟨c.nx,c.ny⟩ am)).py),vI ((cU m (ao ⟨c.nx,c.ny⟩ am)).vx),vI ((cU m (ao ⟨c.nx,c.ny⟩ am)).vy),vI ((cU m (ao ⟨c.nx,c.ny⟩ am)).inv)] 337 (0,0))] [] /\ True):=by
 refine Sp.run Tryz.func210 rfl (mc hc mn) (A:=[(q,.lit [vI m.px,vI m.py,vI m.vx,vI m.vy,vI m.inv] 337 (0,0))]) (Ts:=[]) rfl λ w0=>?_
 refine ae 5 [.ro 0,.ro 0] λ _=>aj (eE (⟨c.nx,c.ny⟩:V2) am  _)<|RN.ct [0] [] (xt m (ao (⟨c.nx,c.ny⟩:V2) am) q _) ?_
 rintro _ _ _
 refine ae 1 [] λ _=>RN.ret [] [0] [] (v:=.tuple #[]) (H':=(ap [(q,.lit [vI ((cU m (ao (⟨c.nx,c.ny⟩:V2) am)).px),vI ((cU m (ao (⟨c.nx,c.ny⟩:V2) am)).py),vI ((cU m (ao (⟨c.nx,c.ny⟩:V2) am)).vx),vI ((cU m (ao (⟨c.nx,c.ny⟩:V2) am)).vy),vI ((cU m (ao (⟨c.nx,c.ny⟩:V2) am)).inv)] 337 (0,0))] [])) ?_
 exact ⟨(),rfl,trivial⟩
theorem uQ (a b:Mot) (c:Con) (rest:Int) (F:HL):Sp Tryz.prog 156 #[.agg #[vI a.px,vI a.py,vI a.vx,vI a.vy,vI a.inv],.agg #[vI b.px,vI b.py,vI b.vx,vI b.vy,vI b.inv],.agg #[vI c.nx,vI c.ny,vI c.d],vI rest] [] F (λ u H'=>u=.tuple #[.agg #[vI (((cm a b c rest).1).px),vI (((cm a b c rest).1).py),vI (((cm a b c rest).1).vx),vI (((cm a b c rest).1).vy),vI (((cm a b c rest).1).inv)],.agg #[vI (((cm a b c rest).2).px),vI (((cm a b c rest).2).py),vI (((cm a b c rest).2).vx),vI (((cm a b c rest).2).vy),vI (((cm a b c rest).2).inv)]] /\ H'=[]):=by
 refine Sp.run Tryz.func156 rfl mn (A:=[]) (Ts:=[]) rfl λ w0=>?_
 refine ae 26 [.own 4,.own 3] λ n1=>RN.em (IntKind.i64.wrap (a.inv+b.inv)=0) 22 (λ h2=>?_) λ h2=>?_
 ·refine ae 2 [] λ _=>RN.draw [2,3] [2,3,4]<|ag [2,3,4] [0,1] (ow 4 5++[.ro 1,.ro 1,.ro 1,.ro 1,.ro 1])<|RD.one 2 (RDO.ev [2,3,4] (ow 1 5) λ _=>?_)
  refine RD.one 3 (RDO.ev [2,3,4] (ow 0 5) λ _=>?_)
  refine RD.fin<|ae 1 [] λ _=>RN.ret (ow 1 5++ow 0 5) [] [] (v:=.tuple #[.agg #[vI a.px,vI a.py,vI a.vx,vI a.vy,vI a.inv],.agg #[vI b.px,vI b.py,vI b.vx,vI b.vy,vI b.inv]]) (H':=[]) ?_
  refine ⟨?_,rfl⟩
  rw [show cm a b c rest=(a,b) from if_pos (show aY (a.inv+b.inv)=0 from h2)]
 ·refine ae 4 [] λ _=>RN.draw [6,7] [0,1,2,3,4]<|ag [0,1,2,3,4] [0,2,1,3] (ow 4 5++[.ro 3,.ro 3,.ro 3,.ro 3,.ro 3])<|ie (σ:=Nat × Nat) (λ ⟨n5,n6⟩=>⟨[(3,vI rest),(4,vP (n1+0) 0),(5,vP (n1+1) 0),(6,vP (n1+2) 0),(8,vP (n1+3) 0),(9,vP (n1+4) 0),(10,vI (IntKind.i64.wrap (a.inv+b.inv))),(11,vP (n5+0) 0),(12,vP (n6+0) 0)],[((n6+0),.lit [vI b.px,vI b.py,vI b.vx,vI b.vy,vI b.inv] 337 (0,0)),((n5+0),.lit [vI a.px,vI a.py,vI a.vx,vI a.vy,vI a.inv] 337 (0,0)),((n1+4),.lit [vI 0,vI 0,vI 0,vI 0,vI 0] 104 (0,0)),((n1+3),.lit [vI 0,vI 0,vI 0,vI 0,vI 0] 104 (0,0)),((n1+2),.lit [vI c.nx,vI c.ny,vI c.d] 278 (0,0)),((n1+1),.lit [vI b.px,vI b.py,vI b.vx,vI b.vy,vI b.inv] 104 (0,0)),((n1+0),.lit [vI a.px,vI a.py,vI a.vx,vI a.vy,vI a.inv] 104 (0,0))],[],True,0⟩) ?_ ?_
  ·rintro ⟨n5,n6⟩
   refine ae 9 [] λ _=>RN.draw [] []<|ag [] [0,2,5,1,3,6] [.own 5,.own 5,.own 6,.own 6,.own 4,.own 4]<|ar [] 4 (λ X_=>(ig (⟨b.vx,b.vy⟩:V2) (⟨a.vx,a.vy⟩:V2)  _))<|ar [] 7 (λ X_=>(mM (de (⟨b.vx,b.vy⟩:V2) (⟨a.vx,a.vy⟩:V2)) (⟨c.nx,c.ny⟩:V2)  _))<|ag [] [8] []<|RD.fin<|ae 7 [] λ _=>RN.em (cS (de (⟨b.vx,b.vy⟩:V2) (⟨a.vx,a.vy⟩:V2)) (⟨c.nx,c.ny⟩:V2) < 0) 39 (λ h7=>?_) λ h7=>?_
   ·refine ae 8 [] λ _=>aj (fQ (IntKind.i64.wrap (0 - (cS (de (⟨b.vx,b.vy⟩:V2) (⟨a.vx,a.vy⟩:V2)) (⟨c.nx,c.ny⟩:V2)))) (IntKind.i64.wrap (1024+rest)) (IntKind.i64.wrap (a.inv+b.inv))  _)<|ae 10 [.own 6] λ _=>aj (mL (ay (IntKind.i64.wrap (0 - (cS (de (⟨b.vx,b.vy⟩:V2) (⟨a.vx,a.vy⟩:V2)) (⟨c.nx,c.ny⟩:V2)))) (IntKind.i64.wrap (1024+rest)) (IntKind.i64.wrap (a.inv+b.inv))) a.inv  _)<|RN.ct [1] [] (tp a c (fL (ay (IntKind.i64.wrap (0 - (cS (de (⟨b.vx,b.vy⟩:V2) (⟨a.vx,a.vy⟩:V2)) (⟨c.nx,c.ny⟩:V2)))) (IntKind.i64.wrap (1024+rest)) (IntKind.i64.wrap (a.inv+b.inv))) a.inv) (n5+0) (n1+2) _ (aC 3)) ?_
    rintro _ _ _
    refine ae 8 [.own 5] λ _=>aj (mL (ay (IntKind.i64.wrap (0 - (cS (de (⟨b.vx,b.vy⟩:V2) (⟨a.vx,a.vy⟩:V2)) (⟨c.nx,c.ny⟩:V2)))) (IntKind.i64.wrap (1024+rest)) (IntKind.i64.wrap (a.inv+b.inv))) b.inv  _)<|RN.ct [1] [] (uP b c (fL (ay (IntKind.i64.wrap (0 - (cS (de (⟨b.vx,b.vy⟩:V2) (⟨a.vx,a.vy⟩:V2)) (⟨c.nx,c.ny⟩:V2)))) (IntKind.i64.wrap (1024+rest)) (IntKind.i64.wrap (a.inv+b.inv))) b.inv) (n6+0) (n1+2) _ (aC 3)) ?_
    rintro _ _ _
    refine ae 11 [.own 4,.own 6] λ _=>aj (fQ c.d a.inv (IntKind.i64.wrap (a.inv+b.inv))  _)<|RN.ct [1] [] (oA (dK a (ao ⟨c.nx,c.ny⟩ (fL (ay (IntKind.i64.wrap (0 - (cS (de (⟨b.vx,b.vy⟩:V2) (⟨a.vx,a.vy⟩:V2)) (⟨c.nx,c.ny⟩:V2)))) (IntKind.i64.wrap (1024+rest)) (IntKind.i64.wrap (a.inv+b.inv))) a.inv))) c (ay c.d a.inv (IntKind.i64.wrap (a.inv+b.inv))) (n5+0) (n1+2) _ (aC 3)) ?_
    rintro _ _ _
    refine ae 11 [.own 4,.own 5] λ _=>aj (fQ c.d b.inv (IntKind.i64.wrap (a.inv+b.inv))  _)<|RN.ct [1] [] (oz (cB b (ao ⟨c.nx,c.ny⟩ (fL (ay (IntKind.i64.wrap (0 - (cS (de (⟨b.vx,b.vy⟩:V2) (⟨a.vx,a.vy⟩:V2)) (⟨c.nx,c.ny⟩:V2)))) (IntKind.i64.wrap (1024+rest)) (IntKind.i64.wrap (a.inv+b.inv))) b.inv))) c (ay c.d b.inv (IntKind.i64.wrap (a.inv+b.inv))) (n6+0) (n1+2) _ (aC 3)) ?_
    rintro _ _ _
    refine ae 4 [] λ _=>aj (iO (cU (dK a (ao ⟨c.nx,c.ny⟩ (fL (ay (IntKind.i64.wrap (0 - (cS (de (⟨b.vx,b.vy⟩:V2) (⟨a.vx,a.vy⟩:V2)) (⟨c.nx,c.ny⟩:V2)))) (IntKind.i64.wrap (1024+rest)) (IntKind.i64.wrap (a.inv+b.inv))) a.inv))) (ao ⟨c.nx,c.ny⟩ (ay c.d a.inv (IntKind.i64.wrap (a.inv+b.inv))))) (n5+0) _ (aC 1))<|aj (iO (fd (cB b (ao ⟨c.nx,c.ny⟩ (fL (ay (IntKind.i64.wrap (0 - (cS (de (⟨b.vx,b.vy⟩:V2) (⟨a.vx,a.vy⟩:V2)) (⟨c.nx,c.ny⟩:V2)))) (IntKind.i64.wrap (1024+rest)) (IntKind.i64.wrap (a.inv+b.inv))) b.inv))) (ao ⟨c.nx,c.ny⟩ (ay c.d b.inv (IntKind.i64.wrap (a.inv+b.inv))))) (n6+0) _ (aC 0))<|ae 4 (ow 3 5++ow 2 5) λ _=>RN.ret (ow 3 5++ow 2 5) [] [] (v:=.tuple #[.agg #[vI ((fR (cU (dK a (ao ⟨c.nx,c.ny⟩ (fL (ay (IntKind.i64.wrap (0 - (cS (de (⟨b.vx,b.vy⟩:V2) (⟨a.vx,a.vy⟩:V2)) (⟨c.nx,c.ny⟩:V2)))) (IntKind.i64.wrap (1024+rest)) (IntKind.i64.wrap (a.inv+b.inv))) a.inv))) (ao ⟨c.nx,c.ny⟩ (ay c.d a.inv (IntKind.i64.wrap (a.inv+b.inv)))))).px),vI ((fR (cU (dK a (ao ⟨c.nx,c.ny⟩ (fL (ay (IntKind.i64.wrap (0 - (cS (de (⟨b.vx,b.vy⟩:V2) (⟨a.vx,a.vy⟩:V2)) (⟨c.nx,c.ny⟩:V2)))) (IntKind.i64.wrap (1024+rest)) (IntKind.i64.wrap (a.inv+b.inv))) a.inv))) (ao ⟨c.nx,c.ny⟩ (ay c.d a.inv (IntKind.i64.wrap (a.inv+b.inv)))))).py),vI ((fR (cU (dK a (ao ⟨c.nx,c.ny⟩ (fL (ay (IntKind.i64.wrap (0 - (cS (de (⟨b.vx,b.vy⟩:V2) (⟨a.vx,a.vy⟩:V2)) (⟨c.nx,c.ny⟩:V2)))) (IntKind.i64.wrap (1024+rest)) (IntKind.i64.wrap (a.inv+b.inv))) a.inv))) (ao ⟨c.nx,c.ny⟩ (ay c.d a.inv (IntKind.i64.wrap (a.inv+b.inv)))))).vx),vI ((fR (cU (dK a (ao ⟨c.nx,c.ny⟩ (fL (ay (IntKind.i64.wrap (0 - (cS (de (⟨b.vx,b.vy⟩:V2) (⟨a.vx,a.vy⟩:V2)) (⟨c.nx,c.ny⟩:V2)))) (IntKind.i64.wrap (1024+rest)) (IntKind.i64.wrap (a.inv+b.inv))) a.inv))) (ao ⟨c.nx,c.ny⟩ (ay c.d a.inv (IntKind.i64.wrap (a.inv+b.inv)))))).vy),vI ((fR (cU (dK a (ao ⟨c.nx,c.ny⟩ (fL (ay (IntKind.i64.wrap (0 - (cS (de (⟨b.vx,b.vy⟩:V2) (⟨a.vx,a.vy⟩:V2)) (⟨c.nx,c.ny⟩:V2)))) (IntKind.i64.wrap (1024+rest)) (IntKind.i64.wrap (a.inv+b.inv))) a.inv))) (ao ⟨c.nx,c.ny⟩ (ay c.d a.inv (IntKind.i64.wrap (a.inv+b.inv)))))).inv)],.agg #[vI ((fR (fd (cB b (ao ⟨c.nx,c.ny⟩ (fL (ay (IntKind.i64.wrap (0 - (cS (de (⟨b.vx,b.vy⟩:V2) (⟨a.vx,a.vy⟩:V2)) (⟨c.nx,c.ny⟩:V2)))) (IntKind.i64.wrap (1024+rest)) (IntKind.i64.wrap (a.inv+b.inv))) b.inv))) (ao ⟨c.nx,c.ny⟩ (ay c.d b.inv (IntKind.i64.wrap (a.inv+b.inv)))))).px),vI ((fR (fd (cB b (ao ⟨c.nx,c.ny⟩ (fL (ay (IntKind.i64.wrap (0 - (cS (de (⟨b.vx,b.vy⟩:V2) (⟨a.vx,a.vy⟩:V2)) (⟨c.nx,c.ny⟩:V2)))) (IntKind.i64.wrap (1024+rest)) (IntKind.i64.wrap (a.inv+b.inv))) b.inv))) (ao ⟨c.nx,c.ny⟩ (ay c.d b.inv (IntKind.i64.wrap (a.inv+b.inv)))))).py),vI ((fR (fd (cB b (ao ⟨c.nx,c.ny⟩ (fL (ay (IntKind.i64.wrap (0 - (cS (de (⟨b.vx,b.vy⟩:V2) (⟨a.vx,a.vy⟩:V2)) (⟨c.nx,c.ny⟩:V2)))) (IntKind.i64.wrap (1024+rest)) (IntKind.i64.wrap (a.inv+b.inv))) b.inv))) (ao ⟨c.nx,c.ny⟩ (ay c.d b.inv (IntKind.i64.wrap (a.inv+b.inv)))))).vx),vI ((fR (fd (cB b (ao ⟨c.nx,c.ny⟩ (fL (ay (IntKind.i64.wrap (0 - (cS (de (⟨b.vx,b.vy⟩:V2) (⟨a.vx,a.vy⟩:V2)) (⟨c.nx,c.ny⟩:V2)))) (IntKind.i64.wrap (1024+rest)) (IntKind.i64.wrap (a.inv+b.inv))) b.inv))) (ao ⟨c.nx,c.ny⟩ (ay c.d b.inv (IntKind.i64.wrap (a.inv+b.inv)))))).vy),vI ((fR (fd (cB b (ao ⟨c.nx,c.ny⟩ (fL (ay (IntKind.i64.wrap (0 - (cS (de (⟨b.vx,b.vy⟩:V2) (⟨a.vx,a.vy⟩:V2)) (⟨c.nx,c.ny⟩:V2)))) (IntKind.i64.wrap (1024+rest)) (IntKind.i64.wrap (a.inv+b.inv))) b.inv))) (ao ⟨c.nx,c.ny⟩ (ay c.d b.inv (IntKind.i64.wrap (a.inv+b.inv)))))).inv)]]) (H':=[]) ?_
    refine ⟨?_,rfl⟩
    rw [show cm a b c rest=_ from if_neg (show ¬ aY (a.inv+b.inv)=0 from h2)]
    rw [show NC a b c rest=_ from if_pos (show rsSp a b c < 0 from h7),show ND a b c rest=_ from if_pos (show rsSp a b c < 0 from h7)]
    first | rfl | skip
   ·refine ae 12 [.own 4,.own 6] λ _=>aj (fQ c.d a.inv (IntKind.i64.wrap (a.inv+b.inv))  _)<|RN.ct [1] [] (oA a c (ay c.d a.inv (IntKind.i64.wrap (a.inv+b.inv))) (n5+0) (n1+2) _ (aC 3)) ?_
    rintro _ _ _
    refine ae 11 [.own 4,.own 5] λ _=>aj (fQ c.d b.inv (IntKind.i64.wrap (a.inv+b.inv))  _)<|RN.ct [1] [] (oz b c (ay c.d b.inv (IntKind.i64.wrap (a.inv+b.inv))) (n6+0) (n1+2) _ (aC 3)) ?_
    rintro _ _ _
    refine ae 4 [] λ _=>aj (iO (cU a (ao ⟨c.nx,c.ny⟩ (ay c.d a.inv (IntKind.i64.wrap (a.inv+b.inv))))) (n5+0) _ (aC 1))<|aj (iO (fd b (ao ⟨c.nx,c.ny⟩ (ay c.d b.inv (IntKind.i64.wrap (a.inv+b.inv))))) (n6+0) _ (aC 0))<|ae 4 (ow 3 5++ow 2 5) λ _=>RN.ret (ow 3 5++ow 2 5) [] [] (v:=.tuple #[.agg #[vI ((fR (cU a (ao ⟨c.nx,c.ny⟩ (ay c.d a.inv (IntKind.i64.wrap (a.inv+b.inv)))))).px),vI ((fR (cU a (ao ⟨c.nx,c.ny⟩ (ay c.d a.inv (IntKind.i64.wrap (a.inv+b.inv)))))).py),vI ((fR (cU a (ao ⟨c.nx,c.ny⟩ (ay c.d a.inv (IntKind.i64.wrap (a.inv+b.inv)))))).vx),vI ((fR (cU a (ao ⟨c.nx,c.ny⟩ (ay c.d a.inv (IntKind.i64.wrap (a.inv+b.inv)))))).vy),vI ((fR (cU a (ao ⟨c.nx,c.ny⟩ (ay c.d a.inv (IntKind.i64.wrap (a.inv+b.inv)))))).inv)],.agg #[vI ((fR (fd b (ao ⟨c.nx,c.ny⟩ (ay c.d b.inv (IntKind.i64.wrap (a.inv+b.inv)))))).px),vI ((fR (fd b (ao ⟨c.nx,c.ny⟩ (ay c.d b.inv (IntKind.i64.wrap (a.inv+b.inv)))))).py),vI ((fR (fd b (ao ⟨c.nx,c.ny⟩ (ay c.d b.inv (IntKind.i64.wrap (a.inv+b.inv)))))).vx),vI ((fR (fd b (ao ⟨c.nx,c.ny⟩ (ay c.d b.inv (IntKind.i64.wrap (a.inv+b.inv)))))).vy),vI ((fR (fd b (ao ⟨c.nx,c.ny⟩ (ay c.d b.inv (IntKind.i64.wrap (a.inv+b.inv)))))).inv)]]) (H':=[]) ?_
    refine ⟨?_,rfl⟩
    rw [show cm a b c rest=_ from if_neg (show ¬ aY (a.inv+b.inv)=0 from h2)]
    rw [show NC a b c rest=_ from if_neg (show ¬ rsSp a b c < 0 from h7),show ND a b c rest=_ from if_neg (show ¬ rsSp a b c < 0 from h7)]
    first | rfl | skip
  ·intro key8
   refine ee 4 5 ?_ ?_
   ·refine RDO.ev [] [] λ n9=>RD.one 5 (RDO.ev [] [] λ n10=>?_)
    refine RD.one 6 (RDO.ev [2,3,4,5,6] (ow 1 5) λ _=>?_)
    refine RD.one 7 (RDO.ev [2,3,4,5,6] (ow 0 5) λ _=>?_)
    exact key8 ⟨n9,n10⟩ [0,1,2,3,4,5,6] []
   ·refine RDO.ev [] [] λ n11=>RD.one 4 (RDO.ev [] [] λ n12=>?_)
    refine RD.one 6 (RDO.ev [2,3,4,5,6] (ow 0 5) λ _=>?_)
    refine RD.one 7 (RDO.ev [2,3,4,5,6] (ow 1 5) λ _=>?_)
    exact key8 ⟨n12,n11⟩ [1,0,2,3,4,5,6] []
def nA (pos vel:V2) (k:Int):V2:=aD pos (eo vel k 8)
def pO (a:Shp) (pa va:V2) (b:Shp) (pb vb:V2) (k:Int):Bool:=(ck a (nA pa va k) b (nA pb vb k)).2
def pP (a:Shp) (pa va:V2) (b:Shp) (pb vb:V2):Nat -> Nat -> Int
 | 0,_=>1024
 | n+1,k=>if pO a pa va b pb vb ((k:Int)+1)=true then ((k:Int) * 1024) / 8 else pP a pa va b pb vb n (k+1)
def lH (a:Shp) (pa va:V2) (b:Shp) (pb vb:V2):Int:=if pO a pa va b pb vb 0=true then 1024 else pP a pa va b pb vb 8 0
theorem rS (pos:V2) (vel:V2) (k:Int)  (F:HL):Sp Tryz.prog 218 #[.agg #[vI pos.x,vI pos.y],.agg #[vI vel.x,vI vel.y],vI k] [] F (λ u H'=>u=.agg #[vI ((nA pos vel k).x),vI ((nA pos vel k).y)] /\ H'=[]):=by
 refine Sp.run Tryz.func218 rfl mn (A:=[]) (Ts:=[]) rfl λ w0=>?_
 refine ae 8 [] λ n1=>RN.draw [5] []<|ag [] [0,1,2] [.own 2,.own 2,.own 1,.own 1]<|ar [] 3 (λ X_=>(kw vel k 8  _))<|ar [] 4 (λ X_=>(dR pos (eo vel k 8)  _))<|RD.one 5 (RDO.ev [] [.own 0,.own 0] λ _=>?_)
 refine RD.fin<|ae 1 [] λ _=>?_
 exact RN.ret [.own 0,.own 0] [] [] ⟨rfl,rfl⟩
theorem rT (a:Shp) (pa va:V2) (b:Shp) (pb vb:V2) (k:Int) (q1 q2 q3 q4 q5 q6:Nat) (F:HL) (ha:ShIn F a) (hb:ShIn F b) (hq1:(q1,.lit [vI a.r,.slice a.A a.poly.length a.cap] 101 (0,0)) ∈ F) (hq2:(q2,.lit [vI pa.x,vI pa.y] 29 (0,0)) ∈ F) (hq3:(q3,.lit [vI va.x,vI va.y] 29 (0,0)) ∈ F) (hq4:(q4,.lit [vI b.r,.slice b.A b.poly.length b.cap] 101 (0,0)) ∈ F) (hq5:(q5,.lit [vI pb.x,vI pb.y] 29 (0,0)) ∈ F) (hq6:(q6,.lit [vI vb.x,vI vb.y] 29 (0,0)) ∈ F):Sp Tryz.prog 217 #[vI k,vP q1 0,vP q2 0,vP q3 0,vP q4 0,vP q5 0,vP q6 0] [] F (λ u H'=>u=.bool (pO a pa va b pb vb k) /\ H'=[]):=by
 refine Sp.run Tryz.func217 rfl (mc hq1 (mc hq2 (mc hq3 (mc hq4 (mc hq5 (mc hq6 mn)))))) (A:=[]) (Ts:=[]) rfl λ w0=>?_
 refine ae 6 [] λ _=>RN.draw [15] []<|ag [] [0,1,2,3,5,6,7,8] [.ro 0,.ro 0,.ro 1,.ro 1,.ro 2,.ro 2,.ro 3,.ro 3,.ro 4,.ro 4,.ro 5,.ro 5]<|ar [] 4 (λ X_=>(rS pa va k  _))<|ar [] 9 (λ X_=>(rS pb vb k  _))<|ar [] 10 (λ X_=>(oy a (nA pa va k) b (nA pb vb k) _ (ha.up.up) (hb.up.up)))<|ag [] [11,12,13] []<|RD.one 14 (RDO.ev [] [] λ n2=>?_)
 refine RD.one 15 (RDO.ev [] [.own 0,.own 0,.own 0] λ _=>?_)
 refine ag [] [16] []<|RD.fin<|ae 7 [] λ _=>?_
 exact RN.ret [] [] [] ⟨rfl,rfl⟩
theorem tq (a:Shp) (pa va:V2) (b:Shp) (pb vb:V2) (F:HL) (ha:ShIn F a) (hb:ShIn F b):Sp Tryz.prog 158 #[.agg #[vI a.r,.slice a.A a.poly.length a.cap],.agg #[vI pa.x,vI pa.y],.agg #[vI va.x,vI va.y],.agg #[vI b.r,.slice b.A b.poly.length b.cap],.agg #[vI pb.x,vI pb.y],.agg #[vI vb.x,vI vb.y]] [] F (λ u H'=>u=vI (lH a pa va b pb vb) /\ H'=[]):=by
 refine Sp.run Tryz.func158 rfl mn (A:=[]) (Ts:=[]) rfl λ w0=>?_
 refine ae 21 [] λ n1=>aj (rT a pa va b pb vb 0 (n1+0) (n1+1) (n1+2) (n1+3) (n1+4) (n1+5) _ ha.up hb.up (aC 5) (aC 4) (aC 3) (aC 2) (aC 1) (aC 0))<|ae 2 [] λ _=>gE (pO a pa va b pb vb 0) 17 (λ h2=>?_) λ h2=>?_
 ·refine ae 6 [] λ _=>RN.ret [] [] [] (v:=vI 1024) (H':=[]) ?_
  exact ⟨by rw [lH,if_pos h2],rfl⟩
 ·refine ae 10 [] λ _=>RN.loop (σ:=Nat) (λ n=>⟨[(13,.func (.func 217) #[] #[vP (n1+0) 0,vP (n1+1) 0,vP (n1+2) 0,vP (n1+3) 0,vP (n1+4) 0,vP (n1+5) 0]),(18,vI (n:Int))],[((n1+5),.lit [vI vb.x,vI vb.y] 29 (0,0)),((n1+4),.lit [vI pb.x,vI pb.y] 29 (0,0)),((n1+3),.lit [vI b.r,.slice b.A b.poly.length b.cap] 101 (0,0)),((n1+2),.lit [vI va.x,vI va.y] 29 (0,0)),((n1+1),.lit [vI pa.x,vI pa.y] 29 (0,0)),((n1+0),.lit [vI a.r,.slice a.A a.poly.length a.cap] 101 (0,0))],[],n <= 8 /\ pP a pa va b pb vb (8 - n) n=pP a pa va b pb vb 8 0,8 - n⟩) 0 [0,1,2,3,4,5] [] (⟨Nat.zero_le _,rfl⟩) ?_
  rintro n ⟨hn_,hE_⟩ mt4
  refine ae 6 [] λ _=>RN.em ((n:Int) < 8) 19 (λ h5=>?_) λ h5=>?_
  ·refine al 16 [.nw] [bq ((n:Int)+1)] λ _=>aj (rT a pa va b pb vb ((n:Int)+1) (n1+0) (n1+1) (n1+2) (n1+3) (n1+4) (n1+5) _ ha.up hb.up (aC 5) (aC 4) (aC 3) (aC 2) (aC 1) (aC 0))<|ae 2 [] λ _=>gE (pO a pa va b pb vb ((n:Int)+1)) 24 (λ h6=>?_) λ h6=>?_
   ·refine al 9 [.nw,.nw] [0 <= (n:Int) * 1024 /\ (0:Int) < 8 /\ (n:Int) * 1024 <= 9223372036854775807,bq ((n:Int) * 1024)] λ _=>RN.ret [] [] [] (v:=vI (((n:Int) * 1024) / 8)) (H':=[]) ?_
    refine ⟨?_,rfl⟩
    rw [lH,if_neg h2,<- hE_]
    rw [show 8 - n=(8 - (n+1))+1 by omega,pP,if_pos h6]
   ·refine al 8 [.nw] [bq ((n:Int)+1)] λ _=>?_
    refine mt4 (n+1) [0,1,2,3,4,5] [] ?_
    try dsimp only
    refine ⟨⟨by omega,?_⟩,by omega⟩
    rw [<- hE_,show 8 - n=(8 - (n+1))+1 by omega,pP,if_neg h6]
  ·refine ae 11 [] λ _=>RN.ret [] [] [] (v:=vI 1024) (H':=[]) ?_
   refine ⟨?_,rfl⟩
   rw [lH,if_neg h2,<- hE_]
   rw [show 8 - n=0 by omega,pP]
end Go.Proofs.YtghjbimijeinfaaGreatDoor
