import Derived.Test.YtghjbimijeinfaaGreatDoorY09
set_option maxHeartbeats 4000000
set_option maxRecDepth 100000
set_option linter.unusedSimpArgs false
set_option linter.unusedVariables false
namespace Go.Proofs.YtghjbimijeinfaaGreatDoor
open Go.RowKit
def fj (a:Shp) (pa:V2) (b:Shp) (pb:V2) (xs:List V2):Nat -> Con
 | 0=>⟨0,0,9223372036854775807⟩
 | i+1=>if md a pa b pb (xs.getD i ⟨0,0⟩) < (fj a pa b pb xs i).d then ⟨(xs.getD i ⟨0,0⟩).x,(xs.getD i ⟨0,0⟩).y,md a pa b pb (xs.getD i ⟨0,0⟩)⟩ else fj a pa b pb xs i
def iU (a:Shp) (pa:V2) (b:Shp) (pb:V2) (xs:List V2):Nat -> Bool
 | 0=>true
 | i+1=>iU a pa b pb xs i && !decide (md a pa b pb (xs.getD i ⟨0,0⟩) <= 0)
theorem uZ {a:Shp} {pa:V2} {b:Shp} {pb:V2} {xs:List V2} {i:Nat} (h:iU a pa b pb xs i=false):∀ k,iU a pa b pb xs (i+k)=false
 | 0=>h
 | k+1=>by rw [<- Nat.add_assoc,iU,uZ h k];rfl
def DA (pa pb:V2) (c:Con):Con:=if cW (di pb pa) ⟨c.nx,c.ny⟩ < 0 then ⟨(Bd ⟨c.nx,c.ny⟩).x,(Bd ⟨c.nx,c.ny⟩).y,c.d⟩ else c
def cw (a:Shp) (pa:V2) (b:Shp) (pb:V2):Con × Bool:=if LJ (dY a pa) (dY b pb) then (if iU a pa b pb (aG a pa b pb) (aG a pa b pb).length=true then (DA pa pb (fj a pa b pb (aG a pa b pb) (aG a pa b pb).length),true) else (⟨0,0,0⟩,false)) else (⟨0,0,0⟩,false)
theorem Hw {xs:List V2} {i:Nat} {x:V2} (h:xs[i]?=some x):xs.getD i ⟨0,0⟩=x:=by rw [List.getD_eq_getElem?_getD,h];rfl
theorem Hy (a:Shp) (pa:V2) (b:Shp) (pb:V2) (q1 q2 q3 q4:Nat) (F:HL) (ha:ShIn F a) (hb:ShIn F b) (hq1:(q1,.lit [vI a.r,.slice a.A a.poly.length a.cap] 101 (0,0)) ∈ F) (hq2:(q2,.lit [vI b.r,.slice b.A b.poly.length b.cap] 101 (0,0)) ∈ F) (hq3:(q3,.lit [vI pb.x,vI pb.y] 29 (0,0)) ∈ F) (hq4:(q4,.lit [vI pa.x,vI pa.y] 29 (0,0)) ∈ F) :
  It Tryz.prog 254 #[vP q1 0,vP q2 0,vP q3 0,vP q4 0] F Dm (aG a pa b pb):=by
 intro X l J Jx H0 hY h0
 have key:Sp Tryz.prog 254 #[.func (.yield l) #[] #[],vP q1 0,vP q2 0,vP q3 0,vP q4 0] (ap [] [H0]) (X++F) (λ _ H'=>J (aG a pa b pb).length H' \/ Jx H'):=by
  cases ha with
  | circle ra Aa ca =>
   cases hb with
   | circle rb Ab cb=>exact Hk pa pb ra rb ca cb Aa Ab q1 q2 q3 q4 l X F J Jx H0 hq1 hq2 hq3 hq4 hY h0
   | poly rb lb bb cb h h3 h4 h5=>exact Hm pa pb ra rb ca cb Aa lb bb q1 q2 q3 q4 l X F J Jx H0 hq1 hq2 hq3 hq4 h h3 h4 h5 hY h0
  | poly ra la ba ca g g3 g4 g5 =>
   cases hb with
   | circle rb Ab cb=>exact Hn pa pb ra rb ca cb la ba Ab q1 q2 q3 q4 l X F J Jx H0 hq1 hq2 hq3 hq4 g g3 g4 g5 hY h0
   | poly rb lb bb cb h h3 h4 h5=>exact Hs pa pb ra rb ca cb la ba lb bb q1 q2 q3 q4 l X F J Jx H0 hq1 hq2 hq3 hq4 g g3 g4 g5 h h3 h4 h5 hY h0
 rw [cU] at key
 exact key
theorem Bp (a:Shp) (pa:V2) (b:Shp) (pb:V2) (F:HL):Sp Tryz.prog 205 #[.agg #[vI a.r,.slice a.A a.poly.length a.cap],.agg #[vI pa.x,vI pa.y],.agg #[vI b.r,.slice b.A b.poly.length b.cap],.agg #[vI pb.x,vI pb.y]] [] F (λ u H'=>∃ n:Nat,H'=ap [((n+3),.lit [vI pb.x,vI pb.y] 29 (0,0)),((n+2),.lit [vI b.r,.slice b.A b.poly.length b.cap] 101 (0,0)),((n+1),.lit [vI pa.x,vI pa.y] 29 (0,0)),((n+0),.lit [vI a.r,.slice a.A a.poly.length a.cap] 101 (0,0))] [] /\ u=.func (.func 254) #[] #[vP (n+0) 0,vP (n+2) 0,vP (n+3) 0,vP (n+1) 0]):=by
 refine Sp.run Tryz.func205 rfl mn (A:=[]) (Ts:=[]) rfl λ w0=>?_
 refine ae 15 [] λ n1=>RN.ret [] [0,1,2,3] [] (v:=.func (.func 254) #[] #[vP (n1+0) 0,vP (n1+2) 0,vP (n1+3) 0,vP (n1+1) 0]) (H':=[((n1+3),.lit [vI pb.x,vI pb.y] 29 (0,0)),((n1+2),.lit [vI b.r,.slice b.A b.poly.length b.cap] 101 (0,0)),((n1+1),.lit [vI pa.x,vI pa.y] 29 (0,0)),((n1+0),.lit [vI a.r,.slice a.A a.poly.length a.cap] 101 (0,0))]) ?_
 exact ⟨_,rfl,rfl⟩
theorem DB (a:Shp) (pa:V2) (b:Shp) (pb:V2) (F:HL):Sp Tryz.prog 205 #[LI a,.agg #[vI pa.x,vI pa.y],LI b,.agg #[vI pb.x,vI pb.y]] (ap [] []) F (λ u H'=>∃ n:Nat,H'=ap [((n+3),.lit [vI pb.x,vI pb.y] 29 (0,0)),((n+2),.lit [vI b.r,.slice b.A b.poly.length b.cap] 101 (0,0)),((n+1),.lit [vI pa.x,vI pa.y] 29 (0,0)),((n+0),.lit [vI a.r,.slice a.A a.poly.length a.cap] 101 (0,0))] [] /\ u=.func (.func 254) #[] #[vP (n+0) 0,vP (n+2) 0,vP (n+3) 0,vP (n+1) 0]):=Bp a pa b pb F
theorem oJ (a:Shp) (pa:V2) (b:Shp) (pb:V2) (F:HL) (ha:ShIn F a) (hb:ShIn F b):Sp Tryz.prog 155 #[.agg #[vI a.r,.slice a.A a.poly.length a.cap],.agg #[vI pa.x,vI pa.y],.agg #[vI b.r,.slice b.A b.poly.length b.cap],.agg #[vI pb.x,vI pb.y]] [] F (λ u H'=>u=.tuple #[.agg #[vI (cw a pa b pb).1.nx,vI (cw a pa b pb).1.ny,vI (cw a pa b pb).1.d],.bool (cw a pa b pb).2] /\ H'=[]):=by
 refine Sp.runM Tryz.func155 rfl mn (A:=[]) (Ts:=[]) rfl λ w0=>?_
 refine ae 12 [] λ n1=>RN.draw [] []<|ag [] [0,1,3,4] [.own 5,.own 5,.own 4,.own 4,.own 3,.own 3,.own 2,.own 2]<|ar [] 2 (λ X_=>(pO a pa _ (ha.up.up)))<|ar [] 5 (λ X_=>(pO b pb _ (hb.up.up)))<|ar [] 6 (λ X_=>(Hb (dY a pa) (dY b pb)  _))<|ag [] [7] []<|RD.fin<|ae 1 [] λ _=>RN.en (LJ (dY a pa) (dY b pb)) 20 (λ h2=>?_) λ h2=>?_
 ·refine ae 17 [.own 0,.own 0,.own 0,.own 6,.own 6,.own 5,.own 5,.own 4,.own 4,.own 3,.own 3] λ n3=>RN.ct (Hp:=[]) (Tp:=[]) [] [] (DB a pa b pb _) ?_
  rintro _ m4 rfl
  refine ae 3 [] λ _=>RN.dn 4 (.lit [vI ((fj a pa b pb (aG a pa b pb) 0).nx),vI ((fj a pa b pb (aG a pa b pb) 0).ny),vI ((fj a pa b pb (aG a pa b pb) 0).d)] 278 (0,0))<|RN.range (σ:=Nat) (τ:=Nat × V2 × Nat) (encs:=λ (x_:V2)=>#[.agg #[vI x_.x,vI x_.y]]) (xs:=(aG a pa b pb)) (enters_of Tryz.func254 (by kernel_rfl) rfl) (λ m_=>([((n3+0),.lit [vI ((fj a pa b pb (aG a pa b pb) m_).nx),vI ((fj a pa b pb (aG a pa b pb) m_).ny),vI ((fj a pa b pb (aG a pa b pb) m_).d)] 278 (0,0)),((n1+5),.lit [.bool false] 4 (0,0)),((n1+4),.lit [vI 0,vI 0,vI 0] 278 (0,0))],[])) (λ i_ m_=>m_=i_ /\ iU a pa b pb (aG a pa b pb) m_=true) (λ c_ m_=>c_=Code.ret /\ iU a pa b pb (aG a pa b pb) (aG a pa b pb).length=false) (λ ⟨m_,y_,nb⟩=>⟨[(4,vP (n1+0) 0),(5,vP (n1+1) 0),(6,vP (n1+2) 0),(7,vP (n1+3) 0),(8,vP (n1+4) 0),(9,vP (n1+5) 0),(10,vP (n3+0) 0),(11,vP (nb+0) 0)],[((nb+0),.lit [vI y_.x,vI y_.y] 29 (0,0)),((n3+0),.lit [vI ((fj a pa b pb (aG a pa b pb) m_).nx),vI ((fj a pa b pb (aG a pa b pb) m_).ny),vI ((fj a pa b pb (aG a pa b pb) m_).d)] 278 (0,0)),((n1+5),.lit [.bool false] 4 (0,0)),((n1+4),.lit [vI 0,vI 0,vI 0] 278 (0,0))],[],True,0⟩) (λ i_ x_ ⟨m_,y_,nb⟩=>m_=i_ /\ iU a pa b pb (aG a pa b pb) m_=true /\ y_=x_) 0 (⟨rfl,rfl⟩) [4,5,6] [] (Hy a pa b pb (m4+0) (m4+2) (m4+3) (m4+1) _ ha.up hb.up (aB 3) (aB 1) (aB 0) (aB 2)) ?_ ?_ ?_ ?_
  ·rintro l_ i_ x_ m_ Y5 w6 hx7 hI_ mt8
   obtain ⟨rfl,hok⟩:=hI_
   refine ae 4 [.own 0,.own 0] λ n9=>?_
   refine mt8 (m_,x_,n9) [0,1,2,3] [] ?_
   try dsimp only
   exact ⟨rfl,hok,rfl⟩
  ·rintro l_ i_ x_ ⟨m_,y_,nb⟩ Y10 w11 hx12 hI_
   obtain ⟨rfl,hok,rfl⟩:=hI_
   have ex:=Hw hx12
   skip
   refine ae 8 [.ro 7,.ro 7,.ro 6,.ro 6,.ro 5,.ro 5,.ro 4,.ro 4,.own 0,.own 0] λ _=>aj (Bj a pa b pb y_ _ (ha.up.up.up) (hb.up.up.up))<|ae 10 [] λ _=>RN.em (md a pa b pb y_ <= 0) 36 (λ h13=>?_) λ h13=>?_
   ·refine ae 8 [.own 3,.own 3,.own 3,.own 2] λ _=>RN.rr m_ [1,2,3] [] ?_
    try dsimp only
    refine ⟨rfl,?_⟩
    have hl_:m_ < (aG a pa b pb).length:=(List.getElem?_eq_some_iff.1 hx12).1
    have h1_:iU a pa b pb (aG a pa b pb) (m_+1)=false:=by rw [iU,ex,hok,decide_eq_true h13];rfl
    have h2_:=uZ h1_ ((aG a pa b pb).length - (m_+1))
    rwa [show m_+1+((aG a pa b pb).length - (m_+1))=(aG a pa b pb).length by omega] at h2_
   ·refine ae 11 [.own 1] λ _=>RN.em (md a pa b pb y_ < (fj a pa b pb (aG a pa b pb) m_).d) 41 (λ h14=>?_) λ h14=>?_
    ·refine ae 8 [.own 0,.own 0,.own 1,.own 1,.own 1] λ _=>?_
     have hn1_:iU a pa b pb (aG a pa b pb) (m_+1)=true:=by rw [iU,ex,hok,decide_eq_false h13];rfl
     have e_:(fj a pa b pb (aG a pa b pb) (m_+1))=(⟨y_.x,y_.y,md a pa b pb y_⟩:Con):=by rw [fj,ex,if_pos h14]
     refine eI 1 (congrArg (λ v_=>(.lit [vI v_.nx,vI v_.ny,vI v_.d] 278 (0,0):Blk)) e_.symm)<|RN.rn (m_+1) [1,2,3] [] ?_
     try dsimp only
     exact ⟨rfl,hn1_⟩
    ·refine ae 3 [] λ _=>?_
     have hn1_:iU a pa b pb (aG a pa b pb) (m_+1)=true:=by rw [iU,ex,hok,decide_eq_false h13];rfl
     have e_:(fj a pa b pb (aG a pa b pb) (m_+1))=(fj a pa b pb (aG a pa b pb) m_):=by rw [fj,ex,if_neg h14]
     refine eI 1 (congrArg (λ v_=>(.lit [vI v_.nx,vI v_.ny,vI v_.d] 278 (0,0):Blk)) e_.symm)<|RN.rn (m_+1) [1,2,3] [] ?_
     try dsimp only
     exact ⟨rfl,hn1_⟩
  ·rintro d15 m_  hI_
   obtain ⟨rfl,hok⟩:=hI_
   refine ae 4 [] λ _=>RN.draw [] []<|ag [] [0,1,3,4] [.own 8,.own 8,.own 10,.own 10,.own 1,.own 1]<|ar [] 2 (λ X_=>(im pb pa  _))<|ar [] 5 (λ X_=>(mR (di pb pa) (⟨(fj a pa b pb (aG a pa b pb) (aG a pa b pb).length).nx,(fj a pa b pb (aG a pa b pb) (aG a pa b pb).length).ny⟩:V2)  _))<|ag [] [6] []<|RD.fin<|ae 1 [] λ _=>RN.em (cW (di pb pa) (⟨(fj a pa b pb (aG a pa b pb) (aG a pa b pb).length).nx,(fj a pa b pb (aG a pa b pb) (aG a pa b pb).length).ny⟩:V2) < 0) 51 (λ h16=>?_) λ h16=>?_
   ·refine ae 4 [.own 1,.own 1] λ _=>aj (De (⟨(fj a pa b pb (aG a pa b pb) (aG a pa b pb).length).nx,(fj a pa b pb (aG a pa b pb) (aG a pa b pb).length).ny⟩:V2)  _)<|ae 11 (ow 1 5++[.own 3,.own 3,.own 3,.own 2]) λ _=>RN.retM [d15] [0] [.own 2,.own 2,.own 2,.own 1] [] [] (v:=.tuple #[.agg #[vI ((Bd (⟨(fj a pa b pb (aG a pa b pb) (aG a pa b pb).length).nx,(fj a pa b pb (aG a pa b pb) (aG a pa b pb).length).ny⟩:V2)).x),vI ((Bd (⟨(fj a pa b pb (aG a pa b pb) (aG a pa b pb).length).nx,(fj a pa b pb (aG a pa b pb) (aG a pa b pb).length).ny⟩:V2)).y),vI ((fj a pa b pb (aG a pa b pb) (aG a pa b pb).length).d)],.bool true]) (H':=[]) ?_
    exact ⟨by simp only [cw,if_pos h2,hok,if_true,DA,if_pos h16],rfl⟩
   ·refine ae 10 [.own 1,.own 1,.own 1,.own 3,.own 3,.own 3,.own 2] λ _=>RN.retM [d15] [0] [.own 2,.own 2,.own 2,.own 1] [] [] (v:=.tuple #[.agg #[vI ((fj a pa b pb (aG a pa b pb) (aG a pa b pb).length).nx),vI ((fj a pa b pb (aG a pa b pb) (aG a pa b pb).length).ny),vI ((fj a pa b pb (aG a pa b pb) (aG a pa b pb).length).d)],.bool true]) (H':=[]) ?_
    exact ⟨by simp only [cw,if_pos h2,hok,if_true,DA,if_neg h16],rfl⟩
  ·rintro d17 c_ m_ ⟨rfl,hno⟩
   refine RN.retM [d17] [0] [.own 2,.own 2,.own 2,.own 1] [] [] (v:=.tuple #[.agg #[vI 0,vI 0,vI 0],.bool false]) (H':=[]) ?_
   exact ⟨by simp only [cw,if_pos h2,hno];rfl,rfl⟩
 ·refine ae 8 [.own 1,.own 1,.own 1,.own 0] λ _=>RN.retM [] [] [.own 1,.own 1,.own 1,.own 0] [] [] (v:=.tuple #[.agg #[vI 0,vI 0,vI 0],.bool false]) (H':=[]) ?_
  exact ⟨by simp only [cw,if_neg h2],rfl⟩
def nF (a:V2) (m:Int):V2:=⟨aF a.x (aY (0 - m)) m,aF a.y (aY (0 - m)) m⟩
def dL (m:Mot) (b:V2):Mot:=⟨m.px,m.py,(di ⟨m.vx,m.vy⟩ b).x,(di ⟨m.vx,m.vy⟩ b).y,m.inv⟩
def cF (m:Mot) (b:V2):Mot:=⟨m.px,m.py,(aC ⟨m.vx,m.vy⟩ b).x,(aC ⟨m.vx,m.vy⟩ b).y,m.inv⟩
def fg (m:Mot) (b:V2):Mot:=⟨(aC ⟨m.px,m.py⟩ b).x,(aC ⟨m.px,m.py⟩ b).y,m.vx,m.vy,m.inv⟩
def cY (m:Mot) (b:V2):Mot:=⟨(di ⟨m.px,m.py⟩ b).x,(di ⟨m.px,m.py⟩ b).y,m.vx,m.vy,m.inv⟩
def fX (m:Mot):Mot:=⟨(nF ⟨m.px,m.py⟩ 1048576).x,(nF ⟨m.px,m.py⟩ 1048576).y,(nF ⟨m.vx,m.vy⟩ 16384).x,(nF ⟨m.vx,m.vy⟩ 16384).y,m.inv⟩
def rsSp (a b:Mot) (c:Con):Int:=cW (di ⟨b.vx,b.vy⟩ ⟨a.vx,a.vy⟩) ⟨c.nx,c.ny⟩
def Jv (a b:Mot) (c:Con) (rest:Int):Int:=av (aY (0 - rsSp a b c)) (aY (1024+rest)) (aY (a.inv+b.inv))
def NR (a b:Mot) (c:Con) (rest:Int):Mot:=if rsSp a b c < 0 then dL a (ao ⟨c.nx,c.ny⟩ (fQ (Jv a b c rest) a.inv)) else a
def NS (a b:Mot) (c:Con) (rest:Int):Mot:=if rsSp a b c < 0 then cF b (ao ⟨c.nx,c.ny⟩ (fQ (Jv a b c rest) b.inv)) else b
def cy (a b:Mot) (c:Con) (rest:Int):Mot × Mot:=if aY (a.inv+b.inv)=0 then (a,b) else (fX (cY (NR a b c rest) (ao ⟨c.nx,c.ny⟩ (av c.d a.inv (aY (a.inv+b.inv))))),fX (fg (NS a b c rest) (ao ⟨c.nx,c.ny⟩ (av c.d b.inv (aY (a.inv+b.inv))))))
theorem pV (a:V2) (m:Int)  (F:HL):Sp Tryz.prog 261 #[.agg #[vI a.x,vI a.y],vI m] [] F (λ u H'=>u=.agg #[vI ((nF a m).x),vI ((nF a m).y)] /\ H'=[]):=by
 refine Sp.run Tryz.func261 rfl mn (A:=[]) (Ts:=[]) rfl λ w0=>?_
 refine ae 7 [] λ n1=>RN.draw [13] []<|ag [] [0,2,4,6,8,10,1,3,7,9] [.own 1,.own 1]<|ar [] 5 (λ X_=>(cz a.x (IntKind.i64.wrap (0 - m)) m  _))<|ar [] 11 (λ X_=>(cz a.y (IntKind.i64.wrap (0 - m)) m  _))<|ag [] [12] []<|RD.one 13 (RDO.ev [] [.own 0,.own 0] λ _=>?_)
 refine RD.fin<|ae 1 [] λ _=>?_
 exact RN.ret [.own 0,.own 0] [] [] ⟨rfl,rfl⟩
theorem tN (m:Mot) (b:V2) (q:Nat) (F:HL):Sp Tryz.prog 212 #[vP q 0,.agg #[vI b.x,vI b.y]] [(q,.lit [vI m.px,vI m.py,vI m.vx,vI m.vy,vI m.inv] 337 (0,0))] F (λ u H'=>∃ x:Unit,H'=ap [(q,.lit [vI ((dL m b).px),vI ((dL m b).py),vI ((dL m b).vx),vI ((dL m b).vy),vI ((dL m b).inv)] 337 (0,0))] [] /\ True):=by
 refine Sp.run Tryz.func212 rfl mn (A:=[(q,.lit [vI m.px,vI m.py,vI m.vx,vI m.vy,vI m.inv] 337 (0,0))]) (Ts:=[]) rfl λ w0=>?_
 refine ae 5 [] λ n1=>RN.draw [11] []<|ag [] [0,1,6,2,3,4,5] [.own 0,.own 0,.own 1,.own 1]<|ar [] 7 (λ X_=>(im (⟨m.vx,m.vy⟩:V2) b  _))<|ag [] [8,9,10] []<|RD.one 11 (RDO.ev [] [.own 1,.own 1] λ _=>?_)
 refine RD.fin<|RN.ret [] [1] [] (v:=.tuple #[]) (H':=(ap [(q,.lit [vI m.px,vI m.py,vI ((di (⟨m.vx,m.vy⟩:V2) b).x),vI ((di (⟨m.vx,m.vy⟩:V2) b).y),vI m.inv] 337 (0,0))] [])) ?_
 exact ⟨(),rfl,trivial⟩
theorem u9 (m:Mot) (b:V2) (q:Nat) (F:HL):Sp Tryz.prog 212 #[vP q 0,.agg #[vI b.x,vI b.y]] (ap [(q,.lit [vI m.px,vI m.py,vI m.vx,vI m.vy,vI m.inv] 337 (0,0))] []) F (λ u H'=>∃ x:Unit,H'=ap [(q,.lit [vI ((dL m b).px),vI ((dL m b).py),vI ((dL m b).vx),vI ((dL m b).vy),vI ((dL m b).inv)] 337 (0,0))] [] /\ True):=by
 have e:ap [(q,.lit [vI m.px,vI m.py,vI m.vx,vI m.vy,vI m.inv] 337 (0,0))] []=[(q,.lit [vI m.px,vI m.py,vI m.vx,vI m.vy,vI m.inv] 337 (0,0))]:=by simp
 rw [e]
 exact tN m b q F
theorem vc (m:Mot) (b:V2) (q:Nat) (F:HL):Sp Tryz.prog 213 #[vP q 0,.agg #[vI b.x,vI b.y]] [(q,.lit [vI m.px,vI m.py,vI m.vx,vI m.vy,vI m.inv] 337 (0,0))] F (λ u H'=>∃ x:Unit,H'=ap [(q,.lit [vI ((cF m b).px),vI ((cF m b).py),vI ((cF m b).vx),vI ((cF m b).vy),vI ((cF m b).inv)] 337 (0,0))] [] /\ True):=by
 refine Sp.run Tryz.func213 rfl mn (A:=[(q,.lit [vI m.px,vI m.py,vI m.vx,vI m.vy,vI m.inv] 337 (0,0))]) (Ts:=[]) rfl λ w0=>?_
 refine ae 5 [] λ n1=>RN.draw [11] []<|ag [] [0,1,6,2,3,4,5] [.own 0,.own 0,.own 1,.own 1]<|ar [] 7 (λ X_=>(dT (⟨m.vx,m.vy⟩:V2) b  _))<|ag [] [8,9,10] []<|RD.one 11 (RDO.ev [] [.own 1,.own 1] λ _=>?_)
 refine RD.fin<|RN.ret [] [1] [] (v:=.tuple #[]) (H':=(ap [(q,.lit [vI m.px,vI m.py,vI ((aC (⟨m.vx,m.vy⟩:V2) b).x),vI ((aC (⟨m.vx,m.vy⟩:V2) b).y),vI m.inv] 337 (0,0))] [])) ?_
 exact ⟨(),rfl,trivial⟩
theorem xF (m:Mot) (b:V2) (q:Nat) (F:HL):Sp Tryz.prog 213 #[vP q 0,.agg #[vI b.x,vI b.y]] (ap [(q,.lit [vI m.px,vI m.py,vI m.vx,vI m.vy,vI m.inv] 337 (0,0))] []) F (λ u H'=>∃ x:Unit,H'=ap [(q,.lit [vI ((cF m b).px),vI ((cF m b).py),vI ((cF m b).vx),vI ((cF m b).vy),vI ((cF m b).inv)] 337 (0,0))] [] /\ True):=by
 have e:ap [(q,.lit [vI m.px,vI m.py,vI m.vx,vI m.vy,vI m.inv] 337 (0,0))] []=[(q,.lit [vI m.px,vI m.py,vI m.vx,vI m.vy,vI m.inv] 337 (0,0))]:=by simp
 rw [e]
 exact vc m b q F
theorem vd (m:Mot) (b:V2) (q:Nat) (F:HL):Sp Tryz.prog 215 #[vP q 0,.agg #[vI b.x,vI b.y]] [(q,.lit [vI m.px,vI m.py,vI m.vx,vI m.vy,vI m.inv] 337 (0,0))] F (λ u H'=>∃ x:Unit,H'=ap [(q,.lit [vI ((fg m b).px),vI ((fg m b).py),vI ((fg m b).vx),vI ((fg m b).vy),vI ((fg m b).inv)] 337 (0,0))] [] /\ True):=by
 refine Sp.run Tryz.func215 rfl mn (A:=[(q,.lit [vI m.px,vI m.py,vI m.vx,vI m.vy,vI m.inv] 337 (0,0))]) (Ts:=[]) rfl λ w0=>?_
 refine ae 5 [] λ n1=>RN.draw [11] []<|ag [] [0,1,6,2,3,4,5] [.own 0,.own 0,.own 1,.own 1]<|ar [] 7 (λ X_=>(dT (⟨m.px,m.py⟩:V2) b  _))<|ag [] [8,9,10] []<|RD.one 11 (RDO.ev [] [.own 1,.own 1] λ _=>?_)
 refine RD.fin<|RN.ret [] [1] [] (v:=.tuple #[]) (H':=(ap [(q,.lit [vI ((aC (⟨m.px,m.py⟩:V2) b).x),vI ((aC (⟨m.px,m.py⟩:V2) b).y),vI m.vx,vI m.vy,vI m.inv] 337 (0,0))] [])) ?_
 exact ⟨(),rfl,trivial⟩
theorem xG (m:Mot) (b:V2) (q:Nat) (F:HL):Sp Tryz.prog 215 #[vP q 0,.agg #[vI b.x,vI b.y]] (ap [(q,.lit [vI m.px,vI m.py,vI m.vx,vI m.vy,vI m.inv] 337 (0,0))] []) F (λ u H'=>∃ x:Unit,H'=ap [(q,.lit [vI ((fg m b).px),vI ((fg m b).py),vI ((fg m b).vx),vI ((fg m b).vy),vI ((fg m b).inv)] 337 (0,0))] [] /\ True):=by
 have e:ap [(q,.lit [vI m.px,vI m.py,vI m.vx,vI m.vy,vI m.inv] 337 (0,0))] []=[(q,.lit [vI m.px,vI m.py,vI m.vx,vI m.vy,vI m.inv] 337 (0,0))]:=by simp
 rw [e]
 exact vd m b q F
theorem ve (m:Mot) (b:V2) (q:Nat) (F:HL):Sp Tryz.prog 214 #[vP q 0,.agg #[vI b.x,vI b.y]] [(q,.lit [vI m.px,vI m.py,vI m.vx,vI m.vy,vI m.inv] 337 (0,0))] F (λ u H'=>∃ x:Unit,H'=ap [(q,.lit [vI ((cY m b).px),vI ((cY m b).py),vI ((cY m b).vx),vI ((cY m b).vy),vI ((cY m b).inv)] 337 (0,0))] [] /\ True):=by
 refine Sp.run Tryz.func214 rfl mn (A:=[(q,.lit [vI m.px,vI m.py,vI m.vx,vI m.vy,vI m.inv] 337 (0,0))]) (Ts:=[]) rfl λ w0=>?_
 refine ae 5 [] λ n1=>RN.draw [11] []<|ag [] [0,1,6,2,3,4,5] [.own 0,.own 0,.own 1,.own 1]<|ar [] 7 (λ X_=>(im (⟨m.px,m.py⟩:V2) b  _))<|ag [] [8,9,10] []<|RD.one 11 (RDO.ev [] [.own 1,.own 1] λ _=>?_)
 refine RD.fin<|RN.ret [] [1] [] (v:=.tuple #[]) (H':=(ap [(q,.lit [vI ((di (⟨m.px,m.py⟩:V2) b).x),vI ((di (⟨m.px,m.py⟩:V2) b).y),vI m.vx,vI m.vy,vI m.inv] 337 (0,0))] [])) ?_
 exact ⟨(),rfl,trivial⟩
theorem xH (m:Mot) (b:V2) (q:Nat) (F:HL):Sp Tryz.prog 214 #[vP q 0,.agg #[vI b.x,vI b.y]] (ap [(q,.lit [vI m.px,vI m.py,vI m.vx,vI m.vy,vI m.inv] 337 (0,0))] []) F (λ u H'=>∃ x:Unit,H'=ap [(q,.lit [vI ((cY m b).px),vI ((cY m b).py),vI ((cY m b).vx),vI ((cY m b).vy),vI ((cY m b).inv)] 337 (0,0))] [] /\ True):=by
 have e:ap [(q,.lit [vI m.px,vI m.py,vI m.vx,vI m.vy,vI m.inv] 337 (0,0))] []=[(q,.lit [vI m.px,vI m.py,vI m.vx,vI m.vy,vI m.inv] 337 (0,0))]:=by simp
 rw [e]
 exact ve m b q F
theorem iV (m:Mot) (q:Nat) (F:HL) (hq:(q,.lit [vI m.px,vI m.py,vI m.vx,vI m.vy,vI m.inv] 337 (0,0)) ∈ F):Sp Tryz.prog 216 #[vP q 0] [] F (λ u H'=>u=.agg #[vI ((fX m).px),vI ((fX m).py),vI ((fX m).vx),vI ((fX m).vy),vI ((fX m).inv)] /\ H'=[]):=by
 refine Sp.run Tryz.func216 rfl (mc hq mn) (A:=[]) (Ts:=[]) rfl λ w0=>?_
 refine ae 6 [] λ n1=>RN.draw [18] []<|ag [] [0,6,12,1,7,13,2,8,14,3,9,15,4,10,16] [.ro 0,.ro 0,.ro 0,.ro 0,.ro 0]<|ar [] 5 (λ X_=>(pV (⟨m.px,m.py⟩:V2) 1048576  _))<|ar [] 11 (λ X_=>(pV (⟨m.vx,m.vy⟩:V2) 16384  _))<|ag [] [17] []<|RD.one 18 (RDO.ev [] (ow 0 5) λ _=>?_)
 refine RD.fin<|ae 1 [] λ _=>?_
 exact RN.ret (ow 0 5) [] [] ⟨rfl,rfl⟩
theorem tP (m:Mot) (c:Con) (am:Int) (q qc:Nat) (F:HL) (hc:(qc,.lit [vI c.nx,vI c.ny,vI c.d] 278 (0,0)) ∈ F):Sp Tryz.prog 210 #[.func (.func 212) #[vP q 0] #[],vI am,vP qc 0] (ap [(q,.lit [vI m.px,vI m.py,vI m.vx,vI m.vy,vI m.inv] 337 (0,0))] []) F (λ u H'=>∃ x:Unit,H'=ap [(q,.lit [vI ((dL m (ao ⟨c.nx,c.ny⟩ am)).px),vI ((dL m (ao ⟨c.nx,c.ny⟩ am)).py),vI ((dL m (ao ⟨c.nx,c.ny⟩ am)).vx),vI ((dL m (ao ⟨c.nx,c.ny⟩ am)).vy),vI ((dL m (ao ⟨c.nx,c.ny⟩ am)).inv)] 337 (0,0))] [] /\ True):=by
 refine Sp.run Tryz.func210 rfl (mc hc mn) (A:=[(q,.lit [vI m.px,vI m.py,vI m.vx,vI m.vy,vI m.inv] 337 (0,0))]) (Ts:=[]) rfl λ w0=>?_
 refine ae 5 [.ro 0,.ro 0] λ _=>aj (eH (⟨c.nx,c.ny⟩:V2) am  _)<|RN.ct [0] [] (u9 m (ao (⟨c.nx,c.ny⟩:V2) am) q _) ?_
 rintro _ _ _
 refine ae 1 [] λ _=>RN.ret [] [0] [] (v:=.tuple #[]) (H':=(ap [(q,.lit [vI ((dL m (ao (⟨c.nx,c.ny⟩:V2) am)).px),vI ((dL m (ao (⟨c.nx,c.ny⟩:V2) am)).py),vI ((dL m (ao (⟨c.nx,c.ny⟩:V2) am)).vx),vI ((dL m (ao (⟨c.nx,c.ny⟩:V2) am)).vy),vI ((dL m (ao (⟨c.nx,c.ny⟩:V2) am)).inv)] 337 (0,0))] [])) ?_
 exact ⟨(),rfl,trivial⟩
theorem vf (m:Mot) (c:Con) (am:Int) (q qc:Nat) (F:HL) (hc:(qc,.lit [vI c.nx,vI c.ny,vI c.d] 278 (0,0)) ∈ F):Sp Tryz.prog 210 #[.func (.func 213) #[vP q 0] #[],vI am,vP qc 0] (ap [(q,.lit [vI m.px,vI m.py,vI m.vx,vI m.vy,vI m.inv] 337 (0,0))] []) F (λ u H'=>∃ x:Unit,H'=ap [(q,.lit [vI ((cF m (ao ⟨c.nx,c.ny⟩ am)).px),vI ((cF m (ao ⟨c.nx,c.ny⟩ am)).py),vI ((cF m (ao ⟨c.nx,c.ny⟩ am)).vx),vI ((cF m (ao ⟨c.nx,c.ny⟩ am)).vy),vI ((cF m (ao ⟨c.nx,c.ny⟩ am)).inv)] 337 (0,0))] [] /\ True):=by
 refine Sp.run Tryz.func210 rfl (mc hc mn) (A:=[(q,.lit [vI m.px,vI m.py,vI m.vx,vI m.vy,vI m.inv] 337 (0,0))]) (Ts:=[]) rfl λ w0=>?_
 refine ae 5 [.ro 0,.ro 0] λ _=>aj (eH (⟨c.nx,c.ny⟩:V2) am  _)<|RN.ct [0] [] (xF m (ao (⟨c.nx,c.ny⟩:V2) am) q _) ?_
 rintro _ _ _
 refine ae 1 [] λ _=>RN.ret [] [0] [] (v:=.tuple #[]) (H':=(ap [(q,.lit [vI ((cF m (ao (⟨c.nx,c.ny⟩:V2) am)).px),vI ((cF m (ao (⟨c.nx,c.ny⟩:V2) am)).py),vI ((cF m (ao (⟨c.nx,c.ny⟩:V2) am)).vx),vI ((cF m (ao (⟨c.nx,c.ny⟩:V2) am)).vy),vI ((cF m (ao (⟨c.nx,c.ny⟩:V2) am)).inv)] 337 (0,0))] [])) ?_
 exact ⟨(),rfl,trivial⟩
theorem oK (m:Mot) (c:Con) (am:Int) (q qc:Nat) (F:HL) (hc:(qc,.lit [vI c.nx,vI c.ny,vI c.d] 278 (0,0)) ∈ F):Sp Tryz.prog 210 #[.func (.func 215) #[vP q 0] #[],vI am,vP qc 0] (ap [(q,.lit [vI m.px,vI m.py,vI m.vx,vI m.vy,vI m.inv] 337 (0,0))] []) F (λ u H'=>∃ x:Unit,H'=ap [(q,.lit [vI ((fg m (ao ⟨c.nx,c.ny⟩ am)).px),vI ((fg m (ao ⟨c.nx,c.ny⟩ am)).py),vI ((fg m (ao ⟨c.nx,c.ny⟩ am)).vx),vI ((fg m (ao ⟨c.nx,c.ny⟩ am)).vy),vI ((fg m (ao ⟨c.nx,c.ny⟩ am)).inv)] 337 (0,0))] [] /\ True):=by
 refine Sp.run Tryz.func210 rfl (mc hc mn) (A:=[(q,.lit [vI m.px,vI m.py,vI m.vx,vI m.vy,vI m.inv] 337 (0,0))]) (Ts:=[]) rfl λ w0=>?_
 refine ae 5 [.ro 0,.ro 0] λ _=>aj (eH (⟨c.nx,c.ny⟩:V2) am  _)<|RN.ct [0] [] (xG m (ao (⟨c.nx,c.ny⟩:V2) am) q _) ?_
 rintro _ _ _
 refine ae 1 [] λ _=>RN.ret [] [0] [] (v:=.tuple #[]) (H':=(ap [(q,.lit [vI ((fg m (ao (⟨c.nx,c.ny⟩:V2) am)).px),vI ((fg m (ao (⟨c.nx,c.ny⟩:V2) am)).py),vI ((fg m (ao (⟨c.nx,c.ny⟩:V2) am)).vx),vI ((fg m (ao (⟨c.nx,c.ny⟩:V2) am)).vy),vI ((fg m (ao (⟨c.nx,c.ny⟩:V2) am)).inv)] 337 (0,0))] [])) ?_
 exact ⟨(),rfl,trivial⟩
theorem oL (m:Mot) (c:Con) (am:Int) (q qc:Nat) (F:HL) (hc:(qc,.lit [vI c.nx,vI c.ny,vI c.d] 278 (0,0)) ∈ F):Sp Tryz.prog 210 #[.func (.func 214) #[vP q 0] #[],vI am,vP qc 0] (ap [(q,.lit [vI m.px,vI m.py,vI m.vx,vI m.vy,vI m.inv] 337 (0,0))] []) F (λ u H'=>∃ x:Unit,H'=ap [(q,.lit [vI ((cY m (ao ⟨c.nx,c.ny⟩ am)).px),vI ((cY m (ao ⟨c.nx,c.ny⟩ am)).py),vI ((cY m (ao ⟨c.nx,c.ny⟩ am)).vx),vI ((cY m (ao ⟨c.nx,c.ny⟩ am)).vy),vI ((cY m (ao ⟨c.nx,c.ny⟩ am)).inv)] 337 (0,0))] [] /\ True):=by
 refine Sp.run Tryz.func210 rfl (mc hc mn) (A:=[(q,.lit [vI m.px,vI m.py,vI m.vx,vI m.vy,vI m.inv] 337 (0,0))]) (Ts:=[]) rfl λ w0=>?_
 refine ae 5 [.ro 0,.ro 0] λ _=>aj (eH (⟨c.nx,c.ny⟩:V2) am  _)<|RN.ct [0] [] (xH m (ao (⟨c.nx,c.ny⟩:V2) am) q _) ?_
 rintro _ _ _
 refine ae 1 [] λ _=>RN.ret [] [0] [] (v:=.tuple #[]) (H':=(ap [(q,.lit [vI ((cY m (ao (⟨c.nx,c.ny⟩:V2) am)).px),vI ((cY m (ao (⟨c.nx,c.ny⟩:V2) am)).py),vI ((cY m (ao (⟨c.nx,c.ny⟩:V2) am)).vx),vI ((cY m (ao (⟨c.nx,c.ny⟩:V2) am)).vy),vI ((cY m (ao (⟨c.nx,c.ny⟩:V2) am)).inv)] 337 (0,0))] [])) ?_
 exact ⟨(),rfl,trivial⟩
theorem vg (a b:Mot) (c:Con) (rest:Int) (F:HL):Sp Tryz.prog 156 #[.agg #[vI a.px,vI a.py,vI a.vx,vI a.vy,vI a.inv],.agg #[vI b.px,vI b.py,vI b.vx,vI b.vy,vI b.inv],.agg #[vI c.nx,vI c.ny,vI c.d],vI rest] [] F (λ u H'=>u=.tuple #[.agg #[vI (((cy a b c rest).1).px),vI (((cy a b c rest).1).py),vI (((cy a b c rest).1).vx),vI (((cy a b c rest).1).vy),vI (((cy a b c rest).1).inv)],.agg #[vI (((cy a b c rest).2).px),vI (((cy a b c rest).2).py),vI (((cy a b c rest).2).vx),vI (((cy a b c rest).2).vy),vI (((cy a b c rest).2).inv)]] /\ H'=[]):=by
 refine Sp.run Tryz.func156 rfl mn (A:=[]) (Ts:=[]) rfl λ w0=>?_
 refine ae 26 [.own 4,.own 3] λ n1=>RN.em (IntKind.i64.wrap (a.inv+b.inv)=0) 22 (λ h2=>?_) λ h2=>?_
 ·refine ae 2 [] λ _=>RN.draw [2,3] [2,3,4]<|ag [2,3,4] [0,1] (ow 4 5++[.ro 1,.ro 1,.ro 1,.ro 1,.ro 1])<|RD.one 2 (RDO.ev [2,3,4] (ow 1 5) λ _=>?_)
  refine RD.one 3 (RDO.ev [2,3,4] (ow 0 5) λ _=>?_)
  refine RD.fin<|ae 1 [] λ _=>RN.ret (ow 1 5++ow 0 5) [] [] (v:=.tuple #[.agg #[vI a.px,vI a.py,vI a.vx,vI a.vy,vI a.inv],.agg #[vI b.px,vI b.py,vI b.vx,vI b.vy,vI b.inv]]) (H':=[]) ?_
  refine ⟨?_,rfl⟩
  rw [show cy a b c rest=(a,b) from if_pos (show aY (a.inv+b.inv)=0 from h2)]
 ·refine ae 4 [] λ _=>RN.draw [6,7] [0,1,2,3,4]<|ag [0,1,2,3,4] [0,2,1,3] (ow 4 5++[.ro 3,.ro 3,.ro 3,.ro 3,.ro 3])<|il (σ:=Nat × Nat) (λ ⟨n5,n6⟩=>⟨[(3,vI rest),(4,vP (n1+0) 0),(5,vP (n1+1) 0),(6,vP (n1+2) 0),(8,vP (n1+3) 0),(9,vP (n1+4) 0),(10,vI (IntKind.i64.wrap (a.inv+b.inv))),(11,vP (n5+0) 0),(12,vP (n6+0) 0)],[((n6+0),.lit [vI b.px,vI b.py,vI b.vx,vI b.vy,vI b.inv] 337 (0,0)),((n5+0),.lit [vI a.px,vI a.py,vI a.vx,vI a.vy,vI a.inv] 337 (0,0)),((n1+4),.lit [vI 0,vI 0,vI 0,vI 0,vI 0] 104 (0,0)),((n1+3),.lit [vI 0,vI 0,vI 0,vI 0,vI 0] 104 (0,0)),((n1+2),.lit [vI c.nx,vI c.ny,vI c.d] 278 (0,0)),((n1+1),.lit [vI b.px,vI b.py,vI b.vx,vI b.vy,vI b.inv] 104 (0,0)),((n1+0),.lit [vI a.px,vI a.py,vI a.vx,vI a.vy,vI a.inv] 104 (0,0))],[],True,0⟩) ?_ ?_
  ·rintro ⟨n5,n6⟩
   refine ae 9 [] λ _=>RN.draw [] []<|ag [] [0,2,5,1,3,6] [.own 5,.own 5,.own 6,.own 6,.own 4,.own 4]<|ar [] 4 (λ X_=>(im (⟨b.vx,b.vy⟩:V2) (⟨a.vx,a.vy⟩:V2)  _))<|ar [] 7 (λ X_=>(mR (di (⟨b.vx,b.vy⟩:V2) (⟨a.vx,a.vy⟩:V2)) (⟨c.nx,c.ny⟩:V2)  _))<|ag [] [8] []<|RD.fin<|ae 7 [] λ _=>RN.em (cW (di (⟨b.vx,b.vy⟩:V2) (⟨a.vx,a.vy⟩:V2)) (⟨c.nx,c.ny⟩:V2) < 0) 39 (λ h7=>?_) λ h7=>?_
   ·refine ae 8 [] λ _=>aj (fW (IntKind.i64.wrap (0 - (cW (di (⟨b.vx,b.vy⟩:V2) (⟨a.vx,a.vy⟩:V2)) (⟨c.nx,c.ny⟩:V2)))) (IntKind.i64.wrap (1024+rest)) (IntKind.i64.wrap (a.inv+b.inv))  _)<|ae 10 [.own 6] λ _=>aj (mQ (av (IntKind.i64.wrap (0 - (cW (di (⟨b.vx,b.vy⟩:V2) (⟨a.vx,a.vy⟩:V2)) (⟨c.nx,c.ny⟩:V2)))) (IntKind.i64.wrap (1024+rest)) (IntKind.i64.wrap (a.inv+b.inv))) a.inv  _)<|RN.ct [1] [] (tP a c (fQ (av (IntKind.i64.wrap (0 - (cW (di (⟨b.vx,b.vy⟩:V2) (⟨a.vx,a.vy⟩:V2)) (⟨c.nx,c.ny⟩:V2)))) (IntKind.i64.wrap (1024+rest)) (IntKind.i64.wrap (a.inv+b.inv))) a.inv) (n5+0) (n1+2) _ (aB 3)) ?_
    rintro _ _ _
    refine ae 8 [.own 5] λ _=>aj (mQ (av (IntKind.i64.wrap (0 - (cW (di (⟨b.vx,b.vy⟩:V2) (⟨a.vx,a.vy⟩:V2)) (⟨c.nx,c.ny⟩:V2)))) (IntKind.i64.wrap (1024+rest)) (IntKind.i64.wrap (a.inv+b.inv))) b.inv  _)<|RN.ct [1] [] (vf b c (fQ (av (IntKind.i64.wrap (0 - (cW (di (⟨b.vx,b.vy⟩:V2) (⟨a.vx,a.vy⟩:V2)) (⟨c.nx,c.ny⟩:V2)))) (IntKind.i64.wrap (1024+rest)) (IntKind.i64.wrap (a.inv+b.inv))) b.inv) (n6+0) (n1+2) _ (aB 3)) ?_
    rintro _ _ _
    refine ae 11 [.own 4,.own 6] λ _=>aj (fW c.d a.inv (IntKind.i64.wrap (a.inv+b.inv))  _)<|RN.ct [1] [] (oL (dL a (ao ⟨c.nx,c.ny⟩ (fQ (av (IntKind.i64.wrap (0 - (cW (di (⟨b.vx,b.vy⟩:V2) (⟨a.vx,a.vy⟩:V2)) (⟨c.nx,c.ny⟩:V2)))) (IntKind.i64.wrap (1024+rest)) (IntKind.i64.wrap (a.inv+b.inv))) a.inv))) c (av c.d a.inv (IntKind.i64.wrap (a.inv+b.inv))) (n5+0) (n1+2) _ (aB 3)) ?_
    rintro _ _ _
    refine ae 11 [.own 4,.own 5] λ _=>aj (fW c.d b.inv (IntKind.i64.wrap (a.inv+b.inv))  _)<|RN.ct [1] [] (oK (cF b (ao ⟨c.nx,c.ny⟩ (fQ (av (IntKind.i64.wrap (0 - (cW (di (⟨b.vx,b.vy⟩:V2) (⟨a.vx,a.vy⟩:V2)) (⟨c.nx,c.ny⟩:V2)))) (IntKind.i64.wrap (1024+rest)) (IntKind.i64.wrap (a.inv+b.inv))) b.inv))) c (av c.d b.inv (IntKind.i64.wrap (a.inv+b.inv))) (n6+0) (n1+2) _ (aB 3)) ?_
    rintro _ _ _
    refine ae 4 [] λ _=>aj (iV (cY (dL a (ao ⟨c.nx,c.ny⟩ (fQ (av (IntKind.i64.wrap (0 - (cW (di (⟨b.vx,b.vy⟩:V2) (⟨a.vx,a.vy⟩:V2)) (⟨c.nx,c.ny⟩:V2)))) (IntKind.i64.wrap (1024+rest)) (IntKind.i64.wrap (a.inv+b.inv))) a.inv))) (ao ⟨c.nx,c.ny⟩ (av c.d a.inv (IntKind.i64.wrap (a.inv+b.inv))))) (n5+0) _ (aB 1))<|aj (iV (fg (cF b (ao ⟨c.nx,c.ny⟩ (fQ (av (IntKind.i64.wrap (0 - (cW (di (⟨b.vx,b.vy⟩:V2) (⟨a.vx,a.vy⟩:V2)) (⟨c.nx,c.ny⟩:V2)))) (IntKind.i64.wrap (1024+rest)) (IntKind.i64.wrap (a.inv+b.inv))) b.inv))) (ao ⟨c.nx,c.ny⟩ (av c.d b.inv (IntKind.i64.wrap (a.inv+b.inv))))) (n6+0) _ (aB 0))<|ae 4 (ow 3 5++ow 2 5) λ _=>RN.ret (ow 3 5++ow 2 5) [] [] (v:=.tuple #[.agg #[vI ((fX (cY (dL a (ao ⟨c.nx,c.ny⟩ (fQ (av (IntKind.i64.wrap (0 - (cW (di (⟨b.vx,b.vy⟩:V2) (⟨a.vx,a.vy⟩:V2)) (⟨c.nx,c.ny⟩:V2)))) (IntKind.i64.wrap (1024+rest)) (IntKind.i64.wrap (a.inv+b.inv))) a.inv))) (ao ⟨c.nx,c.ny⟩ (av c.d a.inv (IntKind.i64.wrap (a.inv+b.inv)))))).px),vI ((fX (cY (dL a (ao ⟨c.nx,c.ny⟩ (fQ (av (IntKind.i64.wrap (0 - (cW (di (⟨b.vx,b.vy⟩:V2) (⟨a.vx,a.vy⟩:V2)) (⟨c.nx,c.ny⟩:V2)))) (IntKind.i64.wrap (1024+rest)) (IntKind.i64.wrap (a.inv+b.inv))) a.inv))) (ao ⟨c.nx,c.ny⟩ (av c.d a.inv (IntKind.i64.wrap (a.inv+b.inv)))))).py),vI ((fX (cY (dL a (ao ⟨c.nx,c.ny⟩ (fQ (av (IntKind.i64.wrap (0 - (cW (di (⟨b.vx,b.vy⟩:V2) (⟨a.vx,a.vy⟩:V2)) (⟨c.nx,c.ny⟩:V2)))) (IntKind.i64.wrap (1024+rest)) (IntKind.i64.wrap (a.inv+b.inv))) a.inv))) (ao ⟨c.nx,c.ny⟩ (av c.d a.inv (IntKind.i64.wrap (a.inv+b.inv)))))).vx),vI ((fX (cY (dL a (ao ⟨c.nx,c.ny⟩ (fQ (av (IntKind.i64.wrap (0 - (cW (di (⟨b.vx,b.vy⟩:V2) (⟨a.vx,a.vy⟩:V2)) (⟨c.nx,c.ny⟩:V2)))) (IntKind.i64.wrap (1024+rest)) (IntKind.i64.wrap (a.inv+b.inv))) a.inv))) (ao ⟨c.nx,c.ny⟩ (av c.d a.inv (IntKind.i64.wrap (a.inv+b.inv)))))).vy),vI ((fX (cY (dL a (ao ⟨c.nx,c.ny⟩ (fQ (av (IntKind.i64.wrap (0 - (cW (di (⟨b.vx,b.vy⟩:V2) (⟨a.vx,a.vy⟩:V2)) (⟨c.nx,c.ny⟩:V2)))) (IntKind.i64.wrap (1024+rest)) (IntKind.i64.wrap (a.inv+b.inv))) a.inv))) (ao ⟨c.nx,c.ny⟩ (av c.d a.inv (IntKind.i64.wrap (a.inv+b.inv)))))).inv)],.agg #[vI ((fX (fg (cF b (ao ⟨c.nx,c.ny⟩ (fQ (av (IntKind.i64.wrap (0 - (cW (di (⟨b.vx,b.vy⟩:V2) (⟨a.vx,a.vy⟩:V2)) (⟨c.nx,c.ny⟩:V2)))) (IntKind.i64.wrap (1024+rest)) (IntKind.i64.wrap (a.inv+b.inv))) b.inv))) (ao ⟨c.nx,c.ny⟩ (av c.d b.inv (IntKind.i64.wrap (a.inv+b.inv)))))).px),vI ((fX (fg (cF b (ao ⟨c.nx,c.ny⟩ (fQ (av (IntKind.i64.wrap (0 - (cW (di (⟨b.vx,b.vy⟩:V2) (⟨a.vx,a.vy⟩:V2)) (⟨c.nx,c.ny⟩:V2)))) (IntKind.i64.wrap (1024+rest)) (IntKind.i64.wrap (a.inv+b.inv))) b.inv))) (ao ⟨c.nx,c.ny⟩ (av c.d b.inv (IntKind.i64.wrap (a.inv+b.inv)))))).py),vI ((fX (fg (cF b (ao ⟨c.nx,c.ny⟩ (fQ (av (IntKind.i64.wrap (0 - (cW (di (⟨b.vx,b.vy⟩:V2) (⟨a.vx,a.vy⟩:V2)) (⟨c.nx,c.ny⟩:V2)))) (IntKind.i64.wrap (1024+rest)) (IntKind.i64.wrap (a.inv+b.inv))) b.inv))) (ao ⟨c.nx,c.ny⟩ (av c.d b.inv (IntKind.i64.wrap (a.inv+b.inv)))))).vx),vI ((fX (fg (cF b (ao ⟨c.nx,c.ny⟩ (fQ (av (IntKind.i64.wrap (0 - (cW (di (⟨b.vx,b.vy⟩:V2) (⟨a.vx,a.vy⟩:V2)) (⟨c.nx,c.ny⟩:V2)))) (IntKind.i64.wrap (1024+rest)) (IntKind.i64.wrap (a.inv+b.inv))) b.inv))) (ao ⟨c.nx,c.ny⟩ (av c.d b.inv (IntKind.i64.wrap (a.inv+b.inv)))))).vy),vI ((fX (fg (cF b (ao ⟨c.nx,c.ny⟩ (fQ (av (IntKind.i64.wrap (0 - (cW (di (⟨b.vx,b.vy⟩:V2) (⟨a.vx,a.vy⟩:V2)) (⟨c.nx,c.ny⟩:V2)))) (IntKind.i64.wrap (1024+rest)) (IntKind.i64.wrap (a.inv+b.inv))) b.inv))) (ao ⟨c.nx,c.ny⟩ (av c.d b.inv (IntKind.i64.wrap (a.inv+b.inv)))))).inv)]]) (H':=[]) ?_
    refine ⟨?_,rfl⟩
    rw [show cy a b c rest=_ from if_neg (show ¬ aY (a.inv+b.inv)=0 from h2)]
    rw [show NR a b c rest=_ from if_pos (show rsSp a b c < 0 from h7),show NS a b c rest=_ from if_pos (show rsSp a b c < 0 from h7)]
    first | rfl | skip
   ·refine ae 12 [.own 4,.own 6] λ _=>aj (fW c.d a.inv (IntKind.i64.wrap (a.inv+b.inv))  _)<|RN.ct [1] [] (oL a c (av c.d a.inv (IntKind.i64.wrap (a.inv+b.inv))) (n5+0) (n1+2) _ (aB 3)) ?_
    rintro _ _ _
    refine ae 11 [.own 4,.own 5] λ _=>aj (fW c.d b.inv (IntKind.i64.wrap (a.inv+b.inv))  _)<|RN.ct [1] [] (oK b c (av c.d b.inv (IntKind.i64.wrap (a.inv+b.inv))) (n6+0) (n1+2) _ (aB 3)) ?_
    rintro _ _ _
    refine ae 4 [] λ _=>aj (iV (cY a (ao ⟨c.nx,c.ny⟩ (av c.d a.inv (IntKind.i64.wrap (a.inv+b.inv))))) (n5+0) _ (aB 1))<|aj (iV (fg b (ao ⟨c.nx,c.ny⟩ (av c.d b.inv (IntKind.i64.wrap (a.inv+b.inv))))) (n6+0) _ (aB 0))<|ae 4 (ow 3 5++ow 2 5) λ _=>RN.ret (ow 3 5++ow 2 5) [] [] (v:=.tuple #[.agg #[vI ((fX (cY a (ao ⟨c.nx,c.ny⟩ (av c.d a.inv (IntKind.i64.wrap (a.inv+b.inv)))))).px),vI ((fX (cY a (ao ⟨c.nx,c.ny⟩ (av c.d a.inv (IntKind.i64.wrap (a.inv+b.inv)))))).py),vI ((fX (cY a (ao ⟨c.nx,c.ny⟩ (av c.d a.inv (IntKind.i64.wrap (a.inv+b.inv)))))).vx),vI ((fX (cY a (ao ⟨c.nx,c.ny⟩ (av c.d a.inv (IntKind.i64.wrap (a.inv+b.inv)))))).vy),vI ((fX (cY a (ao ⟨c.nx,c.ny⟩ (av c.d a.inv (IntKind.i64.wrap (a.inv+b.inv)))))).inv)],.agg #[vI ((fX (fg b (ao ⟨c.nx,c.ny⟩ (av c.d b.inv (IntKind.i64.wrap (a.inv+b.inv)))))).px),vI ((fX (fg b (ao ⟨c.nx,c.ny⟩ (av c.d b.inv (IntKind.i64.wrap (a.inv+b.inv)))))).py),vI ((fX (fg b (ao ⟨c.nx,c.ny⟩ (av c.d b.inv (IntKind.i64.wrap (a.inv+b.inv)))))).vx),vI ((fX (fg b (ao ⟨c.nx,c.ny⟩ (av c.d b.inv (IntKind.i64.wrap (a.inv+b.inv)))))).vy),vI ((fX (fg b (ao ⟨c.nx,c.ny⟩ (av c.d b.inv (IntKind.i64.wrap (a.inv+b.inv)))))).inv)]]) (H':=[]) ?_
    refine ⟨?_,rfl⟩
    rw [show cy a b c rest=_ from if_neg (show ¬ aY (a.inv+b.inv)=0 from h2)]
    rw [show NR a b c rest=_ from if_neg (show ¬ rsSp a b c < 0 from h7),show NS a b c rest=_ from if_neg (show ¬ rsSp a b c < 0 from h7)]
    first | rfl | skip
  ·intro key8
   refine eh 4 5 ?_ ?_
   ·refine RDO.ev [] [] λ n9=>RD.one 5 (RDO.ev [] [] λ n10=>?_)
    refine RD.one 6 (RDO.ev [2,3,4,5,6] (ow 1 5) λ _=>?_)
    refine RD.one 7 (RDO.ev [2,3,4,5,6] (ow 0 5) λ _=>?_)
    exact key8 ⟨n9,n10⟩ [0,1,2,3,4,5,6] []
   ·refine RDO.ev [] [] λ n11=>RD.one 4 (RDO.ev [] [] λ n12=>?_)
    refine RD.one 6 (RDO.ev [2,3,4,5,6] (ow 0 5) λ _=>?_)
    refine RD.one 7 (RDO.ev [2,3,4,5,6] (ow 1 5) λ _=>?_)
    exact key8 ⟨n12,n11⟩ [1,0,2,3,4,5,6] []
def nG (pos vel:V2) (k:Int):V2:=aC pos (ep vel k 8)
def pW (a:Shp) (pa va:V2) (b:Shp) (pb vb:V2) (k:Int):Bool:=(cw a (nG pa va k) b (nG pb vb k)).2
def pX (a:Shp) (pa va:V2) (b:Shp) (pb vb:V2):Nat -> Nat -> Int
 | 0,_=>1024
 | n+1,k=>if pW a pa va b pb vb ((k:Int)+1)=true then ((k:Int) * 1024) / 8 else pX a pa va b pb vb n (k+1)
def lO (a:Shp) (pa va:V2) (b:Shp) (pb vb:V2):Int:=if pW a pa va b pb vb 0=true then 1024 else pX a pa va b pb vb 8 0
theorem sf (pos:V2) (vel:V2) (k:Int)  (F:HL):Sp Tryz.prog 218 #[.agg #[vI pos.x,vI pos.y],.agg #[vI vel.x,vI vel.y],vI k] [] F (λ u H'=>u=.agg #[vI ((nG pos vel k).x),vI ((nG pos vel k).y)] /\ H'=[]):=by
 refine Sp.run Tryz.func218 rfl mn (A:=[]) (Ts:=[]) rfl λ w0=>?_
 refine ae 8 [] λ n1=>RN.draw [5] []<|ag [] [0,1,2] [.own 2,.own 2,.own 1,.own 1]<|ar [] 3 (λ X_=>(kC vel k 8  _))<|ar [] 4 (λ X_=>(dT pos (ep vel k 8)  _))<|RD.one 5 (RDO.ev [] [.own 0,.own 0] λ _=>?_)
 refine RD.fin<|ae 1 [] λ _=>?_
 exact RN.ret [.own 0,.own 0] [] [] ⟨rfl,rfl⟩
theorem sg (a:Shp) (pa va:V2) (b:Shp) (pb vb:V2) (k:Int) (q1 q2 q3 q4 q5 q6:Nat) (F:HL) (ha:ShIn F a) (hb:ShIn F b) (hq1:(q1,.lit [vI a.r,.slice a.A a.poly.length a.cap] 101 (0,0)) ∈ F) (hq2:(q2,.lit [vI pa.x,vI pa.y] 29 (0,0)) ∈ F) (hq3:(q3,.lit [vI va.x,vI va.y] 29 (0,0)) ∈ F) (hq4:(q4,.lit [vI b.r,.slice b.A b.poly.length b.cap] 101 (0,0)) ∈ F) (hq5:(q5,.lit [vI pb.x,vI pb.y] 29 (0,0)) ∈ F) (hq6:(q6,.lit [vI vb.x,vI vb.y] 29 (0,0)) ∈ F):Sp Tryz.prog 217 #[vI k,vP q1 0,vP q2 0,vP q3 0,vP q4 0,vP q5 0,vP q6 0] [] F (λ u H'=>u=.bool (pW a pa va b pb vb k) /\ H'=[]):=by
 refine Sp.run Tryz.func217 rfl (mc hq1 (mc hq2 (mc hq3 (mc hq4 (mc hq5 (mc hq6 mn)))))) (A:=[]) (Ts:=[]) rfl λ w0=>?_
 refine ae 6 [] λ _=>RN.draw [15] []<|ag [] [0,1,2,3,5,6,7,8] [.ro 0,.ro 0,.ro 1,.ro 1,.ro 2,.ro 2,.ro 3,.ro 3,.ro 4,.ro 4,.ro 5,.ro 5]<|ar [] 4 (λ X_=>(sf pa va k  _))<|ar [] 9 (λ X_=>(sf pb vb k  _))<|ar [] 10 (λ X_=>(oJ a (nG pa va k) b (nG pb vb k) _ (ha.up.up) (hb.up.up)))<|ag [] [11,12,13] []<|RD.one 14 (RDO.ev [] [] λ n2=>?_)
 refine RD.one 15 (RDO.ev [] [.own 0,.own 0,.own 0] λ _=>?_)
 refine ag [] [16] []<|RD.fin<|ae 7 [] λ _=>?_
 exact RN.ret [] [] [] ⟨rfl,rfl⟩
theorem tQ (a:Shp) (pa va:V2) (b:Shp) (pb vb:V2) (F:HL) (ha:ShIn F a) (hb:ShIn F b):Sp Tryz.prog 158 #[.agg #[vI a.r,.slice a.A a.poly.length a.cap],.agg #[vI pa.x,vI pa.y],.agg #[vI va.x,vI va.y],.agg #[vI b.r,.slice b.A b.poly.length b.cap],.agg #[vI pb.x,vI pb.y],.agg #[vI vb.x,vI vb.y]] [] F (λ u H'=>u=vI (lO a pa va b pb vb) /\ H'=[]):=by
 refine Sp.run Tryz.func158 rfl mn (A:=[]) (Ts:=[]) rfl λ w0=>?_
 refine ae 21 [] λ n1=>aj (sg a pa va b pb vb 0 (n1+0) (n1+1) (n1+2) (n1+3) (n1+4) (n1+5) _ ha.up hb.up (aB 5) (aB 4) (aB 3) (aB 2) (aB 1) (aB 0))<|ae 2 [] λ _=>fT (pW a pa va b pb vb 0) 17 (λ h2=>?_) λ h2=>?_
 ·refine ae 6 [] λ _=>RN.ret [] [] [] (v:=vI 1024) (H':=[]) ?_
  exact ⟨by rw [lO,if_pos h2],rfl⟩
 ·refine ae 10 [] λ _=>RN.loop (σ:=Nat) (λ n=>⟨[(13,.func (.func 217) #[] #[vP (n1+0) 0,vP (n1+1) 0,vP (n1+2) 0,vP (n1+3) 0,vP (n1+4) 0,vP (n1+5) 0]),(18,vI (n:Int))],[((n1+5),.lit [vI vb.x,vI vb.y] 29 (0,0)),((n1+4),.lit [vI pb.x,vI pb.y] 29 (0,0)),((n1+3),.lit [vI b.r,.slice b.A b.poly.length b.cap] 101 (0,0)),((n1+2),.lit [vI va.x,vI va.y] 29 (0,0)),((n1+1),.lit [vI pa.x,vI pa.y] 29 (0,0)),((n1+0),.lit [vI a.r,.slice a.A a.poly.length a.cap] 101 (0,0))],[],n <= 8 /\ pX a pa va b pb vb (8 - n) n=pX a pa va b pb vb 8 0,8 - n⟩) 0 [0,1,2,3,4,5] [] (⟨Nat.zero_le _,rfl⟩) ?_
  rintro n ⟨hn_,hE_⟩ mt4
  refine ae 6 [] λ _=>RN.em ((n:Int) < 8) 19 (λ h5=>?_) λ h5=>?_
  ·refine al 16 [.nw] [br ((n:Int)+1)] λ _=>aj (sg a pa va b pb vb ((n:Int)+1) (n1+0) (n1+1) (n1+2) (n1+3) (n1+4) (n1+5) _ ha.up hb.up (aB 5) (aB 4) (aB 3) (aB 2) (aB 1) (aB 0))<|ae 2 [] λ _=>fT (pW a pa va b pb vb ((n:Int)+1)) 24 (λ h6=>?_) λ h6=>?_
   ·refine al 9 [.nw,.nw] [0 <= (n:Int) * 1024 /\ (0:Int) < 8 /\ (n:Int) * 1024 <= 9223372036854775807,br ((n:Int) * 1024)] λ _=>RN.ret [] [] [] (v:=vI (((n:Int) * 1024) / 8)) (H':=[]) ?_
    refine ⟨?_,rfl⟩
    rw [lO,if_neg h2,<- hE_]
    rw [show 8 - n=(8 - (n+1))+1 by omega,pX,if_pos h6]
   ·refine al 8 [.nw] [br ((n:Int)+1)] λ _=>?_
    refine mt4 (n+1) [0,1,2,3,4,5] [] ?_
    try dsimp only
    refine ⟨⟨by omega,?_⟩,by omega⟩
    rw [<- hE_,show 8 - n=(8 - (n+1))+1 by omega,pX,if_neg h6]
  ·refine ae 11 [] λ _=>RN.ret [] [] [] (v:=vI 1024) (H':=[]) ?_
   refine ⟨?_,rfl⟩
   rw [lO,if_neg h2,<- hE_]
   rw [show 8 - n=0 by omega,pX]
end Go.Proofs.YtghjbimijeinfaaGreatDoor
