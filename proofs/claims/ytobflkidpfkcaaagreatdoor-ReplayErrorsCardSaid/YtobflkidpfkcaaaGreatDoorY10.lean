import Derived.Test.YtobflkidpfkcaaaGreatDoorY06
set_option maxHeartbeats 4000000
set_option maxRecDepth 100000
set_option linter.unusedSimpArgs false
set_option linter.unusedVariables false
namespace Go.Proofs.YtobflkidpfkcaaaGreatDoor
open Go.RowKit
def fe (a:Shp) (pa:V2) (b:Shp) (pb:V2) (xs:List V2):Nat -> Con
 | 0=>⟨0,0,9223372036854775807⟩
 | i+1=>if ml a pa b pb (xs.getD i ⟨0,0⟩) < (fe a pa b pb xs i).d then ⟨(xs.getD i ⟨0,0⟩).x,(xs.getD i ⟨0,0⟩).y,ml a pa b pb (xs.getD i ⟨0,0⟩)⟩ else fe a pa b pb xs i
def i5 (a:Shp) (pa:V2) (b:Shp) (pb:V2) (xs:List V2):Nat -> Bool
 | 0=>true
 | i+1=>i5 a pa b pb xs i && !decide (ml a pa b pb (xs.getD i ⟨0,0⟩) <= 0)
theorem vd {a:Shp} {pa:V2} {b:Shp} {pb:V2} {xs:List V2} {i:Nat} (h:i5 a pa b pb xs i=false):∀ k,i5 a pa b pb xs (i+k)=false
 | 0=>h
 | k+1=>by rw [<- Nat.add_assoc,i5,vd h k];rfl
def Ei (pa pb:V2) (c:Con):Con:=if cW (dm pb pa) ⟨c.nx,c.ny⟩ < 0 then ⟨(Bz ⟨c.nx,c.ny⟩).x,(Bz ⟨c.nx,c.ny⟩).y,c.d⟩ else c
def cw (a:Shp) (pa:V2) (b:Shp) (pb:V2):Con × Bool:=if L4 (ee a pa) (ee b pb) then (if i5 a pa b pb (aH a pa b pb) (aH a pa b pb).length=true then (Ei pa pb (fe a pa b pb (aH a pa b pb) (aH a pa b pb).length),true) else (⟨0,0,0⟩,false)) else (⟨0,0,0⟩,false)
theorem H6 {xs:List V2} {i:Nat} {x:V2} (h:xs[i]?=some x):xs.getD i ⟨0,0⟩=x:=by rw [List.getD_eq_getElem?_getD,h];rfl
theorem H7 (a:Shp) (pa:V2) (b:Shp) (pb:V2) (q1 q2 q3 q4:Nat) (F:HL) (ha:ShIn F a) (hb:ShIn F b) (hq1:(q1,.lit [vI a.r,.slice a.A a.poly.length a.cap] 57 (0,0)) ∈ F) (hq2:(q2,.lit [vI b.r,.slice b.A b.poly.length b.cap] 57 (0,0)) ∈ F) (hq3:(q3,.lit [vI pb.x,vI pb.y] 30 (0,0)) ∈ F) (hq4:(q4,.lit [vI pa.x,vI pa.y] 30 (0,0)) ∈ F) :
  It Tryz.prog 251 #[vP q1 0,vP q2 0,vP q3 0,vP q4 0] F D8 (aH a pa b pb):=by
 intro X l J Jx H0 hY h0
 have key:Sp Tryz.prog 251 #[.func (.yield l) #[] #[],vP q1 0,vP q2 0,vP q3 0,vP q4 0] (ap [] [H0]) (X++F) (λ _ H'=>J (aH a pa b pb).length H' \/ Jx H'):=by
  cases ha with
  | circle ra Aa ca =>
   cases hb with
   | circle rb Ab cb=>exact HV pa pb ra rb ca cb Aa Ab q1 q2 q3 q4 l X F J Jx H0 hq1 hq2 hq3 hq4 hY h0
   | poly rb lb bb cb h h3 h4 h5=>exact HW pa pb ra rb ca cb Aa lb bb q1 q2 q3 q4 l X F J Jx H0 hq1 hq2 hq3 hq4 h h3 h4 h5 hY h0
  | poly ra la ba ca g g3 g4 g5 =>
   cases hb with
   | circle rb Ab cb=>exact HX pa pb ra rb ca cb la ba Ab q1 q2 q3 q4 l X F J Jx H0 hq1 hq2 hq3 hq4 g g3 g4 g5 hY h0
   | poly rb lb bb cb h h3 h4 h5=>exact HY pa pb ra rb ca cb la ba lb bb q1 q2 q3 q4 l X F J Jx H0 hq1 hq2 hq3 hq4 g g3 g4 g5 h h3 h4 h5 hY h0
 rw [bj] at key
 exact key
theorem BR (a:Shp) (pa:V2) (b:Shp) (pb:V2) (F:HL):Sp Tryz.prog 226 #[L3 a,.agg #[vI pa.x,vI pa.y],L3 b,.agg #[vI pb.x,vI pb.y]] (ap [] []) F (λ u H'=>∃ n:Nat,H'=ap [((n+3),.lit [vI pb.x,vI pb.y] 30 (0,0)),((n+2),.lit [vI b.r,.slice b.A b.poly.length b.cap] 57 (0,0)),((n+1),.lit [vI pa.x,vI pa.y] 30 (0,0)),((n+0),.lit [vI a.r,.slice a.A a.poly.length a.cap] 57 (0,0))] [] /\ u=.func (.func 251) #[] #[vP (n+0) 0,vP (n+2) 0,vP (n+3) 0,vP (n+1) 0]):=by
 refine Sp.run Tryz.func226 rfl mn (A:=[]) (Ts:=[]) rfl λ w0=>?_
 refine ae 15 [] λ n1=>RN.ret [] [0,1,2,3] [] (v:=.func (.func 251) #[] #[vP (n1+0) 0,vP (n1+2) 0,vP (n1+3) 0,vP (n1+1) 0]) (H':=[((n1+3),.lit [vI pb.x,vI pb.y] 30 (0,0)),((n1+2),.lit [vI b.r,.slice b.A b.poly.length b.cap] 57 (0,0)),((n1+1),.lit [vI pa.x,vI pa.y] 30 (0,0)),((n1+0),.lit [vI a.r,.slice a.A a.poly.length a.cap] 57 (0,0))]) ?_
 exact ⟨_,rfl,rfl⟩
theorem oT (a:Shp) (pa:V2) (b:Shp) (pb:V2) (F:HL) (ha:ShIn F a) (hb:ShIn F b):Sp Tryz.prog 207 #[.agg #[vI a.r,.slice a.A a.poly.length a.cap],.agg #[vI pa.x,vI pa.y],.agg #[vI b.r,.slice b.A b.poly.length b.cap],.agg #[vI pb.x,vI pb.y]] [] F (λ u H'=>u=.tuple #[.agg #[vI (cw a pa b pb).1.nx,vI (cw a pa b pb).1.ny,vI (cw a pa b pb).1.d],.bool (cw a pa b pb).2] /\ H'=[]):=by
 refine Sp.runM Tryz.func207 rfl mn (A:=[]) (Ts:=[]) rfl λ w0=>?_
 refine ae 12 [] λ n1=>RN.draw [] []<|ag [] [0,1,3,4] [.own 5,.own 5,.own 4,.own 4,.own 3,.own 3,.own 2,.own 2]<|au [] 2 (λ X_=>(p4 a pa _ (ha.up.up)))<|au [] 5 (λ X_=>(p4 b pb _ (hb.up.up)))<|au [] 6 (λ X_=>(HK (ee a pa) (ee b pb)  _))<|ag [] [7] []<|RD.fin<|ae 1 [] λ _=>RN.en (L4 (ee a pa) (ee b pb)) 20 (λ h2=>?_) λ h2=>?_
 ·refine ae 17 [.own 0,.own 0,.own 0,.own 6,.own 6,.own 5,.own 5,.own 4,.own 4,.own 3,.own 3] λ n3=>RN.ct (Hp:=[]) (Tp:=[]) [] [] (BR a pa b pb _) ?_
  rintro _ m4 rfl
  refine ae 3 [] λ _=>RN.dn 4 (.lit [vI ((fe a pa b pb (aH a pa b pb) 0).nx),vI ((fe a pa b pb (aH a pa b pb) 0).ny),vI ((fe a pa b pb (aH a pa b pb) 0).d)] 307 (0,0))<|RN.range (σ:=Nat) (τ:=Nat × V2 × Nat) (encs:=λ (x_:V2)=>#[.agg #[vI x_.x,vI x_.y]]) (xs:=(aH a pa b pb)) (enters_of Tryz.func251 (by kernel_rfl) rfl) (λ m_=>([((n3+0),.lit [vI ((fe a pa b pb (aH a pa b pb) m_).nx),vI ((fe a pa b pb (aH a pa b pb) m_).ny),vI ((fe a pa b pb (aH a pa b pb) m_).d)] 307 (0,0)),((n1+5),.lit [.bool false] 4 (0,0)),((n1+4),.lit [vI 0,vI 0,vI 0] 307 (0,0))],[])) (λ i_ m_=>m_=i_ /\ i5 a pa b pb (aH a pa b pb) m_=true) (λ c_ m_=>c_=Code.ret /\ i5 a pa b pb (aH a pa b pb) (aH a pa b pb).length=false) (λ ⟨m_,y_,nb⟩=>⟨[(4,vP (n1+0) 0),(5,vP (n1+1) 0),(6,vP (n1+2) 0),(7,vP (n1+3) 0),(8,vP (n1+4) 0),(9,vP (n1+5) 0),(10,vP (n3+0) 0),(11,vP (nb+0) 0)],[((nb+0),.lit [vI y_.x,vI y_.y] 30 (0,0)),((n3+0),.lit [vI ((fe a pa b pb (aH a pa b pb) m_).nx),vI ((fe a pa b pb (aH a pa b pb) m_).ny),vI ((fe a pa b pb (aH a pa b pb) m_).d)] 307 (0,0)),((n1+5),.lit [.bool false] 4 (0,0)),((n1+4),.lit [vI 0,vI 0,vI 0] 307 (0,0))],[],True,0⟩) (λ i_ x_ ⟨m_,y_,nb⟩=>m_=i_ /\ i5 a pa b pb (aH a pa b pb) m_=true /\ y_=x_) 0 (⟨rfl,rfl⟩) [4,5,6] [] (H7 a pa b pb (m4+0) (m4+2) (m4+3) (m4+1) _ ha.up hb.up (aB 3) (aB 1) (aB 0) (aB 2)) ?_ ?_ ?_ ?_
  ·rintro l_ i_ x_ m_ Y5 w6 hx7 hI_ mt8
   obtain ⟨rfl,hok⟩:=hI_
   refine ae 4 [.own 0,.own 0] λ n9=>?_
   refine mt8 (m_,x_,n9) [0,1,2,3] [] ?_
   try dsimp only
   exact ⟨rfl,hok,rfl⟩
  ·rintro l_ i_ x_ ⟨m_,y_,nb⟩ Y10 w11 hx12 hI_
   obtain ⟨rfl,hok,rfl⟩:=hI_
   have ex:=H6 hx12
   skip
   refine ae 8 [.ro 7,.ro 7,.ro 6,.ro 6,.ro 5,.ro 5,.ro 4,.ro 4,.own 0,.own 0] λ _=>aj (BL a pa b pb y_ _ (ha.up.up.up) (hb.up.up.up))<|ae 10 [] λ _=>RN.em (ml a pa b pb y_ <= 0) 36 (λ h13=>?_) λ h13=>?_
   ·refine ae 8 [.own 3,.own 3,.own 3,.own 2] λ _=>RN.rr m_ [1,2,3] [] ?_
    try dsimp only
    refine ⟨rfl,?_⟩
    have hl_:m_ < (aH a pa b pb).length:=(List.getElem?_eq_some_iff.1 hx12).1
    have h1_:i5 a pa b pb (aH a pa b pb) (m_+1)=false:=by rw [i5,ex,hok,decide_eq_true h13];rfl
    have h2_:=vd h1_ ((aH a pa b pb).length - (m_+1))
    rwa [show m_+1+((aH a pa b pb).length - (m_+1))=(aH a pa b pb).length by omega] at h2_
   ·refine ae 11 [.own 1] λ _=>RN.em (ml a pa b pb y_ < (fe a pa b pb (aH a pa b pb) m_).d) 41 (λ h14=>?_) λ h14=>?_
    ·refine ae 8 [.own 0,.own 0,.own 1,.own 1,.own 1] λ _=>?_
     have hn1_:i5 a pa b pb (aH a pa b pb) (m_+1)=true:=by rw [i5,ex,hok,decide_eq_false h13];rfl
     have e_:(fe a pa b pb (aH a pa b pb) (m_+1))=(⟨y_.x,y_.y,ml a pa b pb y_⟩:Con):=by rw [fe,ex,if_pos h14]
     refine cS 1 (congrArg (λ v_=>(.lit [vI v_.nx,vI v_.ny,vI v_.d] 307 (0,0):Blk)) e_.symm)<|RN.rn (m_+1) [1,2,3] [] ?_
     try dsimp only
     exact ⟨rfl,hn1_⟩
    ·refine ae 3 [] λ _=>?_
     have hn1_:i5 a pa b pb (aH a pa b pb) (m_+1)=true:=by rw [i5,ex,hok,decide_eq_false h13];rfl
     have e_:(fe a pa b pb (aH a pa b pb) (m_+1))=(fe a pa b pb (aH a pa b pb) m_):=by rw [fe,ex,if_neg h14]
     refine cS 1 (congrArg (λ v_=>(.lit [vI v_.nx,vI v_.ny,vI v_.d] 307 (0,0):Blk)) e_.symm)<|RN.rn (m_+1) [1,2,3] [] ?_
     try dsimp only
     exact ⟨rfl,hn1_⟩
  ·rintro d15 m_  hI_
   obtain ⟨rfl,hok⟩:=hI_
   refine ae 4 [] λ _=>RN.draw [] []<|ag [] [0,1,3,4] [.own 8,.own 8,.own 10,.own 10,.own 1,.own 1]<|au [] 2 (λ X_=>(iq pb pa  _))<|au [] 5 (λ X_=>(mY (dm pb pa) (⟨(fe a pa b pb (aH a pa b pb) (aH a pa b pb).length).nx,(fe a pa b pb (aH a pa b pb) (aH a pa b pb).length).ny⟩:V2)  _))<|ag [] [6] []<|RD.fin<|ae 1 [] λ _=>RN.em (cW (dm pb pa) (⟨(fe a pa b pb (aH a pa b pb) (aH a pa b pb).length).nx,(fe a pa b pb (aH a pa b pb) (aH a pa b pb).length).ny⟩:V2) < 0) 51 (λ h16=>?_) λ h16=>?_
   ·refine ae 4 [.own 1,.own 1] λ _=>aj (DV (⟨(fe a pa b pb (aH a pa b pb) (aH a pa b pb).length).nx,(fe a pa b pb (aH a pa b pb) (aH a pa b pb).length).ny⟩:V2)  _)<|ae 11 (ow 1 5++[.own 3,.own 3,.own 3,.own 2]) λ _=>RN.retM [d15] [0] [.own 2,.own 2,.own 2,.own 1] [] [] (v:=.tuple #[.agg #[vI ((Bz (⟨(fe a pa b pb (aH a pa b pb) (aH a pa b pb).length).nx,(fe a pa b pb (aH a pa b pb) (aH a pa b pb).length).ny⟩:V2)).x),vI ((Bz (⟨(fe a pa b pb (aH a pa b pb) (aH a pa b pb).length).nx,(fe a pa b pb (aH a pa b pb) (aH a pa b pb).length).ny⟩:V2)).y),vI ((fe a pa b pb (aH a pa b pb) (aH a pa b pb).length).d)],.bool true]) (H':=[]) ?_
    exact ⟨by simp only [cw,if_pos h2,hok,if_true,Ei,if_pos h16],rfl⟩
   ·refine ae 10 [.own 1,.own 1,.own 1,.own 3,.own 3,.own 3,.own 2] λ _=>RN.retM [d15] [0] [.own 2,.own 2,.own 2,.own 1] [] [] (v:=.tuple #[.agg #[vI ((fe a pa b pb (aH a pa b pb) (aH a pa b pb).length).nx),vI ((fe a pa b pb (aH a pa b pb) (aH a pa b pb).length).ny),vI ((fe a pa b pb (aH a pa b pb) (aH a pa b pb).length).d)],.bool true]) (H':=[]) ?_
    exact ⟨by simp only [cw,if_pos h2,hok,if_true,Ei,if_neg h16],rfl⟩
  ·rintro d17 c_ m_ ⟨rfl,hno⟩
   refine RN.retM [d17] [0] [.own 2,.own 2,.own 2,.own 1] [] [] (v:=.tuple #[.agg #[vI 0,vI 0,vI 0],.bool false]) (H':=[]) ?_
   exact ⟨by simp only [cw,if_pos h2,hno];rfl,rfl⟩
 ·refine ae 8 [.own 1,.own 1,.own 1,.own 0] λ _=>RN.retM [] [] [.own 1,.own 1,.own 1,.own 0] [] [] (v:=.tuple #[.agg #[vI 0,vI 0,vI 0],.bool false]) (H':=[]) ?_
  exact ⟨by simp only [cw,if_neg h2],rfl⟩
def nP (a:V2) (m:Int):V2:=⟨aG a.x (bd (0 - m)) m,aG a.y (bd (0 - m)) m⟩
def dR (m:Mot) (b:V2):Mot:=⟨m.px,m.py,(dm ⟨m.vx,m.vy⟩ b).x,(dm ⟨m.vx,m.vy⟩ b).y,m.inv⟩
def cG (m:Mot) (b:V2):Mot:=⟨m.px,m.py,(aE ⟨m.vx,m.vy⟩ b).x,(aE ⟨m.vx,m.vy⟩ b).y,m.inv⟩
def eZ (m:Mot) (b:V2):Mot:=⟨(aE ⟨m.px,m.py⟩ b).x,(aE ⟨m.px,m.py⟩ b).y,m.vx,m.vy,m.inv⟩
def cY (m:Mot) (b:V2):Mot:=⟨(dm ⟨m.px,m.py⟩ b).x,(dm ⟨m.px,m.py⟩ b).y,m.vx,m.vy,m.inv⟩
def fT (m:Mot):Mot:=⟨(nP ⟨m.px,m.py⟩ 1048576).x,(nP ⟨m.px,m.py⟩ 1048576).y,(nP ⟨m.vx,m.vy⟩ 16384).x,(nP ⟨m.vx,m.vy⟩ 16384).y,m.inv⟩
def rsSp (a b:Mot) (c:Con):Int:=cW (dm ⟨b.vx,b.vy⟩ ⟨a.vx,a.vy⟩) ⟨c.nx,c.ny⟩
def JR (a b:Mot) (c:Con) (rest:Int):Int:=aA (bd (0 - rsSp a b c)) (bd (1024+rest)) (bd (a.inv+b.inv))
def OB (a b:Mot) (c:Con) (rest:Int):Mot:=if rsSp a b c < 0 then dR a (aq ⟨c.nx,c.ny⟩ (fN (JR a b c rest) a.inv)) else a
def OC (a b:Mot) (c:Con) (rest:Int):Mot:=if rsSp a b c < 0 then cG b (aq ⟨c.nx,c.ny⟩ (fN (JR a b c rest) b.inv)) else b
def cy (a b:Mot) (c:Con) (rest:Int):Mot × Mot:=if bd (a.inv+b.inv)=0 then (a,b) else (fT (cY (OB a b c rest) (aq ⟨c.nx,c.ny⟩ (aA c.d a.inv (bd (a.inv+b.inv))))),fT (eZ (OC a b c rest) (aq ⟨c.nx,c.ny⟩ (aA c.d b.inv (bd (a.inv+b.inv))))))
theorem qa (a:V2) (m:Int)  (F:HL):Sp Tryz.prog 258 #[.agg #[vI a.x,vI a.y],vI m] [] F (λ u H'=>u=.agg #[vI ((nP a m).x),vI ((nP a m).y)] /\ H'=[]):=by
 refine Sp.run Tryz.func258 rfl mn (A:=[]) (Ts:=[]) rfl λ w0=>?_
 refine ae 7 [] λ n1=>RN.draw [13] []<|ag [] [0,2,4,6,8,10,1,3,7,9] [.own 1,.own 1]<|au [] 5 (λ X_=>(cB a.x (IntKind.i64.wrap (0 - m)) m  _))<|au [] 11 (λ X_=>(cB a.y (IntKind.i64.wrap (0 - m)) m  _))<|ag [] [12] []<|RD.one 13 (RDO.ev [] [.own 0,.own 0] λ _=>?_)
 refine RD.fin<|ae 1 [] λ _=>?_
 exact RN.ret [.own 0,.own 0] [] [] ⟨rfl,rfl⟩
theorem tS (m:Mot) (b:V2) (q:Nat) (F:HL):Sp Tryz.prog 233 #[vP q 0,.agg #[vI b.x,vI b.y]] [(q,.lit [vI m.px,vI m.py,vI m.vx,vI m.vy,vI m.inv] 334 (0,0))] F (λ u H'=>∃ x:Unit,H'=ap [(q,.lit [vI ((dR m b).px),vI ((dR m b).py),vI ((dR m b).vx),vI ((dR m b).vy),vI ((dR m b).inv)] 334 (0,0))] [] /\ True):=by
 refine Sp.run Tryz.func233 rfl mn (A:=[(q,.lit [vI m.px,vI m.py,vI m.vx,vI m.vy,vI m.inv] 334 (0,0))]) (Ts:=[]) rfl λ w0=>?_
 refine ae 5 [] λ n1=>RN.draw [11] []<|ag [] [0,1,6,2,3,4,5] [.own 0,.own 0,.own 1,.own 1]<|au [] 7 (λ X_=>(iq (⟨m.vx,m.vy⟩:V2) b  _))<|ag [] [8,9,10] []<|RD.one 11 (RDO.ev [] [.own 1,.own 1] λ _=>?_)
 refine RD.fin<|RN.ret [] [1] [] (v:=.tuple #[]) (H':=(ap [(q,.lit [vI m.px,vI m.py,vI ((dm (⟨m.vx,m.vy⟩:V2) b).x),vI ((dm (⟨m.vx,m.vy⟩:V2) b).y),vI m.inv] 334 (0,0))] [])) ?_
 exact ⟨(),rfl,trivial⟩
theorem ve (m:Mot) (b:V2) (q:Nat) (F:HL):Sp Tryz.prog 233 #[vP q 0,.agg #[vI b.x,vI b.y]] (ap [(q,.lit [vI m.px,vI m.py,vI m.vx,vI m.vy,vI m.inv] 334 (0,0))] []) F (λ u H'=>∃ x:Unit,H'=ap [(q,.lit [vI ((dR m b).px),vI ((dR m b).py),vI ((dR m b).vx),vI ((dR m b).vy),vI ((dR m b).inv)] 334 (0,0))] [] /\ True):=by
 have e:ap [(q,.lit [vI m.px,vI m.py,vI m.vx,vI m.vy,vI m.inv] 334 (0,0))] []=[(q,.lit [vI m.px,vI m.py,vI m.vx,vI m.vy,vI m.inv] 334 (0,0))]:=by simp
 rw [e]
 exact tS m b q F
theorem vf (m:Mot) (b:V2) (q:Nat) (F:HL):Sp Tryz.prog 234 #[vP q 0,.agg #[vI b.x,vI b.y]] [(q,.lit [vI m.px,vI m.py,vI m.vx,vI m.vy,vI m.inv] 334 (0,0))] F (λ u H'=>∃ x:Unit,H'=ap [(q,.lit [vI ((cG m b).px),vI ((cG m b).py),vI ((cG m b).vx),vI ((cG m b).vy),vI ((cG m b).inv)] 334 (0,0))] [] /\ True):=by
 refine Sp.run Tryz.func234 rfl mn (A:=[(q,.lit [vI m.px,vI m.py,vI m.vx,vI m.vy,vI m.inv] 334 (0,0))]) (Ts:=[]) rfl λ w0=>?_
 refine ae 5 [] λ n1=>RN.draw [11] []<|ag [] [0,1,6,2,3,4,5] [.own 0,.own 0,.own 1,.own 1]<|au [] 7 (λ X_=>(dZ (⟨m.vx,m.vy⟩:V2) b  _))<|ag [] [8,9,10] []<|RD.one 11 (RDO.ev [] [.own 1,.own 1] λ _=>?_)
 refine RD.fin<|RN.ret [] [1] [] (v:=.tuple #[]) (H':=(ap [(q,.lit [vI m.px,vI m.py,vI ((aE (⟨m.vx,m.vy⟩:V2) b).x),vI ((aE (⟨m.vx,m.vy⟩:V2) b).y),vI m.inv] 334 (0,0))] [])) ?_
 exact ⟨(),rfl,trivial⟩
theorem xY (m:Mot) (b:V2) (q:Nat) (F:HL):Sp Tryz.prog 234 #[vP q 0,.agg #[vI b.x,vI b.y]] (ap [(q,.lit [vI m.px,vI m.py,vI m.vx,vI m.vy,vI m.inv] 334 (0,0))] []) F (λ u H'=>∃ x:Unit,H'=ap [(q,.lit [vI ((cG m b).px),vI ((cG m b).py),vI ((cG m b).vx),vI ((cG m b).vy),vI ((cG m b).inv)] 334 (0,0))] [] /\ True):=by
 have e:ap [(q,.lit [vI m.px,vI m.py,vI m.vx,vI m.vy,vI m.inv] 334 (0,0))] []=[(q,.lit [vI m.px,vI m.py,vI m.vx,vI m.vy,vI m.inv] 334 (0,0))]:=by simp
 rw [e]
 exact vf m b q F
theorem vg (m:Mot) (b:V2) (q:Nat) (F:HL):Sp Tryz.prog 236 #[vP q 0,.agg #[vI b.x,vI b.y]] [(q,.lit [vI m.px,vI m.py,vI m.vx,vI m.vy,vI m.inv] 334 (0,0))] F (λ u H'=>∃ x:Unit,H'=ap [(q,.lit [vI ((eZ m b).px),vI ((eZ m b).py),vI ((eZ m b).vx),vI ((eZ m b).vy),vI ((eZ m b).inv)] 334 (0,0))] [] /\ True):=by
 refine Sp.run Tryz.func236 rfl mn (A:=[(q,.lit [vI m.px,vI m.py,vI m.vx,vI m.vy,vI m.inv] 334 (0,0))]) (Ts:=[]) rfl λ w0=>?_
 refine ae 5 [] λ n1=>RN.draw [11] []<|ag [] [0,1,6,2,3,4,5] [.own 0,.own 0,.own 1,.own 1]<|au [] 7 (λ X_=>(dZ (⟨m.px,m.py⟩:V2) b  _))<|ag [] [8,9,10] []<|RD.one 11 (RDO.ev [] [.own 1,.own 1] λ _=>?_)
 refine RD.fin<|RN.ret [] [1] [] (v:=.tuple #[]) (H':=(ap [(q,.lit [vI ((aE (⟨m.px,m.py⟩:V2) b).x),vI ((aE (⟨m.px,m.py⟩:V2) b).y),vI m.vx,vI m.vy,vI m.inv] 334 (0,0))] [])) ?_
 exact ⟨(),rfl,trivial⟩
theorem xZ (m:Mot) (b:V2) (q:Nat) (F:HL):Sp Tryz.prog 236 #[vP q 0,.agg #[vI b.x,vI b.y]] (ap [(q,.lit [vI m.px,vI m.py,vI m.vx,vI m.vy,vI m.inv] 334 (0,0))] []) F (λ u H'=>∃ x:Unit,H'=ap [(q,.lit [vI ((eZ m b).px),vI ((eZ m b).py),vI ((eZ m b).vx),vI ((eZ m b).vy),vI ((eZ m b).inv)] 334 (0,0))] [] /\ True):=by
 have e:ap [(q,.lit [vI m.px,vI m.py,vI m.vx,vI m.vy,vI m.inv] 334 (0,0))] []=[(q,.lit [vI m.px,vI m.py,vI m.vx,vI m.vy,vI m.inv] 334 (0,0))]:=by simp
 rw [e]
 exact vg m b q F
theorem vh (m:Mot) (b:V2) (q:Nat) (F:HL):Sp Tryz.prog 235 #[vP q 0,.agg #[vI b.x,vI b.y]] [(q,.lit [vI m.px,vI m.py,vI m.vx,vI m.vy,vI m.inv] 334 (0,0))] F (λ u H'=>∃ x:Unit,H'=ap [(q,.lit [vI ((cY m b).px),vI ((cY m b).py),vI ((cY m b).vx),vI ((cY m b).vy),vI ((cY m b).inv)] 334 (0,0))] [] /\ True):=by
 refine Sp.run Tryz.func235 rfl mn (A:=[(q,.lit [vI m.px,vI m.py,vI m.vx,vI m.vy,vI m.inv] 334 (0,0))]) (Ts:=[]) rfl λ w0=>?_
 refine ae 5 [] λ n1=>RN.draw [11] []<|ag [] [0,1,6,2,3,4,5] [.own 0,.own 0,.own 1,.own 1]<|au [] 7 (λ X_=>(iq (⟨m.px,m.py⟩:V2) b  _))<|ag [] [8,9,10] []<|RD.one 11 (RDO.ev [] [.own 1,.own 1] λ _=>?_)
 refine RD.fin<|RN.ret [] [1] [] (v:=.tuple #[]) (H':=(ap [(q,.lit [vI ((dm (⟨m.px,m.py⟩:V2) b).x),vI ((dm (⟨m.px,m.py⟩:V2) b).y),vI m.vx,vI m.vy,vI m.inv] 334 (0,0))] [])) ?_
 exact ⟨(),rfl,trivial⟩
theorem ya (m:Mot) (b:V2) (q:Nat) (F:HL):Sp Tryz.prog 235 #[vP q 0,.agg #[vI b.x,vI b.y]] (ap [(q,.lit [vI m.px,vI m.py,vI m.vx,vI m.vy,vI m.inv] 334 (0,0))] []) F (λ u H'=>∃ x:Unit,H'=ap [(q,.lit [vI ((cY m b).px),vI ((cY m b).py),vI ((cY m b).vx),vI ((cY m b).vy),vI ((cY m b).inv)] 334 (0,0))] [] /\ True):=by
 have e:ap [(q,.lit [vI m.px,vI m.py,vI m.vx,vI m.vy,vI m.inv] 334 (0,0))] []=[(q,.lit [vI m.px,vI m.py,vI m.vx,vI m.vy,vI m.inv] 334 (0,0))]:=by simp
 rw [e]
 exact vh m b q F
theorem i6 (m:Mot) (q:Nat) (F:HL) (hq:(q,.lit [vI m.px,vI m.py,vI m.vx,vI m.vy,vI m.inv] 334 (0,0)) ∈ F):Sp Tryz.prog 237 #[vP q 0] [] F (λ u H'=>u=.agg #[vI ((fT m).px),vI ((fT m).py),vI ((fT m).vx),vI ((fT m).vy),vI ((fT m).inv)] /\ H'=[]):=by
 refine Sp.run Tryz.func237 rfl (mc hq mn) (A:=[]) (Ts:=[]) rfl λ w0=>?_
 refine ae 6 [] λ n1=>RN.draw [18] []<|ag [] [0,6,12,1,7,13,2,8,14,3,9,15,4,10,16] [.ro 0,.ro 0,.ro 0,.ro 0,.ro 0]<|au [] 5 (λ X_=>(qa (⟨m.px,m.py⟩:V2) 1048576  _))<|au [] 11 (λ X_=>(qa (⟨m.vx,m.vy⟩:V2) 16384  _))<|ag [] [17] []<|RD.one 18 (RDO.ev [] (ow 0 5) λ _=>?_)
 refine RD.fin<|ae 1 [] λ _=>?_
 exact RN.ret (ow 0 5) [] [] ⟨rfl,rfl⟩
theorem tT (m:Mot) (c:Con) (am:Int) (q qc:Nat) (F:HL) (hc:(qc,.lit [vI c.nx,vI c.ny,vI c.d] 307 (0,0)) ∈ F):Sp Tryz.prog 231 #[.func (.func 233) #[vP q 0] #[],vI am,vP qc 0] (ap [(q,.lit [vI m.px,vI m.py,vI m.vx,vI m.vy,vI m.inv] 334 (0,0))] []) F (λ u H'=>∃ x:Unit,H'=ap [(q,.lit [vI ((dR m (aq ⟨c.nx,c.ny⟩ am)).px),vI ((dR m (aq ⟨c.nx,c.ny⟩ am)).py),vI ((dR m (aq ⟨c.nx,c.ny⟩ am)).vx),vI ((dR m (aq ⟨c.nx,c.ny⟩ am)).vy),vI ((dR m (aq ⟨c.nx,c.ny⟩ am)).inv)] 334 (0,0))] [] /\ True):=by
 refine Sp.run Tryz.func231 rfl (mc hc mn) (A:=[(q,.lit [vI m.px,vI m.py,vI m.vx,vI m.vy,vI m.inv] 334 (0,0))]) (Ts:=[]) rfl λ w0=>?_
 refine ae 5 [.ro 0,.ro 0] λ _=>aj (eI (⟨c.nx,c.ny⟩:V2) am  _)<|RN.ct [0] [] (ve m (aq (⟨c.nx,c.ny⟩:V2) am) q _) ?_
 rintro _ _ _
 refine ae 1 [] λ _=>RN.ret [] [0] [] (v:=.tuple #[]) (H':=(ap [(q,.lit [vI ((dR m (aq (⟨c.nx,c.ny⟩:V2) am)).px),vI ((dR m (aq (⟨c.nx,c.ny⟩:V2) am)).py),vI ((dR m (aq (⟨c.nx,c.ny⟩:V2) am)).vx),vI ((dR m (aq (⟨c.nx,c.ny⟩:V2) am)).vy),vI ((dR m (aq (⟨c.nx,c.ny⟩:V2) am)).inv)] 334 (0,0))] [])) ?_
 exact ⟨(),rfl,trivial⟩
theorem vi (m:Mot) (c:Con) (am:Int) (q qc:Nat) (F:HL) (hc:(qc,.lit [vI c.nx,vI c.ny,vI c.d] 307 (0,0)) ∈ F):Sp Tryz.prog 231 #[.func (.func 234) #[vP q 0] #[],vI am,vP qc 0] (ap [(q,.lit [vI m.px,vI m.py,vI m.vx,vI m.vy,vI m.inv] 334 (0,0))] []) F (λ u H'=>∃ x:Unit,H'=ap [(q,.lit [vI ((cG m (aq ⟨c.nx,c.ny⟩ am)).px),vI ((cG m (aq ⟨c.nx,c.ny⟩ am)).py),vI ((cG m (aq ⟨c.nx,c.ny⟩ am)).vx),vI ((cG m (aq ⟨c.nx,c.ny⟩ am)).vy),vI ((cG m (aq ⟨c.nx,c.ny⟩ am)).inv)] 334 (0,0))] [] /\ True):=by
 refine Sp.run Tryz.func231 rfl (mc hc mn) (A:=[(q,.lit [vI m.px,vI m.py,vI m.vx,vI m.vy,vI m.inv] 334 (0,0))]) (Ts:=[]) rfl λ w0=>?_
 refine ae 5 [.ro 0,.ro 0] λ _=>aj (eI (⟨c.nx,c.ny⟩:V2) am  _)<|RN.ct [0] [] (xY m (aq (⟨c.nx,c.ny⟩:V2) am) q _) ?_
 rintro _ _ _
 refine ae 1 [] λ _=>RN.ret [] [0] [] (v:=.tuple #[]) (H':=(ap [(q,.lit [vI ((cG m (aq (⟨c.nx,c.ny⟩:V2) am)).px),vI ((cG m (aq (⟨c.nx,c.ny⟩:V2) am)).py),vI ((cG m (aq (⟨c.nx,c.ny⟩:V2) am)).vx),vI ((cG m (aq (⟨c.nx,c.ny⟩:V2) am)).vy),vI ((cG m (aq (⟨c.nx,c.ny⟩:V2) am)).inv)] 334 (0,0))] [])) ?_
 exact ⟨(),rfl,trivial⟩
theorem oU (m:Mot) (c:Con) (am:Int) (q qc:Nat) (F:HL) (hc:(qc,.lit [vI c.nx,vI c.ny,vI c.d] 307 (0,0)) ∈ F):Sp Tryz.prog 231 #[.func (.func 236) #[vP q 0] #[],vI am,vP qc 0] (ap [(q,.lit [vI m.px,vI m.py,vI m.vx,vI m.vy,vI m.inv] 334 (0,0))] []) F (λ u H'=>∃ x:Unit,H'=ap [(q,.lit [vI ((eZ m (aq ⟨c.nx,c.ny⟩ am)).px),vI ((eZ m (aq ⟨c.nx,c.ny⟩ am)).py),vI ((eZ m (aq ⟨c.nx,c.ny⟩ am)).vx),vI ((eZ m (aq ⟨c.nx,c.ny⟩ am)).vy),vI ((eZ m (aq ⟨c.nx,c.ny⟩ am)).inv)] 334 (0,0))] [] /\ True):=by
 refine Sp.run Tryz.func231 rfl (mc hc mn) (A:=[(q,.lit [vI m.px,vI m.py,vI m.vx,vI m.vy,vI m.inv] 334 (0,0))]) (Ts:=[]) rfl λ w0=>?_
 refine ae 5 [.ro 0,.ro 0] λ _=>aj (eI (⟨c.nx,c.ny⟩:V2) am  _)<|RN.ct [0] [] (xZ m (aq (⟨c.nx,c.ny⟩:V2) am) q _) ?_
 rintro _ _ _
 refine ae 1 [] λ _=>RN.ret [] [0] [] (v:=.tuple #[]) (H':=(ap [(q,.lit [vI ((eZ m (aq (⟨c.nx,c.ny⟩:V2) am)).px),vI ((eZ m (aq (⟨c.nx,c.ny⟩:V2) am)).py),vI ((eZ m (aq (⟨c.nx,c.ny⟩:V2) am)).vx),vI ((eZ m (aq (⟨c.nx,c.ny⟩:V2) am)).vy),vI ((eZ m (aq (⟨c.nx,c.ny⟩:V2) am)).inv)] 334 (0,0))] [])) ?_
 exact ⟨(),rfl,trivial⟩
theorem oV (m:Mot) (c:Con) (am:Int) (q qc:Nat) (F:HL) (hc:(qc,.lit [vI c.nx,vI c.ny,vI c.d] 307 (0,0)) ∈ F):Sp Tryz.prog 231 #[.func (.func 235) #[vP q 0] #[],vI am,vP qc 0] (ap [(q,.lit [vI m.px,vI m.py,vI m.vx,vI m.vy,vI m.inv] 334 (0,0))] []) F (λ u H'=>∃ x:Unit,H'=ap [(q,.lit [vI ((cY m (aq ⟨c.nx,c.ny⟩ am)).px),vI ((cY m (aq ⟨c.nx,c.ny⟩ am)).py),vI ((cY m (aq ⟨c.nx,c.ny⟩ am)).vx),vI ((cY m (aq ⟨c.nx,c.ny⟩ am)).vy),vI ((cY m (aq ⟨c.nx,c.ny⟩ am)).inv)] 334 (0,0))] [] /\ True):=by
 refine Sp.run Tryz.func231 rfl (mc hc mn) (A:=[(q,.lit [vI m.px,vI m.py,vI m.vx,vI m.vy,vI m.inv] 334 (0,0))]) (Ts:=[]) rfl λ w0=>?_
 refine ae 5 [.ro 0,.ro 0] λ _=>aj (eI (⟨c.nx,c.ny⟩:V2) am  _)<|RN.ct [0] [] (ya m (aq (⟨c.nx,c.ny⟩:V2) am) q _) ?_
 rintro _ _ _
 refine ae 1 [] λ _=>RN.ret [] [0] [] (v:=.tuple #[]) (H':=(ap [(q,.lit [vI ((cY m (aq (⟨c.nx,c.ny⟩:V2) am)).px),vI ((cY m (aq (⟨c.nx,c.ny⟩:V2) am)).py),vI ((cY m (aq (⟨c.nx,c.ny⟩:V2) am)).vx),vI ((cY m (aq (⟨c.nx,c.ny⟩:V2) am)).vy),vI ((cY m (aq (⟨c.nx,c.ny⟩:V2) am)).inv)] 334 (0,0))] [])) ?_
 exact ⟨(),rfl,trivial⟩
theorem vj (a b:Mot) (c:Con) (rest:Int) (F:HL):Sp Tryz.prog 208 #[.agg #[vI a.px,vI a.py,vI a.vx,vI a.vy,vI a.inv],.agg #[vI b.px,vI b.py,vI b.vx,vI b.vy,vI b.inv],.agg #[vI c.nx,vI c.ny,vI c.d],vI rest] [] F (λ u H'=>u=.tuple #[.agg #[vI (((cy a b c rest).1).px),vI (((cy a b c rest).1).py),vI (((cy a b c rest).1).vx),vI (((cy a b c rest).1).vy),vI (((cy a b c rest).1).inv)],.agg #[vI (((cy a b c rest).2).px),vI (((cy a b c rest).2).py),vI (((cy a b c rest).2).vx),vI (((cy a b c rest).2).vy),vI (((cy a b c rest).2).inv)]] /\ H'=[]):=by
 refine Sp.run Tryz.func208 rfl mn (A:=[]) (Ts:=[]) rfl λ w0=>?_
 refine ae 26 [.own 4,.own 3] λ n1=>RN.em (IntKind.i64.wrap (a.inv+b.inv)=0) 22 (λ h2=>?_) λ h2=>?_
 ·refine ae 2 [] λ _=>RN.draw [2,3] [2,3,4]<|ag [2,3,4] [0,1] (ow 4 5++[.ro 1,.ro 1,.ro 1,.ro 1,.ro 1])<|RD.one 2 (RDO.ev [2,3,4] (ow 1 5) λ _=>?_)
  refine RD.one 3 (RDO.ev [2,3,4] (ow 0 5) λ _=>?_)
  refine RD.fin<|ae 1 [] λ _=>RN.ret (ow 1 5++ow 0 5) [] [] (v:=.tuple #[.agg #[vI a.px,vI a.py,vI a.vx,vI a.vy,vI a.inv],.agg #[vI b.px,vI b.py,vI b.vx,vI b.vy,vI b.inv]]) (H':=[]) ?_
  refine ⟨?_,rfl⟩
  rw [show cy a b c rest=(a,b) from if_pos (show bd (a.inv+b.inv)=0 from h2)]
 ·refine ae 4 [] λ _=>RN.draw [6,7] [0,1,2,3,4]<|ag [0,1,2,3,4] [0,2,1,3] (ow 4 5++[.ro 3,.ro 3,.ro 3,.ro 3,.ro 3])<|jy (σ:=Nat × Nat) (λ ⟨n5,n6⟩=>⟨[(3,vI rest),(4,vP (n1+0) 0),(5,vP (n1+1) 0),(6,vP (n1+2) 0),(8,vP (n1+3) 0),(9,vP (n1+4) 0),(10,vI (IntKind.i64.wrap (a.inv+b.inv))),(11,vP (n5+0) 0),(12,vP (n6+0) 0)],[((n6+0),.lit [vI b.px,vI b.py,vI b.vx,vI b.vy,vI b.inv] 334 (0,0)),((n5+0),.lit [vI a.px,vI a.py,vI a.vx,vI a.vy,vI a.inv] 334 (0,0)),((n1+4),.lit [vI 0,vI 0,vI 0,vI 0,vI 0] 60 (0,0)),((n1+3),.lit [vI 0,vI 0,vI 0,vI 0,vI 0] 60 (0,0)),((n1+2),.lit [vI c.nx,vI c.ny,vI c.d] 307 (0,0)),((n1+1),.lit [vI b.px,vI b.py,vI b.vx,vI b.vy,vI b.inv] 60 (0,0)),((n1+0),.lit [vI a.px,vI a.py,vI a.vx,vI a.vy,vI a.inv] 60 (0,0))],[],True,0⟩) ?_ ?_
  ·rintro ⟨n5,n6⟩
   refine ae 9 [] λ _=>RN.draw [] []<|ag [] [0,2,5,1,3,6] [.own 5,.own 5,.own 6,.own 6,.own 4,.own 4]<|au [] 4 (λ X_=>(iq (⟨b.vx,b.vy⟩:V2) (⟨a.vx,a.vy⟩:V2)  _))<|au [] 7 (λ X_=>(mY (dm (⟨b.vx,b.vy⟩:V2) (⟨a.vx,a.vy⟩:V2)) (⟨c.nx,c.ny⟩:V2)  _))<|ag [] [8] []<|RD.fin<|ae 7 [] λ _=>RN.em (cW (dm (⟨b.vx,b.vy⟩:V2) (⟨a.vx,a.vy⟩:V2)) (⟨c.nx,c.ny⟩:V2) < 0) 39 (λ h7=>?_) λ h7=>?_
   ·refine ae 8 [] λ _=>aj (fS (IntKind.i64.wrap (0 - (cW (dm (⟨b.vx,b.vy⟩:V2) (⟨a.vx,a.vy⟩:V2)) (⟨c.nx,c.ny⟩:V2)))) (IntKind.i64.wrap (1024+rest)) (IntKind.i64.wrap (a.inv+b.inv))  _)<|ae 10 [.own 6] λ _=>aj (mX (aA (IntKind.i64.wrap (0 - (cW (dm (⟨b.vx,b.vy⟩:V2) (⟨a.vx,a.vy⟩:V2)) (⟨c.nx,c.ny⟩:V2)))) (IntKind.i64.wrap (1024+rest)) (IntKind.i64.wrap (a.inv+b.inv))) a.inv  _)<|RN.ct [1] [] (tT a c (fN (aA (IntKind.i64.wrap (0 - (cW (dm (⟨b.vx,b.vy⟩:V2) (⟨a.vx,a.vy⟩:V2)) (⟨c.nx,c.ny⟩:V2)))) (IntKind.i64.wrap (1024+rest)) (IntKind.i64.wrap (a.inv+b.inv))) a.inv) (n5+0) (n1+2) _ (aB 3)) ?_
    rintro _ _ _
    refine ae 8 [.own 5] λ _=>aj (mX (aA (IntKind.i64.wrap (0 - (cW (dm (⟨b.vx,b.vy⟩:V2) (⟨a.vx,a.vy⟩:V2)) (⟨c.nx,c.ny⟩:V2)))) (IntKind.i64.wrap (1024+rest)) (IntKind.i64.wrap (a.inv+b.inv))) b.inv  _)<|RN.ct [1] [] (vi b c (fN (aA (IntKind.i64.wrap (0 - (cW (dm (⟨b.vx,b.vy⟩:V2) (⟨a.vx,a.vy⟩:V2)) (⟨c.nx,c.ny⟩:V2)))) (IntKind.i64.wrap (1024+rest)) (IntKind.i64.wrap (a.inv+b.inv))) b.inv) (n6+0) (n1+2) _ (aB 3)) ?_
    rintro _ _ _
    refine ae 11 [.own 4,.own 6] λ _=>aj (fS c.d a.inv (IntKind.i64.wrap (a.inv+b.inv))  _)<|RN.ct [1] [] (oV (dR a (aq ⟨c.nx,c.ny⟩ (fN (aA (IntKind.i64.wrap (0 - (cW (dm (⟨b.vx,b.vy⟩:V2) (⟨a.vx,a.vy⟩:V2)) (⟨c.nx,c.ny⟩:V2)))) (IntKind.i64.wrap (1024+rest)) (IntKind.i64.wrap (a.inv+b.inv))) a.inv))) c (aA c.d a.inv (IntKind.i64.wrap (a.inv+b.inv))) (n5+0) (n1+2) _ (aB 3)) ?_
    rintro _ _ _
    refine ae 11 [.own 4,.own 5] λ _=>aj (fS c.d b.inv (IntKind.i64.wrap (a.inv+b.inv))  _)<|RN.ct [1] [] (oU (cG b (aq ⟨c.nx,c.ny⟩ (fN (aA (IntKind.i64.wrap (0 - (cW (dm (⟨b.vx,b.vy⟩:V2) (⟨a.vx,a.vy⟩:V2)) (⟨c.nx,c.ny⟩:V2)))) (IntKind.i64.wrap (1024+rest)) (IntKind.i64.wrap (a.inv+b.inv))) b.inv))) c (aA c.d b.inv (IntKind.i64.wrap (a.inv+b.inv))) (n6+0) (n1+2) _ (aB 3)) ?_
    rintro _ _ _
    refine ae 4 [] λ _=>aj (i6 (cY (dR a (aq ⟨c.nx,c.ny⟩ (fN (aA (IntKind.i64.wrap (0 - (cW (dm (⟨b.vx,b.vy⟩:V2) (⟨a.vx,a.vy⟩:V2)) (⟨c.nx,c.ny⟩:V2)))) (IntKind.i64.wrap (1024+rest)) (IntKind.i64.wrap (a.inv+b.inv))) a.inv))) (aq ⟨c.nx,c.ny⟩ (aA c.d a.inv (IntKind.i64.wrap (a.inv+b.inv))))) (n5+0) _ (aB 1))<|aj (i6 (eZ (cG b (aq ⟨c.nx,c.ny⟩ (fN (aA (IntKind.i64.wrap (0 - (cW (dm (⟨b.vx,b.vy⟩:V2) (⟨a.vx,a.vy⟩:V2)) (⟨c.nx,c.ny⟩:V2)))) (IntKind.i64.wrap (1024+rest)) (IntKind.i64.wrap (a.inv+b.inv))) b.inv))) (aq ⟨c.nx,c.ny⟩ (aA c.d b.inv (IntKind.i64.wrap (a.inv+b.inv))))) (n6+0) _ (aB 0))<|ae 4 (ow 3 5++ow 2 5) λ _=>RN.ret (ow 3 5++ow 2 5) [] [] (v:=.tuple #[.agg #[vI ((fT (cY (dR a (aq ⟨c.nx,c.ny⟩ (fN (aA (IntKind.i64.wrap (0 - (cW (dm (⟨b.vx,b.vy⟩:V2) (⟨a.vx,a.vy⟩:V2)) (⟨c.nx,c.ny⟩:V2)))) (IntKind.i64.wrap (1024+rest)) (IntKind.i64.wrap (a.inv+b.inv))) a.inv))) (aq ⟨c.nx,c.ny⟩ (aA c.d a.inv (IntKind.i64.wrap (a.inv+b.inv)))))).px),vI ((fT (cY (dR a (aq ⟨c.nx,c.ny⟩ (fN (aA (IntKind.i64.wrap (0 - (cW (dm (⟨b.vx,b.vy⟩:V2) (⟨a.vx,a.vy⟩:V2)) (⟨c.nx,c.ny⟩:V2)))) (IntKind.i64.wrap (1024+rest)) (IntKind.i64.wrap (a.inv+b.inv))) a.inv))) (aq ⟨c.nx,c.ny⟩ (aA c.d a.inv (IntKind.i64.wrap (a.inv+b.inv)))))).py),vI ((fT (cY (dR a (aq ⟨c.nx,c.ny⟩ (fN (aA (IntKind.i64.wrap (0 - (cW (dm (⟨b.vx,b.vy⟩:V2) (⟨a.vx,a.vy⟩:V2)) (⟨c.nx,c.ny⟩:V2)))) (IntKind.i64.wrap (1024+rest)) (IntKind.i64.wrap (a.inv+b.inv))) a.inv))) (aq ⟨c.nx,c.ny⟩ (aA c.d a.inv (IntKind.i64.wrap (a.inv+b.inv)))))).vx),vI ((fT (cY (dR a (aq ⟨c.nx,c.ny⟩ (fN (aA (IntKind.i64.wrap (0 - (cW (dm (⟨b.vx,b.vy⟩:V2) (⟨a.vx,a.vy⟩:V2)) (⟨c.nx,c.ny⟩:V2)))) (IntKind.i64.wrap (1024+rest)) (IntKind.i64.wrap (a.inv+b.inv))) a.inv))) (aq ⟨c.nx,c.ny⟩ (aA c.d a.inv (IntKind.i64.wrap (a.inv+b.inv)))))).vy),vI ((fT (cY (dR a (aq ⟨c.nx,c.ny⟩ (fN (aA (IntKind.i64.wrap (0 - (cW (dm (⟨b.vx,b.vy⟩:V2) (⟨a.vx,a.vy⟩:V2)) (⟨c.nx,c.ny⟩:V2)))) (IntKind.i64.wrap (1024+rest)) (IntKind.i64.wrap (a.inv+b.inv))) a.inv))) (aq ⟨c.nx,c.ny⟩ (aA c.d a.inv (IntKind.i64.wrap (a.inv+b.inv)))))).inv)],.agg #[vI ((fT (eZ (cG b (aq ⟨c.nx,c.ny⟩ (fN (aA (IntKind.i64.wrap (0 - (cW (dm (⟨b.vx,b.vy⟩:V2) (⟨a.vx,a.vy⟩:V2)) (⟨c.nx,c.ny⟩:V2)))) (IntKind.i64.wrap (1024+rest)) (IntKind.i64.wrap (a.inv+b.inv))) b.inv))) (aq ⟨c.nx,c.ny⟩ (aA c.d b.inv (IntKind.i64.wrap (a.inv+b.inv)))))).px),vI ((fT (eZ (cG b (aq ⟨c.nx,c.ny⟩ (fN (aA (IntKind.i64.wrap (0 - (cW (dm (⟨b.vx,b.vy⟩:V2) (⟨a.vx,a.vy⟩:V2)) (⟨c.nx,c.ny⟩:V2)))) (IntKind.i64.wrap (1024+rest)) (IntKind.i64.wrap (a.inv+b.inv))) b.inv))) (aq ⟨c.nx,c.ny⟩ (aA c.d b.inv (IntKind.i64.wrap (a.inv+b.inv)))))).py),vI ((fT (eZ (cG b (aq ⟨c.nx,c.ny⟩ (fN (aA (IntKind.i64.wrap (0 - (cW (dm (⟨b.vx,b.vy⟩:V2) (⟨a.vx,a.vy⟩:V2)) (⟨c.nx,c.ny⟩:V2)))) (IntKind.i64.wrap (1024+rest)) (IntKind.i64.wrap (a.inv+b.inv))) b.inv))) (aq ⟨c.nx,c.ny⟩ (aA c.d b.inv (IntKind.i64.wrap (a.inv+b.inv)))))).vx),vI ((fT (eZ (cG b (aq ⟨c.nx,c.ny⟩ (fN (aA (IntKind.i64.wrap (0 - (cW (dm (⟨b.vx,b.vy⟩:V2) (⟨a.vx,a.vy⟩:V2)) (⟨c.nx,c.ny⟩:V2)))) (IntKind.i64.wrap (1024+rest)) (IntKind.i64.wrap (a.inv+b.inv))) b.inv))) (aq ⟨c.nx,c.ny⟩ (aA c.d b.inv (IntKind.i64.wrap (a.inv+b.inv)))))).vy),vI ((fT (eZ (cG b (aq ⟨c.nx,c.ny⟩ (fN (aA (IntKind.i64.wrap (0 - (cW (dm (⟨b.vx,b.vy⟩:V2) (⟨a.vx,a.vy⟩:V2)) (⟨c.nx,c.ny⟩:V2)))) (IntKind.i64.wrap (1024+rest)) (IntKind.i64.wrap (a.inv+b.inv))) b.inv))) (aq ⟨c.nx,c.ny⟩ (aA c.d b.inv (IntKind.i64.wrap (a.inv+b.inv)))))).inv)]]) (H':=[]) ?_
    refine ⟨?_,rfl⟩
    rw [show cy a b c rest=_ from if_neg (show ¬ bd (a.inv+b.inv)=0 from h2)]
    rw [show OB a b c rest=_ from if_pos (show rsSp a b c < 0 from h7),show OC a b c rest=_ from if_pos (show rsSp a b c < 0 from h7)]
    first | rfl | skip
   ·refine ae 12 [.own 4,.own 6] λ _=>aj (fS c.d a.inv (IntKind.i64.wrap (a.inv+b.inv))  _)<|RN.ct [1] [] (oV a c (aA c.d a.inv (IntKind.i64.wrap (a.inv+b.inv))) (n5+0) (n1+2) _ (aB 3)) ?_
    rintro _ _ _
    refine ae 11 [.own 4,.own 5] λ _=>aj (fS c.d b.inv (IntKind.i64.wrap (a.inv+b.inv))  _)<|RN.ct [1] [] (oU b c (aA c.d b.inv (IntKind.i64.wrap (a.inv+b.inv))) (n6+0) (n1+2) _ (aB 3)) ?_
    rintro _ _ _
    refine ae 4 [] λ _=>aj (i6 (cY a (aq ⟨c.nx,c.ny⟩ (aA c.d a.inv (IntKind.i64.wrap (a.inv+b.inv))))) (n5+0) _ (aB 1))<|aj (i6 (eZ b (aq ⟨c.nx,c.ny⟩ (aA c.d b.inv (IntKind.i64.wrap (a.inv+b.inv))))) (n6+0) _ (aB 0))<|ae 4 (ow 3 5++ow 2 5) λ _=>RN.ret (ow 3 5++ow 2 5) [] [] (v:=.tuple #[.agg #[vI ((fT (cY a (aq ⟨c.nx,c.ny⟩ (aA c.d a.inv (IntKind.i64.wrap (a.inv+b.inv)))))).px),vI ((fT (cY a (aq ⟨c.nx,c.ny⟩ (aA c.d a.inv (IntKind.i64.wrap (a.inv+b.inv)))))).py),vI ((fT (cY a (aq ⟨c.nx,c.ny⟩ (aA c.d a.inv (IntKind.i64.wrap (a.inv+b.inv)))))).vx),vI ((fT (cY a (aq ⟨c.nx,c.ny⟩ (aA c.d a.inv (IntKind.i64.wrap (a.inv+b.inv)))))).vy),vI ((fT (cY a (aq ⟨c.nx,c.ny⟩ (aA c.d a.inv (IntKind.i64.wrap (a.inv+b.inv)))))).inv)],.agg #[vI ((fT (eZ b (aq ⟨c.nx,c.ny⟩ (aA c.d b.inv (IntKind.i64.wrap (a.inv+b.inv)))))).px),vI ((fT (eZ b (aq ⟨c.nx,c.ny⟩ (aA c.d b.inv (IntKind.i64.wrap (a.inv+b.inv)))))).py),vI ((fT (eZ b (aq ⟨c.nx,c.ny⟩ (aA c.d b.inv (IntKind.i64.wrap (a.inv+b.inv)))))).vx),vI ((fT (eZ b (aq ⟨c.nx,c.ny⟩ (aA c.d b.inv (IntKind.i64.wrap (a.inv+b.inv)))))).vy),vI ((fT (eZ b (aq ⟨c.nx,c.ny⟩ (aA c.d b.inv (IntKind.i64.wrap (a.inv+b.inv)))))).inv)]]) (H':=[]) ?_
    refine ⟨?_,rfl⟩
    rw [show cy a b c rest=_ from if_neg (show ¬ bd (a.inv+b.inv)=0 from h2)]
    rw [show OB a b c rest=_ from if_neg (show ¬ rsSp a b c < 0 from h7),show OC a b c rest=_ from if_neg (show ¬ rsSp a b c < 0 from h7)]
    first | rfl | skip
  ·intro key8
   refine fH 4 5 ?_ ?_
   ·refine RDO.ev [] [] λ n9=>RD.one 5 (RDO.ev [] [] λ n10=>?_)
    refine RD.one 6 (RDO.ev [2,3,4,5,6] (ow 1 5) λ _=>?_)
    refine RD.one 7 (RDO.ev [2,3,4,5,6] (ow 0 5) λ _=>?_)
    exact key8 ⟨n9,n10⟩ [0,1,2,3,4,5,6] []
   ·refine RDO.ev [] [] λ n11=>RD.one 4 (RDO.ev [] [] λ n12=>?_)
    refine RD.one 6 (RDO.ev [2,3,4,5,6] (ow 0 5) λ _=>?_)
    refine RD.one 7 (RDO.ev [2,3,4,5,6] (ow 1 5) λ _=>?_)
    exact key8 ⟨n12,n11⟩ [1,0,2,3,4,5,6] []
def nQ (pos vel:V2) (k:Int):V2:=aE pos (eD vel k 8)
def qb (a:Shp) (pa va:V2) (b:Shp) (pb vb:V2) (k:Int):Bool:=(cw a (nQ pa va k) b (nQ pb vb k)).2
def qd (a:Shp) (pa va:V2) (b:Shp) (pb vb:V2):Nat -> Nat -> Int
 | 0,_=>1024
 | n+1,k=>if qb a pa va b pb vb ((k:Int)+1)=true then ((k:Int) * 1024) / 8 else qd a pa va b pb vb n (k+1)
def lQ (a:Shp) (pa va:V2) (b:Shp) (pb vb:V2):Int:=if qb a pa va b pb vb 0=true then 1024 else qd a pa va b pb vb 8 0
theorem sm (pos:V2) (vel:V2) (k:Int)  (F:HL):Sp Tryz.prog 239 #[.agg #[vI pos.x,vI pos.y],.agg #[vI vel.x,vI vel.y],vI k] [] F (λ u H'=>u=.agg #[vI ((nQ pos vel k).x),vI ((nQ pos vel k).y)] /\ H'=[]):=by
 refine Sp.run Tryz.func239 rfl mn (A:=[]) (Ts:=[]) rfl λ w0=>?_
 refine ae 8 [] λ n1=>RN.draw [5] []<|ag [] [0,1,2] [.own 2,.own 2,.own 1,.own 1]<|au [] 3 (λ X_=>(kI vel k 8  _))<|au [] 4 (λ X_=>(dZ pos (eD vel k 8)  _))<|RD.one 5 (RDO.ev [] [.own 0,.own 0] λ _=>?_)
 refine RD.fin<|ae 1 [] λ _=>?_
 exact RN.ret [.own 0,.own 0] [] [] ⟨rfl,rfl⟩
theorem sn (a:Shp) (pa va:V2) (b:Shp) (pb vb:V2) (k:Int) (q1 q2 q3 q4 q5 q6:Nat) (F:HL) (ha:ShIn F a) (hb:ShIn F b) (hq1:(q1,.lit [vI a.r,.slice a.A a.poly.length a.cap] 57 (0,0)) ∈ F) (hq2:(q2,.lit [vI pa.x,vI pa.y] 30 (0,0)) ∈ F) (hq3:(q3,.lit [vI va.x,vI va.y] 30 (0,0)) ∈ F) (hq4:(q4,.lit [vI b.r,.slice b.A b.poly.length b.cap] 57 (0,0)) ∈ F) (hq5:(q5,.lit [vI pb.x,vI pb.y] 30 (0,0)) ∈ F) (hq6:(q6,.lit [vI vb.x,vI vb.y] 30 (0,0)) ∈ F):Sp Tryz.prog 238 #[vI k,vP q1 0,vP q2 0,vP q3 0,vP q4 0,vP q5 0,vP q6 0] [] F (λ u H'=>u=.bool (qb a pa va b pb vb k) /\ H'=[]):=by
 refine Sp.run Tryz.func238 rfl (mc hq1 (mc hq2 (mc hq3 (mc hq4 (mc hq5 (mc hq6 mn)))))) (A:=[]) (Ts:=[]) rfl λ w0=>?_
 refine ae 6 [] λ _=>RN.draw [15] []<|ag [] [0,1,2,3,5,6,7,8] [.ro 0,.ro 0,.ro 1,.ro 1,.ro 2,.ro 2,.ro 3,.ro 3,.ro 4,.ro 4,.ro 5,.ro 5]<|au [] 4 (λ X_=>(sm pa va k  _))<|au [] 9 (λ X_=>(sm pb vb k  _))<|au [] 10 (λ X_=>(oT a (nQ pa va k) b (nQ pb vb k) _ (ha.up.up) (hb.up.up)))<|ag [] [11,12,13] []<|RD.one 14 (RDO.ev [] [] λ n2=>?_)
 refine RD.one 15 (RDO.ev [] [.own 0,.own 0,.own 0] λ _=>?_)
 refine ag [] [16] []<|RD.fin<|ae 7 [] λ _=>?_
 exact RN.ret [] [] [] ⟨rfl,rfl⟩
theorem tU (a:Shp) (pa va:V2) (b:Shp) (pb vb:V2) (F:HL) (ha:ShIn F a) (hb:ShIn F b):Sp Tryz.prog 210 #[.agg #[vI a.r,.slice a.A a.poly.length a.cap],.agg #[vI pa.x,vI pa.y],.agg #[vI va.x,vI va.y],.agg #[vI b.r,.slice b.A b.poly.length b.cap],.agg #[vI pb.x,vI pb.y],.agg #[vI vb.x,vI vb.y]] [] F (λ u H'=>u=vI (lQ a pa va b pb vb) /\ H'=[]):=by
 refine Sp.run Tryz.func210 rfl mn (A:=[]) (Ts:=[]) rfl λ w0=>?_
 refine ae 21 [] λ n1=>aj (sn a pa va b pb vb 0 (n1+0) (n1+1) (n1+2) (n1+3) (n1+4) (n1+5) _ ha.up hb.up (aB 5) (aB 4) (aB 3) (aB 2) (aB 1) (aB 0))<|ae 2 [] λ _=>i0 (qb a pa va b pb vb 0) 17 (λ h2=>?_) λ h2=>?_
 ·refine ae 6 [] λ _=>RN.ret [] [] [] (v:=vI 1024) (H':=[]) ?_
  exact ⟨by rw [lQ,if_pos h2],rfl⟩
 ·refine ae 10 [] λ _=>RN.loop (σ:=Nat) (λ n=>⟨[(13,.func (.func 238) #[] #[vP (n1+0) 0,vP (n1+1) 0,vP (n1+2) 0,vP (n1+3) 0,vP (n1+4) 0,vP (n1+5) 0]),(18,vI (n:Int))],[((n1+5),.lit [vI vb.x,vI vb.y] 30 (0,0)),((n1+4),.lit [vI pb.x,vI pb.y] 30 (0,0)),((n1+3),.lit [vI b.r,.slice b.A b.poly.length b.cap] 57 (0,0)),((n1+2),.lit [vI va.x,vI va.y] 30 (0,0)),((n1+1),.lit [vI pa.x,vI pa.y] 30 (0,0)),((n1+0),.lit [vI a.r,.slice a.A a.poly.length a.cap] 57 (0,0))],[],n <= 8 /\ qd a pa va b pb vb (8 - n) n=qd a pa va b pb vb 8 0,8 - n⟩) 0 [0,1,2,3,4,5] [] (⟨Nat.zero_le _,rfl⟩) ?_
  rintro n ⟨hn_,hE_⟩ mt4
  refine ae 6 [] λ _=>RN.em ((n:Int) < 8) 19 (λ h5=>?_) λ h5=>?_
  ·refine ai 16 [.nw] [bg ((n:Int)+1)] λ _=>aj (sn a pa va b pb vb ((n:Int)+1) (n1+0) (n1+1) (n1+2) (n1+3) (n1+4) (n1+5) _ ha.up hb.up (aB 5) (aB 4) (aB 3) (aB 2) (aB 1) (aB 0))<|ae 2 [] λ _=>i0 (qb a pa va b pb vb ((n:Int)+1)) 24 (λ h6=>?_) λ h6=>?_
   ·refine ai 9 [.nw,.nw] [0 <= (n:Int) * 1024 /\ (0:Int) < 8 /\ (n:Int) * 1024 <= 9223372036854775807,bg ((n:Int) * 1024)] λ _=>RN.ret [] [] [] (v:=vI (((n:Int) * 1024) / 8)) (H':=[]) ?_
    refine ⟨?_,rfl⟩
    rw [lQ,if_neg h2,<- hE_]
    rw [show 8 - n=(8 - (n+1))+1 by omega,qd,if_pos h6]
   ·refine ai 8 [.nw] [bg ((n:Int)+1)] λ _=>?_
    refine mt4 (n+1) [0,1,2,3,4,5] [] ?_
    try dsimp only
    refine ⟨⟨by omega,?_⟩,by omega⟩
    rw [<- hE_,show 8 - n=(8 - (n+1))+1 by omega,qd,if_neg h6]
  ·refine ae 11 [] λ _=>RN.ret [] [] [] (v:=vI 1024) (H':=[]) ?_
   refine ⟨?_,rfl⟩
   rw [lQ,if_neg h2,<- hE_]
   rw [show 8 - n=0 by omega,qd]
end Go.Proofs.YtobflkidpfkcaaaGreatDoor
