import Derived.Test.YtcfajdgeejeieaaGreatDoorY17
set_option maxHeartbeats 4000000
set_option maxRecDepth 100000
set_option linter.unusedSimpArgs false
set_option linter.unusedVariables false
namespace Go.Proofs.YtcfajdgeejeieaaGreatDoor
open Go.RowKit
def nB (a:V2) (m:Int):V2:=⟨aG a.x (aY (0 - m)) m,aG a.y (aY (0 - m)) m⟩
def dL (m:Mot) (b:V2):Mot:=⟨m.px,m.py,(dj ⟨m.vx,m.vy⟩ b).x,(dj ⟨m.vx,m.vy⟩ b).y,m.inv⟩
def cD (m:Mot) (b:V2):Mot:=⟨m.px,m.py,(aD ⟨m.vx,m.vy⟩ b).x,(aD ⟨m.vx,m.vy⟩ b).y,m.inv⟩
def fc (m:Mot) (b:V2):Mot:=⟨(aD ⟨m.px,m.py⟩ b).x,(aD ⟨m.px,m.py⟩ b).y,m.vx,m.vy,m.inv⟩
def cX (m:Mot) (b:V2):Mot:=⟨(dj ⟨m.px,m.py⟩ b).x,(dj ⟨m.px,m.py⟩ b).y,m.vx,m.vy,m.inv⟩
def fN (m:Mot):Mot:=⟨(nB ⟨m.px,m.py⟩ 1048576).x,(nB ⟨m.px,m.py⟩ 1048576).y,(nB ⟨m.vx,m.vy⟩ 16384).x,(nB ⟨m.vx,m.vy⟩ 16384).y,m.inv⟩
def xq (a b:Mot) (c:Con):Int:=cV (dj ⟨b.vx,b.vy⟩ ⟨a.vx,a.vy⟩) ⟨c.nx,c.ny⟩
def I1 (a b:Mot) (c:Con) (rest:Int):Int:=aA (aY (0 - xq a b c)) (aY (1024+rest)) (aY (a.inv+b.inv))
def Nn (a b:Mot) (c:Con) (rest:Int):Mot:=if xq a b c < 0 then dL a (ao ⟨c.nx,c.ny⟩ (fJ (I1 a b c rest) a.inv)) else a
def Np (a b:Mot) (c:Con) (rest:Int):Mot:=if xq a b c < 0 then cD b (ao ⟨c.nx,c.ny⟩ (fJ (I1 a b c rest) b.inv)) else b
def cu (a b:Mot) (c:Con) (rest:Int):Mot × Mot:=if aY (a.inv+b.inv)=0 then (a,b) else (fN (cX (Nn a b c rest) (ao ⟨c.nx,c.ny⟩ (aA c.d a.inv (aY (a.inv+b.inv))))),fN (fc (Np a b c rest) (ao ⟨c.nx,c.ny⟩ (aA c.d b.inv (aY (a.inv+b.inv))))))
theorem pI (a:V2) (m:Int)  (F:HL):Sp Tryz.prog 269 #[.agg #[vI a.x,vI a.y],vI m] [] F (λ u H'=>u=.agg #[vI ((nB a m).x),vI ((nB a m).y)] /\ H'=[]):=by
 refine Sp.run Tryz.func269 rfl mn (A:=[]) (Ts:=[]) rfl λ w0=>?_
 refine ae 7 [] λ n1=>RN.draw [13] []<|ag [] [0,2,4,6,8,10,1,3,7,9] [.own 1,.own 1]<|ar [] 5 (λ X_=>(cy a.x (IntKind.i64.wrap (0 - m)) m  _))<|ar [] 11 (λ X_=>(cy a.y (IntKind.i64.wrap (0 - m)) m  _))<|ag [] [12] []<|RD.one 13 (RDO.ev [] [.own 0,.own 0] λ _=>?_)
 refine RD.fin<|ae 1 [] λ _=>?_
 exact RN.ret [.own 0,.own 0] [] [] ⟨rfl,rfl⟩
theorem tg (m:Mot) (b:V2) (q:Nat) (F:HL):Sp Tryz.prog 239 #[vP q 0,.agg #[vI b.x,vI b.y]] [(q,.lit [vI m.px,vI m.py,vI m.vx,vI m.vy,vI m.inv] 345 (0,0))] F (λ u H'=>∃ x:Unit,H'=ap [(q,.lit [vI ((dL m b).px),vI ((dL m b).py),vI ((dL m b).vx),vI ((dL m b).vy),vI ((dL m b).inv)] 345 (0,0))] [] /\ True):=by
 refine Sp.run Tryz.func239 rfl mn (A:=[(q,.lit [vI m.px,vI m.py,vI m.vx,vI m.vy,vI m.inv] 345 (0,0))]) (Ts:=[]) rfl λ w0=>?_
 refine ae 5 [] λ n1=>RN.draw [11] []<|ag [] [0,1,6,2,3,4,5] [.own 0,.own 0,.own 1,.own 1]<|ar [] 7 (λ X_=>(hO (⟨m.vx,m.vy⟩:V2) b  _))<|ag [] [8,9,10] []<|RD.one 11 (RDO.ev [] [.own 1,.own 1] λ _=>?_)
 refine RD.fin<|RN.ret [] [1] [] (v:=.tuple #[]) (H':=(ap [(q,.lit [vI m.px,vI m.py,vI ((dj (⟨m.vx,m.vy⟩:V2) b).x),vI ((dj (⟨m.vx,m.vy⟩:V2) b).y),vI m.inv] 345 (0,0))] [])) ?_
 exact ⟨(),rfl,trivial⟩
theorem uH (m:Mot) (b:V2) (q:Nat) (F:HL):Sp Tryz.prog 239 #[vP q 0,.agg #[vI b.x,vI b.y]] (ap [(q,.lit [vI m.px,vI m.py,vI m.vx,vI m.vy,vI m.inv] 345 (0,0))] []) F (λ u H'=>∃ x:Unit,H'=ap [(q,.lit [vI ((dL m b).px),vI ((dL m b).py),vI ((dL m b).vx),vI ((dL m b).vy),vI ((dL m b).inv)] 345 (0,0))] [] /\ True):=by
 have e:ap [(q,.lit [vI m.px,vI m.py,vI m.vx,vI m.vy,vI m.inv] 345 (0,0))] []=[(q,.lit [vI m.px,vI m.py,vI m.vx,vI m.vy,vI m.inv] 345 (0,0))]:=by simp
 rw [e]
 exact tg m b q F
theorem uI (m:Mot) (b:V2) (q:Nat) (F:HL):Sp Tryz.prog 240 #[vP q 0,.agg #[vI b.x,vI b.y]] [(q,.lit [vI m.px,vI m.py,vI m.vx,vI m.vy,vI m.inv] 345 (0,0))] F (λ u H'=>∃ x:Unit,H'=ap [(q,.lit [vI ((cD m b).px),vI ((cD m b).py),vI ((cD m b).vx),vI ((cD m b).vy),vI ((cD m b).inv)] 345 (0,0))] [] /\ True):=by
 refine Sp.run Tryz.func240 rfl mn (A:=[(q,.lit [vI m.px,vI m.py,vI m.vx,vI m.vy,vI m.inv] 345 (0,0))]) (Ts:=[]) rfl λ w0=>?_
 refine ae 5 [] λ n1=>RN.draw [11] []<|ag [] [0,1,6,2,3,4,5] [.own 0,.own 0,.own 1,.own 1]<|ar [] 7 (λ X_=>(dS (⟨m.vx,m.vy⟩:V2) b  _))<|ag [] [8,9,10] []<|RD.one 11 (RDO.ev [] [.own 1,.own 1] λ _=>?_)
 refine RD.fin<|RN.ret [] [1] [] (v:=.tuple #[]) (H':=(ap [(q,.lit [vI m.px,vI m.py,vI ((aD (⟨m.vx,m.vy⟩:V2) b).x),vI ((aD (⟨m.vx,m.vy⟩:V2) b).y),vI m.inv] 345 (0,0))] [])) ?_
 exact ⟨(),rfl,trivial⟩
theorem xr (m:Mot) (b:V2) (q:Nat) (F:HL):Sp Tryz.prog 240 #[vP q 0,.agg #[vI b.x,vI b.y]] (ap [(q,.lit [vI m.px,vI m.py,vI m.vx,vI m.vy,vI m.inv] 345 (0,0))] []) F (λ u H'=>∃ x:Unit,H'=ap [(q,.lit [vI ((cD m b).px),vI ((cD m b).py),vI ((cD m b).vx),vI ((cD m b).vy),vI ((cD m b).inv)] 345 (0,0))] [] /\ True):=by
 have e:ap [(q,.lit [vI m.px,vI m.py,vI m.vx,vI m.vy,vI m.inv] 345 (0,0))] []=[(q,.lit [vI m.px,vI m.py,vI m.vx,vI m.vy,vI m.inv] 345 (0,0))]:=by simp
 rw [e]
 exact uI m b q F
theorem uJ (m:Mot) (b:V2) (q:Nat) (F:HL):Sp Tryz.prog 242 #[vP q 0,.agg #[vI b.x,vI b.y]] [(q,.lit [vI m.px,vI m.py,vI m.vx,vI m.vy,vI m.inv] 345 (0,0))] F (λ u H'=>∃ x:Unit,H'=ap [(q,.lit [vI ((fc m b).px),vI ((fc m b).py),vI ((fc m b).vx),vI ((fc m b).vy),vI ((fc m b).inv)] 345 (0,0))] [] /\ True):=by
 refine Sp.run Tryz.func242 rfl mn (A:=[(q,.lit [vI m.px,vI m.py,vI m.vx,vI m.vy,vI m.inv] 345 (0,0))]) (Ts:=[]) rfl λ w0=>?_
 refine ae 5 [] λ n1=>RN.draw [11] []<|ag [] [0,1,6,2,3,4,5] [.own 0,.own 0,.own 1,.own 1]<|ar [] 7 (λ X_=>(dS (⟨m.px,m.py⟩:V2) b  _))<|ag [] [8,9,10] []<|RD.one 11 (RDO.ev [] [.own 1,.own 1] λ _=>?_)
 refine RD.fin<|RN.ret [] [1] [] (v:=.tuple #[]) (H':=(ap [(q,.lit [vI ((aD (⟨m.px,m.py⟩:V2) b).x),vI ((aD (⟨m.px,m.py⟩:V2) b).y),vI m.vx,vI m.vy,vI m.inv] 345 (0,0))] [])) ?_
 exact ⟨(),rfl,trivial⟩
theorem xt (m:Mot) (b:V2) (q:Nat) (F:HL):Sp Tryz.prog 242 #[vP q 0,.agg #[vI b.x,vI b.y]] (ap [(q,.lit [vI m.px,vI m.py,vI m.vx,vI m.vy,vI m.inv] 345 (0,0))] []) F (λ u H'=>∃ x:Unit,H'=ap [(q,.lit [vI ((fc m b).px),vI ((fc m b).py),vI ((fc m b).vx),vI ((fc m b).vy),vI ((fc m b).inv)] 345 (0,0))] [] /\ True):=by
 have e:ap [(q,.lit [vI m.px,vI m.py,vI m.vx,vI m.vy,vI m.inv] 345 (0,0))] []=[(q,.lit [vI m.px,vI m.py,vI m.vx,vI m.vy,vI m.inv] 345 (0,0))]:=by simp
 rw [e]
 exact uJ m b q F
theorem uK (m:Mot) (b:V2) (q:Nat) (F:HL):Sp Tryz.prog 241 #[vP q 0,.agg #[vI b.x,vI b.y]] [(q,.lit [vI m.px,vI m.py,vI m.vx,vI m.vy,vI m.inv] 345 (0,0))] F (λ u H'=>∃ x:Unit,H'=ap [(q,.lit [vI ((cX m b).px),vI ((cX m b).py),vI ((cX m b).vx),vI ((cX m b).vy),vI ((cX m b).inv)] 345 (0,0))] [] /\ True):=by
 refine Sp.run Tryz.func241 rfl mn (A:=[(q,.lit [vI m.px,vI m.py,vI m.vx,vI m.vy,vI m.inv] 345 (0,0))]) (Ts:=[]) rfl λ w0=>?_
 refine ae 5 [] λ n1=>RN.draw [11] []<|ag [] [0,1,6,2,3,4,5] [.own 0,.own 0,.own 1,.own 1]<|ar [] 7 (λ X_=>(hO (⟨m.px,m.py⟩:V2) b  _))<|ag [] [8,9,10] []<|RD.one 11 (RDO.ev [] [.own 1,.own 1] λ _=>?_)
 refine RD.fin<|RN.ret [] [1] [] (v:=.tuple #[]) (H':=(ap [(q,.lit [vI ((dj (⟨m.px,m.py⟩:V2) b).x),vI ((dj (⟨m.px,m.py⟩:V2) b).y),vI m.vx,vI m.vy,vI m.inv] 345 (0,0))] [])) ?_
 exact ⟨(),rfl,trivial⟩
theorem xu (m:Mot) (b:V2) (q:Nat) (F:HL):Sp Tryz.prog 241 #[vP q 0,.agg #[vI b.x,vI b.y]] (ap [(q,.lit [vI m.px,vI m.py,vI m.vx,vI m.vy,vI m.inv] 345 (0,0))] []) F (λ u H'=>∃ x:Unit,H'=ap [(q,.lit [vI ((cX m b).px),vI ((cX m b).py),vI ((cX m b).vx),vI ((cX m b).vy),vI ((cX m b).inv)] 345 (0,0))] [] /\ True):=by
 have e:ap [(q,.lit [vI m.px,vI m.py,vI m.vx,vI m.vy,vI m.inv] 345 (0,0))] []=[(q,.lit [vI m.px,vI m.py,vI m.vx,vI m.vy,vI m.inv] 345 (0,0))]:=by simp
 rw [e]
 exact uK m b q F
theorem iJ (m:Mot) (q:Nat) (F:HL) (hq:(q,.lit [vI m.px,vI m.py,vI m.vx,vI m.vy,vI m.inv] 345 (0,0)) ∈ F):Sp Tryz.prog 243 #[vP q 0] [] F (λ u H'=>u=.agg #[vI ((fN m).px),vI ((fN m).py),vI ((fN m).vx),vI ((fN m).vy),vI ((fN m).inv)] /\ H'=[]):=by
 refine Sp.run Tryz.func243 rfl (mc hq mn) (A:=[]) (Ts:=[]) rfl λ w0=>?_
 refine ae 6 [] λ n1=>RN.draw [18] []<|ag [] [0,6,12,1,7,13,2,8,14,3,9,15,4,10,16] [.ro 0,.ro 0,.ro 0,.ro 0,.ro 0]<|ar [] 5 (λ X_=>(pI (⟨m.px,m.py⟩:V2) 1048576  _))<|ar [] 11 (λ X_=>(pI (⟨m.vx,m.vy⟩:V2) 16384  _))<|ag [] [17] []<|RD.one 18 (RDO.ev [] (ow 0 5) λ _=>?_)
 refine RD.fin<|ae 1 [] λ _=>?_
 exact RN.ret (ow 0 5) [] [] ⟨rfl,rfl⟩
theorem th (m:Mot) (c:Con) (am:Int) (q qc:Nat) (F:HL) (hc:(qc,.lit [vI c.nx,vI c.ny,vI c.d] 300 (0,0)) ∈ F):Sp Tryz.prog 237 #[.func (.func 239) #[vP q 0] #[],vI am,vP qc 0] (ap [(q,.lit [vI m.px,vI m.py,vI m.vx,vI m.vy,vI m.inv] 345 (0,0))] []) F (λ u H'=>∃ x:Unit,H'=ap [(q,.lit [vI ((dL m (ao ⟨c.nx,c.ny⟩ am)).px),vI ((dL m (ao ⟨c.nx,c.ny⟩ am)).py),vI ((dL m (ao ⟨c.nx,c.ny⟩ am)).vx),vI ((dL m (ao ⟨c.nx,c.ny⟩ am)).vy),vI ((dL m (ao ⟨c.nx,c.ny⟩ am)).inv)] 345 (0,0))] [] /\ True):=by
 refine Sp.run Tryz.func237 rfl (mc hc mn) (A:=[(q,.lit [vI m.px,vI m.py,vI m.vx,vI m.vy,vI m.inv] 345 (0,0))]) (Ts:=[]) rfl λ w0=>?_
 refine ae 5 [.ro 0,.ro 0] λ _=>ai (eF (⟨c.nx,c.ny⟩:V2) am  _)<|RN.ct [0] [] (uH m (ao (⟨c.nx,c.ny⟩:V2) am) q _) ?_
 rintro _ _ _
 refine ae 1 [] λ _=>RN.ret [] [0] [] (v:=.tuple #[]) (H':=(ap [(q,.lit [vI ((dL m (ao (⟨c.nx,c.ny⟩:V2) am)).px),vI ((dL m (ao (⟨c.nx,c.ny⟩:V2) am)).py),vI ((dL m (ao (⟨c.nx,c.ny⟩:V2) am)).vx),vI ((dL m (ao (⟨c.nx,c.ny⟩:V2) am)).vy),vI ((dL m (ao (⟨c.nx,c.ny⟩:V2) am)).inv)] 345 (0,0))] [])) ?_
 exact ⟨(),rfl,trivial⟩
theorem uL (m:Mot) (c:Con) (am:Int) (q qc:Nat) (F:HL) (hc:(qc,.lit [vI c.nx,vI c.ny,vI c.d] 300 (0,0)) ∈ F):Sp Tryz.prog 237 #[.func (.func 240) #[vP q 0] #[],vI am,vP qc 0] (ap [(q,.lit [vI m.px,vI m.py,vI m.vx,vI m.vy,vI m.inv] 345 (0,0))] []) F (λ u H'=>∃ x:Unit,H'=ap [(q,.lit [vI ((cD m (ao ⟨c.nx,c.ny⟩ am)).px),vI ((cD m (ao ⟨c.nx,c.ny⟩ am)).py),vI ((cD m (ao ⟨c.nx,c.ny⟩ am)).vx),vI ((cD m (ao ⟨c.nx,c.ny⟩ am)).vy),vI ((cD m (ao ⟨c.nx,c.ny⟩ am)).inv)] 345 (0,0))] [] /\ True):=by
 refine Sp.run Tryz.func237 rfl (mc hc mn) (A:=[(q,.lit [vI m.px,vI m.py,vI m.vx,vI m.vy,vI m.inv] 345 (0,0))]) (Ts:=[]) rfl λ w0=>?_
 refine ae 5 [.ro 0,.ro 0] λ _=>ai (eF (⟨c.nx,c.ny⟩:V2) am  _)<|RN.ct [0] [] (xr m (ao (⟨c.nx,c.ny⟩:V2) am) q _) ?_
 rintro _ _ _
 refine ae 1 [] λ _=>RN.ret [] [0] [] (v:=.tuple #[]) (H':=(ap [(q,.lit [vI ((cD m (ao (⟨c.nx,c.ny⟩:V2) am)).px),vI ((cD m (ao (⟨c.nx,c.ny⟩:V2) am)).py),vI ((cD m (ao (⟨c.nx,c.ny⟩:V2) am)).vx),vI ((cD m (ao (⟨c.nx,c.ny⟩:V2) am)).vy),vI ((cD m (ao (⟨c.nx,c.ny⟩:V2) am)).inv)] 345 (0,0))] [])) ?_
 exact ⟨(),rfl,trivial⟩
theorem oB (m:Mot) (c:Con) (am:Int) (q qc:Nat) (F:HL) (hc:(qc,.lit [vI c.nx,vI c.ny,vI c.d] 300 (0,0)) ∈ F):Sp Tryz.prog 237 #[.func (.func 242) #[vP q 0] #[],vI am,vP qc 0] (ap [(q,.lit [vI m.px,vI m.py,vI m.vx,vI m.vy,vI m.inv] 345 (0,0))] []) F (λ u H'=>∃ x:Unit,H'=ap [(q,.lit [vI ((fc m (ao ⟨c.nx,c.ny⟩ am)).px),vI ((fc m (ao ⟨c.nx,c.ny⟩ am)).py),vI ((fc m (ao ⟨c.nx,c.ny⟩ am)).vx),vI ((fc m (ao ⟨c.nx,c.ny⟩ am)).vy),vI ((fc m (ao ⟨c.nx,c.ny⟩ am)).inv)] 345 (0,0))] [] /\ True):=by
 refine Sp.run Tryz.func237 rfl (mc hc mn) (A:=[(q,.lit [vI m.px,vI m.py,vI m.vx,vI m.vy,vI m.inv] 345 (0,0))]) (Ts:=[]) rfl λ w0=>?_
 refine ae 5 [.ro 0,.ro 0] λ _=>ai (eF (⟨c.nx,c.ny⟩:V2) am  _)<|RN.ct [0] [] (xt m (ao (⟨c.nx,c.ny⟩:V2) am) q _) ?_
 rintro _ _ _
 refine ae 1 [] λ _=>RN.ret [] [0] [] (v:=.tuple #[]) (H':=(ap [(q,.lit [vI ((fc m (ao (⟨c.nx,c.ny⟩:V2) am)).px),vI ((fc m (ao (⟨c.nx,c.ny⟩:V2) am)).py),vI ((fc m (ao (⟨c.nx,c.ny⟩:V2) am)).vx),vI ((fc m (ao (⟨c.nx,c.ny⟩:V2) am)).vy),vI ((fc m (ao (⟨c.nx,c.ny⟩:V2) am)).inv)] 345 (0,0))] [])) ?_
 exact ⟨(),rfl,trivial⟩
theorem oC (m:Mot) (c:Con) (am:Int) (q qc:Nat) (F:HL) (hc:(qc,.lit [vI c.nx,vI c.ny,vI c.d] 300 (0,0)) ∈ F):Sp Tryz.prog 237 #[.func (.func 241) #[vP q 0] #[],vI am,vP qc 0] (ap [(q,.lit [vI m.px,vI m.py,vI m.vx,vI m.vy,vI m.inv] 345 (0,0))] []) F (λ u H'=>∃ x:Unit,H'=ap [(q,.lit [vI ((cX m (ao ⟨c.nx,c.ny⟩ am)).px),vI ((cX m (ao ⟨c.nx,c.ny⟩ am)).py),vI ((cX m (ao ⟨c.nx,c.ny⟩ am)).vx),vI ((cX m (ao ⟨c.nx,c.ny⟩ am)).vy),vI ((cX m (ao ⟨c.nx,c.ny⟩ am)).inv)] 345 (0,0))] [] /\ True):=by
 refine Sp.run Tryz.func237 rfl (mc hc mn) (A:=[(q,.lit [vI m.px,vI m.py,vI m.vx,vI m.vy,vI m.inv] 345 (0,0))]) (Ts:=[]) rfl λ w0=>?_
 refine ae 5 [.ro 0,.ro 0] λ _=>ai (eF (⟨c.nx,c.ny⟩:V2) am  _)<|RN.ct [0] [] (xu m (ao (⟨c.nx,c.ny⟩:V2) am) q _) ?_
 rintro _ _ _
 refine ae 1 [] λ _=>RN.ret [] [0] [] (v:=.tuple #[]) (H':=(ap [(q,.lit [vI ((cX m (ao (⟨c.nx,c.ny⟩:V2) am)).px),vI ((cX m (ao (⟨c.nx,c.ny⟩:V2) am)).py),vI ((cX m (ao (⟨c.nx,c.ny⟩:V2) am)).vx),vI ((cX m (ao (⟨c.nx,c.ny⟩:V2) am)).vy),vI ((cX m (ao (⟨c.nx,c.ny⟩:V2) am)).inv)] 345 (0,0))] [])) ?_
 exact ⟨(),rfl,trivial⟩
theorem uM (a b:Mot) (c:Con) (rest:Int) (F:HL):Sp Tryz.prog 194 #[.agg #[vI a.px,vI a.py,vI a.vx,vI a.vy,vI a.inv],.agg #[vI b.px,vI b.py,vI b.vx,vI b.vy,vI b.inv],.agg #[vI c.nx,vI c.ny,vI c.d],vI rest] [] F (λ u H'=>u=.tuple #[.agg #[vI (((cu a b c rest).1).px),vI (((cu a b c rest).1).py),vI (((cu a b c rest).1).vx),vI (((cu a b c rest).1).vy),vI (((cu a b c rest).1).inv)],.agg #[vI (((cu a b c rest).2).px),vI (((cu a b c rest).2).py),vI (((cu a b c rest).2).vx),vI (((cu a b c rest).2).vy),vI (((cu a b c rest).2).inv)]] /\ H'=[]):=by
 refine Sp.run Tryz.func194 rfl mn (A:=[]) (Ts:=[]) rfl λ w0=>?_
 refine ae 26 [.own 4,.own 3] λ n1=>RN.em (IntKind.i64.wrap (a.inv+b.inv)=0) 22 (λ h2=>?_) λ h2=>?_
 ·refine ae 2 [] λ _=>RN.draw [2,3] [2,3,4]<|ag [2,3,4] [0,1] (ow 4 5++[.ro 1,.ro 1,.ro 1,.ro 1,.ro 1])<|RD.one 2 (RDO.ev [2,3,4] (ow 1 5) λ _=>?_)
  refine RD.one 3 (RDO.ev [2,3,4] (ow 0 5) λ _=>?_)
  refine RD.fin<|ae 1 [] λ _=>RN.ret (ow 1 5++ow 0 5) [] [] (v:=.tuple #[.agg #[vI a.px,vI a.py,vI a.vx,vI a.vy,vI a.inv],.agg #[vI b.px,vI b.py,vI b.vx,vI b.vy,vI b.inv]]) (H':=[]) ?_
  refine ⟨?_,rfl⟩
  rw [show cu a b c rest=(a,b) from if_pos (show aY (a.inv+b.inv)=0 from h2)]
 ·refine ae 4 [] λ _=>RN.draw [6,7] [0,1,2,3,4]<|ag [0,1,2,3,4] [0,2,1,3] (ow 4 5++[.ro 3,.ro 3,.ro 3,.ro 3,.ro 3])<|ji (σ:=Nat × Nat) (λ ⟨n5,n6⟩=>⟨[(3,vI rest),(4,vP (n1+0) 0),(5,vP (n1+1) 0),(6,vP (n1+2) 0),(8,vP (n1+3) 0),(9,vP (n1+4) 0),(10,vI (IntKind.i64.wrap (a.inv+b.inv))),(11,vP (n5+0) 0),(12,vP (n6+0) 0)],[((n6+0),.lit [vI b.px,vI b.py,vI b.vx,vI b.vy,vI b.inv] 345 (0,0)),((n5+0),.lit [vI a.px,vI a.py,vI a.vx,vI a.vy,vI a.inv] 345 (0,0)),((n1+4),.lit [vI 0,vI 0,vI 0,vI 0,vI 0] 85 (0,0)),((n1+3),.lit [vI 0,vI 0,vI 0,vI 0,vI 0] 85 (0,0)),((n1+2),.lit [vI c.nx,vI c.ny,vI c.d] 300 (0,0)),((n1+1),.lit [vI b.px,vI b.py,vI b.vx,vI b.vy,vI b.inv] 85 (0,0)),((n1+0),.lit [vI a.px,vI a.py,vI a.vx,vI a.vy,vI a.inv] 85 (0,0))],[],True,0⟩) ?_ ?_
  ·rintro ⟨n5,n6⟩
   refine ae 9 [] λ _=>RN.draw [] []<|ag [] [0,2,5,1,3,6] [.own 5,.own 5,.own 6,.own 6,.own 4,.own 4]<|ar [] 4 (λ X_=>(hO (⟨b.vx,b.vy⟩:V2) (⟨a.vx,a.vy⟩:V2)  _))<|ar [] 7 (λ X_=>(mI (dj (⟨b.vx,b.vy⟩:V2) (⟨a.vx,a.vy⟩:V2)) (⟨c.nx,c.ny⟩:V2)  _))<|ag [] [8] []<|RD.fin<|ae 7 [] λ _=>RN.em (cV (dj (⟨b.vx,b.vy⟩:V2) (⟨a.vx,a.vy⟩:V2)) (⟨c.nx,c.ny⟩:V2) < 0) 39 (λ h7=>?_) λ h7=>?_
   ·refine ae 8 [] λ _=>ai (fM (IntKind.i64.wrap (0 - (cV (dj (⟨b.vx,b.vy⟩:V2) (⟨a.vx,a.vy⟩:V2)) (⟨c.nx,c.ny⟩:V2)))) (IntKind.i64.wrap (1024+rest)) (IntKind.i64.wrap (a.inv+b.inv))  _)<|ae 10 [.own 6] λ _=>ai (mH (aA (IntKind.i64.wrap (0 - (cV (dj (⟨b.vx,b.vy⟩:V2) (⟨a.vx,a.vy⟩:V2)) (⟨c.nx,c.ny⟩:V2)))) (IntKind.i64.wrap (1024+rest)) (IntKind.i64.wrap (a.inv+b.inv))) a.inv  _)<|RN.ct [1] [] (th a c (fJ (aA (IntKind.i64.wrap (0 - (cV (dj (⟨b.vx,b.vy⟩:V2) (⟨a.vx,a.vy⟩:V2)) (⟨c.nx,c.ny⟩:V2)))) (IntKind.i64.wrap (1024+rest)) (IntKind.i64.wrap (a.inv+b.inv))) a.inv) (n5+0) (n1+2) _ (az 3)) ?_
    rintro _ _ _
    refine ae 8 [.own 5] λ _=>ai (mH (aA (IntKind.i64.wrap (0 - (cV (dj (⟨b.vx,b.vy⟩:V2) (⟨a.vx,a.vy⟩:V2)) (⟨c.nx,c.ny⟩:V2)))) (IntKind.i64.wrap (1024+rest)) (IntKind.i64.wrap (a.inv+b.inv))) b.inv  _)<|RN.ct [1] [] (uL b c (fJ (aA (IntKind.i64.wrap (0 - (cV (dj (⟨b.vx,b.vy⟩:V2) (⟨a.vx,a.vy⟩:V2)) (⟨c.nx,c.ny⟩:V2)))) (IntKind.i64.wrap (1024+rest)) (IntKind.i64.wrap (a.inv+b.inv))) b.inv) (n6+0) (n1+2) _ (az 3)) ?_
    rintro _ _ _
    refine ae 11 [.own 4,.own 6] λ _=>ai (fM c.d a.inv (IntKind.i64.wrap (a.inv+b.inv))  _)<|RN.ct [1] [] (oC (dL a (ao ⟨c.nx,c.ny⟩ (fJ (aA (IntKind.i64.wrap (0 - (cV (dj (⟨b.vx,b.vy⟩:V2) (⟨a.vx,a.vy⟩:V2)) (⟨c.nx,c.ny⟩:V2)))) (IntKind.i64.wrap (1024+rest)) (IntKind.i64.wrap (a.inv+b.inv))) a.inv))) c (aA c.d a.inv (IntKind.i64.wrap (a.inv+b.inv))) (n5+0) (n1+2) _ (az 3)) ?_
    rintro _ _ _
    refine ae 11 [.own 4,.own 5] λ _=>ai (fM c.d b.inv (IntKind.i64.wrap (a.inv+b.inv))  _)<|RN.ct [1] [] (oB (cD b (ao ⟨c.nx,c.ny⟩ (fJ (aA (IntKind.i64.wrap (0 - (cV (dj (⟨b.vx,b.vy⟩:V2) (⟨a.vx,a.vy⟩:V2)) (⟨c.nx,c.ny⟩:V2)))) (IntKind.i64.wrap (1024+rest)) (IntKind.i64.wrap (a.inv+b.inv))) b.inv))) c (aA c.d b.inv (IntKind.i64.wrap (a.inv+b.inv))) (n6+0) (n1+2) _ (az 3)) ?_
    rintro _ _ _
    refine ae 4 [] λ _=>ai (iJ (cX (dL a (ao ⟨c.nx,c.ny⟩ (fJ (aA (IntKind.i64.wrap (0 - (cV (dj (⟨b.vx,b.vy⟩:V2) (⟨a.vx,a.vy⟩:V2)) (⟨c.nx,c.ny⟩:V2)))) (IntKind.i64.wrap (1024+rest)) (IntKind.i64.wrap (a.inv+b.inv))) a.inv))) (ao ⟨c.nx,c.ny⟩ (aA c.d a.inv (IntKind.i64.wrap (a.inv+b.inv))))) (n5+0) _ (az 1))<|ai (iJ (fc (cD b (ao ⟨c.nx,c.ny⟩ (fJ (aA (IntKind.i64.wrap (0 - (cV (dj (⟨b.vx,b.vy⟩:V2) (⟨a.vx,a.vy⟩:V2)) (⟨c.nx,c.ny⟩:V2)))) (IntKind.i64.wrap (1024+rest)) (IntKind.i64.wrap (a.inv+b.inv))) b.inv))) (ao ⟨c.nx,c.ny⟩ (aA c.d b.inv (IntKind.i64.wrap (a.inv+b.inv))))) (n6+0) _ (az 0))<|ae 4 (ow 3 5++ow 2 5) λ _=>RN.ret (ow 3 5++ow 2 5) [] [] (v:=.tuple #[.agg #[vI ((fN (cX (dL a (ao ⟨c.nx,c.ny⟩ (fJ (aA (IntKind.i64.wrap (0 - (cV (dj (⟨b.vx,b.vy⟩:V2) (⟨a.vx,a.vy⟩:V2)) (⟨c.nx,c.ny⟩:V2)))) (IntKind.i64.wrap (1024+rest)) (IntKind.i64.wrap (a.inv+b.inv))) a.inv))) (ao ⟨c.nx,c.ny⟩ (aA c.d a.inv (IntKind.i64.wrap (a.inv+b.inv)))))).px),vI ((fN (cX (dL a (ao ⟨c.nx,c.ny⟩ (fJ (aA (IntKind.i64.wrap (0 - (cV (dj (⟨b.vx,b.vy⟩:V2) (⟨a.vx,a.vy⟩:V2)) (⟨c.nx,c.ny⟩:V2)))) (IntKind.i64.wrap (1024+rest)) (IntKind.i64.wrap (a.inv+b.inv))) a.inv))) (ao ⟨c.nx,c.ny⟩ (aA c.d a.inv (IntKind.i64.wrap (a.inv+b.inv)))))).py),vI ((fN (cX (dL a (ao ⟨c.nx,c.ny⟩ (fJ (aA (IntKind.i64.wrap (0 - (cV (dj (⟨b.vx,b.vy⟩:V2) (⟨a.vx,a.vy⟩:V2)) (⟨c.nx,c.ny⟩:V2)))) (IntKind.i64.wrap (1024+rest)) (IntKind.i64.wrap (a.inv+b.inv))) a.inv))) (ao ⟨c.nx,c.ny⟩ (aA c.d a.inv (IntKind.i64.wrap (a.inv+b.inv)))))).vx),vI ((fN (cX (dL a (ao ⟨c.nx,c.ny⟩ (fJ (aA (IntKind.i64.wrap (0 - (cV (dj (⟨b.vx,b.vy⟩:V2) (⟨a.vx,a.vy⟩:V2)) (⟨c.nx,c.ny⟩:V2)))) (IntKind.i64.wrap (1024+rest)) (IntKind.i64.wrap (a.inv+b.inv))) a.inv))) (ao ⟨c.nx,c.ny⟩ (aA c.d a.inv (IntKind.i64.wrap (a.inv+b.inv)))))).vy),vI ((fN (cX (dL a (ao ⟨c.nx,c.ny⟩ (fJ (aA (IntKind.i64.wrap (0 - (cV (dj (⟨b.vx,b.vy⟩:V2) (⟨a.vx,a.vy⟩:V2)) (⟨c.nx,c.ny⟩:V2)))) (IntKind.i64.wrap (1024+rest)) (IntKind.i64.wrap (a.inv+b.inv))) a.inv))) (ao ⟨c.nx,c.ny⟩ (aA c.d a.inv (IntKind.i64.wrap (a.inv+b.inv)))))).inv)],.agg #[vI ((fN (fc (cD b (ao ⟨c.nx,c.ny⟩ (fJ (aA (IntKind.i64.wrap (0 - (cV (dj (⟨b.vx,b.vy⟩:V2) (⟨a.vx,a.vy⟩:V2)) (⟨c.nx,c.ny⟩:V2)))) (IntKind.i64.wrap (1024+rest)) (IntKind.i64.wrap (a.inv+b.inv))) b.inv))) (ao ⟨c.nx,c.ny⟩ (aA c.d b.inv (IntKind.i64.wrap (a.inv+b.inv)))))).px),vI ((fN (fc (cD b (ao ⟨c.nx,c.ny⟩ (fJ (aA (IntKind.i64.wrap (0 - (cV (dj (⟨b.vx,b.vy⟩:V2) (⟨a.vx,a.vy⟩:V2)) (⟨c.nx,c.ny⟩:V2)))) (IntKind.i64.wrap (1024+rest)) (IntKind.i64.wrap (a.inv+b.inv))) b.inv))) (ao ⟨c.nx,c.ny⟩ (aA c.d b.inv (IntKind.i64.wrap (a.inv+b.inv)))))).py),vI ((fN (fc (cD b (ao ⟨c.nx,c.ny⟩ (fJ (aA (IntKind.i64.wrap (0 - (cV (dj (⟨b.vx,b.vy⟩:V2) (⟨a.vx,a.vy⟩:V2)) (⟨c.nx,c.ny⟩:V2)))) (IntKind.i64.wrap (1024+rest)) (IntKind.i64.wrap (a.inv+b.inv))) b.inv))) (ao ⟨c.nx,c.ny⟩ (aA c.d b.inv (IntKind.i64.wrap (a.inv+b.inv)))))).vx),vI ((fN (fc (cD b (ao ⟨c.nx,c.ny⟩ (fJ (aA (IntKind.i64.wrap (0 - (cV (dj (⟨b.vx,b.vy⟩:V2) (⟨a.vx,a.vy⟩:V2)) (⟨c.nx,c.ny⟩:V2)))) (IntKind.i64.wrap (1024+rest)) (IntKind.i64.wrap (a.inv+b.inv))) b.inv))) (ao ⟨c.nx,c.ny⟩ (aA c.d b.inv (IntKind.i64.wrap (a.inv+b.inv)))))).vy),vI ((fN (fc (cD b (ao ⟨c.nx,c.ny⟩ (fJ (aA (IntKind.i64.wrap (0 - (cV (dj (⟨b.vx,b.vy⟩:V2) (⟨a.vx,a.vy⟩:V2)) (⟨c.nx,c.ny⟩:V2)))) (IntKind.i64.wrap (1024+rest)) (IntKind.i64.wrap (a.inv+b.inv))) b.inv))) (ao ⟨c.nx,c.ny⟩ (aA c.d b.inv (IntKind.i64.wrap (a.inv+b.inv)))))).inv)]]) (H':=[]) ?_
    refine ⟨?_,rfl⟩
    rw [show cu a b c rest=_ from if_neg (show ¬ aY (a.inv+b.inv)=0 from h2)]
    rw [show Nn a b c rest=_ from if_pos (show xq a b c < 0 from h7),show Np a b c rest=_ from if_pos (show xq a b c < 0 from h7)]
    first | rfl | skip
   ·refine ae 12 [.own 4,.own 6] λ _=>ai (fM c.d a.inv (IntKind.i64.wrap (a.inv+b.inv))  _)<|RN.ct [1] [] (oC a c (aA c.d a.inv (IntKind.i64.wrap (a.inv+b.inv))) (n5+0) (n1+2) _ (az 3)) ?_
    rintro _ _ _
    refine ae 11 [.own 4,.own 5] λ _=>ai (fM c.d b.inv (IntKind.i64.wrap (a.inv+b.inv))  _)<|RN.ct [1] [] (oB b c (aA c.d b.inv (IntKind.i64.wrap (a.inv+b.inv))) (n6+0) (n1+2) _ (az 3)) ?_
    rintro _ _ _
    refine ae 4 [] λ _=>ai (iJ (cX a (ao ⟨c.nx,c.ny⟩ (aA c.d a.inv (IntKind.i64.wrap (a.inv+b.inv))))) (n5+0) _ (az 1))<|ai (iJ (fc b (ao ⟨c.nx,c.ny⟩ (aA c.d b.inv (IntKind.i64.wrap (a.inv+b.inv))))) (n6+0) _ (az 0))<|ae 4 (ow 3 5++ow 2 5) λ _=>RN.ret (ow 3 5++ow 2 5) [] [] (v:=.tuple #[.agg #[vI ((fN (cX a (ao ⟨c.nx,c.ny⟩ (aA c.d a.inv (IntKind.i64.wrap (a.inv+b.inv)))))).px),vI ((fN (cX a (ao ⟨c.nx,c.ny⟩ (aA c.d a.inv (IntKind.i64.wrap (a.inv+b.inv)))))).py),vI ((fN (cX a (ao ⟨c.nx,c.ny⟩ (aA c.d a.inv (IntKind.i64.wrap (a.inv+b.inv)))))).vx),vI ((fN (cX a (ao ⟨c.nx,c.ny⟩ (aA c.d a.inv (IntKind.i64.wrap (a.inv+b.inv)))))).vy),vI ((fN (cX a (ao ⟨c.nx,c.ny⟩ (aA c.d a.inv (IntKind.i64.wrap (a.inv+b.inv)))))).inv)],.agg #[vI ((fN (fc b (ao ⟨c.nx,c.ny⟩ (aA c.d b.inv (IntKind.i64.wrap (a.inv+b.inv)))))).px),vI ((fN (fc b (ao ⟨c.nx,c.ny⟩ (aA c.d b.inv (IntKind.i64.wrap (a.inv+b.inv)))))).py),vI ((fN (fc b (ao ⟨c.nx,c.ny⟩ (aA c.d b.inv (IntKind.i64.wrap (a.inv+b.inv)))))).vx),vI ((fN (fc b (ao ⟨c.nx,c.ny⟩ (aA c.d b.inv (IntKind.i64.wrap (a.inv+b.inv)))))).vy),vI ((fN (fc b (ao ⟨c.nx,c.ny⟩ (aA c.d b.inv (IntKind.i64.wrap (a.inv+b.inv)))))).inv)]]) (H':=[]) ?_
    refine ⟨?_,rfl⟩
    rw [show cu a b c rest=_ from if_neg (show ¬ aY (a.inv+b.inv)=0 from h2)]
    rw [show Nn a b c rest=_ from if_neg (show ¬ xq a b c < 0 from h7),show Np a b c rest=_ from if_neg (show ¬ xq a b c < 0 from h7)]
    first | rfl | skip
  ·intro key8
   refine fB 4 5 ?_ ?_
   ·refine RDO.ev [] [] λ n9=>RD.one 5 (RDO.ev [] [] λ n10=>?_)
    refine RD.one 6 (RDO.ev [2,3,4,5,6] (ow 1 5) λ _=>?_)
    refine RD.one 7 (RDO.ev [2,3,4,5,6] (ow 0 5) λ _=>?_)
    exact key8 ⟨n9,n10⟩ [0,1,2,3,4,5,6] []
   ·refine RDO.ev [] [] λ n11=>RD.one 4 (RDO.ev [] [] λ n12=>?_)
    refine RD.one 6 (RDO.ev [2,3,4,5,6] (ow 0 5) λ _=>?_)
    refine RD.one 7 (RDO.ev [2,3,4,5,6] (ow 1 5) λ _=>?_)
    exact key8 ⟨n12,n11⟩ [1,0,2,3,4,5,6] []
def nC (pos vel:V2) (k:Int):V2:=aD pos (ez vel k 8)
def pJ (a:Shp) (pa va:V2) (b:Shp) (pb vb:V2) (k:Int):Bool:=(cr a (nC pa va k) b (nC pb vb k)).2
def pK (a:Shp) (pa va:V2) (b:Shp) (pb vb:V2):Nat -> Nat -> Int
 | 0,_=>1024
 | n+1,k=>if pJ a pa va b pb vb ((k:Int)+1)=true then ((k:Int) * 1024) / 8 else pK a pa va b pb vb n (k+1)
def lB (a:Shp) (pa va:V2) (b:Shp) (pb vb:V2):Int:=if pJ a pa va b pb vb 0=true then 1024 else pK a pa va b pb vb 8 0
theorem rN (pos:V2) (vel:V2) (k:Int)  (F:HL):Sp Tryz.prog 245 #[.agg #[vI pos.x,vI pos.y],.agg #[vI vel.x,vI vel.y],vI k] [] F (λ u H'=>u=.agg #[vI ((nC pos vel k).x),vI ((nC pos vel k).y)] /\ H'=[]):=by
 refine Sp.run Tryz.func245 rfl mn (A:=[]) (Ts:=[]) rfl λ w0=>?_
 refine ae 8 [] λ n1=>RN.draw [5] []<|ag [] [0,1,2] [.own 2,.own 2,.own 1,.own 1]<|ar [] 3 (λ X_=>(ky vel k 8  _))<|ar [] 4 (λ X_=>(dS pos (ez vel k 8)  _))<|RD.one 5 (RDO.ev [] [.own 0,.own 0] λ _=>?_)
 refine RD.fin<|ae 1 [] λ _=>?_
 exact RN.ret [.own 0,.own 0] [] [] ⟨rfl,rfl⟩
theorem rO (a:Shp) (pa va:V2) (b:Shp) (pb vb:V2) (k:Int) (q1 q2 q3 q4 q5 q6:Nat) (F:HL) (ha:ShIn F a) (hb:ShIn F b) (hq1:(q1,.lit [vI a.r,.slice a.A a.poly.length a.cap] 82 (0,0)) ∈ F) (hq2:(q2,.lit [vI pa.x,vI pa.y] 29 (0,0)) ∈ F) (hq3:(q3,.lit [vI va.x,vI va.y] 29 (0,0)) ∈ F) (hq4:(q4,.lit [vI b.r,.slice b.A b.poly.length b.cap] 82 (0,0)) ∈ F) (hq5:(q5,.lit [vI pb.x,vI pb.y] 29 (0,0)) ∈ F) (hq6:(q6,.lit [vI vb.x,vI vb.y] 29 (0,0)) ∈ F):Sp Tryz.prog 244 #[vI k,vP q1 0,vP q2 0,vP q3 0,vP q4 0,vP q5 0,vP q6 0] [] F (λ u H'=>u=.bool (pJ a pa va b pb vb k) /\ H'=[]):=by
 refine Sp.run Tryz.func244 rfl (mc hq1 (mc hq2 (mc hq3 (mc hq4 (mc hq5 (mc hq6 mn)))))) (A:=[]) (Ts:=[]) rfl λ w0=>?_
 refine ae 6 [] λ _=>RN.draw [15] []<|ag [] [0,1,2,3,5,6,7,8] [.ro 0,.ro 0,.ro 1,.ro 1,.ro 2,.ro 2,.ro 3,.ro 3,.ro 4,.ro 4,.ro 5,.ro 5]<|ar [] 4 (λ X_=>(rN pa va k  _))<|ar [] 9 (λ X_=>(rN pb vb k  _))<|ar [] 10 (λ X_=>(oA a (nC pa va k) b (nC pb vb k) _ (ha.up.up) (hb.up.up)))<|ag [] [11,12,13] []<|RD.one 14 (RDO.ev [] [] λ n2=>?_)
 refine RD.one 15 (RDO.ev [] [.own 0,.own 0,.own 0] λ _=>?_)
 refine ag [] [16] []<|RD.fin<|ae 7 [] λ _=>?_
 exact RN.ret [] [] [] ⟨rfl,rfl⟩
theorem ti (a:Shp) (pa va:V2) (b:Shp) (pb vb:V2) (F:HL) (ha:ShIn F a) (hb:ShIn F b):Sp Tryz.prog 196 #[.agg #[vI a.r,.slice a.A a.poly.length a.cap],.agg #[vI pa.x,vI pa.y],.agg #[vI va.x,vI va.y],.agg #[vI b.r,.slice b.A b.poly.length b.cap],.agg #[vI pb.x,vI pb.y],.agg #[vI vb.x,vI vb.y]] [] F (λ u H'=>u=vI (lB a pa va b pb vb) /\ H'=[]):=by
 refine Sp.run Tryz.func196 rfl mn (A:=[]) (Ts:=[]) rfl λ w0=>?_
 refine ae 21 [] λ n1=>ai (rO a pa va b pb vb 0 (n1+0) (n1+1) (n1+2) (n1+3) (n1+4) (n1+5) _ ha.up hb.up (az 5) (az 4) (az 3) (az 2) (az 1) (az 0))<|ae 2 [] λ _=>iE (pJ a pa va b pb vb 0) 17 (λ h2=>?_) λ h2=>?_
 ·refine ae 6 [] λ _=>RN.ret [] [] [] (v:=vI 1024) (H':=[]) ?_
  exact ⟨by rw [lB,if_pos h2],rfl⟩
 ·refine ae 10 [] λ _=>RN.loop (σ:=Nat) (λ n=>⟨[(13,.func (.func 244) #[] #[vP (n1+0) 0,vP (n1+1) 0,vP (n1+2) 0,vP (n1+3) 0,vP (n1+4) 0,vP (n1+5) 0]),(18,vI (n:Int))],[((n1+5),.lit [vI vb.x,vI vb.y] 29 (0,0)),((n1+4),.lit [vI pb.x,vI pb.y] 29 (0,0)),((n1+3),.lit [vI b.r,.slice b.A b.poly.length b.cap] 82 (0,0)),((n1+2),.lit [vI va.x,vI va.y] 29 (0,0)),((n1+1),.lit [vI pa.x,vI pa.y] 29 (0,0)),((n1+0),.lit [vI a.r,.slice a.A a.poly.length a.cap] 82 (0,0))],[],n <= 8 /\ pK a pa va b pb vb (8 - n) n=pK a pa va b pb vb 8 0,8 - n⟩) 0 [0,1,2,3,4,5] [] (⟨Nat.zero_le _,rfl⟩) ?_
  rintro n ⟨hn_,hE_⟩ mt4
  refine ae 6 [] λ _=>RN.em ((n:Int) < 8) 19 (λ h5=>?_) λ h5=>?_
  ·refine ak 16 [.nw] [bn ((n:Int)+1)] λ _=>ai (rO a pa va b pb vb ((n:Int)+1) (n1+0) (n1+1) (n1+2) (n1+3) (n1+4) (n1+5) _ ha.up hb.up (az 5) (az 4) (az 3) (az 2) (az 1) (az 0))<|ae 2 [] λ _=>iE (pJ a pa va b pb vb ((n:Int)+1)) 24 (λ h6=>?_) λ h6=>?_
   ·refine ak 9 [.nw,.nw] [0 <= (n:Int) * 1024 /\ (0:Int) < 8 /\ (n:Int) * 1024 <= 9223372036854775807,bn ((n:Int) * 1024)] λ _=>RN.ret [] [] [] (v:=vI (((n:Int) * 1024) / 8)) (H':=[]) ?_
    refine ⟨?_,rfl⟩
    rw [lB,if_neg h2,<- hE_]
    rw [show 8 - n=(8 - (n+1))+1 by omega,pK,if_pos h6]
   ·refine ak 8 [.nw] [bn ((n:Int)+1)] λ _=>?_
    refine mt4 (n+1) [0,1,2,3,4,5] [] ?_
    try dsimp only
    refine ⟨⟨by omega,?_⟩,by omega⟩
    rw [<- hE_,show 8 - n=(8 - (n+1))+1 by omega,pK,if_neg h6]
  ·refine ae 11 [] λ _=>RN.ret [] [] [] (v:=vI 1024) (H':=[]) ?_
   refine ⟨?_,rfl⟩
   rw [lB,if_neg h2,<- hE_]
   rw [show 8 - n=0 by omega,pK]
end Go.Proofs.YtcfajdgeejeieaaGreatDoor
