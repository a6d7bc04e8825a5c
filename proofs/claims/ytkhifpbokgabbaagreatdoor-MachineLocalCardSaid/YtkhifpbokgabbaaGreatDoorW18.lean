import Derived.Test.YtkhifpbokgabbaaGreatDoorW17
set_option maxHeartbeats 4000000
set_option maxRecDepth 100000
set_option linter.unusedSimpArgs false
set_option linter.unusedVariables false
namespace Go.Proofs.YtkhifpbokgabbaaGreatDoor
open Go.RowKit
def clampV (a:V2) (m:Int):V2:=⟨clampI a.x (w64 (0 - m)) m,clampI a.y (w64 (0 - m)) m⟩
def slowM (m:Mot) (b:V2):Mot:=⟨m.px,m.py,(vsub ⟨m.vx,m.vy⟩ b).x,(vsub ⟨m.vx,m.vy⟩ b).y,m.inv⟩
def speedM (m:Mot) (b:V2):Mot:=⟨m.px,m.py,(vadd ⟨m.vx,m.vy⟩ b).x,(vadd ⟨m.vx,m.vy⟩ b).y,m.inv⟩
def advM (m:Mot) (b:V2):Mot:=⟨(vadd ⟨m.px,m.py⟩ b).x,(vadd ⟨m.px,m.py⟩ b).y,m.vx,m.vy,m.inv⟩
def retM' (m:Mot) (b:V2):Mot:=⟨(vsub ⟨m.px,m.py⟩ b).x,(vsub ⟨m.px,m.py⟩ b).y,m.vx,m.vy,m.inv⟩
def limM (m:Mot):Mot:=⟨(clampV ⟨m.px,m.py⟩ 1048576).x,(clampV ⟨m.px,m.py⟩ 1048576).y,(clampV ⟨m.vx,m.vy⟩ 16384).x,(clampV ⟨m.vx,m.vy⟩ 16384).y,m.inv⟩
def rsSp (a b:Mot) (c:Con):Int:=vdot (vsub ⟨b.vx,b.vy⟩ ⟨a.vx,a.vy⟩) ⟨c.nx,c.ny⟩
def rsImp (a b:Mot) (c:Con) (rest:Int):Int:=mulDivI (w64 (0 - rsSp a b c)) (w64 (1024+rest)) (w64 (a.inv+b.inv))
def rsA (a b:Mot) (c:Con) (rest:Int):Mot:=if rsSp a b c < 0 then slowM a (vscale ⟨c.nx,c.ny⟩ (mulI (rsImp a b c rest) a.inv)) else a
def rsB (a b:Mot) (c:Con) (rest:Int):Mot:=if rsSp a b c < 0 then speedM b (vscale ⟨c.nx,c.ny⟩ (mulI (rsImp a b c rest) b.inv)) else b
def resolveS (a b:Mot) (c:Con) (rest:Int):Mot × Mot:=if w64 (a.inv+b.inv)=0 then (a,b) else (limM (retM' (rsA a b c rest) (vscale ⟨c.nx,c.ny⟩ (mulDivI c.d a.inv (w64 (a.inv+b.inv))))),limM (advM (rsB a b c rest) (vscale ⟨c.nx,c.ny⟩ (mulDivI c.d b.inv (w64 (a.inv+b.inv))))))
theorem clampV_any (a:V2) (m:Int)  (F:HL):Sp Tryz.prog 151 #[.agg #[vI a.x,vI a.y],vI m] [] F (λ u H'=>u=.agg #[vI ((clampV a m).x),vI ((clampV a m).y)] /\ H'=[]):=by
 refine Sp.run Tryz.func151 rfl mn (A:=[]) (Ts:=[]) rfl λ w0=>?_
 refine RN.go 7 [] λ n1=>RN.draw [13] []<|RD.go [] [0,2,4,6,8,10,1,3,7,9] [.own 1,.own 1]<|RD.cp [] 5 (λ X_=>(clamp_any a.x (IntKind.i64.wrap (0 - m)) m  _))<|RD.cp [] 11 (λ X_=>(clamp_any a.y (IntKind.i64.wrap (0 - m)) m  _))<|RD.go [] [12] []<|RD.one 13 (RDO.ev [] [.own 0,.own 0] λ _=>?_)
 refine RD.fin<|RN.go 1 [] λ _=>?_
 exact RN.ret [.own 0,.own 0] [] [] ⟨rfl,rfl⟩
theorem slowDown_any (m:Mot) (b:V2) (q:Nat) (F:HL):Sp Tryz.prog 127 #[vP q 0,.agg #[vI b.x,vI b.y]] [(q,.lit [vI m.px,vI m.py,vI m.vx,vI m.vy,vI m.inv] 194 (0,0))] F (λ u H'=>∃ x:Unit,H'=ap [(q,.lit [vI ((slowM m b).px),vI ((slowM m b).py),vI ((slowM m b).vx),vI ((slowM m b).vy),vI ((slowM m b).inv)] 194 (0,0))] [] /\ True):=by
 refine Sp.run Tryz.func127 rfl mn (A:=[(q,.lit [vI m.px,vI m.py,vI m.vx,vI m.vy,vI m.inv] 194 (0,0))]) (Ts:=[]) rfl λ w0=>?_
 refine RN.go 5 [] λ n1=>RN.draw [11] []<|RD.go [] [0,1,6,2,3,4,5] [.own 0,.own 0,.own 1,.own 1]<|RD.cp [] 7 (λ X_=>(vsub_any (⟨m.vx,m.vy⟩:V2) b  _))<|RD.go [] [8,9,10] []<|RD.one 11 (RDO.ev [] [.own 1,.own 1] λ _=>?_)
 refine RD.fin<|RN.ret [] [1] [] (v:=.tuple #[]) (H':=(ap [(q,.lit [vI m.px,vI m.py,vI ((vsub (⟨m.vx,m.vy⟩:V2) b).x),vI ((vsub (⟨m.vx,m.vy⟩:V2) b).y),vI m.inv] 194 (0,0))] [])) ?_
 exact ⟨(),rfl,trivial⟩
theorem slowDown_ap (m:Mot) (b:V2) (q:Nat) (F:HL):Sp Tryz.prog 127 #[vP q 0,.agg #[vI b.x,vI b.y]] (ap [(q,.lit [vI m.px,vI m.py,vI m.vx,vI m.vy,vI m.inv] 194 (0,0))] []) F (λ u H'=>∃ x:Unit,H'=ap [(q,.lit [vI ((slowM m b).px),vI ((slowM m b).py),vI ((slowM m b).vx),vI ((slowM m b).vy),vI ((slowM m b).inv)] 194 (0,0))] [] /\ True):=by
 have e:ap [(q,.lit [vI m.px,vI m.py,vI m.vx,vI m.vy,vI m.inv] 194 (0,0))] []=[(q,.lit [vI m.px,vI m.py,vI m.vx,vI m.vy,vI m.inv] 194 (0,0))]:=by simp
 rw [e]
 exact slowDown_any m b q F
theorem speedUp_any (m:Mot) (b:V2) (q:Nat) (F:HL):Sp Tryz.prog 128 #[vP q 0,.agg #[vI b.x,vI b.y]] [(q,.lit [vI m.px,vI m.py,vI m.vx,vI m.vy,vI m.inv] 194 (0,0))] F (λ u H'=>∃ x:Unit,H'=ap [(q,.lit [vI ((speedM m b).px),vI ((speedM m b).py),vI ((speedM m b).vx),vI ((speedM m b).vy),vI ((speedM m b).inv)] 194 (0,0))] [] /\ True):=by
 refine Sp.run Tryz.func128 rfl mn (A:=[(q,.lit [vI m.px,vI m.py,vI m.vx,vI m.vy,vI m.inv] 194 (0,0))]) (Ts:=[]) rfl λ w0=>?_
 refine RN.go 5 [] λ n1=>RN.draw [11] []<|RD.go [] [0,1,6,2,3,4,5] [.own 0,.own 0,.own 1,.own 1]<|RD.cp [] 7 (λ X_=>(vadd_any (⟨m.vx,m.vy⟩:V2) b  _))<|RD.go [] [8,9,10] []<|RD.one 11 (RDO.ev [] [.own 1,.own 1] λ _=>?_)
 refine RD.fin<|RN.ret [] [1] [] (v:=.tuple #[]) (H':=(ap [(q,.lit [vI m.px,vI m.py,vI ((vadd (⟨m.vx,m.vy⟩:V2) b).x),vI ((vadd (⟨m.vx,m.vy⟩:V2) b).y),vI m.inv] 194 (0,0))] [])) ?_
 exact ⟨(),rfl,trivial⟩
theorem speedUp_ap (m:Mot) (b:V2) (q:Nat) (F:HL):Sp Tryz.prog 128 #[vP q 0,.agg #[vI b.x,vI b.y]] (ap [(q,.lit [vI m.px,vI m.py,vI m.vx,vI m.vy,vI m.inv] 194 (0,0))] []) F (λ u H'=>∃ x:Unit,H'=ap [(q,.lit [vI ((speedM m b).px),vI ((speedM m b).py),vI ((speedM m b).vx),vI ((speedM m b).vy),vI ((speedM m b).inv)] 194 (0,0))] [] /\ True):=by
 have e:ap [(q,.lit [vI m.px,vI m.py,vI m.vx,vI m.vy,vI m.inv] 194 (0,0))] []=[(q,.lit [vI m.px,vI m.py,vI m.vx,vI m.vy,vI m.inv] 194 (0,0))]:=by simp
 rw [e]
 exact speedUp_any m b q F
theorem advance_any (m:Mot) (b:V2) (q:Nat) (F:HL):Sp Tryz.prog 130 #[vP q 0,.agg #[vI b.x,vI b.y]] [(q,.lit [vI m.px,vI m.py,vI m.vx,vI m.vy,vI m.inv] 194 (0,0))] F (λ u H'=>∃ x:Unit,H'=ap [(q,.lit [vI ((advM m b).px),vI ((advM m b).py),vI ((advM m b).vx),vI ((advM m b).vy),vI ((advM m b).inv)] 194 (0,0))] [] /\ True):=by
 refine Sp.run Tryz.func130 rfl mn (A:=[(q,.lit [vI m.px,vI m.py,vI m.vx,vI m.vy,vI m.inv] 194 (0,0))]) (Ts:=[]) rfl λ w0=>?_
 refine RN.go 5 [] λ n1=>RN.draw [11] []<|RD.go [] [0,1,6,2,3,4,5] [.own 0,.own 0,.own 1,.own 1]<|RD.cp [] 7 (λ X_=>(vadd_any (⟨m.px,m.py⟩:V2) b  _))<|RD.go [] [8,9,10] []<|RD.one 11 (RDO.ev [] [.own 1,.own 1] λ _=>?_)
 refine RD.fin<|RN.ret [] [1] [] (v:=.tuple #[]) (H':=(ap [(q,.lit [vI ((vadd (⟨m.px,m.py⟩:V2) b).x),vI ((vadd (⟨m.px,m.py⟩:V2) b).y),vI m.vx,vI m.vy,vI m.inv] 194 (0,0))] [])) ?_
 exact ⟨(),rfl,trivial⟩
theorem advance_ap (m:Mot) (b:V2) (q:Nat) (F:HL):Sp Tryz.prog 130 #[vP q 0,.agg #[vI b.x,vI b.y]] (ap [(q,.lit [vI m.px,vI m.py,vI m.vx,vI m.vy,vI m.inv] 194 (0,0))] []) F (λ u H'=>∃ x:Unit,H'=ap [(q,.lit [vI ((advM m b).px),vI ((advM m b).py),vI ((advM m b).vx),vI ((advM m b).vy),vI ((advM m b).inv)] 194 (0,0))] [] /\ True):=by
 have e:ap [(q,.lit [vI m.px,vI m.py,vI m.vx,vI m.vy,vI m.inv] 194 (0,0))] []=[(q,.lit [vI m.px,vI m.py,vI m.vx,vI m.vy,vI m.inv] 194 (0,0))]:=by simp
 rw [e]
 exact advance_any m b q F
theorem retreat_any (m:Mot) (b:V2) (q:Nat) (F:HL):Sp Tryz.prog 129 #[vP q 0,.agg #[vI b.x,vI b.y]] [(q,.lit [vI m.px,vI m.py,vI m.vx,vI m.vy,vI m.inv] 194 (0,0))] F (λ u H'=>∃ x:Unit,H'=ap [(q,.lit [vI ((retM' m b).px),vI ((retM' m b).py),vI ((retM' m b).vx),vI ((retM' m b).vy),vI ((retM' m b).inv)] 194 (0,0))] [] /\ True):=by
 refine Sp.run Tryz.func129 rfl mn (A:=[(q,.lit [vI m.px,vI m.py,vI m.vx,vI m.vy,vI m.inv] 194 (0,0))]) (Ts:=[]) rfl λ w0=>?_
 refine RN.go 5 [] λ n1=>RN.draw [11] []<|RD.go [] [0,1,6,2,3,4,5] [.own 0,.own 0,.own 1,.own 1]<|RD.cp [] 7 (λ X_=>(vsub_any (⟨m.px,m.py⟩:V2) b  _))<|RD.go [] [8,9,10] []<|RD.one 11 (RDO.ev [] [.own 1,.own 1] λ _=>?_)
 refine RD.fin<|RN.ret [] [1] [] (v:=.tuple #[]) (H':=(ap [(q,.lit [vI ((vsub (⟨m.px,m.py⟩:V2) b).x),vI ((vsub (⟨m.px,m.py⟩:V2) b).y),vI m.vx,vI m.vy,vI m.inv] 194 (0,0))] [])) ?_
 exact ⟨(),rfl,trivial⟩
theorem retreat_ap (m:Mot) (b:V2) (q:Nat) (F:HL):Sp Tryz.prog 129 #[vP q 0,.agg #[vI b.x,vI b.y]] (ap [(q,.lit [vI m.px,vI m.py,vI m.vx,vI m.vy,vI m.inv] 194 (0,0))] []) F (λ u H'=>∃ x:Unit,H'=ap [(q,.lit [vI ((retM' m b).px),vI ((retM' m b).py),vI ((retM' m b).vx),vI ((retM' m b).vy),vI ((retM' m b).inv)] 194 (0,0))] [] /\ True):=by
 have e:ap [(q,.lit [vI m.px,vI m.py,vI m.vx,vI m.vy,vI m.inv] 194 (0,0))] []=[(q,.lit [vI m.px,vI m.py,vI m.vx,vI m.vy,vI m.inv] 194 (0,0))]:=by simp
 rw [e]
 exact retreat_any m b q F
theorem limited_any (m:Mot) (q:Nat) (F:HL) (hq:(q,.lit [vI m.px,vI m.py,vI m.vx,vI m.vy,vI m.inv] 194 (0,0)) ∈ F):Sp Tryz.prog 131 #[vP q 0] [] F (λ u H'=>u=.agg #[vI ((limM m).px),vI ((limM m).py),vI ((limM m).vx),vI ((limM m).vy),vI ((limM m).inv)] /\ H'=[]):=by
 refine Sp.run Tryz.func131 rfl (mc hq mn) (A:=[]) (Ts:=[]) rfl λ w0=>?_
 refine RN.go 6 [] λ n1=>RN.draw [18] []<|RD.go [] [0,6,12,1,7,13,2,8,14,3,9,15,4,10,16] [.ro 0,.ro 0,.ro 0,.ro 0,.ro 0]<|RD.cp [] 5 (λ X_=>(clampV_any (⟨m.px,m.py⟩:V2) 1048576  _))<|RD.cp [] 11 (λ X_=>(clampV_any (⟨m.vx,m.vy⟩:V2) 16384  _))<|RD.go [] [17] []<|RD.one 18 (RDO.ev [] (ow 0 5) λ _=>?_)
 refine RD.fin<|RN.go 1 [] λ _=>?_
 exact RN.ret (ow 0 5) [] [] ⟨rfl,rfl⟩
theorem chg_slowDown (m:Mot) (c:Con) (am:Int) (q qc:Nat) (F:HL) (hc:(qc,.lit [vI c.nx,vI c.ny,vI c.d] 158 (0,0)) ∈ F):Sp Tryz.prog 125 #[.func (.func 127) #[vP q 0] #[],vI am,vP qc 0] (ap [(q,.lit [vI m.px,vI m.py,vI m.vx,vI m.vy,vI m.inv] 194 (0,0))] []) F (λ u H'=>∃ x:Unit,H'=ap [(q,.lit [vI ((slowM m (vscale ⟨c.nx,c.ny⟩ am)).px),vI ((slowM m (vscale ⟨c.nx,c.ny⟩ am)).py),vI ((slowM m (vscale ⟨c.nx,c.ny⟩ am)).vx),vI ((slowM m (vscale ⟨c.nx,c.ny⟩ am)).vy),vI ((slowM m (vscale ⟨c.nx,c.ny⟩ am)).inv)] 194 (0,0))] [] /\ True):=by
 refine Sp.run Tryz.func125 rfl (mc hc mn) (A:=[(q,.lit [vI m.px,vI m.py,vI m.vx,vI m.vy,vI m.inv] 194 (0,0))]) (Ts:=[]) rfl λ w0=>?_
 refine RN.go 5 [.ro 0,.ro 0] λ _=>RN.cp (vscale_any (⟨c.nx,c.ny⟩:V2) am  _)<|RN.ct [0] [] (slowDown_ap m (vscale (⟨c.nx,c.ny⟩:V2) am) q _) ?_
 rintro _ _ _
 refine RN.go 1 [] λ _=>RN.ret [] [0] [] (v:=.tuple #[]) (H':=(ap [(q,.lit [vI ((slowM m (vscale (⟨c.nx,c.ny⟩:V2) am)).px),vI ((slowM m (vscale (⟨c.nx,c.ny⟩:V2) am)).py),vI ((slowM m (vscale (⟨c.nx,c.ny⟩:V2) am)).vx),vI ((slowM m (vscale (⟨c.nx,c.ny⟩:V2) am)).vy),vI ((slowM m (vscale (⟨c.nx,c.ny⟩:V2) am)).inv)] 194 (0,0))] [])) ?_
 exact ⟨(),rfl,trivial⟩
theorem chg_speedUp (m:Mot) (c:Con) (am:Int) (q qc:Nat) (F:HL) (hc:(qc,.lit [vI c.nx,vI c.ny,vI c.d] 158 (0,0)) ∈ F):Sp Tryz.prog 125 #[.func (.func 128) #[vP q 0] #[],vI am,vP qc 0] (ap [(q,.lit [vI m.px,vI m.py,vI m.vx,vI m.vy,vI m.inv] 194 (0,0))] []) F (λ u H'=>∃ x:Unit,H'=ap [(q,.lit [vI ((speedM m (vscale ⟨c.nx,c.ny⟩ am)).px),vI ((speedM m (vscale ⟨c.nx,c.ny⟩ am)).py),vI ((speedM m (vscale ⟨c.nx,c.ny⟩ am)).vx),vI ((speedM m (vscale ⟨c.nx,c.ny⟩ am)).vy),vI ((speedM m (vscale ⟨c.nx,c.ny⟩ am)).inv)] 194 (0,0))] [] /\ True):=by
 refine Sp.run Tryz.func125 rfl (mc hc mn) (A:=[(q,.lit [vI m.px,vI m.py,vI m.vx,vI m.vy,vI m.inv] 194 (0,0))]) (Ts:=[]) rfl λ w0=>?_
 refine RN.go 5 [.ro 0,.ro 0] λ _=>RN.cp (vscale_any (⟨c.nx,c.ny⟩:V2) am  _)<|RN.ct [0] [] (speedUp_ap m (vscale (⟨c.nx,c.ny⟩:V2) am) q _) ?_
 rintro _ _ _
 refine RN.go 1 [] λ _=>RN.ret [] [0] [] (v:=.tuple #[]) (H':=(ap [(q,.lit [vI ((speedM m (vscale (⟨c.nx,c.ny⟩:V2) am)).px),vI ((speedM m (vscale (⟨c.nx,c.ny⟩:V2) am)).py),vI ((speedM m (vscale (⟨c.nx,c.ny⟩:V2) am)).vx),vI ((speedM m (vscale (⟨c.nx,c.ny⟩:V2) am)).vy),vI ((speedM m (vscale (⟨c.nx,c.ny⟩:V2) am)).inv)] 194 (0,0))] [])) ?_
 exact ⟨(),rfl,trivial⟩
theorem chg_advance (m:Mot) (c:Con) (am:Int) (q qc:Nat) (F:HL) (hc:(qc,.lit [vI c.nx,vI c.ny,vI c.d] 158 (0,0)) ∈ F):Sp Tryz.prog 125 #[.func (.func 130) #[vP q 0] #[],vI am,vP qc 0] (ap [(q,.lit [vI m.px,vI m.py,vI m.vx,vI m.vy,vI m.inv] 194 (0,0))] []) F (λ u H'=>∃ x:Unit,H'=ap [(q,.lit [vI ((advM m (vscale ⟨c.nx,c.ny⟩ am)).px),vI ((advM m (vscale ⟨c.nx,c.ny⟩ am)).py),vI ((advM m (vscale ⟨c.nx,c.ny⟩ am)).vx),vI ((advM m (vscale ⟨c.nx,c.ny⟩ am)).vy),vI ((advM m (vscale ⟨c.nx,c.ny⟩ am)).inv)] 194 (0,0))] [] /\ True):=by
 refine Sp.run Tryz.func125 rfl (mc hc mn) (A:=[(q,.lit [vI m.px,vI m.py,vI m.vx,vI m.vy,vI m.inv] 194 (0,0))]) (Ts:=[]) rfl λ w0=>?_
 refine RN.go 5 [.ro 0,.ro 0] λ _=>RN.cp (vscale_any (⟨c.nx,c.ny⟩:V2) am  _)<|RN.ct [0] [] (advance_ap m (vscale (⟨c.nx,c.ny⟩:V2) am) q _) ?_
 rintro _ _ _
 refine RN.go 1 [] λ _=>RN.ret [] [0] [] (v:=.tuple #[]) (H':=(ap [(q,.lit [vI ((advM m (vscale (⟨c.nx,c.ny⟩:V2) am)).px),vI ((advM m (vscale (⟨c.nx,c.ny⟩:V2) am)).py),vI ((advM m (vscale (⟨c.nx,c.ny⟩:V2) am)).vx),vI ((advM m (vscale (⟨c.nx,c.ny⟩:V2) am)).vy),vI ((advM m (vscale (⟨c.nx,c.ny⟩:V2) am)).inv)] 194 (0,0))] [])) ?_
 exact ⟨(),rfl,trivial⟩
theorem chg_retreat (m:Mot) (c:Con) (am:Int) (q qc:Nat) (F:HL) (hc:(qc,.lit [vI c.nx,vI c.ny,vI c.d] 158 (0,0)) ∈ F):Sp Tryz.prog 125 #[.func (.func 129) #[vP q 0] #[],vI am,vP qc 0] (ap [(q,.lit [vI m.px,vI m.py,vI m.vx,vI m.vy,vI m.inv] 194 (0,0))] []) F (λ u H'=>∃ x:Unit,H'=ap [(q,.lit [vI ((retM' m (vscale ⟨c.nx,c.ny⟩ am)).px),vI ((retM' m (vscale ⟨c.nx,c.ny⟩ am)).py),vI ((retM' m (vscale ⟨c.nx,c.ny⟩ am)).vx),vI ((retM' m (vscale ⟨c.nx,c.ny⟩ am)).vy),vI ((retM' m (vscale ⟨c.nx,c.ny⟩ am)).inv)] 194 (0,0))] [] /\ True):=by
 refine Sp.run Tryz.func125 rfl (mc hc mn) (A:=[(q,.lit [vI m.px,vI m.py,vI m.vx,vI m.vy,vI m.inv] 194 (0,0))]) (Ts:=[]) rfl λ w0=>?_
 refine RN.go 5 [.ro 0,.ro 0] λ _=>RN.cp (vscale_any (⟨c.nx,c.ny⟩:V2) am  _)<|RN.ct [0] [] (retreat_ap m (vscale (⟨c.nx,c.ny⟩:V2) am) q _) ?_
 rintro _ _ _
 refine RN.go 1 [] λ _=>RN.ret [] [0] [] (v:=.tuple #[]) (H':=(ap [(q,.lit [vI ((retM' m (vscale (⟨c.nx,c.ny⟩:V2) am)).px),vI ((retM' m (vscale (⟨c.nx,c.ny⟩:V2) am)).py),vI ((retM' m (vscale (⟨c.nx,c.ny⟩:V2) am)).vx),vI ((retM' m (vscale (⟨c.nx,c.ny⟩:V2) am)).vy),vI ((retM' m (vscale (⟨c.nx,c.ny⟩:V2) am)).inv)] 194 (0,0))] [])) ?_
 exact ⟨(),rfl,trivial⟩
theorem resolve_any (a b:Mot) (c:Con) (rest:Int) (F:HL):Sp Tryz.prog 86 #[.agg #[vI a.px,vI a.py,vI a.vx,vI a.vy,vI a.inv],.agg #[vI b.px,vI b.py,vI b.vx,vI b.vy,vI b.inv],.agg #[vI c.nx,vI c.ny,vI c.d],vI rest] [] F (λ u H'=>u=.tuple #[.agg #[vI (((resolveS a b c rest).1).px),vI (((resolveS a b c rest).1).py),vI (((resolveS a b c rest).1).vx),vI (((resolveS a b c rest).1).vy),vI (((resolveS a b c rest).1).inv)],.agg #[vI (((resolveS a b c rest).2).px),vI (((resolveS a b c rest).2).py),vI (((resolveS a b c rest).2).vx),vI (((resolveS a b c rest).2).vy),vI (((resolveS a b c rest).2).inv)]] /\ H'=[]):=by
 refine Sp.run Tryz.func86 rfl mn (A:=[]) (Ts:=[]) rfl λ w0=>?_
 refine RN.go 26 [.own 4,.own 3] λ n1=>RN.em (IntKind.i64.wrap (a.inv+b.inv)=0) 22 (λ h2=>?_) λ h2=>?_
 ·refine RN.go 2 [] λ _=>RN.draw [2,3] [2,3,4]<|RD.go [2,3,4] [0,1] (ow 4 5++[.ro 1,.ro 1,.ro 1,.ro 1,.ro 1])<|RD.one 2 (RDO.ev [2,3,4] (ow 1 5) λ _=>?_)
  refine RD.one 3 (RDO.ev [2,3,4] (ow 0 5) λ _=>?_)
  refine RD.fin<|RN.go 1 [] λ _=>RN.ret (ow 1 5++ow 0 5) [] [] (v:=.tuple #[.agg #[vI a.px,vI a.py,vI a.vx,vI a.vy,vI a.inv],.agg #[vI b.px,vI b.py,vI b.vx,vI b.vy,vI b.inv]]) (H':=[]) ?_
  refine ⟨?_,rfl⟩
  rw [show resolveS a b c rest=(a,b) from if_pos (show w64 (a.inv+b.inv)=0 from h2)]
 ·refine RN.go 4 [] λ _=>RN.draw [6,7] [0,1,2,3,4]<|RD.go [0,1,2,3,4] [0,2,1,3] (ow 4 5++[.ro 3,.ro 3,.ro 3,.ro 3,.ro 3])<|RD.haveK (σ:=Nat × Nat) (λ ⟨n5,n6⟩=>⟨[(3,vI rest),(4,vP (n1+0) 0),(5,vP (n1+1) 0),(6,vP (n1+2) 0),(8,vP (n1+3) 0),(9,vP (n1+4) 0),(10,vI (IntKind.i64.wrap (a.inv+b.inv))),(11,vP (n5+0) 0),(12,vP (n6+0) 0)],[((n6+0),.lit [vI b.px,vI b.py,vI b.vx,vI b.vy,vI b.inv] 194 (0,0)),((n5+0),.lit [vI a.px,vI a.py,vI a.vx,vI a.vy,vI a.inv] 194 (0,0)),((n1+4),.lit [vI 0,vI 0,vI 0,vI 0,vI 0] 62 (0,0)),((n1+3),.lit [vI 0,vI 0,vI 0,vI 0,vI 0] 62 (0,0)),((n1+2),.lit [vI c.nx,vI c.ny,vI c.d] 158 (0,0)),((n1+1),.lit [vI b.px,vI b.py,vI b.vx,vI b.vy,vI b.inv] 62 (0,0)),((n1+0),.lit [vI a.px,vI a.py,vI a.vx,vI a.vy,vI a.inv] 62 (0,0))],[],True,0⟩) ?_ ?_
  ·rintro ⟨n5,n6⟩
   refine RN.go 9 [] λ _=>RN.draw [] []<|RD.go [] [0,2,5,1,3,6] [.own 5,.own 5,.own 6,.own 6,.own 4,.own 4]<|RD.cp [] 4 (λ X_=>(vsub_any (⟨b.vx,b.vy⟩:V2) (⟨a.vx,a.vy⟩:V2)  _))<|RD.cp [] 7 (λ X_=>(vdot_any (vsub (⟨b.vx,b.vy⟩:V2) (⟨a.vx,a.vy⟩:V2)) (⟨c.nx,c.ny⟩:V2)  _))<|RD.go [] [8] []<|RD.fin<|RN.go 7 [] λ _=>RN.em (vdot (vsub (⟨b.vx,b.vy⟩:V2) (⟨a.vx,a.vy⟩:V2)) (⟨c.nx,c.ny⟩:V2) < 0) 39 (λ h7=>?_) λ h7=>?_
   ·refine RN.go 8 [] λ _=>RN.cp (mulDiv_any (IntKind.i64.wrap (0 - (vdot (vsub (⟨b.vx,b.vy⟩:V2) (⟨a.vx,a.vy⟩:V2)) (⟨c.nx,c.ny⟩:V2)))) (IntKind.i64.wrap (1024+rest)) (IntKind.i64.wrap (a.inv+b.inv))  _)<|RN.go 10 [.own 6] λ _=>RN.cp (mul_any (mulDivI (IntKind.i64.wrap (0 - (vdot (vsub (⟨b.vx,b.vy⟩:V2) (⟨a.vx,a.vy⟩:V2)) (⟨c.nx,c.ny⟩:V2)))) (IntKind.i64.wrap (1024+rest)) (IntKind.i64.wrap (a.inv+b.inv))) a.inv  _)<|RN.ct [1] [] (chg_slowDown a c (mulI (mulDivI (IntKind.i64.wrap (0 - (vdot (vsub (⟨b.vx,b.vy⟩:V2) (⟨a.vx,a.vy⟩:V2)) (⟨c.nx,c.ny⟩:V2)))) (IntKind.i64.wrap (1024+rest)) (IntKind.i64.wrap (a.inv+b.inv))) a.inv) (n5+0) (n1+2) _ (in_ap 3)) ?_
    rintro _ _ _
    refine RN.go 8 [.own 5] λ _=>RN.cp (mul_any (mulDivI (IntKind.i64.wrap (0 - (vdot (vsub (⟨b.vx,b.vy⟩:V2) (⟨a.vx,a.vy⟩:V2)) (⟨c.nx,c.ny⟩:V2)))) (IntKind.i64.wrap (1024+rest)) (IntKind.i64.wrap (a.inv+b.inv))) b.inv  _)<|RN.ct [1] [] (chg_speedUp b c (mulI (mulDivI (IntKind.i64.wrap (0 - (vdot (vsub (⟨b.vx,b.vy⟩:V2) (⟨a.vx,a.vy⟩:V2)) (⟨c.nx,c.ny⟩:V2)))) (IntKind.i64.wrap (1024+rest)) (IntKind.i64.wrap (a.inv+b.inv))) b.inv) (n6+0) (n1+2) _ (in_ap 3)) ?_
    rintro _ _ _
    refine RN.go 11 [.own 4,.own 6] λ _=>RN.cp (mulDiv_any c.d a.inv (IntKind.i64.wrap (a.inv+b.inv))  _)<|RN.ct [1] [] (chg_retreat (slowM a (vscale ⟨c.nx,c.ny⟩ (mulI (mulDivI (IntKind.i64.wrap (0 - (vdot (vsub (⟨b.vx,b.vy⟩:V2) (⟨a.vx,a.vy⟩:V2)) (⟨c.nx,c.ny⟩:V2)))) (IntKind.i64.wrap (1024+rest)) (IntKind.i64.wrap (a.inv+b.inv))) a.inv))) c (mulDivI c.d a.inv (IntKind.i64.wrap (a.inv+b.inv))) (n5+0) (n1+2) _ (in_ap 3)) ?_
    rintro _ _ _
    refine RN.go 11 [.own 4,.own 5] λ _=>RN.cp (mulDiv_any c.d b.inv (IntKind.i64.wrap (a.inv+b.inv))  _)<|RN.ct [1] [] (chg_advance (speedM b (vscale ⟨c.nx,c.ny⟩ (mulI (mulDivI (IntKind.i64.wrap (0 - (vdot (vsub (⟨b.vx,b.vy⟩:V2) (⟨a.vx,a.vy⟩:V2)) (⟨c.nx,c.ny⟩:V2)))) (IntKind.i64.wrap (1024+rest)) (IntKind.i64.wrap (a.inv+b.inv))) b.inv))) c (mulDivI c.d b.inv (IntKind.i64.wrap (a.inv+b.inv))) (n6+0) (n1+2) _ (in_ap 3)) ?_
    rintro _ _ _
    refine RN.go 4 [] λ _=>RN.cp (limited_any (retM' (slowM a (vscale ⟨c.nx,c.ny⟩ (mulI (mulDivI (IntKind.i64.wrap (0 - (vdot (vsub (⟨b.vx,b.vy⟩:V2) (⟨a.vx,a.vy⟩:V2)) (⟨c.nx,c.ny⟩:V2)))) (IntKind.i64.wrap (1024+rest)) (IntKind.i64.wrap (a.inv+b.inv))) a.inv))) (vscale ⟨c.nx,c.ny⟩ (mulDivI c.d a.inv (IntKind.i64.wrap (a.inv+b.inv))))) (n5+0) _ (in_ap 1))<|RN.cp (limited_any (advM (speedM b (vscale ⟨c.nx,c.ny⟩ (mulI (mulDivI (IntKind.i64.wrap (0 - (vdot (vsub (⟨b.vx,b.vy⟩:V2) (⟨a.vx,a.vy⟩:V2)) (⟨c.nx,c.ny⟩:V2)))) (IntKind.i64.wrap (1024+rest)) (IntKind.i64.wrap (a.inv+b.inv))) b.inv))) (vscale ⟨c.nx,c.ny⟩ (mulDivI c.d b.inv (IntKind.i64.wrap (a.inv+b.inv))))) (n6+0) _ (in_ap 0))<|RN.go 4 (ow 3 5++ow 2 5) λ _=>RN.ret (ow 3 5++ow 2 5) [] [] (v:=.tuple #[.agg #[vI ((limM (retM' (slowM a (vscale ⟨c.nx,c.ny⟩ (mulI (mulDivI (IntKind.i64.wrap (0 - (vdot (vsub (⟨b.vx,b.vy⟩:V2) (⟨a.vx,a.vy⟩:V2)) (⟨c.nx,c.ny⟩:V2)))) (IntKind.i64.wrap (1024+rest)) (IntKind.i64.wrap (a.inv+b.inv))) a.inv))) (vscale ⟨c.nx,c.ny⟩ (mulDivI c.d a.inv (IntKind.i64.wrap (a.inv+b.inv)))))).px),vI ((limM (retM' (slowM a (vscale ⟨c.nx,c.ny⟩ (mulI (mulDivI (IntKind.i64.wrap (0 - (vdot (vsub (⟨b.vx,b.vy⟩:V2) (⟨a.vx,a.vy⟩:V2)) (⟨c.nx,c.ny⟩:V2)))) (IntKind.i64.wrap (1024+rest)) (IntKind.i64.wrap (a.inv+b.inv))) a.inv))) (vscale ⟨c.nx,c.ny⟩ (mulDivI c.d a.inv (IntKind.i64.wrap (a.inv+b.inv)))))).py),vI ((limM (retM' (slowM a (vscale ⟨c.nx,c.ny⟩ (mulI (mulDivI (IntKind.i64.wrap (0 - (vdot (vsub (⟨b.vx,b.vy⟩:V2) (⟨a.vx,a.vy⟩:V2)) (⟨c.nx,c.ny⟩:V2)))) (IntKind.i64.wrap (1024+rest)) (IntKind.i64.wrap (a.inv+b.inv))) a.inv))) (vscale ⟨c.nx,c.ny⟩ (mulDivI c.d a.inv (IntKind.i64.wrap (a.inv+b.inv)))))).vx),vI ((limM (retM' (slowM a (vscale ⟨c.nx,c.ny⟩ (mulI (mulDivI (IntKind.i64.wrap (0 - (vdot (vsub (⟨b.vx,b.vy⟩:V2) (⟨a.vx,a.vy⟩:V2)) (⟨c.nx,c.ny⟩:V2)))) (IntKind.i64.wrap (1024+rest)) (IntKind.i64.wrap (a.inv+b.inv))) a.inv))) (vscale ⟨c.nx,c.ny⟩ (mulDivI c.d a.inv (IntKind.i64.wrap (a.inv+b.inv)))))).vy),vI ((limM (retM' (slowM a (vscale ⟨c.nx,c.ny⟩ (mulI (mulDivI (IntKind.i64.wrap (0 - (vdot (vsub (⟨b.vx,b.vy⟩:V2) (⟨a.vx,a.vy⟩:V2)) (⟨c.nx,c.ny⟩:V2)))) (IntKind.i64.wrap (1024+rest)) (IntKind.i64.wrap (a.inv+b.inv))) a.inv))) (vscale ⟨c.nx,c.ny⟩ (mulDivI c.d a.inv (IntKind.i64.wrap (a.inv+b.inv)))))).inv)],.agg #[vI ((limM (advM (speedM b (vscale ⟨c.nx,c.ny⟩ (mulI (mulDivI (IntKind.i64.wrap (0 - (vdot (vsub (⟨b.vx,b.vy⟩:V2) (⟨a.vx,a.vy⟩:V2)) (⟨c.nx,c.ny⟩:V2)))) (IntKind.i64.wrap (1024+rest)) (IntKind.i64.wrap (a.inv+b.inv))) b.inv))) (vscale ⟨c.nx,c.ny⟩ (mulDivI c.d b.inv (IntKind.i64.wrap (a.inv+b.inv)))))).px),vI ((limM (advM (speedM b (vscale ⟨c.nx,c.ny⟩ (mulI (mulDivI (IntKind.i64.wrap (0 - (vdot (vsub (⟨b.vx,b.vy⟩:V2) (⟨a.vx,a.vy⟩:V2)) (⟨c.nx,c.ny⟩:V2)))) (IntKind.i64.wrap (1024+rest)) (IntKind.i64.wrap (a.inv+b.inv))) b.inv))) (vscale ⟨c.nx,c.ny⟩ (mulDivI c.d b.inv (IntKind.i64.wrap (a.inv+b.inv)))))).py),vI ((limM (advM (speedM b (vscale ⟨c.nx,c.ny⟩ (mulI (mulDivI (IntKind.i64.wrap (0 - (vdot (vsub (⟨b.vx,b.vy⟩:V2) (⟨a.vx,a.vy⟩:V2)) (⟨c.nx,c.ny⟩:V2)))) (IntKind.i64.wrap (1024+rest)) (IntKind.i64.wrap (a.inv+b.inv))) b.inv))) (vscale ⟨c.nx,c.ny⟩ (mulDivI c.d b.inv (IntKind.i64.wrap (a.inv+b.inv)))))).vx),vI ((limM (advM (speedM b (vscale ⟨c.nx,c.ny⟩ (mulI (mulDivI (IntKind.i64.wrap (0 - (vdot (vsub (⟨b.vx,b.vy⟩:V2) (⟨a.vx,a.vy⟩:V2)) (⟨c.nx,c.ny⟩:V2)))) (IntKind.i64.wrap (1024+rest)) (IntKind.i64.wrap (a.inv+b.inv))) b.inv))) (vscale ⟨c.nx,c.ny⟩ (mulDivI c.d b.inv (IntKind.i64.wrap (a.inv+b.inv)))))).vy),vI ((limM (advM (speedM b (vscale ⟨c.nx,c.ny⟩ (mulI (mulDivI (IntKind.i64.wrap (0 - (vdot (vsub (⟨b.vx,b.vy⟩:V2) (⟨a.vx,a.vy⟩:V2)) (⟨c.nx,c.ny⟩:V2)))) (IntKind.i64.wrap (1024+rest)) (IntKind.i64.wrap (a.inv+b.inv))) b.inv))) (vscale ⟨c.nx,c.ny⟩ (mulDivI c.d b.inv (IntKind.i64.wrap (a.inv+b.inv)))))).inv)]]) (H':=[]) ?_
    refine ⟨?_,rfl⟩
    rw [show resolveS a b c rest=_ from if_neg (show ¬ w64 (a.inv+b.inv)=0 from h2)]
    rw [show rsA a b c rest=_ from if_pos (show rsSp a b c < 0 from h7),show rsB a b c rest=_ from if_pos (show rsSp a b c < 0 from h7)]
    first | rfl | skip
   ·refine RN.go 12 [.own 4,.own 6] λ _=>RN.cp (mulDiv_any c.d a.inv (IntKind.i64.wrap (a.inv+b.inv))  _)<|RN.ct [1] [] (chg_retreat a c (mulDivI c.d a.inv (IntKind.i64.wrap (a.inv+b.inv))) (n5+0) (n1+2) _ (in_ap 3)) ?_
    rintro _ _ _
    refine RN.go 11 [.own 4,.own 5] λ _=>RN.cp (mulDiv_any c.d b.inv (IntKind.i64.wrap (a.inv+b.inv))  _)<|RN.ct [1] [] (chg_advance b c (mulDivI c.d b.inv (IntKind.i64.wrap (a.inv+b.inv))) (n6+0) (n1+2) _ (in_ap 3)) ?_
    rintro _ _ _
    refine RN.go 4 [] λ _=>RN.cp (limited_any (retM' a (vscale ⟨c.nx,c.ny⟩ (mulDivI c.d a.inv (IntKind.i64.wrap (a.inv+b.inv))))) (n5+0) _ (in_ap 1))<|RN.cp (limited_any (advM b (vscale ⟨c.nx,c.ny⟩ (mulDivI c.d b.inv (IntKind.i64.wrap (a.inv+b.inv))))) (n6+0) _ (in_ap 0))<|RN.go 4 (ow 3 5++ow 2 5) λ _=>RN.ret (ow 3 5++ow 2 5) [] [] (v:=.tuple #[.agg #[vI ((limM (retM' a (vscale ⟨c.nx,c.ny⟩ (mulDivI c.d a.inv (IntKind.i64.wrap (a.inv+b.inv)))))).px),vI ((limM (retM' a (vscale ⟨c.nx,c.ny⟩ (mulDivI c.d a.inv (IntKind.i64.wrap (a.inv+b.inv)))))).py),vI ((limM (retM' a (vscale ⟨c.nx,c.ny⟩ (mulDivI c.d a.inv (IntKind.i64.wrap (a.inv+b.inv)))))).vx),vI ((limM (retM' a (vscale ⟨c.nx,c.ny⟩ (mulDivI c.d a.inv (IntKind.i64.wrap (a.inv+b.inv)))))).vy),vI ((limM (retM' a (vscale ⟨c.nx,c.ny⟩ (mulDivI c.d a.inv (IntKind.i64.wrap (a.inv+b.inv)))))).inv)],.agg #[vI ((limM (advM b (vscale ⟨c.nx,c.ny⟩ (mulDivI c.d b.inv (IntKind.i64.wrap (a.inv+b.inv)))))).px),vI ((limM (advM b (vscale ⟨c.nx,c.ny⟩ (mulDivI c.d b.inv (IntKind.i64.wrap (a.inv+b.inv)))))).py),vI ((limM (advM b (vscale ⟨c.nx,c.ny⟩ (mulDivI c.d b.inv (IntKind.i64.wrap (a.inv+b.inv)))))).vx),vI ((limM (advM b (vscale ⟨c.nx,c.ny⟩ (mulDivI c.d b.inv (IntKind.i64.wrap (a.inv+b.inv)))))).vy),vI ((limM (advM b (vscale ⟨c.nx,c.ny⟩ (mulDivI c.d b.inv (IntKind.i64.wrap (a.inv+b.inv)))))).inv)]]) (H':=[]) ?_
    refine ⟨?_,rfl⟩
    rw [show resolveS a b c rest=_ from if_neg (show ¬ w64 (a.inv+b.inv)=0 from h2)]
    rw [show rsA a b c rest=_ from if_neg (show ¬ rsSp a b c < 0 from h7),show rsB a b c rest=_ from if_neg (show ¬ rsSp a b c < 0 from h7)]
    first | rfl | skip
  ·intro key8
   refine RD.two 4 5 ?_ ?_
   ·refine RDO.ev [] [] λ n9=>RD.one 5 (RDO.ev [] [] λ n10=>?_)
    refine RD.one 6 (RDO.ev [2,3,4,5,6] (ow 1 5) λ _=>?_)
    refine RD.one 7 (RDO.ev [2,3,4,5,6] (ow 0 5) λ _=>?_)
    exact key8 ⟨n9,n10⟩ [0,1,2,3,4,5,6] []
   ·refine RDO.ev [] [] λ n11=>RD.one 4 (RDO.ev [] [] λ n12=>?_)
    refine RD.one 6 (RDO.ev [2,3,4,5,6] (ow 0 5) λ _=>?_)
    refine RD.one 7 (RDO.ev [2,3,4,5,6] (ow 1 5) λ _=>?_)
    exact key8 ⟨n12,n11⟩ [1,0,2,3,4,5,6] []
def afterV (pos vel:V2) (k:Int):V2:=vadd pos (vmuldiv vel k 8)
def touchE (a:Shp) (pa va:V2) (b:Shp) (pb vb:V2) (k:Int):Bool:=(collideS a (afterV pa va k) b (afterV pb vb k)).2
def earlL (a:Shp) (pa va:V2) (b:Shp) (pb vb:V2):Nat -> Nat -> Int
 | 0,_=>1024
 | n+1,k=>if touchE a pa va b pb vb ((k:Int)+1)=true then ((k:Int) * 1024) / 8 else earlL a pa va b pb vb n (k+1)
def earlS (a:Shp) (pa va:V2) (b:Shp) (pb vb:V2):Int:=if touchE a pa va b pb vb 0=true then 1024 else earlL a pa va b pb vb 8 0
theorem after_any (pos:V2) (vel:V2) (k:Int)  (F:HL):Sp Tryz.prog 133 #[.agg #[vI pos.x,vI pos.y],.agg #[vI vel.x,vI vel.y],vI k] [] F (λ u H'=>u=.agg #[vI ((afterV pos vel k).x),vI ((afterV pos vel k).y)] /\ H'=[]):=by
 refine Sp.run Tryz.func133 rfl mn (A:=[]) (Ts:=[]) rfl λ w0=>?_
 refine RN.go 8 [] λ n1=>RN.draw [5] []<|RD.go [] [0,1,2] [.own 2,.own 2,.own 1,.own 1]<|RD.cp [] 3 (λ X_=>(vmuldiv_any vel k 8  _))<|RD.cp [] 4 (λ X_=>(vadd_any pos (vmuldiv vel k 8)  _))<|RD.one 5 (RDO.ev [] [.own 0,.own 0] λ _=>?_)
 refine RD.fin<|RN.go 1 [] λ _=>?_
 exact RN.ret [.own 0,.own 0] [] [] ⟨rfl,rfl⟩
theorem earl1_any (a:Shp) (pa va:V2) (b:Shp) (pb vb:V2) (k:Int) (q1 q2 q3 q4 q5 q6:Nat) (F:HL) (ha:ShIn F a) (hb:ShIn F b) (hq1:(q1,.lit [vI a.r,.slice a.A a.poly.length a.cap] 59 (0,0)) ∈ F) (hq2:(q2,.lit [vI pa.x,vI pa.y] 29 (0,0)) ∈ F) (hq3:(q3,.lit [vI va.x,vI va.y] 29 (0,0)) ∈ F) (hq4:(q4,.lit [vI b.r,.slice b.A b.poly.length b.cap] 59 (0,0)) ∈ F) (hq5:(q5,.lit [vI pb.x,vI pb.y] 29 (0,0)) ∈ F) (hq6:(q6,.lit [vI vb.x,vI vb.y] 29 (0,0)) ∈ F):Sp Tryz.prog 132 #[vI k,vP q1 0,vP q2 0,vP q3 0,vP q4 0,vP q5 0,vP q6 0] [] F (λ u H'=>u=.bool (touchE a pa va b pb vb k) /\ H'=[]):=by
 refine Sp.run Tryz.func132 rfl (mc hq1 (mc hq2 (mc hq3 (mc hq4 (mc hq5 (mc hq6 mn)))))) (A:=[]) (Ts:=[]) rfl λ w0=>?_
 refine RN.go 6 [] λ _=>RN.draw [15] []<|RD.go [] [0,1,2,3,5,6,7,8] [.ro 0,.ro 0,.ro 1,.ro 1,.ro 2,.ro 2,.ro 3,.ro 3,.ro 4,.ro 4,.ro 5,.ro 5]<|RD.cp [] 4 (λ X_=>(after_any pa va k  _))<|RD.cp [] 9 (λ X_=>(after_any pb vb k  _))<|RD.cp [] 10 (λ X_=>(collide_any a (afterV pa va k) b (afterV pb vb k) _ (ha.up.up) (hb.up.up)))<|RD.go [] [11,12,13] []<|RD.one 14 (RDO.ev [] [] λ n2=>?_)
 refine RD.one 15 (RDO.ev [] [.own 0,.own 0,.own 0] λ _=>?_)
 refine RD.go [] [16] []<|RD.fin<|RN.go 7 [] λ _=>?_
 exact RN.ret [] [] [] ⟨rfl,rfl⟩
theorem earliest_any (a:Shp) (pa va:V2) (b:Shp) (pb vb:V2) (F:HL) (ha:ShIn F a) (hb:ShIn F b):Sp Tryz.prog 88 #[.agg #[vI a.r,.slice a.A a.poly.length a.cap],.agg #[vI pa.x,vI pa.y],.agg #[vI va.x,vI va.y],.agg #[vI b.r,.slice b.A b.poly.length b.cap],.agg #[vI pb.x,vI pb.y],.agg #[vI vb.x,vI vb.y]] [] F (λ u H'=>u=vI (earlS a pa va b pb vb) /\ H'=[]):=by
 refine Sp.run Tryz.func88 rfl mn (A:=[]) (Ts:=[]) rfl λ w0=>?_
 refine RN.go 21 [] λ n1=>RN.cp (earl1_any a pa va b pb vb 0 (n1+0) (n1+1) (n1+2) (n1+3) (n1+4) (n1+5) _ ha.up hb.up (in_ap 5) (in_ap 4) (in_ap 3) (in_ap 2) (in_ap 1) (in_ap 0))<|RN.go 2 [] λ _=>RN.eb (touchE a pa va b pb vb 0) 17 (λ h2=>?_) λ h2=>?_
 ·refine RN.go 6 [] λ _=>RN.ret [] [] [] (v:=vI 1024) (H':=[]) ?_
  exact ⟨by rw [earlS,if_pos h2],rfl⟩
 ·refine RN.go 10 [] λ _=>RN.loop (σ:=Nat) (λ n=>⟨[(13,.func (.func 132) #[] #[vP (n1+0) 0,vP (n1+1) 0,vP (n1+2) 0,vP (n1+3) 0,vP (n1+4) 0,vP (n1+5) 0]),(18,vI (n:Int))],[((n1+5),.lit [vI vb.x,vI vb.y] 29 (0,0)),((n1+4),.lit [vI pb.x,vI pb.y] 29 (0,0)),((n1+3),.lit [vI b.r,.slice b.A b.poly.length b.cap] 59 (0,0)),((n1+2),.lit [vI va.x,vI va.y] 29 (0,0)),((n1+1),.lit [vI pa.x,vI pa.y] 29 (0,0)),((n1+0),.lit [vI a.r,.slice a.A a.poly.length a.cap] 59 (0,0))],[],n <= 8 /\ earlL a pa va b pb vb (8 - n) n=earlL a pa va b pb vb 8 0,8 - n⟩) 0 [0,1,2,3,4,5] [] (⟨Nat.zero_le _,rfl⟩) ?_
  rintro n ⟨hn_,hE_⟩ mt4
  refine RN.go 6 [] λ _=>RN.em ((n:Int) < 8) 19 (λ h5=>?_) λ h5=>?_
  ·refine RN.goP 16 [.nw] [I64 ((n:Int)+1)] λ _=>RN.cp (earl1_any a pa va b pb vb ((n:Int)+1) (n1+0) (n1+1) (n1+2) (n1+3) (n1+4) (n1+5) _ ha.up hb.up (in_ap 5) (in_ap 4) (in_ap 3) (in_ap 2) (in_ap 1) (in_ap 0))<|RN.go 2 [] λ _=>RN.eb (touchE a pa va b pb vb ((n:Int)+1)) 24 (λ h6=>?_) λ h6=>?_
   ·refine RN.goP 9 [.nw,.nw] [0 <= (n:Int) * 1024 /\ (0:Int) < 8 /\ (n:Int) * 1024 <= 9223372036854775807,I64 ((n:Int) * 1024)] λ _=>RN.ret [] [] [] (v:=vI (((n:Int) * 1024) / 8)) (H':=[]) ?_
    refine ⟨?_,rfl⟩
    rw [earlS,if_neg h2,<- hE_]
    rw [show 8 - n=(8 - (n+1))+1 by omega,earlL,if_pos h6]
   ·refine RN.goP 8 [.nw] [I64 ((n:Int)+1)] λ _=>?_
    refine mt4 (n+1) [0,1,2,3,4,5] [] ?_
    try dsimp only
    refine ⟨⟨by omega,?_⟩,by omega⟩
    rw [<- hE_,show 8 - n=(8 - (n+1))+1 by omega,earlL,if_neg h6]
  ·refine RN.go 11 [] λ _=>RN.ret [] [] [] (v:=vI 1024) (H':=[]) ?_
   refine ⟨?_,rfl⟩
   rw [earlS,if_neg h2,<- hE_]
   rw [show 8 - n=0 by omega,earlL]
end Go.Proofs.YtkhifpbokgabbaaGreatDoor
