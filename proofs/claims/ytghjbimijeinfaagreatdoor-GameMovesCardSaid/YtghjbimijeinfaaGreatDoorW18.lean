import Derived.Test.YtghjbimijeinfaaGreatDoorW15
import Derived.Test.YtghjbimijeinfaaGreatDoorW17
set_option maxHeartbeats 4000000
set_option maxRecDepth 100000
set_option linter.unusedSimpArgs false
set_option linter.unusedVariables false
namespace Go.Proofs.YtghjbimijeinfaaGreatDoor
open Go.RowKit
structure Gm where
 S:Setup
 cA:Option Addr
 cn:Nat
 cc:Nat
 e0:Int
 e1:Int
 e2:Int
 version:Int
 ib:Nat
 io:Nat
 ni:Nat
 ic:Nat
 iR:Nat
 ins:List Inp
 code:List Ins
abbrev Gm.step (g:Gm) (M:MemS):Stp:=⟨g.S,g.cA,g.cn,g.cc,g.e0,g.e1,g.e2,g.version,g.ib,g.io,g.ni,g.ic,g.iR,g.ins,M.get 2,M.get 3,false,0,0,0,0,false,g.code⟩
theorem trans0 (g:Gm) (mb:Nat) (M:MemS) (k:Nat) (T F:HL) (hM:MemH mb M (k+20) T) (hS:SetIn F g.S) (hp:M.get 1=0) (hI:(g.ib,.rows 3 g.iR (inrow g.ins) 151 (0,0)) ∈ F) (hir:g.io+g.ni <= g.iR /\ g.ni <= 1000000):Sp Tryz.prog 18 #[.iface 40 (vP mb 0),.agg #[vI g.S.players,vS g.S.bb (g.S.bo * 9) g.S.nb g.S.bc,vI g.S.box.x0,vI g.S.box.y0,vI g.S.box.x1,vI g.S.box.y1,.slice g.S.rA g.S.rn g.S.rc,.slice g.S.dA g.S.dn g.S.dc,vI g.S.fog,vI g.S.g.x,vI g.S.g.y,vI g.S.push,vI g.S.drag,vI g.S.rest,vI g.S.rounds,vI g.S.fuel],.agg #[.slice g.cA g.cn g.cc,vI g.e0,vI g.e1,vI g.e2],vI g.version,vS g.ib (g.io * 3) g.ni g.ic] (ap [] [T]) F (λ u H'=>∃ x,H'=ap [] [x] /\ (MemH mb (inputM (g.step M) M) k x /\ u=.tuple #[.bool false,.agg #[vI 0,vI 0,vI 0,vI 0],.bool false])):=by
 refine Sp.run Tryz.func18 rfl mn (A:=[]) (Ts:=[T]) rfl λ w0=>?_
 refine RN.go 29 (ow 0 8) λ n1=>RN.cp (get_lit 1 hp hM (sub_ap 0))<|RN.go 18 [] λ _=>RN.draw [] []<|RD.go [] [0,1,2,3,4,5,7] (ow 3 16++[.own 2,.own 2,.own 2,.own 2])<|RD.cp [] 6 (λ X_=>(get_any 2 hM (sub_apX 0)))<|RD.cp [] 8 (λ X_=>(get_any 3 hM (sub_apX 0)))<|RD.go [] [9] []<|RD.one 10 (RDO.ev [] [] λ n2=>?_)
 refine RD.go [] [11] []<|RD.fin<|RN.go 7 [.own 1] λ _=>RN.ct [0] [0] (input_any (g.step M) (n2+0) mb M (k+12) T _ hM hS.up (List.mem_append_right _ hI) hir) ?_
 rintro _ T3 hM4
 refine RN.go 3 [] λ _=>RN.draw [13] [0,1,3,4]<|RD.go [0,1,3,4] [0,4,8,1,5,9,2,6,10,3,7,11,12] (ow 0 5++[.ro 0])<|RD.one 13 (RDO.ev [0,1,3,4] [.own 2,.own 2,.own 2,.own 2] λ _=>?_)
 refine RD.go [0,1,3,4] [14] []<|RD.fin<|RN.go 1 [] λ _=>RN.ret [.own 2,.own 2,.own 2,.own 2] [] [0] (v:=.tuple #[.bool false,.agg #[vI 0,vI 0,vI 0,vI 0],.bool false]) (H':=(ap [] [T3])) ?_
 exact ⟨T3,rfl,hM4.weak (by omega),rfl⟩
theorem trans1 (g:Gm) (mb:Nat) (M:MemS) (k:Nat) (T F:HL) (hM:MemH mb M (k+20) T) (hS:SetIn F g.S) (hp:M.get 1=1) (hE:EffIn F) (hC:CodeIn F g.code g.cA g.cn):Sp Tryz.prog 18 #[.iface 40 (vP mb 0),.agg #[vI g.S.players,vS g.S.bb (g.S.bo * 9) g.S.nb g.S.bc,vI g.S.box.x0,vI g.S.box.y0,vI g.S.box.x1,vI g.S.box.y1,.slice g.S.rA g.S.rn g.S.rc,.slice g.S.dA g.S.dn g.S.dc,vI g.S.fog,vI g.S.g.x,vI g.S.g.y,vI g.S.push,vI g.S.drag,vI g.S.rest,vI g.S.rounds,vI g.S.fuel],.agg #[.slice g.cA g.cn g.cc,vI g.e0,vI g.e1,vI g.e2],vI g.version,vS g.ib (g.io * 3) g.ni g.ic] (ap [] [T]) F (λ u H'=>∃ x,H'=ap [] [x] /\ (MemH mb (actV (g.step M) M).M k x /\ u=.tuple #[.bool false,.agg #[vI ((actV (g.step M) M).e.t),vI ((actV (g.step M) M).e.i),vI ((actV (g.step M) M).e.k),vI ((actV (g.step M) M).e.v)],.bool ((actV (g.step M) M).em)])):=by
 refine Sp.run Tryz.func18 rfl mn (A:=[]) (Ts:=[T]) rfl λ w0=>?_
 refine RN.go 29 (ow 0 8) λ n1=>RN.cp (get_lit 1 hp hM (sub_ap 0))<|RN.go 18 [] λ _=>RN.draw [] []<|RD.go [] [0,1,2,3,4,5,7] (ow 3 16++[.own 2,.own 2,.own 2,.own 2])<|RD.cp [] 6 (λ X_=>(get_any 2 hM (sub_apX 0)))<|RD.cp [] 8 (λ X_=>(get_any 3 hM (sub_apX 0)))<|RD.go [] [9] []<|RD.one 10 (RDO.ev [] [] λ n2=>?_)
 refine RD.go [] [11] []<|RD.fin<|RN.go 7 [.own 1] λ _=>RN.ct [0] [0] (act_v (g.step M) (n2+0) mb M (k+11) T _ hM hS.up (ro_ap hE) hC.up) ?_
 rintro _ T3 hM4
 refine RN.go 3 [] λ _=>RN.draw [13] [0,1,3,4]<|RD.go [0,1,3,4] [0,4,8,1,5,9,2,6,10,3,7,11,12] (ow 0 5++[.ro 0])<|RD.one 13 (RDO.ev [0,1,3,4] [.own 2,.own 2,.own 2,.own 2] λ _=>?_)
 refine RD.go [0,1,3,4] [14] []<|RD.fin<|RN.go 1 [] λ _=>RN.ret [.own 2,.own 2,.own 2,.own 2] [] [0] (v:=.tuple #[.bool false,.agg #[vI ((actV (g.step M) M).e.t),vI ((actV (g.step M) M).e.i),vI ((actV (g.step M) M).e.k),vI ((actV (g.step M) M).e.v)],.bool ((actV (g.step M) M).em)]) (H':=(ap [] [T3])) ?_
 exact ⟨T3,rfl,hM4.weak (by omega),rfl⟩
theorem trans2 (g:Gm) (mb:Nat) (M:MemS) (k:Nat) (T F:HL) (hM:MemH mb M (k+20) T) (hS:SetIn F g.S) (hp:M.get 1=2) (hE:EffIn F) (hC:CodeIn F g.code g.cA g.cn):Sp Tryz.prog 18 #[.iface 40 (vP mb 0),.agg #[vI g.S.players,vS g.S.bb (g.S.bo * 9) g.S.nb g.S.bc,vI g.S.box.x0,vI g.S.box.y0,vI g.S.box.x1,vI g.S.box.y1,.slice g.S.rA g.S.rn g.S.rc,.slice g.S.dA g.S.dn g.S.dc,vI g.S.fog,vI g.S.g.x,vI g.S.g.y,vI g.S.push,vI g.S.drag,vI g.S.rest,vI g.S.rounds,vI g.S.fuel],.agg #[.slice g.cA g.cn g.cc,vI g.e0,vI g.e1,vI g.e2],vI g.version,vS g.ib (g.io * 3) g.ni g.ic] (ap [] [T]) F (λ u H'=>∃ x,H'=ap [] [x] /\ (MemH mb (tickV (g.step M) M).M k x /\ u=.tuple #[.bool false,.agg #[vI ((tickV (g.step M) M).e.t),vI ((tickV (g.step M) M).e.i),vI ((tickV (g.step M) M).e.k),vI ((tickV (g.step M) M).e.v)],.bool ((tickV (g.step M) M).em)])):=by
 refine Sp.run Tryz.func18 rfl mn (A:=[]) (Ts:=[T]) rfl λ w0=>?_
 refine RN.go 29 (ow 0 8) λ n1=>RN.cp (get_lit 1 hp hM (sub_ap 0))<|RN.go 18 [] λ _=>RN.draw [] []<|RD.go [] [0,1,2,3,4,5,7] (ow 3 16++[.own 2,.own 2,.own 2,.own 2])<|RD.cp [] 6 (λ X_=>(get_any 2 hM (sub_apX 0)))<|RD.cp [] 8 (λ X_=>(get_any 3 hM (sub_apX 0)))<|RD.go [] [9] []<|RD.one 10 (RDO.ev [] [] λ n2=>?_)
 refine RD.go [] [11] []<|RD.fin<|RN.go 7 [.own 1] λ _=>RN.ct [0] [0] (tick_v (g.step M) (n2+0) mb M (k+11) T _ hM hS.up (ro_ap hE) hC.up) ?_
 rintro _ T3 hM4
 refine RN.go 3 [] λ _=>RN.draw [13] [0,1,3,4]<|RD.go [0,1,3,4] [0,4,8,1,5,9,2,6,10,3,7,11,12] (ow 0 5++[.ro 0])<|RD.one 13 (RDO.ev [0,1,3,4] [.own 2,.own 2,.own 2,.own 2] λ _=>?_)
 refine RD.go [0,1,3,4] [14] []<|RD.fin<|RN.go 1 [] λ _=>RN.ret [.own 2,.own 2,.own 2,.own 2] [] [0] (v:=.tuple #[.bool false,.agg #[vI ((tickV (g.step M) M).e.t),vI ((tickV (g.step M) M).e.i),vI ((tickV (g.step M) M).e.k),vI ((tickV (g.step M) M).e.v)],.bool ((tickV (g.step M) M).em)]) (H':=(ap [] [T3])) ?_
 exact ⟨T3,rfl,hM4.weak (by omega),rfl⟩
theorem trans3 (g:Gm) (mb:Nat) (M:MemS) (k:Nat) (T F:HL) (hM:MemH mb M (k+20) T) (hS:SetIn F g.S) (hp:M.get 1=3) :Sp Tryz.prog 18 #[.iface 40 (vP mb 0),.agg #[vI g.S.players,vS g.S.bb (g.S.bo * 9) g.S.nb g.S.bc,vI g.S.box.x0,vI g.S.box.y0,vI g.S.box.x1,vI g.S.box.y1,.slice g.S.rA g.S.rn g.S.rc,.slice g.S.dA g.S.dn g.S.dc,vI g.S.fog,vI g.S.g.x,vI g.S.g.y,vI g.S.push,vI g.S.drag,vI g.S.rest,vI g.S.rounds,vI g.S.fuel],.agg #[.slice g.cA g.cn g.cc,vI g.e0,vI g.e1,vI g.e2],vI g.version,vS g.ib (g.io * 3) g.ni g.ic] (ap [] [T]) F (λ u H'=>∃ x,H'=ap [] [x] /\ (MemH mb (forceM (g.step M) M) k x /\ u=.tuple #[.bool false,.agg #[vI 0,vI 0,vI 0,vI 0],.bool false])):=by
 refine Sp.run Tryz.func18 rfl mn (A:=[]) (Ts:=[T]) rfl λ w0=>?_
 refine RN.go 29 (ow 0 8) λ n1=>RN.cp (get_lit 1 hp hM (sub_ap 0))<|RN.go 18 [] λ _=>RN.draw [] []<|RD.go [] [0,1,2,3,4,5,7] (ow 3 16++[.own 2,.own 2,.own 2,.own 2])<|RD.cp [] 6 (λ X_=>(get_any 2 hM (sub_apX 0)))<|RD.cp [] 8 (λ X_=>(get_any 3 hM (sub_apX 0)))<|RD.go [] [9] []<|RD.one 10 (RDO.ev [] [] λ n2=>?_)
 refine RD.go [] [11] []<|RD.fin<|RN.go 7 [.own 1] λ _=>RN.ct [0] [0] (force_any (g.step M) (n2+0) mb M (k+12) T _ hM hS.up ) ?_
 rintro _ T3 hM4
 refine RN.go 3 [] λ _=>RN.draw [13] [0,1,3,4]<|RD.go [0,1,3,4] [0,4,8,1,5,9,2,6,10,3,7,11,12] (ow 0 5++[.ro 0])<|RD.one 13 (RDO.ev [0,1,3,4] [.own 2,.own 2,.own 2,.own 2] λ _=>?_)
 refine RD.go [0,1,3,4] [14] []<|RD.fin<|RN.go 1 [] λ _=>RN.ret [.own 2,.own 2,.own 2,.own 2] [] [0] (v:=.tuple #[.bool false,.agg #[vI 0,vI 0,vI 0,vI 0],.bool false]) (H':=(ap [] [T3])) ?_
 exact ⟨T3,rfl,hM4.weak (by omega),rfl⟩
theorem trans4 (g:Gm) (mb:Nat) (M:MemS) (k:Nat) (T F:HL) (hM:MemH mb M (k+20) T) (hS:SetIn F g.S) (hp:M.get 1=4) :Sp Tryz.prog 18 #[.iface 40 (vP mb 0),.agg #[vI g.S.players,vS g.S.bb (g.S.bo * 9) g.S.nb g.S.bc,vI g.S.box.x0,vI g.S.box.y0,vI g.S.box.x1,vI g.S.box.y1,.slice g.S.rA g.S.rn g.S.rc,.slice g.S.dA g.S.dn g.S.dc,vI g.S.fog,vI g.S.g.x,vI g.S.g.y,vI g.S.push,vI g.S.drag,vI g.S.rest,vI g.S.rounds,vI g.S.fuel],.agg #[.slice g.cA g.cn g.cc,vI g.e0,vI g.e1,vI g.e2],vI g.version,vS g.ib (g.io * 3) g.ni g.ic] (ap [] [T]) F (λ u H'=>∃ x,H'=ap [] [x] /\ (MemH mb (contactF (g.step M) M) k x /\ u=.tuple #[.bool false,.agg #[vI 0,vI 0,vI 0,vI 0],.bool false])):=by
 refine Sp.run Tryz.func18 rfl mn (A:=[]) (Ts:=[T]) rfl λ w0=>?_
 refine RN.go 29 (ow 0 8) λ n1=>RN.cp (get_lit 1 hp hM (sub_ap 0))<|RN.go 18 [] λ _=>RN.draw [] []<|RD.go [] [0,1,2,3,4,5,7] (ow 3 16++[.own 2,.own 2,.own 2,.own 2])<|RD.cp [] 6 (λ X_=>(get_any 2 hM (sub_apX 0)))<|RD.cp [] 8 (λ X_=>(get_any 3 hM (sub_apX 0)))<|RD.go [] [9] []<|RD.one 10 (RDO.ev [] [] λ n2=>?_)
 refine RD.go [] [11] []<|RD.fin<|RN.go 7 [.own 1] λ _=>RN.ct [0] [0] (contact_full (g.step M) (n2+0) mb M (k+6) T _ hM hS.up ) ?_
 rintro _ T3 hM4
 refine RN.go 3 [] λ _=>RN.draw [13] [0,1,3,4]<|RD.go [0,1,3,4] [0,4,8,1,5,9,2,6,10,3,7,11,12] (ow 0 5++[.ro 0])<|RD.one 13 (RDO.ev [0,1,3,4] [.own 2,.own 2,.own 2,.own 2] λ _=>?_)
 refine RD.go [0,1,3,4] [14] []<|RD.fin<|RN.go 1 [] λ _=>RN.ret [.own 2,.own 2,.own 2,.own 2] [] [0] (v:=.tuple #[.bool false,.agg #[vI 0,vI 0,vI 0,vI 0],.bool false]) (H':=(ap [] [T3])) ?_
 exact ⟨T3,rfl,hM4.weak (by omega),rfl⟩
theorem trans5 (g:Gm) (mb:Nat) (M:MemS) (k:Nat) (T F:HL) (hM:MemH mb M (k+20) T) (hS:SetIn F g.S) (hp:M.get 1=5) :Sp Tryz.prog 18 #[.iface 40 (vP mb 0),.agg #[vI g.S.players,vS g.S.bb (g.S.bo * 9) g.S.nb g.S.bc,vI g.S.box.x0,vI g.S.box.y0,vI g.S.box.x1,vI g.S.box.y1,.slice g.S.rA g.S.rn g.S.rc,.slice g.S.dA g.S.dn g.S.dc,vI g.S.fog,vI g.S.g.x,vI g.S.g.y,vI g.S.push,vI g.S.drag,vI g.S.rest,vI g.S.rounds,vI g.S.fuel],.agg #[.slice g.cA g.cn g.cc,vI g.e0,vI g.e1,vI g.e2],vI g.version,vS g.ib (g.io * 3) g.ni g.ic] (ap [] [T]) F (λ u H'=>∃ x,H'=ap [] [x] /\ (MemH mb (moveF (g.step M) M) k x /\ u=.tuple #[.bool false,.agg #[vI 0,vI 0,vI 0,vI 0],.bool false])):=by
 refine Sp.run Tryz.func18 rfl mn (A:=[]) (Ts:=[T]) rfl λ w0=>?_
 refine RN.go 29 (ow 0 8) λ n1=>RN.cp (get_lit 1 hp hM (sub_ap 0))<|RN.go 18 [] λ _=>RN.draw [] []<|RD.go [] [0,1,2,3,4,5,7] (ow 3 16++[.own 2,.own 2,.own 2,.own 2])<|RD.cp [] 6 (λ X_=>(get_any 2 hM (sub_apX 0)))<|RD.cp [] 8 (λ X_=>(get_any 3 hM (sub_apX 0)))<|RD.go [] [9] []<|RD.one 10 (RDO.ev [] [] λ n2=>?_)
 refine RD.go [] [11] []<|RD.fin<|RN.go 7 [.own 1] λ _=>RN.ct [0] [0] (move_full (g.step M) (n2+0) mb M (k+12) T _ hM hS.up ) ?_
 rintro _ T3 hM4
 refine RN.go 3 [] λ _=>RN.draw [13] [0,1,3,4]<|RD.go [0,1,3,4] [0,4,8,1,5,9,2,6,10,3,7,11,12] (ow 0 5++[.ro 0])<|RD.one 13 (RDO.ev [0,1,3,4] [.own 2,.own 2,.own 2,.own 2] λ _=>?_)
 refine RD.go [0,1,3,4] [14] []<|RD.fin<|RN.go 1 [] λ _=>RN.ret [.own 2,.own 2,.own 2,.own 2] [] [0] (v:=.tuple #[.bool false,.agg #[vI 0,vI 0,vI 0,vI 0],.bool false]) (H':=(ap [] [T3])) ?_
 exact ⟨T3,rfl,hM4.weak (by omega),rfl⟩
theorem trans6 (g:Gm) (mb:Nat) (M:MemS) (k:Nat) (T F:HL) (hM:MemH mb M (k+20) T) (hS:SetIn F g.S) (hp:M.get 1=6) (hE:EffIn F) (hC:CodeIn F g.code g.cA g.cn):Sp Tryz.prog 18 #[.iface 40 (vP mb 0),.agg #[vI g.S.players,vS g.S.bb (g.S.bo * 9) g.S.nb g.S.bc,vI g.S.box.x0,vI g.S.box.y0,vI g.S.box.x1,vI g.S.box.y1,.slice g.S.rA g.S.rn g.S.rc,.slice g.S.dA g.S.dn g.S.dc,vI g.S.fog,vI g.S.g.x,vI g.S.g.y,vI g.S.push,vI g.S.drag,vI g.S.rest,vI g.S.rounds,vI g.S.fuel],.agg #[.slice g.cA g.cn g.cc,vI g.e0,vI g.e1,vI g.e2],vI g.version,vS g.ib (g.io * 3) g.ni g.ic] (ap [] [T]) F (λ u H'=>∃ x,H'=ap [] [x] /\ (MemH mb (hitV (g.step M) M).M k x /\ u=.tuple #[.bool false,.agg #[vI ((hitV (g.step M) M).e.t),vI ((hitV (g.step M) M).e.i),vI ((hitV (g.step M) M).e.k),vI ((hitV (g.step M) M).e.v)],.bool ((hitV (g.step M) M).em)])):=by
 refine Sp.run Tryz.func18 rfl mn (A:=[]) (Ts:=[T]) rfl λ w0=>?_
 refine RN.go 29 (ow 0 8) λ n1=>RN.cp (get_lit 1 hp hM (sub_ap 0))<|RN.go 18 [] λ _=>RN.draw [] []<|RD.go [] [0,1,2,3,4,5,7] (ow 3 16++[.own 2,.own 2,.own 2,.own 2])<|RD.cp [] 6 (λ X_=>(get_any 2 hM (sub_apX 0)))<|RD.cp [] 8 (λ X_=>(get_any 3 hM (sub_apX 0)))<|RD.go [] [9] []<|RD.one 10 (RDO.ev [] [] λ n2=>?_)
 refine RD.go [] [11] []<|RD.fin<|RN.go 7 [.own 1] λ _=>RN.ct [0] [0] (hit_v (g.step M) (n2+0) mb M (k+11) T _ hM hS.up (ro_ap hE) hC.up) ?_
 rintro _ T3 hM4
 refine RN.go 3 [] λ _=>RN.draw [13] [0,1,3,4]<|RD.go [0,1,3,4] [0,4,8,1,5,9,2,6,10,3,7,11,12] (ow 0 5++[.ro 0])<|RD.one 13 (RDO.ev [0,1,3,4] [.own 2,.own 2,.own 2,.own 2] λ _=>?_)
 refine RD.go [0,1,3,4] [14] []<|RD.fin<|RN.go 1 [] λ _=>RN.ret [.own 2,.own 2,.own 2,.own 2] [] [0] (v:=.tuple #[.bool false,.agg #[vI ((hitV (g.step M) M).e.t),vI ((hitV (g.step M) M).e.i),vI ((hitV (g.step M) M).e.k),vI ((hitV (g.step M) M).e.v)],.bool ((hitV (g.step M) M).em)]) (H':=(ap [] [T3])) ?_
 exact ⟨T3,rfl,hM4.weak (by omega),rfl⟩
theorem trans7 (g:Gm) (mb:Nat) (M:MemS) (k:Nat) (T F:HL) (hM:MemH mb M (k+20) T) (hS:SetIn F g.S) (hp:M.get 1=7) :Sp Tryz.prog 18 #[.iface 40 (vP mb 0),.agg #[vI g.S.players,vS g.S.bb (g.S.bo * 9) g.S.nb g.S.bc,vI g.S.box.x0,vI g.S.box.y0,vI g.S.box.x1,vI g.S.box.y1,.slice g.S.rA g.S.rn g.S.rc,.slice g.S.dA g.S.dn g.S.dc,vI g.S.fog,vI g.S.g.x,vI g.S.g.y,vI g.S.push,vI g.S.drag,vI g.S.rest,vI g.S.rounds,vI g.S.fuel],.agg #[.slice g.cA g.cn g.cc,vI g.e0,vI g.e1,vI g.e2],vI g.version,vS g.ib (g.io * 3) g.ni g.ic] (ap [] [T]) F (λ u H'=>∃ x,H'=ap [] [x] /\ (MemH mb (restM (g.step M) M) k x /\ u=.tuple #[.bool (restB (g.step M)),.agg #[vI 0,vI 0,vI 0,vI 0],.bool false])):=by
 refine Sp.run Tryz.func18 rfl mn (A:=[]) (Ts:=[T]) rfl λ w0=>?_
 refine RN.go 29 (ow 0 8) λ n1=>RN.cp (get_lit 1 hp hM (sub_ap 0))<|RN.go 18 [] λ _=>RN.draw [] []<|RD.go [] [0,1,2,3,4,5,7] (ow 3 16++[.own 2,.own 2,.own 2,.own 2])<|RD.cp [] 6 (λ X_=>(get_any 2 hM (sub_apX 0)))<|RD.cp [] 8 (λ X_=>(get_any 3 hM (sub_apX 0)))<|RD.go [] [9] []<|RD.one 10 (RDO.ev [] [] λ n2=>?_)
 refine RD.go [] [11] []<|RD.fin<|RN.go 7 [.own 1] λ _=>RN.ct [0] [0] (rest_any (g.step M) (n2+0) mb M (k+6) T _ hM hS.up ) ?_
 rintro _ T3 hM4
 refine RN.go 3 [] λ _=>RN.draw [13] [0,1,3,4]<|RD.go [0,1,3,4] [0,4,8,1,5,9,2,6,10,3,7,11,12] (ow 0 5++[.ro 0])<|RD.one 13 (RDO.ev [0,1,3,4] [.own 2,.own 2,.own 2,.own 2] λ _=>?_)
 refine RD.go [0,1,3,4] [14] []<|RD.fin<|RN.go 1 [] λ _=>RN.ret [.own 2,.own 2,.own 2,.own 2] [] [0] (v:=.tuple #[.bool (restB (g.step M)),.agg #[vI 0,vI 0,vI 0,vI 0],.bool false]) (H':=(ap [] [T3])) ?_
 exact ⟨T3,rfl,hM4.weak (by omega),rfl⟩
def effE:Enc Eff:=⟨4,λ p k=>match k with | 0=>vI p.t | 1=>vI p.i | 2=>vI p.k | _=>vI p.v,eff0⟩
noncomputable def effEI:TypeInfo:=match Tryz.prog.info? 53 with | some i=>i | none=>⟨.bool,"",0,0,false,0,0,none,false,#[]⟩
noncomputable def effEZ:Value:=match effEI.zero with | some z=>z | none=>.bool false
theorem effEOk:EncOk effE Tryz.prog 53 effEI effEZ where
 info:=by kernel_rfl
 zero:=by kernel_rfl
 size:=by kernel_rfl
 zsize:=by kernel_rfl
 zcell:=λ k hk=>by
  have h:∀ k < 4,effEZ.cells[k]?=some (effE.cell effE.dflt k):=by intro k hk;(iterate 4 (rcases k with _ | k;· kernel_rfl));omega
  exact h k hk
 one:=λ x k=>by unfold effE;dsimp only;split <;> rfl
 bytes:=Nat.le_of_ble_eq_true (by kernel_rfl)
def trV (g:Gm) (M:MemS):VR:=if M.get 1=0 then ⟨inputM (g.step M) M,0,eff0,false⟩ else if M.get 1=1 then (actV (g.step M) M) else if M.get 1=2 then (tickV (g.step M) M) else if M.get 1=3 then ⟨forceM (g.step M) M,0,eff0,false⟩ else if M.get 1=4 then ⟨contactF (g.step M) M,0,eff0,false⟩ else if M.get 1=5 then ⟨moveF (g.step M) M,0,eff0,false⟩ else if M.get 1=6 then (hitV (g.step M) M) else ⟨restM (g.step M) M,0,eff0,false⟩
def trE (g:Gm) (M:MemS):Bool:=if M.get 1=7 then restB (g.step M) else false
abbrev trM (g:Gm) (M:MemS):MemS:=(trV g M).M
abbrev phOk (M:MemS):Prop:=0 <= M.get 1 /\ M.get 1 <= 7
structure GmIn (F:HL) (g:Gm):Prop where
 set:SetIn F g.S
 ins:(g.ib,.rows 3 g.iR (inrow g.ins) 151 (0,0)) ∈ F
 room:g.io+g.ni <= g.iR /\ g.ni <= 1000000
 eff:EffIn F
 code:CodeIn F g.code g.cA g.cn
theorem trans_any (g:Gm) (mb:Nat) (M:MemS) (k:Nat) (T F:HL) (hM:MemH mb M (k+20) T) (hg:GmIn F g) (h0:phOk M) (ver:Int) (hver:g.version=ver):Sp Tryz.prog 18 #[.iface 40 (vP mb 0),.agg #[vI g.S.players,vS g.S.bb (g.S.bo * 9) g.S.nb g.S.bc,vI g.S.box.x0,vI g.S.box.y0,vI g.S.box.x1,vI g.S.box.y1,.slice g.S.rA g.S.rn g.S.rc,.slice g.S.dA g.S.dn g.S.dc,vI g.S.fog,vI g.S.g.x,vI g.S.g.y,vI g.S.push,vI g.S.drag,vI g.S.rest,vI g.S.rounds,vI g.S.fuel],.agg #[.slice g.cA g.cn g.cc,vI g.e0,vI g.e1,vI g.e2],vI ver,vS g.ib (g.io * 3) g.ni g.ic] (ap [] [T]) F (λ u H'=>∃ x,H'=ap [] [x] /\ (MemH mb (trM g M) k x /\ u=.tuple #[.bool (trE g M),.agg #[vI ((trV g M).e.t),vI ((trV g M).e.i),vI ((trV g M).e.k),vI ((trV g M).e.v)],.bool ((trV g M).em)])):=by
 subst hver
 by_cases h0:M.get 1=0
 ·rw [trM,show trV g M=⟨inputM (g.step M) M,0,eff0,false⟩ by simp only [trV,if_pos h0],show trE g M=false by simp [trE,h0]]
  exact trans0 g mb M k T F hM hg.set h0 hg.ins hg.room
 by_cases h1:M.get 1=1
 ·rw [trM,show trV g M=(actV (g.step M) M) by simp only [trV,if_neg h0,if_pos h1],show trE g M=false by simp [trE,h1]]
  exact trans1 g mb M k T F hM hg.set h1 hg.eff hg.code
 by_cases h2:M.get 1=2
 ·rw [trM,show trV g M=(tickV (g.step M) M) by simp only [trV,if_neg h0,if_neg h1,if_pos h2],show trE g M=false by simp [trE,h2]]
  exact trans2 g mb M k T F hM hg.set h2 hg.eff hg.code
 by_cases h3:M.get 1=3
 ·rw [trM,show trV g M=⟨forceM (g.step M) M,0,eff0,false⟩ by simp only [trV,if_neg h0,if_neg h1,if_neg h2,if_pos h3],show trE g M=false by simp [trE,h3]]
  exact trans3 g mb M k T F hM hg.set h3
 by_cases h4:M.get 1=4
 ·rw [trM,show trV g M=⟨contactF (g.step M) M,0,eff0,false⟩ by simp only [trV,if_neg h0,if_neg h1,if_neg h2,if_neg h3,if_pos h4],show trE g M=false by simp [trE,h4]]
  exact trans4 g mb M k T F hM hg.set h4
 by_cases h5:M.get 1=5
 ·rw [trM,show trV g M=⟨moveF (g.step M) M,0,eff0,false⟩ by simp only [trV,if_neg h0,if_neg h1,if_neg h2,if_neg h3,if_neg h4,if_pos h5],show trE g M=false by simp [trE,h5]]
  exact trans5 g mb M k T F hM hg.set h5
 by_cases h6:M.get 1=6
 ·rw [trM,show trV g M=(hitV (g.step M) M) by simp only [trV,if_neg h0,if_neg h1,if_neg h2,if_neg h3,if_neg h4,if_neg h5,if_pos h6],show trE g M=false by simp [trE,h6]]
  exact trans6 g mb M k T F hM hg.set h6 hg.eff hg.code
 have h7:M.get 1=7:=by omega
 rw [trM,show trV g M=⟨restM (g.step M) M,0,eff0,false⟩ by simp only [trV,if_neg h0,if_neg h1,if_neg h2,if_neg h3,if_neg h4,if_neg h5,if_neg h6],show trE g M=restB (g.step M) by simp [trE,h7]]
 exact trans7 g mb M k T F hM hg.set h7
def runM (g:Gm):Nat -> MemS -> MemS
 | 0,M=>M
 | n+1,M=>runM g n (trM g M)
def effsV (g:Gm):Nat -> MemS -> List Eff
 | 0,_=>[]
 | n+1,M=>(if (trV g M).em=true then [(trV g M).e] else [])++effsV g n (trM g M)
def goodRun (g:Gm):Nat -> MemS -> Prop
 | 0,_=>False
 | n+1,M=>phOk M /\ ((n=0 /\ trE g M=true) \/ (trE g M=false /\ goodRun g n (trM g M)))
theorem effsV_yes {g:Gm} {n:Nat} {M:MemS} (h:(trV g M).em=true):effsV g (n+1) M=(trV g M).e :: effsV g n (trM g M):=by rw [effsV,if_pos h];rfl
theorem effsV_no {g:Gm} {n:Nat} {M:MemS} (h:¬ (trV g M).em=true):effsV g (n+1) M=effsV g n (trM g M):=by rw [effsV,if_neg h];rfl
def Shp.nm (s:Shp):Shp:=⟨s.r,s.poly,none,0⟩
def Bod.nm (b:Bod):Bod:=⟨b.sh.nm,b.mot,b.a,b.b⟩
def Setup.nm (S:Setup):Setup:={ S with bb:=0,bo:=0,bc:=0,bR:=0,bods:=(S.bods.drop S.bo).map Bod.nm,rA:=none,rc:=0,dA:=none,dc:=0 }
def Stp.nm (t:Stp):Stp:={ t with S:=t.S.nm,cA:=none,cc:=0,ib:=0,io:=0,ic:=0,iR:=0,ins:=[] }
theorem drop_getD {α:Type} (l:List α) (o k:Nat) (d:α):(l.drop o).getD (0+k) d=l.getD (o+k) d:=by
 rw [Nat.zero_add,List.getD_eq_getElem?_getD,List.getD_eq_getElem?_getD,List.getElem?_drop]
theorem map_getD {α β:Type} (f:α -> β) (l:List α) (k:Nat) (d:α):(l.map f).getD k (f d)=f (l.getD k d):=by
 rw [List.getD_eq_getElem?_getD,List.getD_eq_getElem?_getD,List.getElem?_map]
 cases l[k]? <;> rfl
theorem nm_body (S:Setup) (k:Nat):S.nm.body k=(S.body k).nm:=by
 show ((S.bods.drop S.bo).map Bod.nm).getD (0+k) dB=Bod.nm (S.bods.getD (S.bo+k) dB)
 rw [<- drop_getD S.bods S.bo k dB]
 exact map_getD Bod.nm _ _ dB
theorem nm_S_players (S:Setup):S.nm.players=S.players:=rfl
theorem nm_S_nb (S:Setup):S.nm.nb=S.nb:=rfl
theorem nm_S_box (S:Setup):S.nm.box=S.box:=rfl
theorem nm_S_g (S:Setup):S.nm.g=S.g:=rfl
theorem nm_S_push (S:Setup):S.nm.push=S.push:=rfl
theorem nm_S_drag (S:Setup):S.nm.drag=S.drag:=rfl
theorem nm_S_rest (S:Setup):S.nm.rest=S.rest:=rfl
theorem nm_S_rounds (S:Setup):S.nm.rounds=S.rounds:=rfl
theorem nm_S_fuel (S:Setup):S.nm.fuel=S.fuel:=rfl
theorem nm_t_cn (t:Stp):t.nm.cn=t.cn:=rfl
theorem nm_t_e0 (t:Stp):t.nm.e0=t.e0:=rfl
theorem nm_t_e1 (t:Stp):t.nm.e1=t.e1:=rfl
theorem nm_t_e2 (t:Stp):t.nm.e2=t.e2:=rfl
theorem nm_t_version (t:Stp):t.nm.version=t.version:=rfl
theorem nm_t_i (t:Stp):t.nm.i=t.i:=rfl
theorem nm_t_j (t:Stp):t.nm.j=t.j:=rfl
theorem nm_t_ended (t:Stp):t.nm.ended=t.ended:=rfl
theorem nm_t_f0 (t:Stp):t.nm.f0=t.f0:=rfl
theorem nm_t_f1 (t:Stp):t.nm.f1=t.f1:=rfl
theorem nm_t_f2 (t:Stp):t.nm.f2=t.f2:=rfl
theorem nm_t_f3 (t:Stp):t.nm.f3=t.f3:=rfl
theorem nm_t_emitted (t:Stp):t.nm.emitted=t.emitted:=rfl
theorem nm_t_code (t:Stp):t.nm.code=t.code:=rfl
theorem nm_t_S (t:Stp):t.nm.S=t.S.nm:=rfl
theorem nm_b_sh (b:Bod):b.nm.sh=b.sh.nm:=rfl
theorem nm_b_mot (b:Bod):b.nm.mot=b.mot:=rfl
theorem nm_s_r (s:Shp):s.nm.r=s.r:=rfl
theorem playerAt_nm (S:Setup) (k:Int) :playerAt S.nm k=playerAt S k:=by
 unfold playerAt
 simp only [nm_S_players,nm_t_S] <;> rfl
theorem bodyAt_nm (S:Setup) (k:Int) :bodyAt S.nm k=bodyAt S k:=by
 unfold bodyAt
 simp only [nm_S_players,nm_S_nb,nm_t_S] <;> rfl
theorem movP_nm (S:Setup) (k:Int) :(movP S.nm k)=(movP S k):=by
 unfold movP
 simp only [nm_S_nb,nm_t_S,nm_b_mot,nm_body] <;> rfl
theorem motM_nm (S:Setup) (M:MemS) (k:Int) :motM S.nm M k=motM S M k:=by
 unfold motM
 simp only [nm_t_S,nm_b_mot,nm_body,bodyAt_nm] <;> rfl
theorem collideS_nm (a:Shp) (pa:V2) (b:Shp) (pb:V2) :collideS a.nm pa b.nm pb=collideS a pa b pb:=by
 kernel_rfl
theorem earlS_nm (a:Shp) (pa va:V2) (b:Shp) (pb vb:V2) :earlS a.nm pa va b.nm pb vb=earlS a pa va b pb vb:=by
 kernel_rfl
theorem setMotM_nm (t:Stp) (k:Int) (m:Mot) (M:MemS) :setMotM t.nm k m M=setMotM t k m M:=by
 unfold setMotM
 simp only [nm_t_S,bodyAt_nm] <;> rfl
theorem placeM_nm (t:Stp) (c sp pos lo hi:Int) (M:MemS) :placeM t.nm c sp pos lo hi M=placeM t c sp pos lo hi M:=by
 unfold placeM
 simp only [nm_S_rest,nm_t_S] <;> rfl
theorem inputA_nm (t:Stp) (M:MemS) :inputA t.nm M=inputA t M:=by
 unfold inputA
 simp only [nm_t_version,nm_t_i,nm_t_S] <;> rfl
theorem inputC_nm (t:Stp) (M:MemS) :inputC t.nm M=inputC t M:=by
 unfold inputC
 simp only [nm_S_players,nm_t_i,nm_t_S] <;> rfl
theorem restB_nm (t:Stp) :restB t.nm=restB t:=by
 unfold restB
 simp only [nm_S_nb,nm_t_i,nm_t_ended,nm_t_S] <;> rfl
theorem restA_nm (t:Stp) (M:MemS) :restA t.nm M=restA t M:=by
 unfold restA
 simp only [nm_t_i,nm_t_S,bodyAt_nm] <;> rfl
theorem restC_nm (t:Stp) (M:MemS) :restC t.nm M=restC t M:=by
 unfold restC
 simp only [nm_S_nb,nm_t_i,nm_t_S] <;> rfl
theorem restM_nm (t:Stp) (M:MemS) :restM t.nm M=restM t M:=by
 unfold restM
 simp only [nm_t_S,restA_nm,restC_nm] <;> rfl
theorem forceV_nm (t:Stp) (M:MemS) :forceV t.nm M=forceV t M:=by
 unfold forceV
 simp only [nm_S_g,nm_S_push,nm_S_drag,nm_t_i,nm_t_S,playerAt_nm,motM_nm] <;> rfl
theorem forceA_nm (t:Stp) (M:MemS) :forceA t.nm M=forceA t M:=by
 unfold forceA
 simp only [nm_t_i,nm_t_S,bodyAt_nm] <;> rfl
theorem forceB_nm (t:Stp) (M:MemS) :forceB t.nm M=forceB t M:=by
 unfold forceB
 simp only [nm_t_i,nm_t_S,bodyAt_nm,movP_nm,forceV_nm] <;> rfl
theorem forceC_nm (t:Stp) (M:MemS) :forceC t.nm M=forceC t M:=by
 unfold forceC
 simp only [nm_S_nb,nm_t_i,nm_t_S] <;> rfl
theorem forceM_nm (t:Stp) (M:MemS) :forceM t.nm M=forceM t M:=by
 unfold forceM
 simp only [nm_t_S,forceA_nm,forceB_nm,forceC_nm] <;> rfl
theorem travelP_nm (t:Stp) (M:MemS) :travelP t.nm M=travelP t M:=by
 unfold travelP
 simp only [nm_t_i,nm_t_S,motM_nm] <;> rfl
theorem travelM_nm (t:Stp) (M:MemS) :travelM t.nm M=travelM t M:=by
 unfold travelM
 simp only [nm_S_box,nm_t_i,nm_t_S,bodyAt_nm,placeM_nm,travelP_nm] <;> rfl
theorem execV_nm (S:Setup) (op n a b:Int) (M:MemS) :execV S.nm op n a b M=execV S op n a b M:=by
 unfold execV
 simp only [nm_t_S,bodyAt_nm] <;> rfl
theorem stepI_nm (S:Setup) (op n sp pc fuel:Int) (M:MemS) :stepI S.nm op n sp pc fuel M=stepI S op n sp pc fuel M:=by
 unfold stepI
 simp only [nm_S_fuel,nm_t_S,execV_nm] <;> rfl
theorem stepV_nm (S:Setup) (code:List Ins) (n:Nat) (M:MemS) :stepV S.nm code n M=stepV S code n M:=by
 unfold stepV
 simp only [nm_t_code,nm_t_S,stepI_nm] <;> rfl
theorem runV_nm (e:Int) (t:Stp) (self other:Int) (M:MemS) :runV e t.nm self other M=runV e t self other M:=by
 unfold runV
 simp only [nm_S_fuel,nm_t_cn,nm_t_j,nm_t_emitted,nm_t_code,nm_t_S,stepV_nm,nm_t_f0,nm_t_f1,nm_t_f2,nm_t_f3] <;> rfl
theorem runE_nm (e:Int) (t:Stp) (self other:Int) (M:MemS) :runE e t.nm self other M=runE e t self other M:=by
 unfold runE
 simp only [nm_t_cn,nm_t_j,nm_t_code,nm_t_S] <;> rfl
theorem turnV_nm (r:VR) (over:Bool) (t:Stp) (cause:Bool) (M:MemS) :turnV r over t.nm cause M=turnV r over t cause M:=by
 unfold turnV
 simp only [nm_t_i,nm_t_j,nm_t_emitted,nm_t_S,nm_s_r,nm_t_f0,nm_t_f1,nm_t_f2,nm_t_f3] <;> rfl
theorem actV_nm (t:Stp) (M:MemS) :actV t.nm M=actV t M:=by
 unfold actV
 simp only [nm_t_i,nm_t_emitted,nm_t_S,playerAt_nm,nm_t_f0,nm_t_f1,nm_t_f2,nm_t_f3,nm_t_e0,nm_t_e2,runV_nm,runE_nm,turnV_nm] <;> rfl
theorem tickV_nm (t:Stp) (M:MemS) :tickV t.nm M=tickV t M:=by
 unfold tickV
 simp only [nm_t_S,nm_t_e1,nm_t_i,nm_t_j,runV_nm,runE_nm] <;> rfl
theorem hitV_nm (t:Stp) (M:MemS) :hitV t.nm M=hitV t M:=by
 unfold hitV
 simp only [nm_t_i,nm_t_emitted,nm_t_S,bodyAt_nm,nm_t_f0,nm_t_f1,nm_t_f2,nm_t_f3,nm_t_e0,nm_t_e2,runV_nm,runE_nm,turnV_nm] <;> rfl
theorem colT_nm (t:Stp) (M:MemS) :colT t.nm M=colT t M:=by
 unfold colT
 simp only [nm_t_i,nm_t_j,nm_t_S,nm_b_sh,nm_body,motM_nm,collideS_nm] <;> rfl
theorem resT_nm (t:Stp) (M:MemS) :resT t.nm M=resT t M:=by
 unfold resT
 simp only [nm_S_rest,nm_t_i,nm_t_j,nm_t_S,motM_nm,colT_nm] <;> rfl
theorem touchSet_nm (t:Stp) (M:MemS) :touchSet t.nm M=touchSet t M:=by
 unfold touchSet
 simp only [nm_t_i,nm_t_j,nm_t_S,bodyAt_nm,setMotM_nm,resT_nm] <;> rfl
theorem touchF_nm (t:Stp) (M:MemS) :touchF t.nm M=touchF t M:=by
 unfold touchF
 simp only [nm_S_nb,nm_t_i,nm_t_j,nm_t_S,colT_nm,touchSet_nm] <;> rfl
theorem earT_nm (t:Stp) (M:MemS) :earT t.nm M=earT t M:=by
 unfold earT
 simp only [nm_t_i,nm_t_j,nm_t_S,nm_b_sh,nm_body,motM_nm,earlS_nm] <;> rfl
theorem testF_nm (t:Stp) (M:MemS) :testF t.nm M=testF t M:=by
 unfold testF
 simp only [nm_t_i,nm_t_j,nm_t_S,movP_nm,earT_nm] <;> rfl
theorem moveA_nm (t:Stp) (M:MemS) :moveA t.nm M=moveA t M:=by
 unfold moveA
 simp only [nm_S_nb,nm_t_i,nm_t_S] <;> rfl
theorem moveF_nm (t:Stp) (M:MemS) :moveF t.nm M=moveF t M:=by
 unfold moveF
 simp only [nm_S_nb,nm_t_i,nm_t_j,nm_t_S,movP_nm,travelM_nm,testF_nm,moveA_nm] <;> rfl
theorem contactF_nm (t:Stp) (M:MemS) :contactF t.nm M=contactF t M:=by
 unfold contactF
 simp only [nm_S_nb,nm_S_rounds,nm_t_i,nm_t_j,nm_t_S,touchF_nm] <;> rfl
def Gm.nm (g:Gm):Gm:={ g with S:=g.S.nm,cA:=none,cc:=0,ib:=0,io:=0,ic:=0,iR:=0,ins:=[] }
theorem step_nm (g:Gm) (M:MemS):g.nm.step M=(g.step M).nm:=rfl
structure GEq (g g':Gm):Prop where
 nm:g.nm=g'.nm
 inp:∀ k,k < g.ni -> g.ins.getD (g.io+k) dI=g'.ins.getD (g'.io+k) dI
theorem inputM_eq {g g':Gm} (h:GEq g g') (M:MemS):inputM (g.step M) M=inputM (g'.step M) M:=by
 have hs:(g.step M).nm=(g'.step M).nm:=by rw [<- step_nm,<- step_nm,h.nm]
 unfold inputM
 rw [<- inputA_nm (g.step M),hs,inputA_nm]
 generalize inputA (g'.step M) M=N
 have hb:inputB (g.step M) N=inputB (g'.step M) N:=by
  have hS:(g.step M).S.nm=(g'.step M).S.nm:=show (g.step M).nm.S=(g'.step M).nm.S by rw [hs]
  have hi:(g.step M).i=(g'.step M).i:=show (g.step M).nm.i=(g'.step M).nm.i by rw [hs]
  have hn:(g.step M).ni=(g'.step M).ni:=show (g.step M).nm.ni=(g'.step M).nm.ni by rw [hs]
  unfold inputB
  rw [<- playerAt_nm (g.step M).S,hS,playerAt_nm,hi,hn]
  by_cases h1:playerAt (g'.step M).S (g'.step M).i >= 0
  ·rw [if_pos h1,if_pos h1]
   by_cases h2:(g'.step M).i < (g'.step M).ni
   ·rw [if_pos h2,if_pos h2]
    have h3:0 <= (g'.step M).i:=by
     rcases Int.lt_or_le (g'.step M).i 0 with h4 | h4
     ·unfold playerAt at h1;rw [if_pos h4] at h1;omega
     ·exact h4
    have e:(g.step M).inp (g'.step M).i.toNat=(g'.step M).inp (g'.step M).i.toNat:=by
     have h5:(g'.step M).i.toNat < g.ni:=by
      have h6:((g'.step M).ni:Int)=(g.ni:Int):=congrArg (Nat.cast) hn.symm
      omega
     exact h.inp _ h5
    rw [e]
   ·rw [if_neg h2,if_neg h2]
  ·rw [if_neg h1,if_neg h1]
 rw [hb,<- inputC_nm (g.step M),hs,inputC_nm]
theorem trV_eq {g g':Gm} (h:GEq g g') (M:MemS):trV g M=trV g' M:=by
 have hs:(g.step M).nm=(g'.step M).nm:=by rw [<- step_nm,<- step_nm,h.nm]
 unfold trV
 rw [inputM_eq h,<- actV_nm (g.step M),<- tickV_nm (g.step M),<- forceM_nm (g.step M),<- contactF_nm (g.step M),<- moveF_nm (g.step M),<- hitV_nm (g.step M),<- restM_nm (g.step M),hs,actV_nm,tickV_nm,forceM_nm,contactF_nm,moveF_nm,hitV_nm,restM_nm]
theorem trE_eq {g g':Gm} (h:GEq g g') (M:MemS):trE g M=trE g' M:=by
 have hs:(g.step M).nm=(g'.step M).nm:=by rw [<- step_nm,<- step_nm,h.nm]
 unfold trE
 rw [<- restB_nm (g.step M),hs,restB_nm]
theorem runM_eq {g g':Gm} (h:GEq g g'):∀ (n:Nat) (M:MemS),runM g n M=runM g' n M
 | 0,_=>rfl
 | n+1,M=>by rw [runM,runM,trM,trM,trV_eq h];exact runM_eq h n _
theorem goodRun_eq {g g':Gm} (h:GEq g g'):∀ (n:Nat) (M:MemS),goodRun g n M ↔ goodRun g' n M
 | 0,_=>Iff.rfl
 | n+1,M=>by rw [goodRun,goodRun,trM,trM,trV_eq h,trE_eq h,goodRun_eq h n]
end Go.Proofs.YtghjbimijeinfaaGreatDoor
