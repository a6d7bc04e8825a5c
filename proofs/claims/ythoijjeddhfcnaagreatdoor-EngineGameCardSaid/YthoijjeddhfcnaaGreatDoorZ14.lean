import Derived.Test.YthoijjeddhfcnaaGreatDoorZ11
import Derived.Test.YthoijjeddhfcnaaGreatDoorZ13
set_option maxHeartbeats 4000000
set_option maxRecDepth 100000
set_option linter.unusedSimpArgs false
set_option linter.unusedVariables false
namespace Go.Proofs.YthoijjeddhfcnaaGreatDoor
open Go.RowKit
structure Gm where
 S:Setup
 cA:Option Addr
 cn:Nat
 cc:Nat
 e0:Int
 e1:Int
 e2:Int
 version:Int
 ib:Nat
 io:Nat
 ni:Nat
 ic:Nat
 iR:Nat
 ins:List Inp
 code:List Ins
abbrev Gm.step(g:Gm)(M:MemS):Stp:=⟨g.S,g.cA,g.cn,g.cc,g.e0,g.e1,g.e2,g.version,g.ib,g.io,g.ni,g.ic,g.iR,g.ins,M.get 2,M.get 3,false,0,0,0,0,false,g.code⟩
theorem KX(g:Gm)(mb:Nat)(M:MemS)(k:Nat)(T F:HL)(hM:MemH mb M (k+20) T)(hS:SetIn F g.S)(hp:M.get 1=0)(hI:(g.ib,.rows 3 g.iR (mO g.ins) 93 (0,0))∈F)(hir:g.io+g.ni <= g.iR /\ g.ni <= 1000000):Sp Tryz.prog 64 #[.iface 41 (vP mb 0),.agg #[vI g.S.players,vS g.S.bb (g.S.bo*9) g.S.nb g.S.bc,vI g.S.box.x0,vI g.S.box.y0,vI g.S.box.x1,vI g.S.box.y1,.slice g.S.rA g.S.rn g.S.rc,.slice g.S.dA g.S.dn g.S.dc,vI g.S.fog,vI g.S.g.x,vI g.S.g.y,vI g.S.push,vI g.S.drag,vI g.S.rest,vI g.S.rounds,vI g.S.fuel],.agg #[.slice g.cA g.cn g.cc,vI g.e0,vI g.e1,vI g.e2],vI g.version,vS g.ib (g.io*3) g.ni g.ic] (ap [] [T]) F (λ u H'=>∃x,H'=ap [] [x] /\ (MemH mb (aW (g.step M) M) k x /\ u=.tuple #[.bool false,.agg #[vI 0,vI 0,vI 0,vI 0],.bool false])):=by
 refine Sp.run Tryz.func64 rfl mn (A:=[]) (Ts:=[T]) rfl λ w0=>?_
 refine aa 29 (ow 0 8) λ n1=>al (iO 1 hp hM (aS 0))<|aa 18 [] λ _=>RN.draw [] []<|af [] [0,1,2,3,4,5,7] (ow 3 16++[.own 2,.own 2,.own 2,.own 2])<|au [] 6 (λ X_=>(aB 2 hM (bt 0)))<|au [] 8 (λ X_=>(aB 3 hM (bt 0)))<|af [] [9] []<|RD.one 10 (RDO.ev [] [] λ n2=>?_)
 refine af [] [11] []<|RD.fin<|aa 7 [.own 1] λ _=>RN.ct [0] [0] (Bp (g.step M) (n2+0) mb M (k+12) T _ hM hS.up (List.mem_append_right _ hI) hir) ?_
 rintro _ T3 C_
 refine aa 3 [] λ _=>RN.draw [13] [0,1,3,4]<|af [0,1,3,4] [0,4,8,1,5,9,2,6,10,3,7,11,12] (ow 0 5++[.ro 0])<|RD.one 13 (RDO.ev [0,1,3,4] [.own 2,.own 2,.own 2,.own 2] λ _=>?_)
 refine af [0,1,3,4] [14] []<|RD.fin<|aa 1 [] λ _=>RN.ret [.own 2,.own 2,.own 2,.own 2] [] [0] (v:=.tuple #[.bool false,.agg #[vI 0,vI 0,vI 0,vI 0],.bool false]) (H':=(ap [] [T3])) ?_
 exact⟨T3,rfl,C_.weak (by omega),rfl⟩
theorem KY(g:Gm)(mb:Nat)(M:MemS)(k:Nat)(T F:HL)(hM:MemH mb M (k+20) T)(hS:SetIn F g.S)(hp:M.get 1=1)(hE:fv F)(hC:CodeIn F g.code g.cA g.cn):Sp Tryz.prog 64 #[.iface 41 (vP mb 0),.agg #[vI g.S.players,vS g.S.bb (g.S.bo*9) g.S.nb g.S.bc,vI g.S.box.x0,vI g.S.box.y0,vI g.S.box.x1,vI g.S.box.y1,.slice g.S.rA g.S.rn g.S.rc,.slice g.S.dA g.S.dn g.S.dc,vI g.S.fog,vI g.S.g.x,vI g.S.g.y,vI g.S.push,vI g.S.drag,vI g.S.rest,vI g.S.rounds,vI g.S.fuel],.agg #[.slice g.cA g.cn g.cc,vI g.e0,vI g.e1,vI g.e2],vI g.version,vS g.ib (g.io*3) g.ni g.ic] (ap [] [T]) F (λ u H'=>∃x,H'=ap [] [x] /\ (MemH mb (eF (g.step M) M).M k x /\ u=.tuple #[.bool false,.agg #[vI ((eF (g.step M) M).e.t),vI ((eF (g.step M) M).e.i),vI ((eF (g.step M) M).e.k),vI ((eF (g.step M) M).e.v)],.bool ((eF (g.step M) M).em)])):=by
 refine Sp.run Tryz.func64 rfl mn (A:=[]) (Ts:=[T]) rfl λ w0=>?_
 refine aa 29 (ow 0 8) λ n1=>al (iO 1 hp hM (aS 0))<|aa 18 [] λ _=>RN.draw [] []<|af [] [0,1,2,3,4,5,7] (ow 3 16++[.own 2,.own 2,.own 2,.own 2])<|au [] 6 (λ X_=>(aB 2 hM (bt 0)))<|au [] 8 (λ X_=>(aB 3 hM (bt 0)))<|af [] [9] []<|RD.one 10 (RDO.ev [] [] λ n2=>?_)
 refine af [] [11] []<|RD.fin<|aa 7 [.own 1] λ _=>RN.ct [0] [0] (M6 (g.step M) (n2+0) mb M (k+11) T _ hM hS.up (bK hE) hC.up) ?_
 rintro _ T3 C_
 refine aa 3 [] λ _=>RN.draw [13] [0,1,3,4]<|af [0,1,3,4] [0,4,8,1,5,9,2,6,10,3,7,11,12] (ow 0 5++[.ro 0])<|RD.one 13 (RDO.ev [0,1,3,4] [.own 2,.own 2,.own 2,.own 2] λ _=>?_)
 refine af [0,1,3,4] [14] []<|RD.fin<|aa 1 [] λ _=>RN.ret [.own 2,.own 2,.own 2,.own 2] [] [0] (v:=.tuple #[.bool false,.agg #[vI ((eF (g.step M) M).e.t),vI ((eF (g.step M) M).e.i),vI ((eF (g.step M) M).e.k),vI ((eF (g.step M) M).e.v)],.bool ((eF (g.step M) M).em)]) (H':=(ap [] [T3])) ?_
 exact⟨T3,rfl,C_.weak (by omega),rfl⟩
theorem KZ(g:Gm)(mb:Nat)(M:MemS)(k:Nat)(T F:HL)(hM:MemH mb M (k+20) T)(hS:SetIn F g.S)(hp:M.get 1=2)(hE:fv F)(hC:CodeIn F g.code g.cA g.cn):Sp Tryz.prog 64 #[.iface 41 (vP mb 0),.agg #[vI g.S.players,vS g.S.bb (g.S.bo*9) g.S.nb g.S.bc,vI g.S.box.x0,vI g.S.box.y0,vI g.S.box.x1,vI g.S.box.y1,.slice g.S.rA g.S.rn g.S.rc,.slice g.S.dA g.S.dn g.S.dc,vI g.S.fog,vI g.S.g.x,vI g.S.g.y,vI g.S.push,vI g.S.drag,vI g.S.rest,vI g.S.rounds,vI g.S.fuel],.agg #[.slice g.cA g.cn g.cc,vI g.e0,vI g.e1,vI g.e2],vI g.version,vS g.ib (g.io*3) g.ni g.ic] (ap [] [T]) F (λ u H'=>∃x,H'=ap [] [x] /\ (MemH mb (cS (g.step M) M).M k x /\ u=.tuple #[.bool false,.agg #[vI ((cS (g.step M) M).e.t),vI ((cS (g.step M) M).e.i),vI ((cS (g.step M) M).e.k),vI ((cS (g.step M) M).e.v)],.bool ((cS (g.step M) M).em)])):=by
 refine Sp.run Tryz.func64 rfl mn (A:=[]) (Ts:=[T]) rfl λ w0=>?_
 refine aa 29 (ow 0 8) λ n1=>al (iO 1 hp hM (aS 0))<|aa 18 [] λ _=>RN.draw [] []<|af [] [0,1,2,3,4,5,7] (ow 3 16++[.own 2,.own 2,.own 2,.own 2])<|au [] 6 (λ X_=>(aB 2 hM (bt 0)))<|au [] 8 (λ X_=>(aB 3 hM (bt 0)))<|af [] [9] []<|RD.one 10 (RDO.ev [] [] λ n2=>?_)
 refine af [] [11] []<|RD.fin<|aa 7 [.own 1] λ _=>RN.ct [0] [0] (KW (g.step M) (n2+0) mb M (k+11) T _ hM hS.up (bK hE) hC.up) ?_
 rintro _ T3 C_
 refine aa 3 [] λ _=>RN.draw [13] [0,1,3,4]<|af [0,1,3,4] [0,4,8,1,5,9,2,6,10,3,7,11,12] (ow 0 5++[.ro 0])<|RD.one 13 (RDO.ev [0,1,3,4] [.own 2,.own 2,.own 2,.own 2] λ _=>?_)
 refine af [0,1,3,4] [14] []<|RD.fin<|aa 1 [] λ _=>RN.ret [.own 2,.own 2,.own 2,.own 2] [] [0] (v:=.tuple #[.bool false,.agg #[vI ((cS (g.step M) M).e.t),vI ((cS (g.step M) M).e.i),vI ((cS (g.step M) M).e.k),vI ((cS (g.step M) M).e.v)],.bool ((cS (g.step M) M).em)]) (H':=(ap [] [T3])) ?_
 exact⟨T3,rfl,C_.weak (by omega),rfl⟩
theorem K3(g:Gm)(mb:Nat)(M:MemS)(k:Nat)(T F:HL)(hM:MemH mb M (k+20) T)(hS:SetIn F g.S)(hp:M.get 1=3) :Sp Tryz.prog 64 #[.iface 41 (vP mb 0),.agg #[vI g.S.players,vS g.S.bb (g.S.bo*9) g.S.nb g.S.bc,vI g.S.box.x0,vI g.S.box.y0,vI g.S.box.x1,vI g.S.box.y1,.slice g.S.rA g.S.rn g.S.rc,.slice g.S.dA g.S.dn g.S.dc,vI g.S.fog,vI g.S.g.x,vI g.S.g.y,vI g.S.push,vI g.S.drag,vI g.S.rest,vI g.S.rounds,vI g.S.fuel],.agg #[.slice g.cA g.cn g.cc,vI g.e0,vI g.e1,vI g.e2],vI g.version,vS g.ib (g.io*3) g.ni g.ic] (ap [] [T]) F (λ u H'=>∃x,H'=ap [] [x] /\ (MemH mb (aM (g.step M) M) k x /\ u=.tuple #[.bool false,.agg #[vI 0,vI 0,vI 0,vI 0],.bool false])):=by
 refine Sp.run Tryz.func64 rfl mn (A:=[]) (Ts:=[T]) rfl λ w0=>?_
 refine aa 29 (ow 0 8) λ n1=>al (iO 1 hp hM (aS 0))<|aa 18 [] λ _=>RN.draw [] []<|af [] [0,1,2,3,4,5,7] (ow 3 16++[.own 2,.own 2,.own 2,.own 2])<|au [] 6 (λ X_=>(aB 2 hM (bt 0)))<|au [] 8 (λ X_=>(aB 3 hM (bt 0)))<|af [] [9] []<|RD.one 10 (RDO.ev [] [] λ n2=>?_)
 refine af [] [11] []<|RD.fin<|aa 7 [.own 1] λ _=>RN.ct [0] [0] (Bq (g.step M) (n2+0) mb M (k+12) T _ hM hS.up ) ?_
 rintro _ T3 C_
 refine aa 3 [] λ _=>RN.draw [13] [0,1,3,4]<|af [0,1,3,4] [0,4,8,1,5,9,2,6,10,3,7,11,12] (ow 0 5++[.ro 0])<|RD.one 13 (RDO.ev [0,1,3,4] [.own 2,.own 2,.own 2,.own 2] λ _=>?_)
 refine af [0,1,3,4] [14] []<|RD.fin<|aa 1 [] λ _=>RN.ret [.own 2,.own 2,.own 2,.own 2] [] [0] (v:=.tuple #[.bool false,.agg #[vI 0,vI 0,vI 0,vI 0],.bool false]) (H':=(ap [] [T3])) ?_
 exact⟨T3,rfl,C_.weak (by omega),rfl⟩
theorem K4(g:Gm)(mb:Nat)(M:MemS)(k:Nat)(T F:HL)(hM:MemH mb M (k+20) T)(hS:SetIn F g.S)(hp:M.get 1=4) :Sp Tryz.prog 64 #[.iface 41 (vP mb 0),.agg #[vI g.S.players,vS g.S.bb (g.S.bo*9) g.S.nb g.S.bc,vI g.S.box.x0,vI g.S.box.y0,vI g.S.box.x1,vI g.S.box.y1,.slice g.S.rA g.S.rn g.S.rc,.slice g.S.dA g.S.dn g.S.dc,vI g.S.fog,vI g.S.g.x,vI g.S.g.y,vI g.S.push,vI g.S.drag,vI g.S.rest,vI g.S.rounds,vI g.S.fuel],.agg #[.slice g.cA g.cn g.cc,vI g.e0,vI g.e1,vI g.e2],vI g.version,vS g.ib (g.io*3) g.ni g.ic] (ap [] [T]) F (λ u H'=>∃x,H'=ap [] [x] /\ (MemH mb (bj (g.step M) M) k x /\ u=.tuple #[.bool false,.agg #[vI 0,vI 0,vI 0,vI 0],.bool false])):=by
 refine Sp.run Tryz.func64 rfl mn (A:=[]) (Ts:=[T]) rfl λ w0=>?_
 refine aa 29 (ow 0 8) λ n1=>al (iO 1 hp hM (aS 0))<|aa 18 [] λ _=>RN.draw [] []<|af [] [0,1,2,3,4,5,7] (ow 3 16++[.own 2,.own 2,.own 2,.own 2])<|au [] 6 (λ X_=>(aB 2 hM (bt 0)))<|au [] 8 (λ X_=>(aB 3 hM (bt 0)))<|af [] [9] []<|RD.one 10 (RDO.ev [] [] λ n2=>?_)
 refine af [] [11] []<|RD.fin<|aa 7 [.own 1] λ _=>RN.ct [0] [0] (tg (g.step M) (n2+0) mb M (k+6) T _ hM hS.up ) ?_
 rintro _ T3 C_
 refine aa 3 [] λ _=>RN.draw [13] [0,1,3,4]<|af [0,1,3,4] [0,4,8,1,5,9,2,6,10,3,7,11,12] (ow 0 5++[.ro 0])<|RD.one 13 (RDO.ev [0,1,3,4] [.own 2,.own 2,.own 2,.own 2] λ _=>?_)
 refine af [0,1,3,4] [14] []<|RD.fin<|aa 1 [] λ _=>RN.ret [.own 2,.own 2,.own 2,.own 2] [] [0] (v:=.tuple #[.bool false,.agg #[vI 0,vI 0,vI 0,vI 0],.bool false]) (H':=(ap [] [T3])) ?_
 exact⟨T3,rfl,C_.weak (by omega),rfl⟩
theorem K5(g:Gm)(mb:Nat)(M:MemS)(k:Nat)(T F:HL)(hM:MemH mb M (k+20) T)(hS:SetIn F g.S)(hp:M.get 1=5) :Sp Tryz.prog 64 #[.iface 41 (vP mb 0),.agg #[vI g.S.players,vS g.S.bb (g.S.bo*9) g.S.nb g.S.bc,vI g.S.box.x0,vI g.S.box.y0,vI g.S.box.x1,vI g.S.box.y1,.slice g.S.rA g.S.rn g.S.rc,.slice g.S.dA g.S.dn g.S.dc,vI g.S.fog,vI g.S.g.x,vI g.S.g.y,vI g.S.push,vI g.S.drag,vI g.S.rest,vI g.S.rounds,vI g.S.fuel],.agg #[.slice g.cA g.cn g.cc,vI g.e0,vI g.e1,vI g.e2],vI g.version,vS g.ib (g.io*3) g.ni g.ic] (ap [] [T]) F (λ u H'=>∃x,H'=ap [] [x] /\ (MemH mb (cY (g.step M) M) k x /\ u=.tuple #[.bool false,.agg #[vI 0,vI 0,vI 0,vI 0],.bool false])):=by
 refine Sp.run Tryz.func64 rfl mn (A:=[]) (Ts:=[T]) rfl λ w0=>?_
 refine aa 29 (ow 0 8) λ n1=>al (iO 1 hp hM (aS 0))<|aa 18 [] λ _=>RN.draw [] []<|af [] [0,1,2,3,4,5,7] (ow 3 16++[.own 2,.own 2,.own 2,.own 2])<|au [] 6 (λ X_=>(aB 2 hM (bt 0)))<|au [] 8 (λ X_=>(aB 3 hM (bt 0)))<|af [] [9] []<|RD.one 10 (RDO.ev [] [] λ n2=>?_)
 refine af [] [11] []<|RD.fin<|aa 7 [.own 1] λ _=>RN.ct [0] [0] (BD (g.step M) (n2+0) mb M (k+12) T _ hM hS.up ) ?_
 rintro _ T3 C_
 refine aa 3 [] λ _=>RN.draw [13] [0,1,3,4]<|af [0,1,3,4] [0,4,8,1,5,9,2,6,10,3,7,11,12] (ow 0 5++[.ro 0])<|RD.one 13 (RDO.ev [0,1,3,4] [.own 2,.own 2,.own 2,.own 2] λ _=>?_)
 refine af [0,1,3,4] [14] []<|RD.fin<|aa 1 [] λ _=>RN.ret [.own 2,.own 2,.own 2,.own 2] [] [0] (v:=.tuple #[.bool false,.agg #[vI 0,vI 0,vI 0,vI 0],.bool false]) (H':=(ap [] [T3])) ?_
 exact⟨T3,rfl,C_.weak (by omega),rfl⟩
theorem K6(g:Gm)(mb:Nat)(M:MemS)(k:Nat)(T F:HL)(hM:MemH mb M (k+20) T)(hS:SetIn F g.S)(hp:M.get 1=6)(hE:fv F)(hC:CodeIn F g.code g.cA g.cn):Sp Tryz.prog 64 #[.iface 41 (vP mb 0),.agg #[vI g.S.players,vS g.S.bb (g.S.bo*9) g.S.nb g.S.bc,vI g.S.box.x0,vI g.S.box.y0,vI g.S.box.x1,vI g.S.box.y1,.slice g.S.rA g.S.rn g.S.rc,.slice g.S.dA g.S.dn g.S.dc,vI g.S.fog,vI g.S.g.x,vI g.S.g.y,vI g.S.push,vI g.S.drag,vI g.S.rest,vI g.S.rounds,vI g.S.fuel],.agg #[.slice g.cA g.cn g.cc,vI g.e0,vI g.e1,vI g.e2],vI g.version,vS g.ib (g.io*3) g.ni g.ic] (ap [] [T]) F (λ u H'=>∃x,H'=ap [] [x] /\ (MemH mb (eG (g.step M) M).M k x /\ u=.tuple #[.bool false,.agg #[vI ((eG (g.step M) M).e.t),vI ((eG (g.step M) M).e.i),vI ((eG (g.step M) M).e.k),vI ((eG (g.step M) M).e.v)],.bool ((eG (g.step M) M).em)])):=by
 refine Sp.run Tryz.func64 rfl mn (A:=[]) (Ts:=[T]) rfl λ w0=>?_
 refine aa 29 (ow 0 8) λ n1=>al (iO 1 hp hM (aS 0))<|aa 18 [] λ _=>RN.draw [] []<|af [] [0,1,2,3,4,5,7] (ow 3 16++[.own 2,.own 2,.own 2,.own 2])<|au [] 6 (λ X_=>(aB 2 hM (bt 0)))<|au [] 8 (λ X_=>(aB 3 hM (bt 0)))<|af [] [9] []<|RD.one 10 (RDO.ev [] [] λ n2=>?_)
 refine af [] [11] []<|RD.fin<|aa 7 [.own 1] λ _=>RN.ct [0] [0] (M7 (g.step M) (n2+0) mb M (k+11) T _ hM hS.up (bK hE) hC.up) ?_
 rintro _ T3 C_
 refine aa 3 [] λ _=>RN.draw [13] [0,1,3,4]<|af [0,1,3,4] [0,4,8,1,5,9,2,6,10,3,7,11,12] (ow 0 5++[.ro 0])<|RD.one 13 (RDO.ev [0,1,3,4] [.own 2,.own 2,.own 2,.own 2] λ _=>?_)
 refine af [0,1,3,4] [14] []<|RD.fin<|aa 1 [] λ _=>RN.ret [.own 2,.own 2,.own 2,.own 2] [] [0] (v:=.tuple #[.bool false,.agg #[vI ((eG (g.step M) M).e.t),vI ((eG (g.step M) M).e.i),vI ((eG (g.step M) M).e.k),vI ((eG (g.step M) M).e.v)],.bool ((eG (g.step M) M).em)]) (H':=(ap [] [T3])) ?_
 exact⟨T3,rfl,C_.weak (by omega),rfl⟩
theorem K7(g:Gm)(mb:Nat)(M:MemS)(k:Nat)(T F:HL)(hM:MemH mb M (k+20) T)(hS:SetIn F g.S)(hp:M.get 1=7) :Sp Tryz.prog 64 #[.iface 41 (vP mb 0),.agg #[vI g.S.players,vS g.S.bb (g.S.bo*9) g.S.nb g.S.bc,vI g.S.box.x0,vI g.S.box.y0,vI g.S.box.x1,vI g.S.box.y1,.slice g.S.rA g.S.rn g.S.rc,.slice g.S.dA g.S.dn g.S.dc,vI g.S.fog,vI g.S.g.x,vI g.S.g.y,vI g.S.push,vI g.S.drag,vI g.S.rest,vI g.S.rounds,vI g.S.fuel],.agg #[.slice g.cA g.cn g.cc,vI g.e0,vI g.e1,vI g.e2],vI g.version,vS g.ib (g.io*3) g.ni g.ic] (ap [] [T]) F (λ u H'=>∃x,H'=ap [] [x] /\ (MemH mb (dg (g.step M) M) k x /\ u=.tuple #[.bool (fK (g.step M)),.agg #[vI 0,vI 0,vI 0,vI 0],.bool false])):=by
 refine Sp.run Tryz.func64 rfl mn (A:=[]) (Ts:=[T]) rfl λ w0=>?_
 refine aa 29 (ow 0 8) λ n1=>al (iO 1 hp hM (aS 0))<|aa 18 [] λ _=>RN.draw [] []<|af [] [0,1,2,3,4,5,7] (ow 3 16++[.own 2,.own 2,.own 2,.own 2])<|au [] 6 (λ X_=>(aB 2 hM (bt 0)))<|au [] 8 (λ X_=>(aB 3 hM (bt 0)))<|af [] [9] []<|RD.one 10 (RDO.ev [] [] λ n2=>?_)
 refine af [] [11] []<|RD.fin<|aa 7 [.own 1] λ _=>RN.ct [0] [0] (D7 (g.step M) (n2+0) mb M (k+6) T _ hM hS.up ) ?_
 rintro _ T3 C_
 refine aa 3 [] λ _=>RN.draw [13] [0,1,3,4]<|af [0,1,3,4] [0,4,8,1,5,9,2,6,10,3,7,11,12] (ow 0 5++[.ro 0])<|RD.one 13 (RDO.ev [0,1,3,4] [.own 2,.own 2,.own 2,.own 2] λ _=>?_)
 refine af [0,1,3,4] [14] []<|RD.fin<|aa 1 [] λ _=>RN.ret [.own 2,.own 2,.own 2,.own 2] [] [0] (v:=.tuple #[.bool (fK (g.step M)),.agg #[vI 0,vI 0,vI 0,vI 0],.bool false]) (H':=(ap [] [T3])) ?_
 exact⟨T3,rfl,C_.weak (by omega),rfl⟩
def jm:Enc Eff:=⟨4,λ p k=>match k with|0=>vI p.t|1=>vI p.i|2=>vI p.k|_=>vI p.v,bH⟩
noncomputable def J6:TypeInfo:=match Tryz.prog.info? 106 with | some i=>i | none=>⟨.bool,"",0,0,false,0,0,none,false,#[]⟩
noncomputable def J7:Value:=match J6.zero with|some z=>z|none=>.bool false
theorem D8:EncOk jm Tryz.prog 106 J6 J7 where
 info:=by kernel_rfl
 zero:=by kernel_rfl
 size:=by kernel_rfl
 zsize:=by kernel_rfl
 zcell:=λ k hk=>by
  have h:∀k<4,J7.cells[k]?=some (jm.cell jm.dflt k):=by intro k hk;(iterate 4 (rcases k with _|k;· kernel_rfl));omega
  exact h k hk
 one:=λ x k=>by unfold jm;dsimp only;split <;> rfl
 bytes:=Nat.le_of_ble_eq_true (by kernel_rfl)
def cF(g:Gm)(M:MemS):VR:=if M.get 1=0 then ⟨aW (g.step M) M,0,bH,false⟩ else if M.get 1=1 then (eF (g.step M) M) else if M.get 1=2 then (cS (g.step M) M) else if M.get 1=3 then ⟨aM (g.step M) M,0,bH,false⟩ else if M.get 1=4 then ⟨bj (g.step M) M,0,bH,false⟩ else if M.get 1=5 then ⟨cY (g.step M) M,0,bH,false⟩ else if M.get 1=6 then (eG (g.step M) M) else ⟨dg (g.step M) M,0,bH,false⟩
def fB(g:Gm)(M:MemS):Bool:=if M.get 1=7 then fK (g.step M) else false
abbrev dp(g:Gm)(M:MemS):MemS:=(cF g M).M
abbrev qQ(M:MemS):Prop:=0 <= M.get 1 /\ M.get 1 <= 7
structure GmIn(F:HL)(g:Gm):Prop where
 set:SetIn F g.S
 ins:(g.ib,.rows 3 g.iR (mO g.ins) 93 (0,0))∈F
 room:g.io+g.ni <= g.iR /\ g.ni <= 1000000
 eff:fv F
 code:CodeIn F g.code g.cA g.cn
theorem GmIn.up{X F:HL}{g:Gm}(h:GmIn F g):GmIn (X++F) g:=⟨h.set.up,List.mem_append_right _ h.ins,h.room,List.mem_append_right _ h.eff,h.code.up⟩
theorem BE(g:Gm)(mb:Nat)(M:MemS)(k:Nat)(T F:HL)(hM:MemH mb M (k+20) T)(hg:GmIn F g)(h0:qQ M)(Wu:Int)(Vk:g.version=Wu):Sp Tryz.prog 64 #[.iface 41 (vP mb 0),.agg #[vI g.S.players,vS g.S.bb (g.S.bo*9) g.S.nb g.S.bc,vI g.S.box.x0,vI g.S.box.y0,vI g.S.box.x1,vI g.S.box.y1,.slice g.S.rA g.S.rn g.S.rc,.slice g.S.dA g.S.dn g.S.dc,vI g.S.fog,vI g.S.g.x,vI g.S.g.y,vI g.S.push,vI g.S.drag,vI g.S.rest,vI g.S.rounds,vI g.S.fuel],.agg #[.slice g.cA g.cn g.cc,vI g.e0,vI g.e1,vI g.e2],vI Wu,vS g.ib (g.io*3) g.ni g.ic] (ap [] [T]) F (λ u H'=>∃x,H'=ap [] [x] /\ (MemH mb (dp g M) k x /\ u=.tuple #[.bool (fB g M),.agg #[vI ((cF g M).e.t),vI ((cF g M).e.i),vI ((cF g M).e.k),vI ((cF g M).e.v)],.bool ((cF g M).em)])):=by
 subst Vk
 by_cases h0:M.get 1=0
 ·rw[dp,show cF g M=⟨aW (g.step M) M,0,bH,false⟩ by simp only[cF,if_pos h0],show fB g M=false by simp[fB,h0]]
  exact KX g mb M k T F hM hg.set h0 hg.ins hg.room
 by_cases h1:M.get 1=1
 ·rw[dp,show cF g M=(eF (g.step M) M) by simp only[cF,if_neg h0,if_pos h1],show fB g M=false by simp[fB,h1]]
  exact KY g mb M k T F hM hg.set h1 hg.eff hg.code
 by_cases h2:M.get 1=2
 ·rw[dp,show cF g M=(cS (g.step M) M) by simp only[cF,if_neg h0,if_neg h1,if_pos h2],show fB g M=false by simp[fB,h2]]
  exact KZ g mb M k T F hM hg.set h2 hg.eff hg.code
 by_cases h3:M.get 1=3
 ·rw[dp,show cF g M=⟨aM (g.step M) M,0,bH,false⟩ by simp only[cF,if_neg h0,if_neg h1,if_neg h2,if_pos h3],show fB g M=false by simp[fB,h3]]
  exact K3 g mb M k T F hM hg.set h3
 by_cases h4:M.get 1=4
 ·rw[dp,show cF g M=⟨bj (g.step M) M,0,bH,false⟩ by simp only[cF,if_neg h0,if_neg h1,if_neg h2,if_neg h3,if_pos h4],show fB g M=false by simp[fB,h4]]
  exact K4 g mb M k T F hM hg.set h4
 by_cases h5:M.get 1=5
 ·rw[dp,show cF g M=⟨cY (g.step M) M,0,bH,false⟩ by simp only[cF,if_neg h0,if_neg h1,if_neg h2,if_neg h3,if_neg h4,if_pos h5],show fB g M=false by simp[fB,h5]]
  exact K5 g mb M k T F hM hg.set h5
 by_cases h6:M.get 1=6
 ·rw[dp,show cF g M=(eG (g.step M) M) by simp only[cF,if_neg h0,if_neg h1,if_neg h2,if_neg h3,if_neg h4,if_neg h5,if_pos h6],show fB g M=false by simp[fB,h6]]
  exact K6 g mb M k T F hM hg.set h6 hg.eff hg.code
 have h7:M.get 1=7:=by omega
 rw[dp,show cF g M=⟨dg (g.step M) M,0,bH,false⟩ by simp only[cF,if_neg h0,if_neg h1,if_neg h2,if_neg h3,if_neg h4,if_neg h5,if_neg h6],show fB g M=fK (g.step M) by simp[fB,h7]]
 exact K7 g mb M k T F hM hg.set h7
def dD(g:Gm):Nat -> MemS -> MemS
 | 0,M=>M
 | n+1,M=>dD g n (dp g M)
def cK(g:Gm):Nat -> MemS -> List Eff
 | 0,_=>[]
 | n+1,M=>(if (cF g M).em=true then [(cF g M).e] else [])++cK g n (dp g M)
def eL(g:Gm):Nat -> MemS -> Prop
 | 0,_=>False
 | n+1,M=>qQ M /\ ((n=0 /\ fB g M=true) \/ (fB g M=false /\ eL g n (dp g M)))
theorem rL{g:Gm}{n:Nat}{M:MemS}(h:(cF g M).em=true):cK g (n+1) M=(cF g M).e::cK g n (dp g M):=by rw[cK,if_pos h];rfl
theorem kJ{g:Gm}{n:Nat}{M:MemS}(h:¬ (cF g M).em=true):cK g (n+1) M=cK g n (dp g M):=by rw[cK,if_neg h];rfl
theorem rM(g:Gm):∀n M,(cK g n M).length <= n
 | 0,_=>Nat.le_refl _
 | n+1,M=>by
  rw[cK,List.length_append]
  have:=rM g n (dp g M)
  split
  ·simp;omega
  ·simp;omega
def Shp.nm(s:Shp):Shp:=⟨s.r,s.poly,none,0⟩
def Bod.nm(b:Bod):Bod:=⟨b.sh.nm,b.mot,b.a,b.b⟩
def Setup.nm(S:Setup):Setup:={ S with bb:=0,bo:=0,bc:=0,bR:=0,bods:=(S.bods.drop S.bo).map Bod.nm,rA:=none,rc:=0,dA:=none,dc:=0 }
def Stp.nm(t:Stp):Stp:={ t with S:=t.S.nm,cA:=none,cc:=0,ib:=0,io:=0,ic:=0,iR:=0,ins:=[] }
theorem BF{α:Type}(l:List α)(o k:Nat)(d:α):(l.drop o).getD (0+k) d=l.getD (o+k) d:=by
 rw[Nat.zero_add,List.getD_eq_getElem?_getD,List.getD_eq_getElem?_getD,List.getElem?_drop]
theorem D9{α β:Type}(f:α -> β)(l:List α)(k:Nat)(d:α):(l.map f).getD k (f d)=f (l.getD k d):=by
 rw[List.getD_eq_getElem?_getD,List.getD_eq_getElem?_getD,List.getElem?_map]
 cases l[k]? <;> rfl
theorem oP(S:Setup)(k:Nat):S.nm.body k=(S.body k).nm:=by
 show ((S.bods.drop S.bo).map Bod.nm).getD (0+k) dB=Bod.nm (S.bods.getD (S.bo+k) dB)
 rw[<- BF S.bods S.bo k dB]
 exact D9 Bod.nm _ _ dB
theorem jP(S:Setup):S.nm.players=S.players:=rfl
theorem gK(S:Setup):S.nm.nb=S.nb:=rfl
theorem Ea(S:Setup):S.nm.box=S.box:=rfl
theorem K8(S:Setup):S.nm.g=S.g:=rfl
theorem BG(S:Setup):S.nm.push=S.push:=rfl
theorem BH(S:Setup):S.nm.drag=S.drag:=rfl
theorem rN(S:Setup):S.nm.rest=S.rest:=rfl
theorem uS(S:Setup):S.nm.rounds=S.rounds:=rfl
theorem rO(S:Setup):S.nm.fuel=S.fuel:=rfl
theorem zx(t:Stp):t.nm.cn=t.cn:=rfl
theorem zy(t:Stp):t.nm.e0=t.e0:=rfl
theorem H3(t:Stp):t.nm.e1=t.e1:=rfl
theorem zz(t:Stp):t.nm.e2=t.e2:=rfl
theorem th(t:Stp):t.nm.version=t.version:=rfl
theorem dE(t:Stp):t.nm.i=t.i:=rfl
theorem gA(t:Stp):t.nm.j=t.j:=rfl
theorem xM(t:Stp):t.nm.ended=t.ended:=rfl
theorem oQ(t:Stp):t.nm.f0=t.f0:=rfl
theorem oS(t:Stp):t.nm.f1=t.f1:=rfl
theorem oT(t:Stp):t.nm.f2=t.f2:=rfl
theorem oU(t:Stp):t.nm.f3=t.f3:=rfl
theorem gL(t:Stp):t.nm.emitted=t.emitted:=rfl
theorem nA(t:Stp):t.nm.code=t.code:=rfl
theorem bP(t:Stp):t.nm.S=t.S.nm:=rfl
theorem zA(b:Bod):b.nm.sh=b.sh.nm:=rfl
theorem uT(b:Bod):b.nm.mot=b.mot:=rfl
theorem K9(s:Shp):s.nm.r=s.r:=rfl
theorem iV(S:Setup)(k:Int) :ah S.nm k=ah S k:=by
 unfold ah
 simp only[jP,bP] <;> rfl
theorem fk(S:Setup)(k:Int) :ae S.nm k=ae S k:=by
 unfold ae
 simp only[jP,gK,bP] <;> rfl
theorem ti(S:Setup)(k:Int) :(movP S.nm k)=(movP S k):=by
 unfold movP
 simp only[gK,bP,uT,oP] <;> rfl
theorem mU(S:Setup)(M:MemS)(k:Int) :ai S.nm M k=ai S M k:=by
 unfold ai
 simp only[bP,uT,oP,fk] <;> rfl
theorem uU(a:Shp)(pa:V2)(b:Shp)(pb:V2) :aG a.nm pa b.nm pb=aG a pa b pb:=by
 kernel_rfl
theorem Eb(a:Shp)(pa va:V2)(b:Shp)(pb vb:V2) :fw a.nm pa va b.nm pb vb=fw a pa va b pb vb:=by
 kernel_rfl
theorem xN(t:Stp)(k:Int)(m:Mot)(M:MemS) :bG t.nm k m M=bG t k m M:=by
 unfold bG
 simp only[bP,fk] <;> rfl
theorem BI(t:Stp)(c sp pos lo hi:Int)(M:MemS) :b7 t.nm c sp pos lo hi M=b7 t c sp pos lo hi M:=by
 unfold b7
 simp only[rN,bP] <;> rfl
theorem rP(t:Stp)(M:MemS) :aZ t.nm M=aZ t M:=by
 unfold aZ
 simp only[th,dE,bP] <;> rfl
theorem rQ(t:Stp)(M:MemS) :b8 t.nm M=b8 t M:=by
 unfold b8
 simp only[jP,dE,bP] <;> rfl
theorem uV(t:Stp) :fK t.nm=fK t:=by
 unfold fK
 simp only[gK,dE,xM,bP] <;> rfl
theorem Ec(t:Stp)(M:MemS) :eA t.nm M=eA t M:=by
 unfold eA
 simp only[dE,bP,fk] <;> rfl
theorem Ed(t:Stp)(M:MemS) :fT t.nm M=fT t M:=by
 unfold fT
 simp only[gK,dE,bP] <;> rfl
theorem uW(t:Stp)(M:MemS) :dg t.nm M=dg t M:=by
 unfold dg
 simp only[bP,Ec,Ed] <;> rfl
theorem BJ(t:Stp)(M:MemS) :bO t.nm M=bO t M:=by
 unfold bO
 simp only[K8,BG,BH,dE,bP,iV,mU] <;> rfl
theorem BK(t:Stp)(M:MemS) :bA t.nm M=bA t M:=by
 unfold bA
 simp only[dE,bP,fk] <;> rfl
theorem BL(t:Stp)(M:MemS) :bB t.nm M=bB t M:=by
 unfold bB
 simp only[dE,bP,fk,ti,BJ] <;> rfl
theorem BM(t:Stp)(M:MemS) :bW t.nm M=bW t M:=by
 unfold bW
 simp only[gK,dE,bP] <;> rfl
theorem rR(t:Stp)(M:MemS) :aM t.nm M=aM t M:=by
 unfold aM
 simp only[bP,BK,BL,BM] <;> rfl
theorem xO(t:Stp)(M:MemS) :eC t.nm M=eC t M:=by
 unfold eC
 simp only[dE,bP,mU] <;> rfl
theorem xP(t:Stp)(M:MemS) :bI t.nm M=bI t M:=by
 unfold bI
 simp only[Ea,dE,bP,fk,BI,xO] <;> rfl
theorem Ee(S:Setup)(op n a b:Int)(M:MemS) :aH S.nm op n a b M=aH S op n a b M:=by
 unfold aH
 simp only[bP,fk] <;> rfl
theorem Eg(S:Setup)(op n sp pc fuel:Int)(M:MemS) :bQ S.nm op n sp pc fuel M=bQ S op n sp pc fuel M:=by
 unfold bQ
 simp only[rO,bP,Ee] <;> rfl
theorem Eh(S:Setup)(code:List Ins)(n:Nat)(M:MemS) :ao S.nm code n M=ao S code n M:=by
 unfold ao
 simp only[nA,bP,Eg] <;> rfl
theorem tj(e:Int)(t:Stp)(self other:Int)(M:MemS) :ew e t.nm self other M=ew e t self other M:=by
 unfold ew
 simp only[rO,zx,gA,gL,nA,bP,Eh,oQ,oS,oT,oU] <;> rfl
theorem tl(e:Int)(t:Stp)(self other:Int)(M:MemS) :dh e t.nm self other M=dh e t self other M:=by
 unfold dh
 simp only[zx,gA,nA,bP] <;> rfl
theorem uX(r:VR)(over:Bool)(t:Stp)(IT:Bool)(M:MemS) :di r over t.nm IT M=di r over t IT M:=by
 unfold di
 simp only[dE,gA,gL,bP,K9,oQ,oS,oT,oU] <;> rfl
theorem zC(t:Stp)(M:MemS) :eF t.nm M=eF t M:=by
 unfold eF
 simp only[dE,gL,bP,iV,oQ,oS,oT,oU,zy,zz,tj,tl,uX] <;> rfl
theorem uY(t:Stp)(M:MemS) :cS t.nm M=cS t M:=by
 unfold cS
 simp only[bP,H3,dE,gA,tj,tl] <;> rfl
theorem zD(t:Stp)(M:MemS) :eG t.nm M=eG t M:=by
 unfold eG
 simp only[dE,gL,bP,fk,oQ,oS,oT,oU,zy,zz,tj,tl,uX] <;> rfl
theorem zE(t:Stp)(M:MemS) :jO t.nm M=jO t M:=by
 unfold jO
 simp only[dE,gA,bP,zA,oP,mU,uU] <;> rfl
theorem H4(t:Stp)(M:MemS) :fA t.nm M=fA t M:=by
 unfold fA
 simp only[rN,dE,gA,bP,mU,zE] <;> rfl
theorem uZ(t:Stp)(M:MemS) :dY t.nm M=dY t M:=by
 unfold dY
 simp only[dE,gA,bP,fk,xN,H4] <;> rfl
theorem BN(t:Stp)(M:MemS) :cq t.nm M=cq t M:=by
 unfold cq
 simp only[gK,dE,gA,bP,zE,uZ] <;> rfl
theorem H5(t:Stp)(M:MemS) :kq t.nm M=kq t M:=by
 unfold kq
 simp only[dE,gA,bP,zA,oP,mU,Eb] <;> rfl
theorem Ei(t:Stp)(M:MemS) :dH t.nm M=dH t M:=by
 unfold dH
 simp only[dE,gA,bP,ti,H5] <;> rfl
theorem Ej(t:Stp)(M:MemS) :eH t.nm M=eH t M:=by
 unfold eH
 simp only[gK,dE,bP] <;> rfl
theorem u9(t:Stp)(M:MemS) :cY t.nm M=cY t M:=by
 unfold cY
 simp only[gK,dE,gA,bP,ti,xP,Ei,Ej] <;> rfl
theorem ou(t:Stp)(M:MemS) :bj t.nm M=bj t M:=by
 unfold bj
 simp only[gK,uS,dE,gA,bP,BN] <;> rfl
def Gm.nm(g:Gm):Gm:={ g with S:=g.S.nm,cA:=none,cc:=0,ib:=0,io:=0,ic:=0,iR:=0,ins:=[] }
theorem ld(g:Gm)(M:MemS):g.nm.step M=(g.step M).nm:=rfl
structure GEq(g g':Gm):Prop where
 nm:g.nm=g'.nm
 inp:∀k,k<g.ni -> g.ins.getD (g.io+k) dI=g'.ins.getD (g'.io+k) dI
theorem BO{g g':Gm}(h:GEq g g')(M:MemS):aW (g.step M) M=aW (g'.step M) M:=by
 have hs:(g.step M).nm=(g'.step M).nm:=by rw[<- ld,<- ld,h.nm]
 unfold aW
 rw[<- rP (g.step M),hs,rP]
 generalize aZ (g'.step M) M=N
 have hb:bu (g.step M) N=bu (g'.step M) N:=by
  have hS:(g.step M).S.nm=(g'.step M).S.nm:=show (g.step M).nm.S=(g'.step M).nm.S by rw[hs]
  have hi:(g.step M).i=(g'.step M).i:=show (g.step M).nm.i=(g'.step M).nm.i by rw[hs]
  have hn:(g.step M).ni=(g'.step M).ni:=show (g.step M).nm.ni=(g'.step M).nm.ni by rw[hs]
  unfold bu
  rw[<- iV (g.step M).S,hS,iV,hi,hn]
  by_cases h1:ah (g'.step M).S (g'.step M).i >= 0
  ·rw[if_pos h1,if_pos h1]
   by_cases h2:(g'.step M).i<(g'.step M).ni
   ·rw[if_pos h2,if_pos h2]
    have h3:0 <= (g'.step M).i:=by
     rcases Int.lt_or_le (g'.step M).i 0 with h4|h4
     ·unfold ah at h1;rw[if_pos h4] at h1;omega
     ·exact h4
    have e:(g.step M).inp (g'.step M).i.toNat=(g'.step M).inp (g'.step M).i.toNat:=by
     have h5:(g'.step M).i.toNat<g.ni:=by
      have h6:((g'.step M).ni:Int)=(g.ni:Int):=congrArg (Nat.cast) hn.symm
      omega
     exact h.inp _ h5
    rw[e]
   ·rw[if_neg h2,if_neg h2]
  ·rw[if_neg h1,if_neg h1]
 rw[hb,<- rQ (g.step M),hs,rQ]
theorem tn{g g':Gm}(h:GEq g g')(M:MemS):cF g M=cF g' M:=by
 have hs:(g.step M).nm=(g'.step M).nm:=by rw[<- ld,<- ld,h.nm]
 unfold cF
 rw[BO h,<- zC (g.step M),<- uY (g.step M),<- rR (g.step M),<- ou (g.step M),<- u9 (g.step M),<- zD (g.step M),<- uW (g.step M),hs,zC,uY,rR,ou,u9,zD,uW]
theorem Ek{g g':Gm}(h:GEq g g')(M:MemS):fB g M=fB g' M:=by
 have hs:(g.step M).nm=(g'.step M).nm:=by rw[<- ld,<- ld,h.nm]
 unfold fB
 rw[<- uV (g.step M),hs,uV]
theorem zF{g g':Gm}(h:GEq g g'):∀ (n:Nat) (M:MemS),dD g n M=dD g' n M
 | 0,_=>rfl
 | n+1,M=>by rw[dD,dD,dp,dp,tn h];exact zF h n _
theorem vc{g g':Gm}(h:GEq g g'):∀ (n:Nat) (M:MemS),cK g n M=cK g' n M
 | 0,_=>rfl
 | n+1,M=>by rw[cK,cK,dp,dp,tn h,vc h n]
end Go.Proofs.YthoijjeddhfcnaaGreatDoor
