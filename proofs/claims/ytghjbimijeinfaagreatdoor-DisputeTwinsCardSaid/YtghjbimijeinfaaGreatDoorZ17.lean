import Derived.Test.YtghjbimijeinfaaGreatDoorZ14
import Derived.Test.YtghjbimijeinfaaGreatDoorZ16
set_option maxHeartbeats 4000000
set_option maxRecDepth 100000
set_option linter.unusedSimpArgs false
set_option linter.unusedVariables false
namespace Go.Proofs.YtghjbimijeinfaaGreatDoor
open Go.RowKit
structure Gm where
 S:Setup
 cA:Option Addr
 cn:Nat
 cc:Nat
 e0:Int
 e1:Int
 e2:Int
 version:Int
 ib:Nat
 io:Nat
 ni:Nat
 ic:Nat
 iR:Nat
 ins:List Inp
 code:List Ins
abbrev Gm.step (g:Gm) (M:MemS):Stp:=⟨g.S,g.cA,g.cn,g.cc,g.e0,g.e1,g.e2,g.version,g.ib,g.io,g.ni,g.ic,g.iR,g.ins,M.get 2,M.get 3,false,0,0,0,0,false,g.code⟩
theorem J6 (g:Gm) (mb:Nat) (M:MemS) (k:Nat) (T F:HL) (hM:MemH mb M (k+20) T) (hS:SetIn F g.S) (hp:M.get 1=0) (hI:(g.ib,.rows 3 g.iR (kx g.ins) 151 (0,0)) ∈ F) (hir:g.io+g.ni <= g.iR /\ g.ni <= 1000000):Sp Tryz.prog 18 #[.iface 40 (vP mb 0),.agg #[vI g.S.players,vS g.S.bb (g.S.bo * 9) g.S.nb g.S.bc,vI g.S.box.x0,vI g.S.box.y0,vI g.S.box.x1,vI g.S.box.y1,.slice g.S.rA g.S.rn g.S.rc,.slice g.S.dA g.S.dn g.S.dc,vI g.S.fog,vI g.S.g.x,vI g.S.g.y,vI g.S.push,vI g.S.drag,vI g.S.rest,vI g.S.rounds,vI g.S.fuel],.agg #[.slice g.cA g.cn g.cc,vI g.e0,vI g.e1,vI g.e2],vI g.version,vS g.ib (g.io * 3) g.ni g.ic] (ap [] [T]) F (λ u H'=>∃ x,H'=ap [] [x] /\ (MemH mb (aO (g.step M) M) k x /\ u=.tuple #[.bool false,.agg #[vI 0,vI 0,vI 0,vI 0],.bool false])):=by
 refine Sp.run Tryz.func18 rfl mn (A:=[]) (Ts:=[T]) rfl λ w0=>?_
 refine ae 29 (ow 0 8) λ n1=>aj (iK 1 hp hM (av 0))<|ae 18 [] λ _=>RN.draw [] []<|ag [] [0,1,2,3,4,5,7] (ow 3 16++[.own 2,.own 2,.own 2,.own 2])<|ar [] 6 (λ X_=>(az 2 hM (aQ 0)))<|ar [] 8 (λ X_=>(az 3 hM (aQ 0)))<|ag [] [9] []<|RD.one 10 (RDO.ev [] [] λ n2=>?_)
 refine ag [] [11] []<|RD.fin<|ae 7 [.own 1] λ _=>RN.ct [0] [0] (AZ (g.step M) (n2+0) mb M (k+12) T _ hM hS.up (List.mem_append_right _ hI) hir) ?_
 rintro _ T3 hM4
 refine ae 3 [] λ _=>RN.draw [13] [0,1,3,4]<|ag [0,1,3,4] [0,4,8,1,5,9,2,6,10,3,7,11,12] (ow 0 5++[.ro 0])<|RD.one 13 (RDO.ev [0,1,3,4] [.own 2,.own 2,.own 2,.own 2] λ _=>?_)
 refine ag [0,1,3,4] [14] []<|RD.fin<|ae 1 [] λ _=>RN.ret [.own 2,.own 2,.own 2,.own 2] [] [0] (v:=.tuple #[.bool false,.agg #[vI 0,vI 0,vI 0,vI 0],.bool false]) (H':=(ap [] [T3])) ?_
 exact ⟨T3,rfl,hM4.weak (by omega),rfl⟩
theorem J7 (g:Gm) (mb:Nat) (M:MemS) (k:Nat) (T F:HL) (hM:MemH mb M (k+20) T) (hS:SetIn F g.S) (hp:M.get 1=1) (hE:cN F) (hC:CodeIn F g.code g.cA g.cn):Sp Tryz.prog 18 #[.iface 40 (vP mb 0),.agg #[vI g.S.players,vS g.S.bb (g.S.bo * 9) g.S.nb g.S.bc,vI g.S.box.x0,vI g.S.box.y0,vI g.S.box.x1,vI g.S.box.y1,.slice g.S.rA g.S.rn g.S.rc,.slice g.S.dA g.S.dn g.S.dc,vI g.S.fog,vI g.S.g.x,vI g.S.g.y,vI g.S.push,vI g.S.drag,vI g.S.rest,vI g.S.rounds,vI g.S.fuel],.agg #[.slice g.cA g.cn g.cc,vI g.e0,vI g.e1,vI g.e2],vI g.version,vS g.ib (g.io * 3) g.ni g.ic] (ap [] [T]) F (λ u H'=>∃ x,H'=ap [] [x] /\ (MemH mb (eS (g.step M) M).M k x /\ u=.tuple #[.bool false,.agg #[vI ((eS (g.step M) M).e.t),vI ((eS (g.step M) M).e.i),vI ((eS (g.step M) M).e.k),vI ((eS (g.step M) M).e.v)],.bool ((eS (g.step M) M).em)])):=by
 refine Sp.run Tryz.func18 rfl mn (A:=[]) (Ts:=[T]) rfl λ w0=>?_
 refine ae 29 (ow 0 8) λ n1=>aj (iK 1 hp hM (av 0))<|ae 18 [] λ _=>RN.draw [] []<|ag [] [0,1,2,3,4,5,7] (ow 3 16++[.own 2,.own 2,.own 2,.own 2])<|ar [] 6 (λ X_=>(az 2 hM (aQ 0)))<|ar [] 8 (λ X_=>(az 3 hM (aQ 0)))<|ag [] [9] []<|RD.one 10 (RDO.ev [] [] λ n2=>?_)
 refine ag [] [11] []<|RD.fin<|ae 7 [.own 1] λ _=>RN.ct [0] [0] (L9 (g.step M) (n2+0) mb M (k+11) T _ hM hS.up (aw hE) hC.up) ?_
 rintro _ T3 hM4
 refine ae 3 [] λ _=>RN.draw [13] [0,1,3,4]<|ag [0,1,3,4] [0,4,8,1,5,9,2,6,10,3,7,11,12] (ow 0 5++[.ro 0])<|RD.one 13 (RDO.ev [0,1,3,4] [.own 2,.own 2,.own 2,.own 2] λ _=>?_)
 refine ag [0,1,3,4] [14] []<|RD.fin<|ae 1 [] λ _=>RN.ret [.own 2,.own 2,.own 2,.own 2] [] [0] (v:=.tuple #[.bool false,.agg #[vI ((eS (g.step M) M).e.t),vI ((eS (g.step M) M).e.i),vI ((eS (g.step M) M).e.k),vI ((eS (g.step M) M).e.v)],.bool ((eS (g.step M) M).em)]) (H':=(ap [] [T3])) ?_
 exact ⟨T3,rfl,hM4.weak (by omega),rfl⟩
theorem J8 (g:Gm) (mb:Nat) (M:MemS) (k:Nat) (T F:HL) (hM:MemH mb M (k+20) T) (hS:SetIn F g.S) (hp:M.get 1=2) (hE:cN F) (hC:CodeIn F g.code g.cA g.cn):Sp Tryz.prog 18 #[.iface 40 (vP mb 0),.agg #[vI g.S.players,vS g.S.bb (g.S.bo * 9) g.S.nb g.S.bc,vI g.S.box.x0,vI g.S.box.y0,vI g.S.box.x1,vI g.S.box.y1,.slice g.S.rA g.S.rn g.S.rc,.slice g.S.dA g.S.dn g.S.dc,vI g.S.fog,vI g.S.g.x,vI g.S.g.y,vI g.S.push,vI g.S.drag,vI g.S.rest,vI g.S.rounds,vI g.S.fuel],.agg #[.slice g.cA g.cn g.cc,vI g.e0,vI g.e1,vI g.e2],vI g.version,vS g.ib (g.io * 3) g.ni g.ic] (ap [] [T]) F (λ u H'=>∃ x,H'=ap [] [x] /\ (MemH mb (cO (g.step M) M).M k x /\ u=.tuple #[.bool false,.agg #[vI ((cO (g.step M) M).e.t),vI ((cO (g.step M) M).e.i),vI ((cO (g.step M) M).e.k),vI ((cO (g.step M) M).e.v)],.bool ((cO (g.step M) M).em)])):=by
 refine Sp.run Tryz.func18 rfl mn (A:=[]) (Ts:=[T]) rfl λ w0=>?_
 refine ae 29 (ow 0 8) λ n1=>aj (iK 1 hp hM (av 0))<|ae 18 [] λ _=>RN.draw [] []<|ag [] [0,1,2,3,4,5,7] (ow 3 16++[.own 2,.own 2,.own 2,.own 2])<|ar [] 6 (λ X_=>(az 2 hM (aQ 0)))<|ar [] 8 (λ X_=>(az 3 hM (aQ 0)))<|ag [] [9] []<|RD.one 10 (RDO.ev [] [] λ n2=>?_)
 refine ag [] [11] []<|RD.fin<|ae 7 [.own 1] λ _=>RN.ct [0] [0] (J5 (g.step M) (n2+0) mb M (k+11) T _ hM hS.up (aw hE) hC.up) ?_
 rintro _ T3 hM4
 refine ae 3 [] λ _=>RN.draw [13] [0,1,3,4]<|ag [0,1,3,4] [0,4,8,1,5,9,2,6,10,3,7,11,12] (ow 0 5++[.ro 0])<|RD.one 13 (RDO.ev [0,1,3,4] [.own 2,.own 2,.own 2,.own 2] λ _=>?_)
 refine ag [0,1,3,4] [14] []<|RD.fin<|ae 1 [] λ _=>RN.ret [.own 2,.own 2,.own 2,.own 2] [] [0] (v:=.tuple #[.bool false,.agg #[vI ((cO (g.step M) M).e.t),vI ((cO (g.step M) M).e.i),vI ((cO (g.step M) M).e.k),vI ((cO (g.step M) M).e.v)],.bool ((cO (g.step M) M).em)]) (H':=(ap [] [T3])) ?_
 exact ⟨T3,rfl,hM4.weak (by omega),rfl⟩
theorem J9 (g:Gm) (mb:Nat) (M:MemS) (k:Nat) (T F:HL) (hM:MemH mb M (k+20) T) (hS:SetIn F g.S) (hp:M.get 1=3) :Sp Tryz.prog 18 #[.iface 40 (vP mb 0),.agg #[vI g.S.players,vS g.S.bb (g.S.bo * 9) g.S.nb g.S.bc,vI g.S.box.x0,vI g.S.box.y0,vI g.S.box.x1,vI g.S.box.y1,.slice g.S.rA g.S.rn g.S.rc,.slice g.S.dA g.S.dn g.S.dc,vI g.S.fog,vI g.S.g.x,vI g.S.g.y,vI g.S.push,vI g.S.drag,vI g.S.rest,vI g.S.rounds,vI g.S.fuel],.agg #[.slice g.cA g.cn g.cc,vI g.e0,vI g.e1,vI g.e2],vI g.version,vS g.ib (g.io * 3) g.ni g.ic] (ap [] [T]) F (λ u H'=>∃ x,H'=ap [] [x] /\ (MemH mb (aP (g.step M) M) k x /\ u=.tuple #[.bool false,.agg #[vI 0,vI 0,vI 0,vI 0],.bool false])):=by
 refine Sp.run Tryz.func18 rfl mn (A:=[]) (Ts:=[T]) rfl λ w0=>?_
 refine ae 29 (ow 0 8) λ n1=>aj (iK 1 hp hM (av 0))<|ae 18 [] λ _=>RN.draw [] []<|ag [] [0,1,2,3,4,5,7] (ow 3 16++[.own 2,.own 2,.own 2,.own 2])<|ar [] 6 (λ X_=>(az 2 hM (aQ 0)))<|ar [] 8 (λ X_=>(az 3 hM (aQ 0)))<|ag [] [9] []<|RD.one 10 (RDO.ev [] [] λ n2=>?_)
 refine ag [] [11] []<|RD.fin<|ae 7 [.own 1] λ _=>RN.ct [0] [0] (A5 (g.step M) (n2+0) mb M (k+12) T _ hM hS.up ) ?_
 rintro _ T3 hM4
 refine ae 3 [] λ _=>RN.draw [13] [0,1,3,4]<|ag [0,1,3,4] [0,4,8,1,5,9,2,6,10,3,7,11,12] (ow 0 5++[.ro 0])<|RD.one 13 (RDO.ev [0,1,3,4] [.own 2,.own 2,.own 2,.own 2] λ _=>?_)
 refine ag [0,1,3,4] [14] []<|RD.fin<|ae 1 [] λ _=>RN.ret [.own 2,.own 2,.own 2,.own 2] [] [0] (v:=.tuple #[.bool false,.agg #[vI 0,vI 0,vI 0,vI 0],.bool false]) (H':=(ap [] [T3])) ?_
 exact ⟨T3,rfl,hM4.weak (by omega),rfl⟩
theorem Ka (g:Gm) (mb:Nat) (M:MemS) (k:Nat) (T F:HL) (hM:MemH mb M (k+20) T) (hS:SetIn F g.S) (hp:M.get 1=4) :Sp Tryz.prog 18 #[.iface 40 (vP mb 0),.agg #[vI g.S.players,vS g.S.bb (g.S.bo * 9) g.S.nb g.S.bc,vI g.S.box.x0,vI g.S.box.y0,vI g.S.box.x1,vI g.S.box.y1,.slice g.S.rA g.S.rn g.S.rc,.slice g.S.dA g.S.dn g.S.dc,vI g.S.fog,vI g.S.g.x,vI g.S.g.y,vI g.S.push,vI g.S.drag,vI g.S.rest,vI g.S.rounds,vI g.S.fuel],.agg #[.slice g.cA g.cn g.cc,vI g.e0,vI g.e1,vI g.e2],vI g.version,vS g.ib (g.io * 3) g.ni g.ic] (ap [] [T]) F (λ u H'=>∃ x,H'=ap [] [x] /\ (MemH mb (bK (g.step M) M) k x /\ u=.tuple #[.bool false,.agg #[vI 0,vI 0,vI 0,vI 0],.bool false])):=by
 refine Sp.run Tryz.func18 rfl mn (A:=[]) (Ts:=[T]) rfl λ w0=>?_
 refine ae 29 (ow 0 8) λ n1=>aj (iK 1 hp hM (av 0))<|ae 18 [] λ _=>RN.draw [] []<|ag [] [0,1,2,3,4,5,7] (ow 3 16++[.own 2,.own 2,.own 2,.own 2])<|ar [] 6 (λ X_=>(az 2 hM (aQ 0)))<|ar [] 8 (λ X_=>(az 3 hM (aQ 0)))<|ag [] [9] []<|RD.one 10 (RDO.ev [] [] λ n2=>?_)
 refine ag [] [11] []<|RD.fin<|ae 7 [.own 1] λ _=>RN.ct [0] [0] (tu (g.step M) (n2+0) mb M (k+6) T _ hM hS.up ) ?_
 rintro _ T3 hM4
 refine ae 3 [] λ _=>RN.draw [13] [0,1,3,4]<|ag [0,1,3,4] [0,4,8,1,5,9,2,6,10,3,7,11,12] (ow 0 5++[.ro 0])<|RD.one 13 (RDO.ev [0,1,3,4] [.own 2,.own 2,.own 2,.own 2] λ _=>?_)
 refine ag [0,1,3,4] [14] []<|RD.fin<|ae 1 [] λ _=>RN.ret [.own 2,.own 2,.own 2,.own 2] [] [0] (v:=.tuple #[.bool false,.agg #[vI 0,vI 0,vI 0,vI 0],.bool false]) (H':=(ap [] [T3])) ?_
 exact ⟨T3,rfl,hM4.weak (by omega),rfl⟩
theorem Kb (g:Gm) (mb:Nat) (M:MemS) (k:Nat) (T F:HL) (hM:MemH mb M (k+20) T) (hS:SetIn F g.S) (hp:M.get 1=5) :Sp Tryz.prog 18 #[.iface 40 (vP mb 0),.agg #[vI g.S.players,vS g.S.bb (g.S.bo * 9) g.S.nb g.S.bc,vI g.S.box.x0,vI g.S.box.y0,vI g.S.box.x1,vI g.S.box.y1,.slice g.S.rA g.S.rn g.S.rc,.slice g.S.dA g.S.dn g.S.dc,vI g.S.fog,vI g.S.g.x,vI g.S.g.y,vI g.S.push,vI g.S.drag,vI g.S.rest,vI g.S.rounds,vI g.S.fuel],.agg #[.slice g.cA g.cn g.cc,vI g.e0,vI g.e1,vI g.e2],vI g.version,vS g.ib (g.io * 3) g.ni g.ic] (ap [] [T]) F (λ u H'=>∃ x,H'=ap [] [x] /\ (MemH mb (dL (g.step M) M) k x /\ u=.tuple #[.bool false,.agg #[vI 0,vI 0,vI 0,vI 0],.bool false])):=by
 refine Sp.run Tryz.func18 rfl mn (A:=[]) (Ts:=[T]) rfl λ w0=>?_
 refine ae 29 (ow 0 8) λ n1=>aj (iK 1 hp hM (av 0))<|ae 18 [] λ _=>RN.draw [] []<|ag [] [0,1,2,3,4,5,7] (ow 3 16++[.own 2,.own 2,.own 2,.own 2])<|ar [] 6 (λ X_=>(az 2 hM (aQ 0)))<|ar [] 8 (λ X_=>(az 3 hM (aQ 0)))<|ag [] [9] []<|RD.one 10 (RDO.ev [] [] λ n2=>?_)
 refine ag [] [11] []<|RD.fin<|ae 7 [.own 1] λ _=>RN.ct [0] [0] (Bh (g.step M) (n2+0) mb M (k+12) T _ hM hS.up ) ?_
 rintro _ T3 hM4
 refine ae 3 [] λ _=>RN.draw [13] [0,1,3,4]<|ag [0,1,3,4] [0,4,8,1,5,9,2,6,10,3,7,11,12] (ow 0 5++[.ro 0])<|RD.one 13 (RDO.ev [0,1,3,4] [.own 2,.own 2,.own 2,.own 2] λ _=>?_)
 refine ag [0,1,3,4] [14] []<|RD.fin<|ae 1 [] λ _=>RN.ret [.own 2,.own 2,.own 2,.own 2] [] [0] (v:=.tuple #[.bool false,.agg #[vI 0,vI 0,vI 0,vI 0],.bool false]) (H':=(ap [] [T3])) ?_
 exact ⟨T3,rfl,hM4.weak (by omega),rfl⟩
theorem Kd (g:Gm) (mb:Nat) (M:MemS) (k:Nat) (T F:HL) (hM:MemH mb M (k+20) T) (hS:SetIn F g.S) (hp:M.get 1=6) (hE:cN F) (hC:CodeIn F g.code g.cA g.cn):Sp Tryz.prog 18 #[.iface 40 (vP mb 0),.agg #[vI g.S.players,vS g.S.bb (g.S.bo * 9) g.S.nb g.S.bc,vI g.S.box.x0,vI g.S.box.y0,vI g.S.box.x1,vI g.S.box.y1,.slice g.S.rA g.S.rn g.S.rc,.slice g.S.dA g.S.dn g.S.dc,vI g.S.fog,vI g.S.g.x,vI g.S.g.y,vI g.S.push,vI g.S.drag,vI g.S.rest,vI g.S.rounds,vI g.S.fuel],.agg #[.slice g.cA g.cn g.cc,vI g.e0,vI g.e1,vI g.e2],vI g.version,vS g.ib (g.io * 3) g.ni g.ic] (ap [] [T]) F (λ u H'=>∃ x,H'=ap [] [x] /\ (MemH mb (eT (g.step M) M).M k x /\ u=.tuple #[.bool false,.agg #[vI ((eT (g.step M) M).e.t),vI ((eT (g.step M) M).e.i),vI ((eT (g.step M) M).e.k),vI ((eT (g.step M) M).e.v)],.bool ((eT (g.step M) M).em)])):=by
 refine Sp.run Tryz.func18 rfl mn (A:=[]) (Ts:=[T]) rfl λ w0=>?_
 refine ae 29 (ow 0 8) λ n1=>aj (iK 1 hp hM (av 0))<|ae 18 [] λ _=>RN.draw [] []<|ag [] [0,1,2,3,4,5,7] (ow 3 16++[.own 2,.own 2,.own 2,.own 2])<|ar [] 6 (λ X_=>(az 2 hM (aQ 0)))<|ar [] 8 (λ X_=>(az 3 hM (aQ 0)))<|ag [] [9] []<|RD.one 10 (RDO.ev [] [] λ n2=>?_)
 refine ag [] [11] []<|RD.fin<|ae 7 [.own 1] λ _=>RN.ct [0] [0] (Ma (g.step M) (n2+0) mb M (k+11) T _ hM hS.up (aw hE) hC.up) ?_
 rintro _ T3 hM4
 refine ae 3 [] λ _=>RN.draw [13] [0,1,3,4]<|ag [0,1,3,4] [0,4,8,1,5,9,2,6,10,3,7,11,12] (ow 0 5++[.ro 0])<|RD.one 13 (RDO.ev [0,1,3,4] [.own 2,.own 2,.own 2,.own 2] λ _=>?_)
 refine ag [0,1,3,4] [14] []<|RD.fin<|ae 1 [] λ _=>RN.ret [.own 2,.own 2,.own 2,.own 2] [] [0] (v:=.tuple #[.bool false,.agg #[vI ((eT (g.step M) M).e.t),vI ((eT (g.step M) M).e.i),vI ((eT (g.step M) M).e.k),vI ((eT (g.step M) M).e.v)],.bool ((eT (g.step M) M).em)]) (H':=(ap [] [T3])) ?_
 exact ⟨T3,rfl,hM4.weak (by omega),rfl⟩
theorem Ke (g:Gm) (mb:Nat) (M:MemS) (k:Nat) (T F:HL) (hM:MemH mb M (k+20) T) (hS:SetIn F g.S) (hp:M.get 1=7) :Sp Tryz.prog 18 #[.iface 40 (vP mb 0),.agg #[vI g.S.players,vS g.S.bb (g.S.bo * 9) g.S.nb g.S.bc,vI g.S.box.x0,vI g.S.box.y0,vI g.S.box.x1,vI g.S.box.y1,.slice g.S.rA g.S.rn g.S.rc,.slice g.S.dA g.S.dn g.S.dc,vI g.S.fog,vI g.S.g.x,vI g.S.g.y,vI g.S.push,vI g.S.drag,vI g.S.rest,vI g.S.rounds,vI g.S.fuel],.agg #[.slice g.cA g.cn g.cc,vI g.e0,vI g.e1,vI g.e2],vI g.version,vS g.ib (g.io * 3) g.ni g.ic] (ap [] [T]) F (λ u H'=>∃ x,H'=ap [] [x] /\ (MemH mb (dk (g.step M) M) k x /\ u=.tuple #[.bool (fv (g.step M)),.agg #[vI 0,vI 0,vI 0,vI 0],.bool false])):=by
 refine Sp.run Tryz.func18 rfl mn (A:=[]) (Ts:=[T]) rfl λ w0=>?_
 refine ae 29 (ow 0 8) λ n1=>aj (iK 1 hp hM (av 0))<|ae 18 [] λ _=>RN.draw [] []<|ag [] [0,1,2,3,4,5,7] (ow 3 16++[.own 2,.own 2,.own 2,.own 2])<|ar [] 6 (λ X_=>(az 2 hM (aQ 0)))<|ar [] 8 (λ X_=>(az 3 hM (aQ 0)))<|ag [] [9] []<|RD.one 10 (RDO.ev [] [] λ n2=>?_)
 refine ag [] [11] []<|RD.fin<|ae 7 [.own 1] λ _=>RN.ct [0] [0] (Dv (g.step M) (n2+0) mb M (k+6) T _ hM hS.up ) ?_
 rintro _ T3 hM4
 refine ae 3 [] λ _=>RN.draw [13] [0,1,3,4]<|ag [0,1,3,4] [0,4,8,1,5,9,2,6,10,3,7,11,12] (ow 0 5++[.ro 0])<|RD.one 13 (RDO.ev [0,1,3,4] [.own 2,.own 2,.own 2,.own 2] λ _=>?_)
 refine ag [0,1,3,4] [14] []<|RD.fin<|ae 1 [] λ _=>RN.ret [.own 2,.own 2,.own 2,.own 2] [] [0] (v:=.tuple #[.bool (fv (g.step M)),.agg #[vI 0,vI 0,vI 0,vI 0],.bool false]) (H':=(ap [] [T3])) ?_
 exact ⟨T3,rfl,hM4.weak (by omega),rfl⟩
def pQ:Enc Eff:=⟨4,λ p k=>match k with | 0=>vI p.t | 1=>vI p.i | 2=>vI p.k | _=>vI p.v,bk⟩
noncomputable def Je:TypeInfo:=match Tryz.prog.info? 53 with | some i=>i | none=>⟨.bool,"",0,0,false,0,0,none,false,#[]⟩
noncomputable def Jf:Value:=match Je.zero with | some z=>z | none=>.bool false
theorem xv:EncOk pQ Tryz.prog 53 Je Jf where
 info:=by kernel_rfl
 zero:=by kernel_rfl
 size:=by kernel_rfl
 zsize:=by kernel_rfl
 zcell:=λ k hk=>by
  have h:∀ k < 4,Jf.cells[k]?=some (pQ.cell pQ.dflt k):=by intro k hk;(iterate 4 (rcases k with _ | k;· kernel_rfl));omega
  exact h k hk
 one:=λ x k=>by unfold pQ;dsimp only;split <;> rfl
 bytes:=Nat.le_of_ble_eq_true (by kernel_rfl)
def eA (g:Gm) (M:MemS):VR:=if M.get 1=0 then ⟨aO (g.step M) M,0,bk,false⟩ else if M.get 1=1 then (eS (g.step M) M) else if M.get 1=2 then (cO (g.step M) M) else if M.get 1=3 then ⟨aP (g.step M) M,0,bk,false⟩ else if M.get 1=4 then ⟨bK (g.step M) M,0,bk,false⟩ else if M.get 1=5 then ⟨dL (g.step M) M,0,bk,false⟩ else if M.get 1=6 then (eT (g.step M) M) else ⟨dk (g.step M) M,0,bk,false⟩
def gH (g:Gm) (M:MemS):Bool:=if M.get 1=7 then fv (g.step M) else false
abbrev fJ (g:Gm) (M:MemS):MemS:=(eA g M).M
abbrev Bi (M:MemS):Prop:=0 <= M.get 1 /\ M.get 1 <= 7
structure GmIn (F:HL) (g:Gm):Prop where
 set:SetIn F g.S
 ins:(g.ib,.rows 3 g.iR (kx g.ins) 151 (0,0)) ∈ F
 room:g.io+g.ni <= g.iR /\ g.ni <= 1000000
 eff:cN F
 code:CodeIn F g.code g.cA g.cn
theorem Bj (g:Gm) (mb:Nat) (M:MemS) (k:Nat) (T F:HL) (hM:MemH mb M (k+20) T) (hg:GmIn F g) (h0:Bi M) (ver:Int) (hver:g.version=ver):Sp Tryz.prog 18 #[.iface 40 (vP mb 0),.agg #[vI g.S.players,vS g.S.bb (g.S.bo * 9) g.S.nb g.S.bc,vI g.S.box.x0,vI g.S.box.y0,vI g.S.box.x1,vI g.S.box.y1,.slice g.S.rA g.S.rn g.S.rc,.slice g.S.dA g.S.dn g.S.dc,vI g.S.fog,vI g.S.g.x,vI g.S.g.y,vI g.S.push,vI g.S.drag,vI g.S.rest,vI g.S.rounds,vI g.S.fuel],.agg #[.slice g.cA g.cn g.cc,vI g.e0,vI g.e1,vI g.e2],vI ver,vS g.ib (g.io * 3) g.ni g.ic] (ap [] [T]) F (λ u H'=>∃ x,H'=ap [] [x] /\ (MemH mb (fJ g M) k x /\ u=.tuple #[.bool (gH g M),.agg #[vI ((eA g M).e.t),vI ((eA g M).e.i),vI ((eA g M).e.k),vI ((eA g M).e.v)],.bool ((eA g M).em)])):=by
 subst hver
 by_cases h0:M.get 1=0
 ·rw [fJ,show eA g M=⟨aO (g.step M) M,0,bk,false⟩ by simp only [eA,if_pos h0],show gH g M=false by simp [gH,h0]]
  exact J6 g mb M k T F hM hg.set h0 hg.ins hg.room
 by_cases h1:M.get 1=1
 ·rw [fJ,show eA g M=(eS (g.step M) M) by simp only [eA,if_neg h0,if_pos h1],show gH g M=false by simp [gH,h1]]
  exact J7 g mb M k T F hM hg.set h1 hg.eff hg.code
 by_cases h2:M.get 1=2
 ·rw [fJ,show eA g M=(cO (g.step M) M) by simp only [eA,if_neg h0,if_neg h1,if_pos h2],show gH g M=false by simp [gH,h2]]
  exact J8 g mb M k T F hM hg.set h2 hg.eff hg.code
 by_cases h3:M.get 1=3
 ·rw [fJ,show eA g M=⟨aP (g.step M) M,0,bk,false⟩ by simp only [eA,if_neg h0,if_neg h1,if_neg h2,if_pos h3],show gH g M=false by simp [gH,h3]]
  exact J9 g mb M k T F hM hg.set h3
 by_cases h4:M.get 1=4
 ·rw [fJ,show eA g M=⟨bK (g.step M) M,0,bk,false⟩ by simp only [eA,if_neg h0,if_neg h1,if_neg h2,if_neg h3,if_pos h4],show gH g M=false by simp [gH,h4]]
  exact Ka g mb M k T F hM hg.set h4
 by_cases h5:M.get 1=5
 ·rw [fJ,show eA g M=⟨dL (g.step M) M,0,bk,false⟩ by simp only [eA,if_neg h0,if_neg h1,if_neg h2,if_neg h3,if_neg h4,if_pos h5],show gH g M=false by simp [gH,h5]]
  exact Kb g mb M k T F hM hg.set h5
 by_cases h6:M.get 1=6
 ·rw [fJ,show eA g M=(eT (g.step M) M) by simp only [eA,if_neg h0,if_neg h1,if_neg h2,if_neg h3,if_neg h4,if_neg h5,if_pos h6],show gH g M=false by simp [gH,h6]]
  exact Kd g mb M k T F hM hg.set h6 hg.eff hg.code
 have h7:M.get 1=7:=by omega
 rw [fJ,show eA g M=⟨dk (g.step M) M,0,bk,false⟩ by simp only [eA,if_neg h0,if_neg h1,if_neg h2,if_neg h3,if_neg h4,if_neg h5,if_neg h6],show gH g M=fv (g.step M) by simp [gH,h7]]
 exact Ke g mb M k T F hM hg.set h7
def fE (g:Gm):Nat -> MemS -> MemS
 | 0,M=>M
 | n+1,M=>fE g n (fJ g M)
def dp (g:Gm):Nat -> MemS -> List Eff
 | 0,_=>[]
 | n+1,M=>(if (eA g M).em=true then [(eA g M).e] else [])++dp g n (fJ g M)
def dD (g:Gm):Nat -> MemS -> Prop
 | 0,_=>False
 | n+1,M=>Bi M /\ ((n=0 /\ gH g M=true) \/ (gH g M=false /\ dD g n (fJ g M)))
theorem rU {g:Gm} {n:Nat} {M:MemS} (h:(eA g M).em=true):dp g (n+1) M=(eA g M).e :: dp g n (fJ g M):=by rw [dp,if_pos h];rfl
theorem mR {g:Gm} {n:Nat} {M:MemS} (h:¬ (eA g M).em=true):dp g (n+1) M=dp g n (fJ g M):=by rw [dp,if_neg h];rfl
theorem rV (g:Gm):∀ n M,(dp g n M).length <= n
 | 0,_=>Nat.le_refl _
 | n+1,M=>by
  rw [dp,List.length_append]
  have:=rV g n (fJ g M)
  split
  ·simp;omega
  ·simp;omega
def Shp.nm (s:Shp):Shp:=⟨s.r,s.poly,none,0⟩
def Bod.nm (b:Bod):Bod:=⟨b.sh.nm,b.mot,b.a,b.b⟩
def Setup.nm (S:Setup):Setup:={ S with bb:=0,bo:=0,bc:=0,bR:=0,bods:=(S.bods.drop S.bo).map Bod.nm,rA:=none,rc:=0,dA:=none,dc:=0 }
def Stp.nm (t:Stp):Stp:={ t with S:=t.S.nm,cA:=none,cc:=0,ib:=0,io:=0,ic:=0,iR:=0,ins:=[] }
theorem Bk {α:Type} (l:List α) (o k:Nat) (d:α):(l.drop o).getD (0+k) d=l.getD (o+k) d:=by
 rw [Nat.zero_add,List.getD_eq_getElem?_getD,List.getD_eq_getElem?_getD,List.getElem?_drop]
theorem Dw {α β:Type} (f:α -> β) (l:List α) (k:Nat) (d:α):(l.map f).getD k (f d)=f (l.getD k d):=by
 rw [List.getD_eq_getElem?_getD,List.getD_eq_getElem?_getD,List.getElem?_map]
 cases l[k]? <;> rfl
theorem pd (S:Setup) (k:Nat):S.nm.body k=(S.body k).nm:=by
 show ((S.bods.drop S.bo).map Bod.nm).getD (0+k) dB=Bod.nm (S.bods.getD (S.bo+k) dB)
 rw [<- Bk S.bods S.bo k dB]
 exact Dw Bod.nm _ _ dB
theorem jM (S:Setup):S.nm.players=S.players:=rfl
theorem gN (S:Setup):S.nm.nb=S.nb:=rfl
theorem Dx (S:Setup):S.nm.box=S.box:=rfl
theorem Kf (S:Setup):S.nm.g=S.g:=rfl
theorem Bl (S:Setup):S.nm.push=S.push:=rfl
theorem Bm (S:Setup):S.nm.drag=S.drag:=rfl
theorem rX (S:Setup):S.nm.rest=S.rest:=rfl
theorem uS (S:Setup):S.nm.rounds=S.rounds:=rfl
theorem rY (S:Setup):S.nm.fuel=S.fuel:=rfl
theorem zp (t:Stp):t.nm.cn=t.cn:=rfl
theorem zq (t:Stp):t.nm.e0=t.e0:=rfl
theorem G8 (t:Stp):t.nm.e1=t.e1:=rfl
theorem zr (t:Stp):t.nm.e2=t.e2:=rfl
theorem tw (t:Stp):t.nm.version=t.version:=rfl
theorem cW (t:Stp):t.nm.i=t.i:=rfl
theorem gy (t:Stp):t.nm.j=t.j:=rfl
theorem xw (t:Stp):t.nm.ended=t.ended:=rfl
theorem pf (t:Stp):t.nm.f0=t.f0:=rfl
theorem pg (t:Stp):t.nm.f1=t.f1:=rfl
theorem pi (t:Stp):t.nm.f2=t.f2:=rfl
theorem pj (t:Stp):t.nm.f3=t.f3:=rfl
theorem gO (t:Stp):t.nm.emitted=t.emitted:=rfl
theorem nB (t:Stp):t.nm.code=t.code:=rfl
theorem bu (t:Stp):t.nm.S=t.S.nm:=rfl
theorem zt (b:Bod):b.nm.sh=b.sh.nm:=rfl
theorem uT (b:Bod):b.nm.mot=b.mot:=rfl
theorem Kg (s:Shp):s.nm.r=s.r:=rfl
theorem iP (S:Setup) (k:Int) :ah S.nm k=ah S k:=by
 unfold ah
 simp only [jM,bu] <;> rfl
theorem eU (S:Setup) (k:Int) :af S.nm k=af S k:=by
 unfold af
 simp only [jM,gN,bu] <;> rfl
theorem tz (S:Setup) (k:Int) :(movP S.nm k)=(movP S k):=by
 unfold movP
 simp only [gN,bu,uT,pd] <;> rfl
theorem mS (S:Setup) (M:MemS) (k:Int) :aq S.nm M k=aq S M k:=by
 unfold aq
 simp only [bu,uT,pd,eU] <;> rfl
theorem uU (a:Shp) (pa:V2) (b:Shp) (pb:V2) :ck a.nm pa b.nm pb=ck a pa b pb:=by
 kernel_rfl
theorem Dy (a:Shp) (pa va:V2) (b:Shp) (pb vb:V2) :lH a.nm pa va b.nm pb vb=lH a pa va b pb vb:=by
 kernel_rfl
theorem xx (t:Stp) (k:Int) (m:Mot) (M:MemS) :dC t.nm k m M=dC t k m M:=by
 unfold dC
 simp only [bu,eU] <;> rfl
theorem Bn (t:Stp) (c sp pos lo hi:Int) (M:MemS) :dS t.nm c sp pos lo hi M=dS t c sp pos lo hi M:=by
 unfold dS
 simp only [rX,bu] <;> rfl
theorem rZ (t:Stp) (M:MemS) :bd t.nm M=bd t M:=by
 unfold bd
 simp only [tw,cW,bu] <;> rfl
theorem r6 (t:Stp) (M:MemS) :bT t.nm M=bT t M:=by
 unfold bT
 simp only [jM,cW,bu] <;> rfl
theorem uV (t:Stp) :fv t.nm=fv t:=by
 unfold fv
 simp only [gN,cW,xw,bu] <;> rfl
theorem Dz (t:Stp) (M:MemS) :fO t.nm M=fO t M:=by
 unfold fO
 simp only [cW,bu,eU] <;> rfl
theorem DA (t:Stp) (M:MemS) :gF t.nm M=gF t M:=by
 unfold gF
 simp only [gN,cW,bu] <;> rfl
theorem uW (t:Stp) (M:MemS) :dk t.nm M=dk t M:=by
 unfold dk
 simp only [bu,Dz,DA] <;> rfl
theorem Bo (t:Stp) (M:MemS) :bU t.nm M=bU t M:=by
 unfold bU
 simp only [Kf,Bl,Bm,cW,bu,iP,mS] <;> rfl
theorem Bp (t:Stp) (M:MemS) :bD t.nm M=bD t M:=by
 unfold bD
 simp only [cW,bu,eU] <;> rfl
theorem Bq (t:Stp) (M:MemS) :bH t.nm M=bH t M:=by
 unfold bH
 simp only [cW,bu,eU,tz,Bo] <;> rfl
theorem Br (t:Stp) (M:MemS) :bV t.nm M=bV t M:=by
 unfold bV
 simp only [gN,cW,bu] <;> rfl
theorem r7 (t:Stp) (M:MemS) :aP t.nm M=aP t M:=by
 unfold aP
 simp only [bu,Bp,Bq,Br] <;> rfl
theorem xy (t:Stp) (M:MemS) :fY t.nm M=fY t M:=by
 unfold fY
 simp only [cW,bu,mS] <;> rfl
theorem xz (t:Stp) (M:MemS) :cV t.nm M=cV t M:=by
 unfold cV
 simp only [Dx,cW,bu,eU,Bn,xy] <;> rfl
theorem DB (S:Setup) (op n a b:Int) (M:MemS) :aE S.nm op n a b M=aE S op n a b M:=by
 unfold aE
 simp only [bu,eU] <;> rfl
theorem DC (S:Setup) (op n sp pc fuel:Int) (M:MemS) :bQ S.nm op n sp pc fuel M=bQ S op n sp pc fuel M:=by
 unfold bQ
 simp only [rY,bu,DB] <;> rfl
theorem DD (S:Setup) (code:List Ins) (n:Nat) (M:MemS) :ak S.nm code n M=ak S code n M:=by
 unfold ak
 simp only [nB,bu,DC] <;> rfl
theorem tC (e:Int) (t:Stp) (self other:Int) (M:MemS) :ez e t.nm self other M=ez e t self other M:=by
 unfold ez
 simp only [rY,zp,gy,gO,nB,bu,DD,pf,pg,pi,pj] <;> rfl
theorem tD (e:Int) (t:Stp) (self other:Int) (M:MemS) :c9 e t.nm self other M=c9 e t self other M:=by
 unfold c9
 simp only [zp,gy,nB,bu] <;> rfl
theorem uX (r:VR) (over:Bool) (t:Stp) (cause:Bool) (M:MemS) :dm r over t.nm cause M=dm r over t cause M:=by
 unfold dm
 simp only [cW,gy,gO,bu,Kg,pf,pg,pi,pj] <;> rfl
theorem zu (t:Stp) (M:MemS) :eS t.nm M=eS t M:=by
 unfold eS
 simp only [cW,gO,bu,iP,pf,pg,pi,pj,zq,zr,tC,tD,uX] <;> rfl
theorem uY (t:Stp) (M:MemS) :cO t.nm M=cO t M:=by
 unfold cO
 simp only [bu,G8,cW,gy,tC,tD] <;> rfl
theorem zw (t:Stp) (M:MemS) :eT t.nm M=eT t M:=by
 unfold eT
 simp only [cW,gO,bu,eU,pf,pg,pi,pj,zq,zr,tC,tD,uX] <;> rfl
theorem zx (t:Stp) (M:MemS) :rg t.nm M=rg t M:=by
 unfold rg
 simp only [cW,gy,bu,zt,pd,mS,uU] <;> rfl
theorem Hb (t:Stp) (M:MemS) :uR t.nm M=uR t M:=by
 unfold uR
 simp only [rX,cW,gy,bu,mS,zx] <;> rfl
theorem uZ (t:Stp) (M:MemS) :gh t.nm M=gh t M:=by
 unfold gh
 simp only [cW,gy,bu,eU,xx,Hb] <;> rfl
theorem Bt (t:Stp) (M:MemS) :dG t.nm M=dG t M:=by
 unfold dG
 simp only [gN,cW,gy,bu,zx,uZ] <;> rfl
theorem Hc (t:Stp) (M:MemS) :rh t.nm M=rh t M:=by
 unfold rh
 simp only [cW,gy,bu,zt,pd,mS,Dy] <;> rfl
theorem DE (t:Stp) (M:MemS) :eI t.nm M=eI t M:=by
 unfold eI
 simp only [cW,gy,bu,tz,Hc] <;> rfl
theorem DF (t:Stp) (M:MemS) :fD t.nm M=fD t M:=by
 unfold fD
 simp only [gN,cW,bu] <;> rfl
theorem u9 (t:Stp) (M:MemS) :dL t.nm M=dL t M:=by
 unfold dL
 simp only [gN,cW,gy,bu,tz,xz,DE,DF] <;> rfl
theorem oB (t:Stp) (M:MemS) :bK t.nm M=bK t M:=by
 unfold bK
 simp only [gN,uS,cW,gy,bu,Bt] <;> rfl
def Gm.nm (g:Gm):Gm:={ g with S:=g.S.nm,cA:=none,cc:=0,ib:=0,io:=0,ic:=0,iR:=0,ins:=[] }
theorem kY (g:Gm) (M:MemS):g.nm.step M=(g.step M).nm:=rfl
structure GEq (g g':Gm):Prop where
 nm:g.nm=g'.nm
 inp:∀ k,k < g.ni -> g.ins.getD (g.io+k) dI=g'.ins.getD (g'.io+k) dI
theorem Bu {g g':Gm} (h:GEq g g') (M:MemS):aO (g.step M) M=aO (g'.step M) M:=by
 have hs:(g.step M).nm=(g'.step M).nm:=by rw [<- kY,<- kY,h.nm]
 unfold aO
 rw [<- rZ (g.step M),hs,rZ]
 generalize bd (g'.step M) M=N
 have hb:bn (g.step M) N=bn (g'.step M) N:=by
  have hS:(g.step M).S.nm=(g'.step M).S.nm:=show (g.step M).nm.S=(g'.step M).nm.S by rw [hs]
  have hi:(g.step M).i=(g'.step M).i:=show (g.step M).nm.i=(g'.step M).nm.i by rw [hs]
  have hn:(g.step M).ni=(g'.step M).ni:=show (g.step M).nm.ni=(g'.step M).nm.ni by rw [hs]
  unfold bn
  rw [<- iP (g.step M).S,hS,iP,hi,hn]
  by_cases h1:ah (g'.step M).S (g'.step M).i >= 0
  ·rw [if_pos h1,if_pos h1]
   by_cases h2:(g'.step M).i < (g'.step M).ni
   ·rw [if_pos h2,if_pos h2]
    have h3:0 <= (g'.step M).i:=by
     rcases Int.lt_or_le (g'.step M).i 0 with h4 | h4
     ·unfold ah at h1;rw [if_pos h4] at h1;omega
     ·exact h4
    have e:(g.step M).inp (g'.step M).i.toNat=(g'.step M).inp (g'.step M).i.toNat:=by
     have h5:(g'.step M).i.toNat < g.ni:=by
      have h6:((g'.step M).ni:Int)=(g.ni:Int):=congrArg (Nat.cast) hn.symm
      omega
     exact h.inp _ h5
    rw [e]
   ·rw [if_neg h2,if_neg h2]
  ·rw [if_neg h1,if_neg h1]
 rw [hb,<- r6 (g.step M),hs,r6]
theorem nC {g g':Gm} (h:GEq g g') (M:MemS):eA g M=eA g' M:=by
 have hs:(g.step M).nm=(g'.step M).nm:=by rw [<- kY,<- kY,h.nm]
 unfold eA
 rw [Bu h,<- zu (g.step M),<- uY (g.step M),<- r7 (g.step M),<- oB (g.step M),<- u9 (g.step M),<- zw (g.step M),<- uW (g.step M),hs,zu,uY,r7,oB,u9,zw,uW]
theorem xA {g g':Gm} (h:GEq g g') (M:MemS):gH g M=gH g' M:=by
 have hs:(g.step M).nm=(g'.step M).nm:=by rw [<- kY,<- kY,h.nm]
 unfold gH
 rw [<- uV (g.step M),hs,uV]
theorem zy {g g':Gm} (h:GEq g g'):∀ (n:Nat) (M:MemS),fE g n M=fE g' n M
 | 0,_=>rfl
 | n+1,M=>by rw [fE,fE,fJ,fJ,nC h];exact zy h n _
theorem vc {g g':Gm} (h:GEq g g'):∀ (n:Nat) (M:MemS),dp g n M=dp g' n M
 | 0,_=>rfl
 | n+1,M=>by rw [dp,dp,fJ,fJ,nC h,vc h n]
end Go.Proofs.YtghjbimijeinfaaGreatDoor
