import Derived.Test.YtcfajdgeejeieaaGreatDoorY16
import Derived.Test.YtcfajdgeejeieaaGreatDoorY20
set_option maxHeartbeats 4000000
set_option maxRecDepth 100000
set_option linter.unusedSimpArgs false
set_option linter.unusedVariables false
namespace Go.Proofs.YtcfajdgeejeieaaGreatDoor
open Go.RowKit
structure Gm where
 S:Setup
 cA:Option Addr
 cn:Nat
 cc:Nat
 e0:Int
 e1:Int
 e2:Int
 version:Int
 ib:Nat
 io:Nat
 ni:Nat
 ic:Nat
 iR:Nat
 ins:List Inp
 code:List Ins
abbrev Gm.step (g:Gm) (M:MemS):Stp:=⟨g.S,g.cA,g.cn,g.cc,g.e0,g.e1,g.e2,g.version,g.ib,g.io,g.ni,g.ic,g.iR,g.ins,M.get 2,M.get 3,false,0,0,0,0,false,g.code⟩
theorem JR (g:Gm) (mb:Nat) (M:MemS) (k:Nat) (T F:HL) (hM:MemH mb M (k+20) T) (hS:SetIn F g.S) (hp:M.get 1=0) (hI:(g.ib,.rows 3 g.iR (jl g.ins) 122 (0,0)) ∈ F) (hir:g.io+g.ni <= g.iR /\ g.ni <= 1000000):Sp Tryz.prog 82 #[.iface 47 (vP mb 0),.agg #[vI g.S.players,vS g.S.bb (g.S.bo * 9) g.S.nb g.S.bc,vI g.S.box.x0,vI g.S.box.y0,vI g.S.box.x1,vI g.S.box.y1,.slice g.S.rA g.S.rn g.S.rc,.slice g.S.dA g.S.dn g.S.dc,vI g.S.fog,vI g.S.g.x,vI g.S.g.y,vI g.S.push,vI g.S.drag,vI g.S.rest,vI g.S.rounds,vI g.S.fuel],.agg #[.slice g.cA g.cn g.cc,vI g.e0,vI g.e1,vI g.e2],vI g.version,vS g.ib (g.io * 3) g.ni g.ic] (ap [] [T]) F (λ u H'=>∃ x,H'=ap [] [x] /\ (MemH mb (aO (g.step M) M) k x /\ u=.tuple #[.bool false,.agg #[vI 0,vI 0,vI 0,vI 0],.bool false])):=by
 refine Sp.run Tryz.func82 rfl mn (A:=[]) (Ts:=[T]) rfl λ w0=>?_
 refine ae 29 (ow 0 8) λ n1=>ai (iG 1 hp hM (au 0))<|ae 18 [] λ _=>RN.draw [] []<|ag [] [0,1,2,3,4,5,7] (ow 3 16++[.own 2,.own 2,.own 2,.own 2])<|ar [] 6 (λ X_=>(ay 2 hM (aR 0)))<|ar [] 8 (λ X_=>(ay 3 hM (aR 0)))<|ag [] [9] []<|RD.one 10 (RDO.ev [] [] λ n2=>?_)
 refine ag [] [11] []<|RD.fin<|ae 7 [.own 1] λ _=>RN.ct [0] [0] (AR (g.step M) (n2+0) mb M (k+12) T _ hM hS.up (List.mem_append_right _ hI) hir) ?_
 rintro _ T3 hM4
 refine ae 3 [] λ _=>RN.draw [13] [0,1,3,4]<|ag [0,1,3,4] [0,4,8,1,5,9,2,6,10,3,7,11,12] (ow 0 5++[.ro 0])<|RD.one 13 (RDO.ev [0,1,3,4] [.own 2,.own 2,.own 2,.own 2] λ _=>?_)
 refine ag [0,1,3,4] [14] []<|RD.fin<|ae 1 [] λ _=>RN.ret [.own 2,.own 2,.own 2,.own 2] [] [0] (v:=.tuple #[.bool false,.agg #[vI 0,vI 0,vI 0,vI 0],.bool false]) (H':=(ap [] [T3])) ?_
 exact ⟨T3,rfl,hM4.weak (by omega),rfl⟩
theorem JS (g:Gm) (mb:Nat) (M:MemS) (k:Nat) (T F:HL) (hM:MemH mb M (k+20) T) (hS:SetIn F g.S) (hp:M.get 1=1) (hE:cK F) (hC:CodeIn F g.code g.cA g.cn):Sp Tryz.prog 82 #[.iface 47 (vP mb 0),.agg #[vI g.S.players,vS g.S.bb (g.S.bo * 9) g.S.nb g.S.bc,vI g.S.box.x0,vI g.S.box.y0,vI g.S.box.x1,vI g.S.box.y1,.slice g.S.rA g.S.rn g.S.rc,.slice g.S.dA g.S.dn g.S.dc,vI g.S.fog,vI g.S.g.x,vI g.S.g.y,vI g.S.push,vI g.S.drag,vI g.S.rest,vI g.S.rounds,vI g.S.fuel],.agg #[.slice g.cA g.cn g.cc,vI g.e0,vI g.e1,vI g.e2],vI g.version,vS g.ib (g.io * 3) g.ni g.ic] (ap [] [T]) F (λ u H'=>∃ x,H'=ap [] [x] /\ (MemH mb (eT (g.step M) M).M k x /\ u=.tuple #[.bool false,.agg #[vI ((eT (g.step M) M).e.t),vI ((eT (g.step M) M).e.i),vI ((eT (g.step M) M).e.k),vI ((eT (g.step M) M).e.v)],.bool ((eT (g.step M) M).em)])):=by
 refine Sp.run Tryz.func82 rfl mn (A:=[]) (Ts:=[T]) rfl λ w0=>?_
 refine ae 29 (ow 0 8) λ n1=>ai (iG 1 hp hM (au 0))<|ae 18 [] λ _=>RN.draw [] []<|ag [] [0,1,2,3,4,5,7] (ow 3 16++[.own 2,.own 2,.own 2,.own 2])<|ar [] 6 (λ X_=>(ay 2 hM (aR 0)))<|ar [] 8 (λ X_=>(ay 3 hM (aR 0)))<|ag [] [9] []<|RD.one 10 (RDO.ev [] [] λ n2=>?_)
 refine ag [] [11] []<|RD.fin<|ae 7 [.own 1] λ _=>RN.ct [0] [0] (LG (g.step M) (n2+0) mb M (k+11) T _ hM hS.up (aw hE) hC.up) ?_
 rintro _ T3 hM4
 refine ae 3 [] λ _=>RN.draw [13] [0,1,3,4]<|ag [0,1,3,4] [0,4,8,1,5,9,2,6,10,3,7,11,12] (ow 0 5++[.ro 0])<|RD.one 13 (RDO.ev [0,1,3,4] [.own 2,.own 2,.own 2,.own 2] λ _=>?_)
 refine ag [0,1,3,4] [14] []<|RD.fin<|ae 1 [] λ _=>RN.ret [.own 2,.own 2,.own 2,.own 2] [] [0] (v:=.tuple #[.bool false,.agg #[vI ((eT (g.step M) M).e.t),vI ((eT (g.step M) M).e.i),vI ((eT (g.step M) M).e.k),vI ((eT (g.step M) M).e.v)],.bool ((eT (g.step M) M).em)]) (H':=(ap [] [T3])) ?_
 exact ⟨T3,rfl,hM4.weak (by omega),rfl⟩
theorem trans2 (g:Gm) (mb:Nat) (M:MemS) (k:Nat) (T F:HL) (hM:MemH mb M (k+20) T) (hS:SetIn F g.S) (hp:M.get 1=2) (hE:cK F) (hC:CodeIn F g.code g.cA g.cn):Sp Tryz.prog 82 #[.iface 47 (vP mb 0),.agg #[vI g.S.players,vS g.S.bb (g.S.bo * 9) g.S.nb g.S.bc,vI g.S.box.x0,vI g.S.box.y0,vI g.S.box.x1,vI g.S.box.y1,.slice g.S.rA g.S.rn g.S.rc,.slice g.S.dA g.S.dn g.S.dc,vI g.S.fog,vI g.S.g.x,vI g.S.g.y,vI g.S.push,vI g.S.drag,vI g.S.rest,vI g.S.rounds,vI g.S.fuel],.agg #[.slice g.cA g.cn g.cc,vI g.e0,vI g.e1,vI g.e2],vI g.version,vS g.ib (g.io * 3) g.ni g.ic] (ap [] [T]) F (λ u H'=>∃ x,H'=ap [] [x] /\ (MemH mb (cT (g.step M) M).M k x /\ u=.tuple #[.bool false,.agg #[vI ((cT (g.step M) M).e.t),vI ((cT (g.step M) M).e.i),vI ((cT (g.step M) M).e.k),vI ((cT (g.step M) M).e.v)],.bool ((cT (g.step M) M).em)])):=by
 refine Sp.run Tryz.func82 rfl mn (A:=[]) (Ts:=[T]) rfl λ w0=>?_
 refine ae 29 (ow 0 8) λ n1=>ai (iG 1 hp hM (au 0))<|ae 18 [] λ _=>RN.draw [] []<|ag [] [0,1,2,3,4,5,7] (ow 3 16++[.own 2,.own 2,.own 2,.own 2])<|ar [] 6 (λ X_=>(ay 2 hM (aR 0)))<|ar [] 8 (λ X_=>(ay 3 hM (aR 0)))<|ag [] [9] []<|RD.one 10 (RDO.ev [] [] λ n2=>?_)
 refine ag [] [11] []<|RD.fin<|ae 7 [.own 1] λ _=>RN.ct [0] [0] (JQ (g.step M) (n2+0) mb M (k+11) T _ hM hS.up (aw hE) hC.up) ?_
 rintro _ T3 hM4
 refine ae 3 [] λ _=>RN.draw [13] [0,1,3,4]<|ag [0,1,3,4] [0,4,8,1,5,9,2,6,10,3,7,11,12] (ow 0 5++[.ro 0])<|RD.one 13 (RDO.ev [0,1,3,4] [.own 2,.own 2,.own 2,.own 2] λ _=>?_)
 refine ag [0,1,3,4] [14] []<|RD.fin<|ae 1 [] λ _=>RN.ret [.own 2,.own 2,.own 2,.own 2] [] [0] (v:=.tuple #[.bool false,.agg #[vI ((cT (g.step M) M).e.t),vI ((cT (g.step M) M).e.i),vI ((cT (g.step M) M).e.k),vI ((cT (g.step M) M).e.v)],.bool ((cT (g.step M) M).em)]) (H':=(ap [] [T3])) ?_
 exact ⟨T3,rfl,hM4.weak (by omega),rfl⟩
theorem JT (g:Gm) (mb:Nat) (M:MemS) (k:Nat) (T F:HL) (hM:MemH mb M (k+20) T) (hS:SetIn F g.S) (hp:M.get 1=3) :Sp Tryz.prog 82 #[.iface 47 (vP mb 0),.agg #[vI g.S.players,vS g.S.bb (g.S.bo * 9) g.S.nb g.S.bc,vI g.S.box.x0,vI g.S.box.y0,vI g.S.box.x1,vI g.S.box.y1,.slice g.S.rA g.S.rn g.S.rc,.slice g.S.dA g.S.dn g.S.dc,vI g.S.fog,vI g.S.g.x,vI g.S.g.y,vI g.S.push,vI g.S.drag,vI g.S.rest,vI g.S.rounds,vI g.S.fuel],.agg #[.slice g.cA g.cn g.cc,vI g.e0,vI g.e1,vI g.e2],vI g.version,vS g.ib (g.io * 3) g.ni g.ic] (ap [] [T]) F (λ u H'=>∃ x,H'=ap [] [x] /\ (MemH mb (aP (g.step M) M) k x /\ u=.tuple #[.bool false,.agg #[vI 0,vI 0,vI 0,vI 0],.bool false])):=by
 refine Sp.run Tryz.func82 rfl mn (A:=[]) (Ts:=[T]) rfl λ w0=>?_
 refine ae 29 (ow 0 8) λ n1=>ai (iG 1 hp hM (au 0))<|ae 18 [] λ _=>RN.draw [] []<|ag [] [0,1,2,3,4,5,7] (ow 3 16++[.own 2,.own 2,.own 2,.own 2])<|ar [] 6 (λ X_=>(ay 2 hM (aR 0)))<|ar [] 8 (λ X_=>(ay 3 hM (aR 0)))<|ag [] [9] []<|RD.one 10 (RDO.ev [] [] λ n2=>?_)
 refine ag [] [11] []<|RD.fin<|ae 7 [.own 1] λ _=>RN.ct [0] [0] (AU (g.step M) (n2+0) mb M (k+12) T _ hM hS.up ) ?_
 rintro _ T3 hM4
 refine ae 3 [] λ _=>RN.draw [13] [0,1,3,4]<|ag [0,1,3,4] [0,4,8,1,5,9,2,6,10,3,7,11,12] (ow 0 5++[.ro 0])<|RD.one 13 (RDO.ev [0,1,3,4] [.own 2,.own 2,.own 2,.own 2] λ _=>?_)
 refine ag [0,1,3,4] [14] []<|RD.fin<|ae 1 [] λ _=>RN.ret [.own 2,.own 2,.own 2,.own 2] [] [0] (v:=.tuple #[.bool false,.agg #[vI 0,vI 0,vI 0,vI 0],.bool false]) (H':=(ap [] [T3])) ?_
 exact ⟨T3,rfl,hM4.weak (by omega),rfl⟩
theorem JU (g:Gm) (mb:Nat) (M:MemS) (k:Nat) (T F:HL) (hM:MemH mb M (k+20) T) (hS:SetIn F g.S) (hp:M.get 1=4) :Sp Tryz.prog 82 #[.iface 47 (vP mb 0),.agg #[vI g.S.players,vS g.S.bb (g.S.bo * 9) g.S.nb g.S.bc,vI g.S.box.x0,vI g.S.box.y0,vI g.S.box.x1,vI g.S.box.y1,.slice g.S.rA g.S.rn g.S.rc,.slice g.S.dA g.S.dn g.S.dc,vI g.S.fog,vI g.S.g.x,vI g.S.g.y,vI g.S.push,vI g.S.drag,vI g.S.rest,vI g.S.rounds,vI g.S.fuel],.agg #[.slice g.cA g.cn g.cc,vI g.e0,vI g.e1,vI g.e2],vI g.version,vS g.ib (g.io * 3) g.ni g.ic] (ap [] [T]) F (λ u H'=>∃ x,H'=ap [] [x] /\ (MemH mb (bO (g.step M) M) k x /\ u=.tuple #[.bool false,.agg #[vI 0,vI 0,vI 0,vI 0],.bool false])):=by
 refine Sp.run Tryz.func82 rfl mn (A:=[]) (Ts:=[T]) rfl λ w0=>?_
 refine ae 29 (ow 0 8) λ n1=>ai (iG 1 hp hM (au 0))<|ae 18 [] λ _=>RN.draw [] []<|ag [] [0,1,2,3,4,5,7] (ow 3 16++[.own 2,.own 2,.own 2,.own 2])<|ar [] 6 (λ X_=>(ay 2 hM (aR 0)))<|ar [] 8 (λ X_=>(ay 3 hM (aR 0)))<|ag [] [9] []<|RD.one 10 (RDO.ev [] [] λ n2=>?_)
 refine ag [] [11] []<|RD.fin<|ae 7 [.own 1] λ _=>RN.ct [0] [0] (tj (g.step M) (n2+0) mb M (k+6) T _ hM hS.up ) ?_
 rintro _ T3 hM4
 refine ae 3 [] λ _=>RN.draw [13] [0,1,3,4]<|ag [0,1,3,4] [0,4,8,1,5,9,2,6,10,3,7,11,12] (ow 0 5++[.ro 0])<|RD.one 13 (RDO.ev [0,1,3,4] [.own 2,.own 2,.own 2,.own 2] λ _=>?_)
 refine ag [0,1,3,4] [14] []<|RD.fin<|ae 1 [] λ _=>RN.ret [.own 2,.own 2,.own 2,.own 2] [] [0] (v:=.tuple #[.bool false,.agg #[vI 0,vI 0,vI 0,vI 0],.bool false]) (H':=(ap [] [T3])) ?_
 exact ⟨T3,rfl,hM4.weak (by omega),rfl⟩
theorem JV (g:Gm) (mb:Nat) (M:MemS) (k:Nat) (T F:HL) (hM:MemH mb M (k+20) T) (hS:SetIn F g.S) (hp:M.get 1=5) :Sp Tryz.prog 82 #[.iface 47 (vP mb 0),.agg #[vI g.S.players,vS g.S.bb (g.S.bo * 9) g.S.nb g.S.bc,vI g.S.box.x0,vI g.S.box.y0,vI g.S.box.x1,vI g.S.box.y1,.slice g.S.rA g.S.rn g.S.rc,.slice g.S.dA g.S.dn g.S.dc,vI g.S.fog,vI g.S.g.x,vI g.S.g.y,vI g.S.push,vI g.S.drag,vI g.S.rest,vI g.S.rounds,vI g.S.fuel],.agg #[.slice g.cA g.cn g.cc,vI g.e0,vI g.e1,vI g.e2],vI g.version,vS g.ib (g.io * 3) g.ni g.ic] (ap [] [T]) F (λ u H'=>∃ x,H'=ap [] [x] /\ (MemH mb (dM (g.step M) M) k x /\ u=.tuple #[.bool false,.agg #[vI 0,vI 0,vI 0,vI 0],.bool false])):=by
 refine Sp.run Tryz.func82 rfl mn (A:=[]) (Ts:=[T]) rfl λ w0=>?_
 refine ae 29 (ow 0 8) λ n1=>ai (iG 1 hp hM (au 0))<|ae 18 [] λ _=>RN.draw [] []<|ag [] [0,1,2,3,4,5,7] (ow 3 16++[.own 2,.own 2,.own 2,.own 2])<|ar [] 6 (λ X_=>(ay 2 hM (aR 0)))<|ar [] 8 (λ X_=>(ay 3 hM (aR 0)))<|ag [] [9] []<|RD.one 10 (RDO.ev [] [] λ n2=>?_)
 refine ag [] [11] []<|RD.fin<|ae 7 [.own 1] λ _=>RN.ct [0] [0] (Be (g.step M) (n2+0) mb M (k+12) T _ hM hS.up ) ?_
 rintro _ T3 hM4
 refine ae 3 [] λ _=>RN.draw [13] [0,1,3,4]<|ag [0,1,3,4] [0,4,8,1,5,9,2,6,10,3,7,11,12] (ow 0 5++[.ro 0])<|RD.one 13 (RDO.ev [0,1,3,4] [.own 2,.own 2,.own 2,.own 2] λ _=>?_)
 refine ag [0,1,3,4] [14] []<|RD.fin<|ae 1 [] λ _=>RN.ret [.own 2,.own 2,.own 2,.own 2] [] [0] (v:=.tuple #[.bool false,.agg #[vI 0,vI 0,vI 0,vI 0],.bool false]) (H':=(ap [] [T3])) ?_
 exact ⟨T3,rfl,hM4.weak (by omega),rfl⟩
theorem JW (g:Gm) (mb:Nat) (M:MemS) (k:Nat) (T F:HL) (hM:MemH mb M (k+20) T) (hS:SetIn F g.S) (hp:M.get 1=6) (hE:cK F) (hC:CodeIn F g.code g.cA g.cn):Sp Tryz.prog 82 #[.iface 47 (vP mb 0),.agg #[vI g.S.players,vS g.S.bb (g.S.bo * 9) g.S.nb g.S.bc,vI g.S.box.x0,vI g.S.box.y0,vI g.S.box.x1,vI g.S.box.y1,.slice g.S.rA g.S.rn g.S.rc,.slice g.S.dA g.S.dn g.S.dc,vI g.S.fog,vI g.S.g.x,vI g.S.g.y,vI g.S.push,vI g.S.drag,vI g.S.rest,vI g.S.rounds,vI g.S.fuel],.agg #[.slice g.cA g.cn g.cc,vI g.e0,vI g.e1,vI g.e2],vI g.version,vS g.ib (g.io * 3) g.ni g.ic] (ap [] [T]) F (λ u H'=>∃ x,H'=ap [] [x] /\ (MemH mb (eU (g.step M) M).M k x /\ u=.tuple #[.bool false,.agg #[vI ((eU (g.step M) M).e.t),vI ((eU (g.step M) M).e.i),vI ((eU (g.step M) M).e.k),vI ((eU (g.step M) M).e.v)],.bool ((eU (g.step M) M).em)])):=by
 refine Sp.run Tryz.func82 rfl mn (A:=[]) (Ts:=[T]) rfl λ w0=>?_
 refine ae 29 (ow 0 8) λ n1=>ai (iG 1 hp hM (au 0))<|ae 18 [] λ _=>RN.draw [] []<|ag [] [0,1,2,3,4,5,7] (ow 3 16++[.own 2,.own 2,.own 2,.own 2])<|ar [] 6 (λ X_=>(ay 2 hM (aR 0)))<|ar [] 8 (λ X_=>(ay 3 hM (aR 0)))<|ag [] [9] []<|RD.one 10 (RDO.ev [] [] λ n2=>?_)
 refine ag [] [11] []<|RD.fin<|ae 7 [.own 1] λ _=>RN.ct [0] [0] (LH (g.step M) (n2+0) mb M (k+11) T _ hM hS.up (aw hE) hC.up) ?_
 rintro _ T3 hM4
 refine ae 3 [] λ _=>RN.draw [13] [0,1,3,4]<|ag [0,1,3,4] [0,4,8,1,5,9,2,6,10,3,7,11,12] (ow 0 5++[.ro 0])<|RD.one 13 (RDO.ev [0,1,3,4] [.own 2,.own 2,.own 2,.own 2] λ _=>?_)
 refine ag [0,1,3,4] [14] []<|RD.fin<|ae 1 [] λ _=>RN.ret [.own 2,.own 2,.own 2,.own 2] [] [0] (v:=.tuple #[.bool false,.agg #[vI ((eU (g.step M) M).e.t),vI ((eU (g.step M) M).e.i),vI ((eU (g.step M) M).e.k),vI ((eU (g.step M) M).e.v)],.bool ((eU (g.step M) M).em)]) (H':=(ap [] [T3])) ?_
 exact ⟨T3,rfl,hM4.weak (by omega),rfl⟩
theorem JX (g:Gm) (mb:Nat) (M:MemS) (k:Nat) (T F:HL) (hM:MemH mb M (k+20) T) (hS:SetIn F g.S) (hp:M.get 1=7) :Sp Tryz.prog 82 #[.iface 47 (vP mb 0),.agg #[vI g.S.players,vS g.S.bb (g.S.bo * 9) g.S.nb g.S.bc,vI g.S.box.x0,vI g.S.box.y0,vI g.S.box.x1,vI g.S.box.y1,.slice g.S.rA g.S.rn g.S.rc,.slice g.S.dA g.S.dn g.S.dc,vI g.S.fog,vI g.S.g.x,vI g.S.g.y,vI g.S.push,vI g.S.drag,vI g.S.rest,vI g.S.rounds,vI g.S.fuel],.agg #[.slice g.cA g.cn g.cc,vI g.e0,vI g.e1,vI g.e2],vI g.version,vS g.ib (g.io * 3) g.ni g.ic] (ap [] [T]) F (λ u H'=>∃ x,H'=ap [] [x] /\ (MemH mb (dp (g.step M) M) k x /\ u=.tuple #[.bool (fq (g.step M)),.agg #[vI 0,vI 0,vI 0,vI 0],.bool false])):=by
 refine Sp.run Tryz.func82 rfl mn (A:=[]) (Ts:=[T]) rfl λ w0=>?_
 refine ae 29 (ow 0 8) λ n1=>ai (iG 1 hp hM (au 0))<|ae 18 [] λ _=>RN.draw [] []<|ag [] [0,1,2,3,4,5,7] (ow 3 16++[.own 2,.own 2,.own 2,.own 2])<|ar [] 6 (λ X_=>(ay 2 hM (aR 0)))<|ar [] 8 (λ X_=>(ay 3 hM (aR 0)))<|ag [] [9] []<|RD.one 10 (RDO.ev [] [] λ n2=>?_)
 refine ag [] [11] []<|RD.fin<|ae 7 [.own 1] λ _=>RN.ct [0] [0] (Ds (g.step M) (n2+0) mb M (k+6) T _ hM hS.up ) ?_
 rintro _ T3 hM4
 refine ae 3 [] λ _=>RN.draw [13] [0,1,3,4]<|ag [0,1,3,4] [0,4,8,1,5,9,2,6,10,3,7,11,12] (ow 0 5++[.ro 0])<|RD.one 13 (RDO.ev [0,1,3,4] [.own 2,.own 2,.own 2,.own 2] λ _=>?_)
 refine ag [0,1,3,4] [14] []<|RD.fin<|ae 1 [] λ _=>RN.ret [.own 2,.own 2,.own 2,.own 2] [] [0] (v:=.tuple #[.bool (fq (g.step M)),.agg #[vI 0,vI 0,vI 0,vI 0],.bool false]) (H':=(ap [] [T3])) ?_
 exact ⟨T3,rfl,hM4.weak (by omega),rfl⟩
def pL:Enc Eff:=⟨4,λ p k=>match k with | 0=>vI p.t | 1=>vI p.i | 2=>vI p.k | _=>vI p.v,bj⟩
noncomputable def I2:TypeInfo:=match Tryz.prog.info? 102 with | some i=>i | none=>⟨.bool,"",0,0,false,0,0,none,false,#[]⟩
noncomputable def I3:Value:=match I2.zero with | some z=>z | none=>.bool false
theorem xw:EncOk pL Tryz.prog 102 I2 I3 where
 info:=by kernel_rfl
 zero:=by kernel_rfl
 size:=by kernel_rfl
 zsize:=by kernel_rfl
 zcell:=λ k hk=>by
  have h:∀ k < 4,I3.cells[k]?=some (pL.cell pL.dflt k):=by intro k hk;(iterate 4 (rcases k with _ | k;· kernel_rfl));omega
  exact h k hk
 one:=λ x k=>by unfold pL;dsimp only;split <;> rfl
 bytes:=Nat.le_of_ble_eq_true (by kernel_rfl)
def eD (g:Gm) (M:MemS):VR:=if M.get 1=0 then ⟨aO (g.step M) M,0,bj,false⟩ else if M.get 1=1 then (eT (g.step M) M) else if M.get 1=2 then (cT (g.step M) M) else if M.get 1=3 then ⟨aP (g.step M) M,0,bj,false⟩ else if M.get 1=4 then ⟨bO (g.step M) M,0,bj,false⟩ else if M.get 1=5 then ⟨dM (g.step M) M,0,bj,false⟩ else if M.get 1=6 then (eU (g.step M) M) else ⟨dp (g.step M) M,0,bj,false⟩
def iy (g:Gm) (M:MemS):Bool:=if M.get 1=7 then fq (g.step M) else false
abbrev jc (g:Gm) (M:MemS):MemS:=(eD g M).M
abbrev Dt (M:MemS):Prop:=0 <= M.get 1 /\ M.get 1 <= 7
structure GmIn (F:HL) (g:Gm):Prop where
 set:SetIn F g.S
 ins:(g.ib,.rows 3 g.iR (jl g.ins) 122 (0,0)) ∈ F
 room:g.io+g.ni <= g.iR /\ g.ni <= 1000000
 eff:cK F
 code:CodeIn F g.code g.cA g.cn
theorem Bf (g:Gm) (mb:Nat) (M:MemS) (k:Nat) (T F:HL) (hM:MemH mb M (k+20) T) (hg:GmIn F g) (h0:Dt M) (ver:Int) (hver:g.version=ver):Sp Tryz.prog 82 #[.iface 47 (vP mb 0),.agg #[vI g.S.players,vS g.S.bb (g.S.bo * 9) g.S.nb g.S.bc,vI g.S.box.x0,vI g.S.box.y0,vI g.S.box.x1,vI g.S.box.y1,.slice g.S.rA g.S.rn g.S.rc,.slice g.S.dA g.S.dn g.S.dc,vI g.S.fog,vI g.S.g.x,vI g.S.g.y,vI g.S.push,vI g.S.drag,vI g.S.rest,vI g.S.rounds,vI g.S.fuel],.agg #[.slice g.cA g.cn g.cc,vI g.e0,vI g.e1,vI g.e2],vI ver,vS g.ib (g.io * 3) g.ni g.ic] (ap [] [T]) F (λ u H'=>∃ x,H'=ap [] [x] /\ (MemH mb (jc g M) k x /\ u=.tuple #[.bool (iy g M),.agg #[vI ((eD g M).e.t),vI ((eD g M).e.i),vI ((eD g M).e.k),vI ((eD g M).e.v)],.bool ((eD g M).em)])):=by
 subst hver
 by_cases h0:M.get 1=0
 ·rw [jc,show eD g M=⟨aO (g.step M) M,0,bj,false⟩ by simp only [eD,if_pos h0],show iy g M=false by simp [iy,h0]]
  exact JR g mb M k T F hM hg.set h0 hg.ins hg.room
 by_cases h1:M.get 1=1
 ·rw [jc,show eD g M=(eT (g.step M) M) by simp only [eD,if_neg h0,if_pos h1],show iy g M=false by simp [iy,h1]]
  exact JS g mb M k T F hM hg.set h1 hg.eff hg.code
 by_cases h2:M.get 1=2
 ·rw [jc,show eD g M=(cT (g.step M) M) by simp only [eD,if_neg h0,if_neg h1,if_pos h2],show iy g M=false by simp [iy,h2]]
  exact trans2 g mb M k T F hM hg.set h2 hg.eff hg.code
 by_cases h3:M.get 1=3
 ·rw [jc,show eD g M=⟨aP (g.step M) M,0,bj,false⟩ by simp only [eD,if_neg h0,if_neg h1,if_neg h2,if_pos h3],show iy g M=false by simp [iy,h3]]
  exact JT g mb M k T F hM hg.set h3
 by_cases h4:M.get 1=4
 ·rw [jc,show eD g M=⟨bO (g.step M) M,0,bj,false⟩ by simp only [eD,if_neg h0,if_neg h1,if_neg h2,if_neg h3,if_pos h4],show iy g M=false by simp [iy,h4]]
  exact JU g mb M k T F hM hg.set h4
 by_cases h5:M.get 1=5
 ·rw [jc,show eD g M=⟨dM (g.step M) M,0,bj,false⟩ by simp only [eD,if_neg h0,if_neg h1,if_neg h2,if_neg h3,if_neg h4,if_pos h5],show iy g M=false by simp [iy,h5]]
  exact JV g mb M k T F hM hg.set h5
 by_cases h6:M.get 1=6
 ·rw [jc,show eD g M=(eU (g.step M) M) by simp only [eD,if_neg h0,if_neg h1,if_neg h2,if_neg h3,if_neg h4,if_neg h5,if_pos h6],show iy g M=false by simp [iy,h6]]
  exact JW g mb M k T F hM hg.set h6 hg.eff hg.code
 have h7:M.get 1=7:=by omega
 rw [jc,show eD g M=⟨dp (g.step M) M,0,bj,false⟩ by simp only [eD,if_neg h0,if_neg h1,if_neg h2,if_neg h3,if_neg h4,if_neg h5,if_neg h6],show iy g M=fq (g.step M) by simp [iy,h7]]
 exact JX g mb M k T F hM hg.set h7
def fO (g:Gm):Nat -> MemS -> MemS
 | 0,M=>M
 | n+1,M=>fO g n (jc g M)
def dW (g:Gm):Nat -> MemS -> List Eff
 | 0,_=>[]
 | n+1,M=>(if (eD g M).em=true then [(eD g M).e] else [])++dW g n (jc g M)
def dD (g:Gm):Nat -> MemS -> Prop
 | 0,_=>False
 | n+1,M=>Dt M /\ ((n=0 /\ iy g M=true) \/ (iy g M=false /\ dD g n (jc g M)))
theorem rP {g:Gm} {n:Nat} {M:MemS} (h:(eD g M).em=true):dW g (n+1) M=(eD g M).e :: dW g n (jc g M):=by rw [dW,if_pos h];rfl
theorem mO {g:Gm} {n:Nat} {M:MemS} (h:¬ (eD g M).em=true):dW g (n+1) M=dW g n (jc g M):=by rw [dW,if_neg h];rfl
theorem rQ (g:Gm):∀ n M,(dW g n M).length <= n
 | 0,_=>Nat.le_refl _
 | n+1,M=>by
  rw [dW,List.length_append]
  have:=rQ g n (jc g M)
  split
  ·simp;omega
  ·simp;omega
def Shp.nm (s:Shp):Shp:=⟨s.r,s.poly,none,0⟩
def Bod.nm (b:Bod):Bod:=⟨b.sh.nm,b.mot,b.a,b.b⟩
def Setup.nm (S:Setup):Setup:={ S with bb:=0,bo:=0,bc:=0,bR:=0,bods:=(S.bods.drop S.bo).map Bod.nm,rA:=none,rc:=0,dA:=none,dc:=0 }
def Stp.nm (t:Stp):Stp:={ t with S:=t.S.nm,cA:=none,cc:=0,ib:=0,io:=0,ic:=0,iR:=0,ins:=[] }
theorem Bg {α:Type} (l:List α) (o k:Nat) (d:α):(l.drop o).getD (0+k) d=l.getD (o+k) d:=by
 rw [Nat.zero_add,List.getD_eq_getElem?_getD,List.getD_eq_getElem?_getD,List.getElem?_drop]
theorem Du {α β:Type} (f:α -> β) (l:List α) (k:Nat) (d:α):(l.map f).getD k (f d)=f (l.getD k d):=by
 rw [List.getD_eq_getElem?_getD,List.getD_eq_getElem?_getD,List.getElem?_map]
 cases l[k]? <;> rfl
theorem o7 (S:Setup) (k:Nat):S.nm.body k=(S.body k).nm:=by
 show ((S.bods.drop S.bo).map Bod.nm).getD (0+k) dB=Bod.nm (S.bods.getD (S.bo+k) dB)
 rw [<- Bg S.bods S.bo k dB]
 exact Du Bod.nm _ _ dB
theorem jK (S:Setup):S.nm.players=S.players:=rfl
theorem gL (S:Setup):S.nm.nb=S.nb:=rfl
theorem Dv (S:Setup):S.nm.box=S.box:=rfl
theorem JY (S:Setup):S.nm.g=S.g:=rfl
theorem Bh (S:Setup):S.nm.push=S.push:=rfl
theorem Bi (S:Setup):S.nm.drag=S.drag:=rfl
theorem rR (S:Setup):S.nm.rest=S.rest:=rfl
theorem uO (S:Setup):S.nm.rounds=S.rounds:=rfl
theorem rS (S:Setup):S.nm.fuel=S.fuel:=rfl
theorem zf (t:Stp):t.nm.cn=t.cn:=rfl
theorem zg (t:Stp):t.nm.e0=t.e0:=rfl
theorem G4 (t:Stp):t.nm.e1=t.e1:=rfl
theorem zh (t:Stp):t.nm.e2=t.e2:=rfl
theorem tn (t:Stp):t.nm.version=t.version:=rfl
theorem cZ (t:Stp):t.nm.i=t.i:=rfl
theorem gz (t:Stp):t.nm.j=t.j:=rfl
theorem xx (t:Stp):t.nm.ended=t.ended:=rfl
theorem o8 (t:Stp):t.nm.f0=t.f0:=rfl
theorem o9 (t:Stp):t.nm.f1=t.f1:=rfl
theorem pd (t:Stp):t.nm.f2=t.f2:=rfl
theorem pf (t:Stp):t.nm.f3=t.f3:=rfl
theorem gM (t:Stp):t.nm.emitted=t.emitted:=rfl
theorem nD (t:Stp):t.nm.code=t.code:=rfl
theorem bz (t:Stp):t.nm.S=t.S.nm:=rfl
theorem zi (b:Bod):b.nm.sh=b.sh.nm:=rfl
theorem uP (b:Bod):b.nm.mot=b.mot:=rfl
theorem JZ (s:Shp):s.nm.r=s.r:=rfl
theorem iK (S:Setup) (k:Int) :ah S.nm k=ah S k:=by
 unfold ah
 simp only [jK,bz] <;> rfl
theorem eV (S:Setup) (k:Int) :af S.nm k=af S k:=by
 unfold af
 simp only [jK,gL,bz] <;> rfl
theorem tp (S:Setup) (k:Int) :(movP S.nm k)=(movP S k):=by
 unfold movP
 simp only [gL,bz,uP,o7] <;> rfl
theorem mP (S:Setup) (M:MemS) (k:Int) :aq S.nm M k=aq S M k:=by
 unfold aq
 simp only [bz,uP,o7,eV] <;> rfl
theorem uQ (a:Shp) (pa:V2) (b:Shp) (pb:V2) :cr a.nm pa b.nm pb=cr a pa b pb:=by
 kernel_rfl
theorem Dw (a:Shp) (pa va:V2) (b:Shp) (pb vb:V2) :lB a.nm pa va b.nm pb vb=lB a pa va b pb vb:=by
 kernel_rfl
theorem xy (t:Stp) (k:Int) (m:Mot) (M:MemS) :dC t.nm k m M=dC t k m M:=by
 unfold dC
 simp only [bz,eV] <;> rfl
theorem Bj (t:Stp) (c sp pos lo hi:Int) (M:MemS) :dT t.nm c sp pos lo hi M=dT t c sp pos lo hi M:=by
 unfold dT
 simp only [rR,bz] <;> rfl
theorem rT (t:Stp) (M:MemS) :bd t.nm M=bd t M:=by
 unfold bd
 simp only [tn,cZ,bz] <;> rfl
theorem rU (t:Stp) (M:MemS) :bV t.nm M=bV t M:=by
 unfold bV
 simp only [jK,cZ,bz] <;> rfl
theorem uR (t:Stp) :fq t.nm=fq t:=by
 unfold fq
 simp only [gL,cZ,xx,bz] <;> rfl
theorem Dx (t:Stp) (M:MemS) :fK t.nm M=fK t M:=by
 unfold fK
 simp only [cZ,bz,eV] <;> rfl
theorem Dy (t:Stp) (M:MemS) :gF t.nm M=gF t M:=by
 unfold gF
 simp only [gL,cZ,bz] <;> rfl
theorem uS (t:Stp) (M:MemS) :dp t.nm M=dp t M:=by
 unfold dp
 simp only [bz,Dx,Dy] <;> rfl
theorem Bk (t:Stp) (M:MemS) :bW t.nm M=bW t M:=by
 unfold bW
 simp only [JY,Bh,Bi,cZ,bz,iK,mP] <;> rfl
theorem Bl (t:Stp) (M:MemS) :bE t.nm M=bE t M:=by
 unfold bE
 simp only [cZ,bz,eV] <;> rfl
theorem Bm (t:Stp) (M:MemS) :bJ t.nm M=bJ t M:=by
 unfold bJ
 simp only [cZ,bz,eV,tp,Bk] <;> rfl
theorem Bn (t:Stp) (M:MemS) :bX t.nm M=bX t M:=by
 unfold bX
 simp only [gL,cZ,bz] <;> rfl
theorem rV (t:Stp) (M:MemS) :aP t.nm M=aP t M:=by
 unfold aP
 simp only [bz,Bl,Bm,Bn] <;> rfl
theorem xz (t:Stp) (M:MemS) :fX t.nm M=fX t M:=by
 unfold fX
 simp only [cZ,bz,mP] <;> rfl
theorem xA (t:Stp) (M:MemS) :cY t.nm M=cY t M:=by
 unfold cY
 simp only [Dv,cZ,bz,eV,Bj,xz] <;> rfl
theorem Dz (S:Setup) (op n a b:Int) (M:MemS) :aE S.nm op n a b M=aE S op n a b M:=by
 unfold aE
 simp only [bz,eV] <;> rfl
theorem DA (S:Setup) (op n sp pc fuel:Int) (M:MemS) :bU S.nm op n sp pc fuel M=bU S op n sp pc fuel M:=by
 unfold bU
 simp only [rS,bz,Dz] <;> rfl
theorem DB (S:Setup) (code:List Ins) (n:Nat) (M:MemS) :al S.nm code n M=al S code n M:=by
 unfold al
 simp only [nD,bz,DA] <;> rfl
theorem tq (e:Int) (t:Stp) (self other:Int) (M:MemS) :eC e t.nm self other M=eC e t self other M:=by
 unfold eC
 simp only [rS,zf,gz,gM,nD,bz,DB,o8,o9,pd,pf] <;> rfl
theorem tu (e:Int) (t:Stp) (self other:Int) (M:MemS) :dg e t.nm self other M=dg e t self other M:=by
 unfold dg
 simp only [zf,gz,nD,bz] <;> rfl
theorem uT (r:VR) (over:Bool) (t:Stp) (cause:Bool) (M:MemS) :dq r over t.nm cause M=dq r over t cause M:=by
 unfold dq
 simp only [cZ,gz,gM,bz,JZ,o8,o9,pd,pf] <;> rfl
theorem zj (t:Stp) (M:MemS) :eT t.nm M=eT t M:=by
 unfold eT
 simp only [cZ,gM,bz,iK,o8,o9,pd,pf,zg,zh,tq,tu,uT] <;> rfl
theorem uU (t:Stp) (M:MemS) :cT t.nm M=cT t M:=by
 unfold cT
 simp only [bz,G4,cZ,gz,tq,tu] <;> rfl
theorem zk (t:Stp) (M:MemS) :eU t.nm M=eU t M:=by
 unfold eU
 simp only [cZ,gM,bz,eV,o8,o9,pd,pf,zg,zh,tq,tu,uT] <;> rfl
theorem zl (t:Stp) (M:MemS) :re t.nm M=re t M:=by
 unfold re
 simp only [cZ,gz,bz,zi,o7,mP,uQ] <;> rfl
theorem G5 (t:Stp) (M:MemS) :uN t.nm M=uN t M:=by
 unfold uN
 simp only [rR,cZ,gz,bz,mP,zl] <;> rfl
theorem uV (t:Stp) (M:MemS) :gl t.nm M=gl t M:=by
 unfold gl
 simp only [cZ,gz,bz,eV,xy,G5] <;> rfl
theorem Bo (t:Stp) (M:MemS) :dH t.nm M=dH t M:=by
 unfold dH
 simp only [gL,cZ,gz,bz,zl,uV] <;> rfl
theorem G6 (t:Stp) (M:MemS) :rf t.nm M=rf t M:=by
 unfold rf
 simp only [cZ,gz,bz,zi,o7,mP,Dw] <;> rfl
theorem DC (t:Stp) (M:MemS) :eK t.nm M=eK t M:=by
 unfold eK
 simp only [cZ,gz,bz,tp,G6] <;> rfl
theorem DD (t:Stp) (M:MemS) :fD t.nm M=fD t M:=by
 unfold fD
 simp only [gL,cZ,bz] <;> rfl
theorem uW (t:Stp) (M:MemS) :dM t.nm M=dM t M:=by
 unfold dM
 simp only [gL,cZ,gz,bz,tp,xA,DC,DD] <;> rfl
theorem oD (t:Stp) (M:MemS) :bO t.nm M=bO t M:=by
 unfold bO
 simp only [gL,uO,cZ,gz,bz,Bo] <;> rfl
def Gm.nm (g:Gm):Gm:={ g with S:=g.S.nm,cA:=none,cc:=0,ib:=0,io:=0,ic:=0,iR:=0,ins:=[] }
theorem kY (g:Gm) (M:MemS):g.nm.step M=(g.step M).nm:=rfl
structure GEq (g g':Gm):Prop where
 nm:g.nm=g'.nm
 inp:∀ k,k < g.ni -> g.ins.getD (g.io+k) dI=g'.ins.getD (g'.io+k) dI
theorem Bp {g g':Gm} (h:GEq g g') (M:MemS):aO (g.step M) M=aO (g'.step M) M:=by
 have hs:(g.step M).nm=(g'.step M).nm:=by rw [<- kY,<- kY,h.nm]
 unfold aO
 rw [<- rT (g.step M),hs,rT]
 generalize bd (g'.step M) M=N
 have hb:br (g.step M) N=br (g'.step M) N:=by
  have hS:(g.step M).S.nm=(g'.step M).S.nm:=show (g.step M).nm.S=(g'.step M).nm.S by rw [hs]
  have hi:(g.step M).i=(g'.step M).i:=show (g.step M).nm.i=(g'.step M).nm.i by rw [hs]
  have hn:(g.step M).ni=(g'.step M).ni:=show (g.step M).nm.ni=(g'.step M).nm.ni by rw [hs]
  unfold br
  rw [<- iK (g.step M).S,hS,iK,hi,hn]
  by_cases h1:ah (g'.step M).S (g'.step M).i >= 0
  ·rw [if_pos h1,if_pos h1]
   by_cases h2:(g'.step M).i < (g'.step M).ni
   ·rw [if_pos h2,if_pos h2]
    have h3:0 <= (g'.step M).i:=by
     rcases Int.lt_or_le (g'.step M).i 0 with h4 | h4
     ·unfold ah at h1;rw [if_pos h4] at h1;omega
     ·exact h4
    have e:(g.step M).inp (g'.step M).i.toNat=(g'.step M).inp (g'.step M).i.toNat:=by
     have h5:(g'.step M).i.toNat < g.ni:=by
      have h6:((g'.step M).ni:Int)=(g.ni:Int):=congrArg (Nat.cast) hn.symm
      omega
     exact h.inp _ h5
    rw [e]
   ·rw [if_neg h2,if_neg h2]
  ·rw [if_neg h1,if_neg h1]
 rw [hb,<- rU (g.step M),hs,rU]
theorem xB {g g':Gm} (h:GEq g g') (M:MemS):eD g M=eD g' M:=by
 have hs:(g.step M).nm=(g'.step M).nm:=by rw [<- kY,<- kY,h.nm]
 unfold eD
 rw [Bp h,<- zj (g.step M),<- uU (g.step M),<- rV (g.step M),<- oD (g.step M),<- uW (g.step M),<- zk (g.step M),<- uS (g.step M),hs,zj,uU,rV,oD,uW,zk,uS]
theorem DE {g g':Gm} (h:GEq g g') (M:MemS):iy g M=iy g' M:=by
 have hs:(g.step M).nm=(g'.step M).nm:=by rw [<- kY,<- kY,h.nm]
 unfold iy
 rw [<- uR (g.step M),hs,uR]
theorem zm {g g':Gm} (h:GEq g g'):∀ (n:Nat) (M:MemS),fO g n M=fO g' n M
 | 0,_=>rfl
 | n+1,M=>by rw [fO,fO,jc,jc,xB h];exact zm h n _
end Go.Proofs.YtcfajdgeejeieaaGreatDoor
