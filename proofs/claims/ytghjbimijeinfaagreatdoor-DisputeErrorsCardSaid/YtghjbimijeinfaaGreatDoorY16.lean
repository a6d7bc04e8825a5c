import Derived.Test.YtghjbimijeinfaaGreatDoorY13
import Derived.Test.YtghjbimijeinfaaGreatDoorY15
set_option maxHeartbeats 4000000
set_option maxRecDepth 100000
set_option linter.unusedSimpArgs false
set_option linter.unusedVariables false
namespace Go.Proofs.YtghjbimijeinfaaGreatDoor
open Go.RowKit
structure Gm where
 S:Setup
 cA:Option Addr
 cn:Nat
 cc:Nat
 e0:Int
 e1:Int
 e2:Int
 version:Int
 ib:Nat
 io:Nat
 ni:Nat
 ic:Nat
 iR:Nat
 ins:List Inp
 code:List Ins
abbrev Gm.step (g:Gm) (M:MemS):Stp:=⟨g.S,g.cA,g.cn,g.cc,g.e0,g.e1,g.e2,g.version,g.ib,g.io,g.ni,g.ic,g.iR,g.ins,M.get 2,M.get 3,false,0,0,0,0,false,g.code⟩
theorem Ko (g:Gm) (mb:Nat) (M:MemS) (k:Nat) (T F:HL) (hM:MemH mb M (k+20) T) (hS:SetIn F g.S) (hp:M.get 1=0) (hI:(g.ib,.rows 3 g.iR (j9 g.ins) 151 (0,0)) ∈ F) (hir:g.io+g.ni <= g.iR /\ g.ni <= 1000000):Sp Tryz.prog 18 #[.iface 40 (vP mb 0),.agg #[vI g.S.players,vS g.S.bb (g.S.bo * 9) g.S.nb g.S.bc,vI g.S.box.x0,vI g.S.box.y0,vI g.S.box.x1,vI g.S.box.y1,.slice g.S.rA g.S.rn g.S.rc,.slice g.S.dA g.S.dn g.S.dc,vI g.S.fog,vI g.S.g.x,vI g.S.g.y,vI g.S.push,vI g.S.drag,vI g.S.rest,vI g.S.rounds,vI g.S.fuel],.agg #[.slice g.cA g.cn g.cc,vI g.e0,vI g.e1,vI g.e2],vI g.version,vS g.ib (g.io * 3) g.ni g.ic] (ap [] [T]) F (λ u H'=>∃ x,H'=ap [] [x] /\ (MemH mb (aP (g.step M) M) k x /\ u=.tuple #[.bool false,.agg #[vI 0,vI 0,vI 0,vI 0],.bool false])):=by
 refine Sp.run Tryz.func18 rfl mn (A:=[]) (Ts:=[T]) rfl λ w0=>?_
 refine ae 29 (ow 0 8) λ n1=>aj (iQ 1 hp hM (aA 0))<|ae 18 [] λ _=>RN.draw [] []<|ag [] [0,1,2,3,4,5,7] (ow 3 16++[.own 2,.own 2,.own 2,.own 2])<|ar [] 6 (λ X_=>(aw 2 hM (aR 0)))<|ar [] 8 (λ X_=>(aw 3 hM (aR 0)))<|ag [] [9] []<|RD.one 10 (RDO.ev [] [] λ n2=>?_)
 refine ag [] [11] []<|RD.fin<|ae 7 [.own 1] λ _=>RN.ct [0] [0] (Bg (g.step M) (n2+0) mb M (k+12) T _ hM hS.up (List.mem_append_right _ hI) hir) ?_
 rintro _ T3 hM4
 refine ae 3 [] λ _=>RN.draw [13] [0,1,3,4]<|ag [0,1,3,4] [0,4,8,1,5,9,2,6,10,3,7,11,12] (ow 0 5++[.ro 0])<|RD.one 13 (RDO.ev [0,1,3,4] [.own 2,.own 2,.own 2,.own 2] λ _=>?_)
 refine ag [0,1,3,4] [14] []<|RD.fin<|ae 1 [] λ _=>RN.ret [.own 2,.own 2,.own 2,.own 2] [] [0] (v:=.tuple #[.bool false,.agg #[vI 0,vI 0,vI 0,vI 0],.bool false]) (H':=(ap [] [T3])) ?_
 exact ⟨T3,rfl,hM4.weak (by omega),rfl⟩
theorem Kq (g:Gm) (mb:Nat) (M:MemS) (k:Nat) (T F:HL) (hM:MemH mb M (k+20) T) (hS:SetIn F g.S) (hp:M.get 1=1) (hE:ck F) (hC:CodeIn F g.code g.cA g.cn):Sp Tryz.prog 18 #[.iface 40 (vP mb 0),.agg #[vI g.S.players,vS g.S.bb (g.S.bo * 9) g.S.nb g.S.bc,vI g.S.box.x0,vI g.S.box.y0,vI g.S.box.x1,vI g.S.box.y1,.slice g.S.rA g.S.rn g.S.rc,.slice g.S.dA g.S.dn g.S.dc,vI g.S.fog,vI g.S.g.x,vI g.S.g.y,vI g.S.push,vI g.S.drag,vI g.S.rest,vI g.S.rounds,vI g.S.fuel],.agg #[.slice g.cA g.cn g.cc,vI g.e0,vI g.e1,vI g.e2],vI g.version,vS g.ib (g.io * 3) g.ni g.ic] (ap [] [T]) F (λ u H'=>∃ x,H'=ap [] [x] /\ (MemH mb (eU (g.step M) M).M k x /\ u=.tuple #[.bool false,.agg #[vI ((eU (g.step M) M).e.t),vI ((eU (g.step M) M).e.i),vI ((eU (g.step M) M).e.k),vI ((eU (g.step M) M).e.v)],.bool ((eU (g.step M) M).em)])):=by
 refine Sp.run Tryz.func18 rfl mn (A:=[]) (Ts:=[T]) rfl λ w0=>?_
 refine ae 29 (ow 0 8) λ n1=>aj (iQ 1 hp hM (aA 0))<|ae 18 [] λ _=>RN.draw [] []<|ag [] [0,1,2,3,4,5,7] (ow 3 16++[.own 2,.own 2,.own 2,.own 2])<|ar [] 6 (λ X_=>(aw 2 hM (aR 0)))<|ar [] 8 (λ X_=>(aw 3 hM (aR 0)))<|ag [] [9] []<|RD.one 10 (RDO.ev [] [] λ n2=>?_)
 refine ag [] [11] []<|RD.fin<|ae 7 [.own 1] λ _=>RN.ct [0] [0] (Mo (g.step M) (n2+0) mb M (k+11) T _ hM hS.up (au hE) hC.up) ?_
 rintro _ T3 hM4
 refine ae 3 [] λ _=>RN.draw [13] [0,1,3,4]<|ag [0,1,3,4] [0,4,8,1,5,9,2,6,10,3,7,11,12] (ow 0 5++[.ro 0])<|RD.one 13 (RDO.ev [0,1,3,4] [.own 2,.own 2,.own 2,.own 2] λ _=>?_)
 refine ag [0,1,3,4] [14] []<|RD.fin<|ae 1 [] λ _=>RN.ret [.own 2,.own 2,.own 2,.own 2] [] [0] (v:=.tuple #[.bool false,.agg #[vI ((eU (g.step M) M).e.t),vI ((eU (g.step M) M).e.i),vI ((eU (g.step M) M).e.k),vI ((eU (g.step M) M).e.v)],.bool ((eU (g.step M) M).em)]) (H':=(ap [] [T3])) ?_
 exact ⟨T3,rfl,hM4.weak (by omega),rfl⟩
theorem Kr (g:Gm) (mb:Nat) (M:MemS) (k:Nat) (T F:HL) (hM:MemH mb M (k+20) T) (hS:SetIn F g.S) (hp:M.get 1=2) (hE:ck F) (hC:CodeIn F g.code g.cA g.cn):Sp Tryz.prog 18 #[.iface 40 (vP mb 0),.agg #[vI g.S.players,vS g.S.bb (g.S.bo * 9) g.S.nb g.S.bc,vI g.S.box.x0,vI g.S.box.y0,vI g.S.box.x1,vI g.S.box.y1,.slice g.S.rA g.S.rn g.S.rc,.slice g.S.dA g.S.dn g.S.dc,vI g.S.fog,vI g.S.g.x,vI g.S.g.y,vI g.S.push,vI g.S.drag,vI g.S.rest,vI g.S.rounds,vI g.S.fuel],.agg #[.slice g.cA g.cn g.cc,vI g.e0,vI g.e1,vI g.e2],vI g.version,vS g.ib (g.io * 3) g.ni g.ic] (ap [] [T]) F (λ u H'=>∃ x,H'=ap [] [x] /\ (MemH mb (cS (g.step M) M).M k x /\ u=.tuple #[.bool false,.agg #[vI ((cS (g.step M) M).e.t),vI ((cS (g.step M) M).e.i),vI ((cS (g.step M) M).e.k),vI ((cS (g.step M) M).e.v)],.bool ((cS (g.step M) M).em)])):=by
 refine Sp.run Tryz.func18 rfl mn (A:=[]) (Ts:=[T]) rfl λ w0=>?_
 refine ae 29 (ow 0 8) λ n1=>aj (iQ 1 hp hM (aA 0))<|ae 18 [] λ _=>RN.draw [] []<|ag [] [0,1,2,3,4,5,7] (ow 3 16++[.own 2,.own 2,.own 2,.own 2])<|ar [] 6 (λ X_=>(aw 2 hM (aR 0)))<|ar [] 8 (λ X_=>(aw 3 hM (aR 0)))<|ag [] [9] []<|RD.one 10 (RDO.ev [] [] λ n2=>?_)
 refine ag [] [11] []<|RD.fin<|ae 7 [.own 1] λ _=>RN.ct [0] [0] (Kn (g.step M) (n2+0) mb M (k+11) T _ hM hS.up (au hE) hC.up) ?_
 rintro _ T3 hM4
 refine ae 3 [] λ _=>RN.draw [13] [0,1,3,4]<|ag [0,1,3,4] [0,4,8,1,5,9,2,6,10,3,7,11,12] (ow 0 5++[.ro 0])<|RD.one 13 (RDO.ev [0,1,3,4] [.own 2,.own 2,.own 2,.own 2] λ _=>?_)
 refine ag [0,1,3,4] [14] []<|RD.fin<|ae 1 [] λ _=>RN.ret [.own 2,.own 2,.own 2,.own 2] [] [0] (v:=.tuple #[.bool false,.agg #[vI ((cS (g.step M) M).e.t),vI ((cS (g.step M) M).e.i),vI ((cS (g.step M) M).e.k),vI ((cS (g.step M) M).e.v)],.bool ((cS (g.step M) M).em)]) (H':=(ap [] [T3])) ?_
 exact ⟨T3,rfl,hM4.weak (by omega),rfl⟩
theorem Ks (g:Gm) (mb:Nat) (M:MemS) (k:Nat) (T F:HL) (hM:MemH mb M (k+20) T) (hS:SetIn F g.S) (hp:M.get 1=3) :Sp Tryz.prog 18 #[.iface 40 (vP mb 0),.agg #[vI g.S.players,vS g.S.bb (g.S.bo * 9) g.S.nb g.S.bc,vI g.S.box.x0,vI g.S.box.y0,vI g.S.box.x1,vI g.S.box.y1,.slice g.S.rA g.S.rn g.S.rc,.slice g.S.dA g.S.dn g.S.dc,vI g.S.fog,vI g.S.g.x,vI g.S.g.y,vI g.S.push,vI g.S.drag,vI g.S.rest,vI g.S.rounds,vI g.S.fuel],.agg #[.slice g.cA g.cn g.cc,vI g.e0,vI g.e1,vI g.e2],vI g.version,vS g.ib (g.io * 3) g.ni g.ic] (ap [] [T]) F (λ u H'=>∃ x,H'=ap [] [x] /\ (MemH mb (aQ (g.step M) M) k x /\ u=.tuple #[.bool false,.agg #[vI 0,vI 0,vI 0,vI 0],.bool false])):=by
 refine Sp.run Tryz.func18 rfl mn (A:=[]) (Ts:=[T]) rfl λ w0=>?_
 refine ae 29 (ow 0 8) λ n1=>aj (iQ 1 hp hM (aA 0))<|ae 18 [] λ _=>RN.draw [] []<|ag [] [0,1,2,3,4,5,7] (ow 3 16++[.own 2,.own 2,.own 2,.own 2])<|ar [] 6 (λ X_=>(aw 2 hM (aR 0)))<|ar [] 8 (λ X_=>(aw 3 hM (aR 0)))<|ag [] [9] []<|RD.one 10 (RDO.ev [] [] λ n2=>?_)
 refine ag [] [11] []<|RD.fin<|ae 7 [.own 1] λ _=>RN.ct [0] [0] (Bh (g.step M) (n2+0) mb M (k+12) T _ hM hS.up ) ?_
 rintro _ T3 hM4
 refine ae 3 [] λ _=>RN.draw [13] [0,1,3,4]<|ag [0,1,3,4] [0,4,8,1,5,9,2,6,10,3,7,11,12] (ow 0 5++[.ro 0])<|RD.one 13 (RDO.ev [0,1,3,4] [.own 2,.own 2,.own 2,.own 2] λ _=>?_)
 refine ag [0,1,3,4] [14] []<|RD.fin<|ae 1 [] λ _=>RN.ret [.own 2,.own 2,.own 2,.own 2] [] [0] (v:=.tuple #[.bool false,.agg #[vI 0,vI 0,vI 0,vI 0],.bool false]) (H':=(ap [] [T3])) ?_
 exact ⟨T3,rfl,hM4.weak (by omega),rfl⟩
theorem Ku (g:Gm) (mb:Nat) (M:MemS) (k:Nat) (T F:HL) (hM:MemH mb M (k+20) T) (hS:SetIn F g.S) (hp:M.get 1=4) :Sp Tryz.prog 18 #[.iface 40 (vP mb 0),.agg #[vI g.S.players,vS g.S.bb (g.S.bo * 9) g.S.nb g.S.bc,vI g.S.box.x0,vI g.S.box.y0,vI g.S.box.x1,vI g.S.box.y1,.slice g.S.rA g.S.rn g.S.rc,.slice g.S.dA g.S.dn g.S.dc,vI g.S.fog,vI g.S.g.x,vI g.S.g.y,vI g.S.push,vI g.S.drag,vI g.S.rest,vI g.S.rounds,vI g.S.fuel],.agg #[.slice g.cA g.cn g.cc,vI g.e0,vI g.e1,vI g.e2],vI g.version,vS g.ib (g.io * 3) g.ni g.ic] (ap [] [T]) F (λ u H'=>∃ x,H'=ap [] [x] /\ (MemH mb (bK (g.step M) M) k x /\ u=.tuple #[.bool false,.agg #[vI 0,vI 0,vI 0,vI 0],.bool false])):=by
 refine Sp.run Tryz.func18 rfl mn (A:=[]) (Ts:=[T]) rfl λ w0=>?_
 refine ae 29 (ow 0 8) λ n1=>aj (iQ 1 hp hM (aA 0))<|ae 18 [] λ _=>RN.draw [] []<|ag [] [0,1,2,3,4,5,7] (ow 3 16++[.own 2,.own 2,.own 2,.own 2])<|ar [] 6 (λ X_=>(aw 2 hM (aR 0)))<|ar [] 8 (λ X_=>(aw 3 hM (aR 0)))<|ag [] [9] []<|RD.one 10 (RDO.ev [] [] λ n2=>?_)
 refine ag [] [11] []<|RD.fin<|ae 7 [.own 1] λ _=>RN.ct [0] [0] (tR (g.step M) (n2+0) mb M (k+6) T _ hM hS.up ) ?_
 rintro _ T3 hM4
 refine ae 3 [] λ _=>RN.draw [13] [0,1,3,4]<|ag [0,1,3,4] [0,4,8,1,5,9,2,6,10,3,7,11,12] (ow 0 5++[.ro 0])<|RD.one 13 (RDO.ev [0,1,3,4] [.own 2,.own 2,.own 2,.own 2] λ _=>?_)
 refine ag [0,1,3,4] [14] []<|RD.fin<|ae 1 [] λ _=>RN.ret [.own 2,.own 2,.own 2,.own 2] [] [0] (v:=.tuple #[.bool false,.agg #[vI 0,vI 0,vI 0,vI 0],.bool false]) (H':=(ap [] [T3])) ?_
 exact ⟨T3,rfl,hM4.weak (by omega),rfl⟩
theorem Kv (g:Gm) (mb:Nat) (M:MemS) (k:Nat) (T F:HL) (hM:MemH mb M (k+20) T) (hS:SetIn F g.S) (hp:M.get 1=5) :Sp Tryz.prog 18 #[.iface 40 (vP mb 0),.agg #[vI g.S.players,vS g.S.bb (g.S.bo * 9) g.S.nb g.S.bc,vI g.S.box.x0,vI g.S.box.y0,vI g.S.box.x1,vI g.S.box.y1,.slice g.S.rA g.S.rn g.S.rc,.slice g.S.dA g.S.dn g.S.dc,vI g.S.fog,vI g.S.g.x,vI g.S.g.y,vI g.S.push,vI g.S.drag,vI g.S.rest,vI g.S.rounds,vI g.S.fuel],.agg #[.slice g.cA g.cn g.cc,vI g.e0,vI g.e1,vI g.e2],vI g.version,vS g.ib (g.io * 3) g.ni g.ic] (ap [] [T]) F (λ u H'=>∃ x,H'=ap [] [x] /\ (MemH mb (dM (g.step M) M) k x /\ u=.tuple #[.bool false,.agg #[vI 0,vI 0,vI 0,vI 0],.bool false])):=by
 refine Sp.run Tryz.func18 rfl mn (A:=[]) (Ts:=[T]) rfl λ w0=>?_
 refine ae 29 (ow 0 8) λ n1=>aj (iQ 1 hp hM (aA 0))<|ae 18 [] λ _=>RN.draw [] []<|ag [] [0,1,2,3,4,5,7] (ow 3 16++[.own 2,.own 2,.own 2,.own 2])<|ar [] 6 (λ X_=>(aw 2 hM (aR 0)))<|ar [] 8 (λ X_=>(aw 3 hM (aR 0)))<|ag [] [9] []<|RD.one 10 (RDO.ev [] [] λ n2=>?_)
 refine ag [] [11] []<|RD.fin<|ae 7 [.own 1] λ _=>RN.ct [0] [0] (Br (g.step M) (n2+0) mb M (k+12) T _ hM hS.up ) ?_
 rintro _ T3 hM4
 refine ae 3 [] λ _=>RN.draw [13] [0,1,3,4]<|ag [0,1,3,4] [0,4,8,1,5,9,2,6,10,3,7,11,12] (ow 0 5++[.ro 0])<|RD.one 13 (RDO.ev [0,1,3,4] [.own 2,.own 2,.own 2,.own 2] λ _=>?_)
 refine ag [0,1,3,4] [14] []<|RD.fin<|ae 1 [] λ _=>RN.ret [.own 2,.own 2,.own 2,.own 2] [] [0] (v:=.tuple #[.bool false,.agg #[vI 0,vI 0,vI 0,vI 0],.bool false]) (H':=(ap [] [T3])) ?_
 exact ⟨T3,rfl,hM4.weak (by omega),rfl⟩
theorem Kw (g:Gm) (mb:Nat) (M:MemS) (k:Nat) (T F:HL) (hM:MemH mb M (k+20) T) (hS:SetIn F g.S) (hp:M.get 1=6) (hE:ck F) (hC:CodeIn F g.code g.cA g.cn):Sp Tryz.prog 18 #[.iface 40 (vP mb 0),.agg #[vI g.S.players,vS g.S.bb (g.S.bo * 9) g.S.nb g.S.bc,vI g.S.box.x0,vI g.S.box.y0,vI g.S.box.x1,vI g.S.box.y1,.slice g.S.rA g.S.rn g.S.rc,.slice g.S.dA g.S.dn g.S.dc,vI g.S.fog,vI g.S.g.x,vI g.S.g.y,vI g.S.push,vI g.S.drag,vI g.S.rest,vI g.S.rounds,vI g.S.fuel],.agg #[.slice g.cA g.cn g.cc,vI g.e0,vI g.e1,vI g.e2],vI g.version,vS g.ib (g.io * 3) g.ni g.ic] (ap [] [T]) F (λ u H'=>∃ x,H'=ap [] [x] /\ (MemH mb (eV (g.step M) M).M k x /\ u=.tuple #[.bool false,.agg #[vI ((eV (g.step M) M).e.t),vI ((eV (g.step M) M).e.i),vI ((eV (g.step M) M).e.k),vI ((eV (g.step M) M).e.v)],.bool ((eV (g.step M) M).em)])):=by
 refine Sp.run Tryz.func18 rfl mn (A:=[]) (Ts:=[T]) rfl λ w0=>?_
 refine ae 29 (ow 0 8) λ n1=>aj (iQ 1 hp hM (aA 0))<|ae 18 [] λ _=>RN.draw [] []<|ag [] [0,1,2,3,4,5,7] (ow 3 16++[.own 2,.own 2,.own 2,.own 2])<|ar [] 6 (λ X_=>(aw 2 hM (aR 0)))<|ar [] 8 (λ X_=>(aw 3 hM (aR 0)))<|ag [] [9] []<|RD.one 10 (RDO.ev [] [] λ n2=>?_)
 refine ag [] [11] []<|RD.fin<|ae 7 [.own 1] λ _=>RN.ct [0] [0] (Mp (g.step M) (n2+0) mb M (k+11) T _ hM hS.up (au hE) hC.up) ?_
 rintro _ T3 hM4
 refine ae 3 [] λ _=>RN.draw [13] [0,1,3,4]<|ag [0,1,3,4] [0,4,8,1,5,9,2,6,10,3,7,11,12] (ow 0 5++[.ro 0])<|RD.one 13 (RDO.ev [0,1,3,4] [.own 2,.own 2,.own 2,.own 2] λ _=>?_)
 refine ag [0,1,3,4] [14] []<|RD.fin<|ae 1 [] λ _=>RN.ret [.own 2,.own 2,.own 2,.own 2] [] [0] (v:=.tuple #[.bool false,.agg #[vI ((eV (g.step M) M).e.t),vI ((eV (g.step M) M).e.i),vI ((eV (g.step M) M).e.k),vI ((eV (g.step M) M).e.v)],.bool ((eV (g.step M) M).em)]) (H':=(ap [] [T3])) ?_
 exact ⟨T3,rfl,hM4.weak (by omega),rfl⟩
theorem Kx (g:Gm) (mb:Nat) (M:MemS) (k:Nat) (T F:HL) (hM:MemH mb M (k+20) T) (hS:SetIn F g.S) (hp:M.get 1=7) :Sp Tryz.prog 18 #[.iface 40 (vP mb 0),.agg #[vI g.S.players,vS g.S.bb (g.S.bo * 9) g.S.nb g.S.bc,vI g.S.box.x0,vI g.S.box.y0,vI g.S.box.x1,vI g.S.box.y1,.slice g.S.rA g.S.rn g.S.rc,.slice g.S.dA g.S.dn g.S.dc,vI g.S.fog,vI g.S.g.x,vI g.S.g.y,vI g.S.push,vI g.S.drag,vI g.S.rest,vI g.S.rounds,vI g.S.fuel],.agg #[.slice g.cA g.cn g.cc,vI g.e0,vI g.e1,vI g.e2],vI g.version,vS g.ib (g.io * 3) g.ni g.ic] (ap [] [T]) F (λ u H'=>∃ x,H'=ap [] [x] /\ (MemH mb (dp (g.step M) M) k x /\ u=.tuple #[.bool (fB (g.step M)),.agg #[vI 0,vI 0,vI 0,vI 0],.bool false])):=by
 refine Sp.run Tryz.func18 rfl mn (A:=[]) (Ts:=[T]) rfl λ w0=>?_
 refine ae 29 (ow 0 8) λ n1=>aj (iQ 1 hp hM (aA 0))<|ae 18 [] λ _=>RN.draw [] []<|ag [] [0,1,2,3,4,5,7] (ow 3 16++[.own 2,.own 2,.own 2,.own 2])<|ar [] 6 (λ X_=>(aw 2 hM (aR 0)))<|ar [] 8 (λ X_=>(aw 3 hM (aR 0)))<|ag [] [9] []<|RD.one 10 (RDO.ev [] [] λ n2=>?_)
 refine ag [] [11] []<|RD.fin<|ae 7 [.own 1] λ _=>RN.ct [0] [0] (DD (g.step M) (n2+0) mb M (k+6) T _ hM hS.up ) ?_
 rintro _ T3 hM4
 refine ae 3 [] λ _=>RN.draw [13] [0,1,3,4]<|ag [0,1,3,4] [0,4,8,1,5,9,2,6,10,3,7,11,12] (ow 0 5++[.ro 0])<|RD.one 13 (RDO.ev [0,1,3,4] [.own 2,.own 2,.own 2,.own 2] λ _=>?_)
 refine ag [0,1,3,4] [14] []<|RD.fin<|ae 1 [] λ _=>RN.ret [.own 2,.own 2,.own 2,.own 2] [] [0] (v:=.tuple #[.bool (fB (g.step M)),.agg #[vI 0,vI 0,vI 0,vI 0],.bool false]) (H':=(ap [] [T3])) ?_
 exact ⟨T3,rfl,hM4.weak (by omega),rfl⟩
def oY:Enc Eff:=⟨4,λ p k=>match k with | 0=>vI p.t | 1=>vI p.i | 2=>vI p.k | _=>vI p.v,bk⟩
noncomputable def Jw:TypeInfo:=match Tryz.prog.info? 53 with | some i=>i | none=>⟨.bool,"",0,0,false,0,0,none,false,#[]⟩
noncomputable def Jy:Value:=match Jw.zero with | some z=>z | none=>.bool false
theorem pY:EncOk oY Tryz.prog 53 Jw Jy where
 info:=by kernel_rfl
 zero:=by kernel_rfl
 size:=by kernel_rfl
 zsize:=by kernel_rfl
 zcell:=λ k hk=>by
  have h:∀ k < 4,Jy.cells[k]?=some (oY.cell oY.dflt k):=by intro k hk;(iterate 4 (rcases k with _ | k;· kernel_rfl));omega
  exact h k hk
 one:=λ x k=>by unfold oY;dsimp only;split <;> rfl
 bytes:=Nat.le_of_ble_eq_true (by kernel_rfl)
def eD (g:Gm) (M:MemS):VR:=if M.get 1=0 then ⟨aP (g.step M) M,0,bk,false⟩ else if M.get 1=1 then (eU (g.step M) M) else if M.get 1=2 then (cS (g.step M) M) else if M.get 1=3 then ⟨aQ (g.step M) M,0,bk,false⟩ else if M.get 1=4 then ⟨bK (g.step M) M,0,bk,false⟩ else if M.get 1=5 then ⟨dM (g.step M) M,0,bk,false⟩ else if M.get 1=6 then (eV (g.step M) M) else ⟨dp (g.step M) M,0,bk,false⟩
def gM (g:Gm) (M:MemS):Bool:=if M.get 1=7 then fB (g.step M) else false
abbrev fO (g:Gm) (M:MemS):MemS:=(eD g M).M
abbrev Bt (M:MemS):Prop:=0 <= M.get 1 /\ M.get 1 <= 7
structure GmIn (F:HL) (g:Gm):Prop where
 set:SetIn F g.S
 ins:(g.ib,.rows 3 g.iR (j9 g.ins) 151 (0,0)) ∈ F
 room:g.io+g.ni <= g.iR /\ g.ni <= 1000000
 eff:ck F
 code:CodeIn F g.code g.cA g.cn
theorem Bu (g:Gm) (mb:Nat) (M:MemS) (k:Nat) (T F:HL) (hM:MemH mb M (k+20) T) (hg:GmIn F g) (h0:Bt M) (ver:Int) (hver:g.version=ver):Sp Tryz.prog 18 #[.iface 40 (vP mb 0),.agg #[vI g.S.players,vS g.S.bb (g.S.bo * 9) g.S.nb g.S.bc,vI g.S.box.x0,vI g.S.box.y0,vI g.S.box.x1,vI g.S.box.y1,.slice g.S.rA g.S.rn g.S.rc,.slice g.S.dA g.S.dn g.S.dc,vI g.S.fog,vI g.S.g.x,vI g.S.g.y,vI g.S.push,vI g.S.drag,vI g.S.rest,vI g.S.rounds,vI g.S.fuel],.agg #[.slice g.cA g.cn g.cc,vI g.e0,vI g.e1,vI g.e2],vI ver,vS g.ib (g.io * 3) g.ni g.ic] (ap [] [T]) F (λ u H'=>∃ x,H'=ap [] [x] /\ (MemH mb (fO g M) k x /\ u=.tuple #[.bool (gM g M),.agg #[vI ((eD g M).e.t),vI ((eD g M).e.i),vI ((eD g M).e.k),vI ((eD g M).e.v)],.bool ((eD g M).em)])):=by
 subst hver
 by_cases h0:M.get 1=0
 ·rw [fO,show eD g M=⟨aP (g.step M) M,0,bk,false⟩ by simp only [eD,if_pos h0],show gM g M=false by simp [gM,h0]]
  exact Ko g mb M k T F hM hg.set h0 hg.ins hg.room
 by_cases h1:M.get 1=1
 ·rw [fO,show eD g M=(eU (g.step M) M) by simp only [eD,if_neg h0,if_pos h1],show gM g M=false by simp [gM,h1]]
  exact Kq g mb M k T F hM hg.set h1 hg.eff hg.code
 by_cases h2:M.get 1=2
 ·rw [fO,show eD g M=(cS (g.step M) M) by simp only [eD,if_neg h0,if_neg h1,if_pos h2],show gM g M=false by simp [gM,h2]]
  exact Kr g mb M k T F hM hg.set h2 hg.eff hg.code
 by_cases h3:M.get 1=3
 ·rw [fO,show eD g M=⟨aQ (g.step M) M,0,bk,false⟩ by simp only [eD,if_neg h0,if_neg h1,if_neg h2,if_pos h3],show gM g M=false by simp [gM,h3]]
  exact Ks g mb M k T F hM hg.set h3
 by_cases h4:M.get 1=4
 ·rw [fO,show eD g M=⟨bK (g.step M) M,0,bk,false⟩ by simp only [eD,if_neg h0,if_neg h1,if_neg h2,if_neg h3,if_pos h4],show gM g M=false by simp [gM,h4]]
  exact Ku g mb M k T F hM hg.set h4
 by_cases h5:M.get 1=5
 ·rw [fO,show eD g M=⟨dM (g.step M) M,0,bk,false⟩ by simp only [eD,if_neg h0,if_neg h1,if_neg h2,if_neg h3,if_neg h4,if_pos h5],show gM g M=false by simp [gM,h5]]
  exact Kv g mb M k T F hM hg.set h5
 by_cases h6:M.get 1=6
 ·rw [fO,show eD g M=(eV (g.step M) M) by simp only [eD,if_neg h0,if_neg h1,if_neg h2,if_neg h3,if_neg h4,if_neg h5,if_pos h6],show gM g M=false by simp [gM,h6]]
  exact Kw g mb M k T F hM hg.set h6 hg.eff hg.code
 have h7:M.get 1=7:=by omega
 rw [fO,show eD g M=⟨dp (g.step M) M,0,bk,false⟩ by simp only [eD,if_neg h0,if_neg h1,if_neg h2,if_neg h3,if_neg h4,if_neg h5,if_neg h6],show gM g M=fB (g.step M) by simp [gM,h7]]
 exact Kx g mb M k T F hM hg.set h7
def fI (g:Gm):Nat -> MemS -> MemS
 | 0,M=>M
 | n+1,M=>fI g n (fO g M)
def dt (g:Gm):Nat -> MemS -> List Eff
 | 0,_=>[]
 | n+1,M=>(if (eD g M).em=true then [(eD g M).e] else [])++dt g n (fO g M)
def dE (g:Gm):Nat -> MemS -> Prop
 | 0,_=>False
 | n+1,M=>Bt M /\ ((n=0 /\ gM g M=true) \/ (gM g M=false /\ dE g n (fO g M)))
theorem si {g:Gm} {n:Nat} {M:MemS} (h:(eD g M).em=true):dt g (n+1) M=(eD g M).e :: dt g n (fO g M):=by rw [dt,if_pos h];rfl
theorem mW {g:Gm} {n:Nat} {M:MemS} (h:¬ (eD g M).em=true):dt g (n+1) M=dt g n (fO g M):=by rw [dt,if_neg h];rfl
theorem sj (g:Gm):∀ n M,(dt g n M).length <= n
 | 0,_=>Nat.le_refl _
 | n+1,M=>by
  rw [dt,List.length_append]
  have:=sj g n (fO g M)
  split
  ·simp;omega
  ·simp;omega
def Shp.nm (s:Shp):Shp:=⟨s.r,s.poly,none,0⟩
def Bod.nm (b:Bod):Bod:=⟨b.sh.nm,b.mot,b.a,b.b⟩
def Setup.nm (S:Setup):Setup:={ S with bb:=0,bo:=0,bc:=0,bR:=0,bods:=(S.bods.drop S.bo).map Bod.nm,rA:=none,rc:=0,dA:=none,dc:=0 }
def Stp.nm (t:Stp):Stp:={ t with S:=t.S.nm,cA:=none,cc:=0,ib:=0,io:=0,ic:=0,iR:=0,ins:=[] }
theorem Bv {α:Type} (l:List α) (o k:Nat) (d:α):(l.drop o).getD (0+k) d=l.getD (o+k) d:=by
 rw [Nat.zero_add,List.getD_eq_getElem?_getD,List.getD_eq_getElem?_getD,List.getElem?_drop]
theorem DE {α β:Type} (f:α -> β) (l:List α) (k:Nat) (d:α):(l.map f).getD k (f d)=f (l.getD k d):=by
 rw [List.getD_eq_getElem?_getD,List.getD_eq_getElem?_getD,List.getElem?_map]
 cases l[k]? <;> rfl
theorem pp (S:Setup) (k:Nat):S.nm.body k=(S.body k).nm:=by
 show ((S.bods.drop S.bo).map Bod.nm).getD (0+k) dB=Bod.nm (S.bods.getD (S.bo+k) dB)
 rw [<- Bv S.bods S.bo k dB]
 exact DE Bod.nm _ _ dB
theorem jP (S:Setup):S.nm.players=S.players:=rfl
theorem gS (S:Setup):S.nm.nb=S.nb:=rfl
theorem DF (S:Setup):S.nm.box=S.box:=rfl
theorem Ky (S:Setup):S.nm.g=S.g:=rfl
theorem Bw (S:Setup):S.nm.push=S.push:=rfl
theorem Bz (S:Setup):S.nm.drag=S.drag:=rfl
theorem sk (S:Setup):S.nm.rest=S.rest:=rfl
theorem vi (S:Setup):S.nm.rounds=S.rounds:=rfl
theorem sm (S:Setup):S.nm.fuel=S.fuel:=rfl
theorem zC (t:Stp):t.nm.cn=t.cn:=rfl
theorem zD (t:Stp):t.nm.e0=t.e0:=rfl
theorem Hz (t:Stp):t.nm.e1=t.e1:=rfl
theorem zE (t:Stp):t.nm.e2=t.e2:=rfl
theorem tS (t:Stp):t.nm.version=t.version:=rfl
theorem c9 (t:Stp):t.nm.i=t.i:=rfl
theorem gE (t:Stp):t.nm.j=t.j:=rfl
theorem xK (t:Stp):t.nm.ended=t.ended:=rfl
theorem pq (t:Stp):t.nm.f0=t.f0:=rfl
theorem pr (t:Stp):t.nm.f1=t.f1:=rfl
theorem pv (t:Stp):t.nm.f2=t.f2:=rfl
theorem pw (t:Stp):t.nm.f3=t.f3:=rfl
theorem gT (t:Stp):t.nm.emitted=t.emitted:=rfl
theorem nH (t:Stp):t.nm.code=t.code:=rfl
theorem bx (t:Stp):t.nm.S=t.S.nm:=rfl
theorem zF (b:Bod):b.nm.sh=b.sh.nm:=rfl
theorem vj (b:Bod):b.nm.mot=b.mot:=rfl
theorem Kz (s:Shp):s.nm.r=s.r:=rfl
theorem iW (S:Setup) (k:Int) :ah S.nm k=ah S k:=by
 unfold ah
 simp only [jP,bx] <;> rfl
theorem eX (S:Setup) (k:Int) :af S.nm k=af S k:=by
 unfold af
 simp only [jP,gS,bx] <;> rfl
theorem tT (S:Setup) (k:Int) :(movP S.nm k)=(movP S k):=by
 unfold movP
 simp only [gS,bx,vj,pp] <;> rfl
theorem mX (S:Setup) (M:MemS) (k:Int) :aq S.nm M k=aq S M k:=by
 unfold aq
 simp only [bx,vj,pp,eX] <;> rfl
theorem vk (a:Shp) (pa:V2) (b:Shp) (pb:V2) :cw a.nm pa b.nm pb=cw a pa b pb:=by
 kernel_rfl
theorem DG (a:Shp) (pa va:V2) (b:Shp) (pb vb:V2) :lO a.nm pa va b.nm pb vb=lO a pa va b pb vb:=by
 kernel_rfl
theorem xL (t:Stp) (k:Int) (m:Mot) (M:MemS) :dD t.nm k m M=dD t k m M:=by
 unfold dD
 simp only [bx,eX] <;> rfl
theorem BA (t:Stp) (c sp pos lo hi:Int) (M:MemS) :dU t.nm c sp pos lo hi M=dU t c sp pos lo hi M:=by
 unfold dU
 simp only [sk,bx] <;> rfl
theorem sn (t:Stp) (M:MemS) :bd t.nm M=bd t M:=by
 unfold bd
 simp only [tS,c9,bx] <;> rfl
theorem so (t:Stp) (M:MemS) :bU t.nm M=bU t M:=by
 unfold bU
 simp only [jP,c9,bx] <;> rfl
theorem vl (t:Stp) :fB t.nm=fB t:=by
 unfold fB
 simp only [gS,c9,xK,bx] <;> rfl
theorem DH (t:Stp) (M:MemS) :fU t.nm M=fU t M:=by
 unfold fU
 simp only [c9,bx,eX] <;> rfl
theorem DI (t:Stp) (M:MemS) :gK t.nm M=gK t M:=by
 unfold gK
 simp only [gS,c9,bx] <;> rfl
theorem vn (t:Stp) (M:MemS) :dp t.nm M=dp t M:=by
 unfold dp
 simp only [bx,DH,DI] <;> rfl
theorem BB (t:Stp) (M:MemS) :bV t.nm M=bV t M:=by
 unfold bV
 simp only [Ky,Bw,Bz,c9,bx,iW,mX] <;> rfl
theorem BC (t:Stp) (M:MemS) :bE t.nm M=bE t M:=by
 unfold bE
 simp only [c9,bx,eX] <;> rfl
theorem BD (t:Stp) (M:MemS) :bI t.nm M=bI t M:=by
 unfold bI
 simp only [c9,bx,eX,tT,BB] <;> rfl
theorem BE (t:Stp) (M:MemS) :bW t.nm M=bW t M:=by
 unfold bW
 simp only [gS,c9,bx] <;> rfl
theorem sr (t:Stp) (M:MemS) :aQ t.nm M=aQ t M:=by
 unfold aQ
 simp only [bx,BC,BD,BE] <;> rfl
theorem xM (t:Stp) (M:MemS) :gc t.nm M=gc t M:=by
 unfold gc
 simp only [c9,bx,mX] <;> rfl
theorem xN (t:Stp) (M:MemS) :cZ t.nm M=cZ t M:=by
 unfold cZ
 simp only [DF,c9,bx,eX,BA,xM] <;> rfl
theorem DJ (S:Setup) (op n a b:Int) (M:MemS) :aD S.nm op n a b M=aD S op n a b M:=by
 unfold aD
 simp only [bx,eX] <;> rfl
theorem DL (S:Setup) (op n sp pc fuel:Int) (M:MemS) :bQ S.nm op n sp pc fuel M=bQ S op n sp pc fuel M:=by
 unfold bQ
 simp only [sm,bx,DJ] <;> rfl
theorem DM (S:Setup) (code:List Ins) (n:Nat) (M:MemS) :ak S.nm code n M=ak S code n M:=by
 unfold ak
 simp only [nH,bx,DL] <;> rfl
theorem tU (e:Int) (t:Stp) (self other:Int) (M:MemS) :eC e t.nm self other M=eC e t self other M:=by
 unfold eC
 simp only [sm,zC,gE,gT,nH,bx,DM,pq,pr,pv,pw] <;> rfl
theorem tV (e:Int) (t:Stp) (self other:Int) (M:MemS) :de e t.nm self other M=de e t self other M:=by
 unfold de
 simp only [zC,gE,nH,bx] <;> rfl
theorem vp (r:VR) (over:Bool) (t:Stp) (cause:Bool) (M:MemS) :dq r over t.nm cause M=dq r over t cause M:=by
 unfold dq
 simp only [c9,gE,gT,bx,Kz,pq,pr,pv,pw] <;> rfl
theorem zG (t:Stp) (M:MemS) :eU t.nm M=eU t M:=by
 unfold eU
 simp only [c9,gT,bx,iW,pq,pr,pv,pw,zD,zE,tU,tV,vp] <;> rfl
theorem vq (t:Stp) (M:MemS) :cS t.nm M=cS t M:=by
 unfold cS
 simp only [bx,Hz,c9,gE,tU,tV] <;> rfl
theorem zH (t:Stp) (M:MemS) :eV t.nm M=eV t M:=by
 unfold eV
 simp only [c9,gT,bx,eX,pq,pr,pv,pw,zD,zE,tU,tV,vp] <;> rfl
theorem zI (t:Stp) (M:MemS) :ry t.nm M=ry t M:=by
 unfold ry
 simp only [c9,gE,bx,zF,pp,mX,vk] <;> rfl
theorem HA (t:Stp) (M:MemS) :vh t.nm M=vh t M:=by
 unfold vh
 simp only [sk,c9,gE,bx,mX,zI] <;> rfl
theorem vt (t:Stp) (M:MemS) :gt t.nm M=gt t M:=by
 unfold gt
 simp only [c9,gE,bx,eX,xL,HA] <;> rfl
theorem BF (t:Stp) (M:MemS) :dH t.nm M=dH t M:=by
 unfold dH
 simp only [gS,c9,gE,bx,zI,vt] <;> rfl
theorem HB (t:Stp) (M:MemS) :rz t.nm M=rz t M:=by
 unfold rz
 simp only [c9,gE,bx,zF,pp,mX,DG] <;> rfl
theorem DN (t:Stp) (M:MemS) :eL t.nm M=eL t M:=by
 unfold eL
 simp only [c9,gE,bx,tT,HB] <;> rfl
theorem DP (t:Stp) (M:MemS) :fH t.nm M=fH t M:=by
 unfold fH
 simp only [gS,c9,bx] <;> rfl
theorem vu (t:Stp) (M:MemS) :dM t.nm M=dM t M:=by
 unfold dM
 simp only [gS,c9,gE,bx,tT,xN,DN,DP] <;> rfl
theorem oM (t:Stp) (M:MemS) :bK t.nm M=bK t M:=by
 unfold bK
 simp only [gS,vi,c9,gE,bx,BF] <;> rfl
def Gm.nm (g:Gm):Gm:={ g with S:=g.S.nm,cA:=none,cc:=0,ib:=0,io:=0,ic:=0,iR:=0,ins:=[] }
theorem lm (g:Gm) (M:MemS):g.nm.step M=(g.step M).nm:=rfl
structure GEq (g g':Gm):Prop where
 nm:g.nm=g'.nm
 inp:∀ k,k < g.ni -> g.ins.getD (g.io+k) dI=g'.ins.getD (g'.io+k) dI
theorem BG {g g':Gm} (h:GEq g g') (M:MemS):aP (g.step M) M=aP (g'.step M) M:=by
 have hs:(g.step M).nm=(g'.step M).nm:=by rw [<- lm,<- lm,h.nm]
 unfold aP
 rw [<- sn (g.step M),hs,sn]
 generalize bd (g'.step M) M=N
 have hb:bq (g.step M) N=bq (g'.step M) N:=by
  have hS:(g.step M).S.nm=(g'.step M).S.nm:=show (g.step M).nm.S=(g'.step M).nm.S by rw [hs]
  have hi:(g.step M).i=(g'.step M).i:=show (g.step M).nm.i=(g'.step M).nm.i by rw [hs]
  have hn:(g.step M).ni=(g'.step M).ni:=show (g.step M).nm.ni=(g'.step M).nm.ni by rw [hs]
  unfold bq
  rw [<- iW (g.step M).S,hS,iW,hi,hn]
  by_cases h1:ah (g'.step M).S (g'.step M).i >= 0
  ·rw [if_pos h1,if_pos h1]
   by_cases h2:(g'.step M).i < (g'.step M).ni
   ·rw [if_pos h2,if_pos h2]
    have h3:0 <= (g'.step M).i:=by
     rcases Int.lt_or_le (g'.step M).i 0 with h4 | h4
     ·unfold ah at h1;rw [if_pos h4] at h1;omega
     ·exact h4
    have e:(g.step M).inp (g'.step M).i.toNat=(g'.step M).inp (g'.step M).i.toNat:=by
     have h5:(g'.step M).i.toNat < g.ni:=by
      have h6:((g'.step M).ni:Int)=(g.ni:Int):=congrArg (Nat.cast) hn.symm
      omega
     exact h.inp _ h5
    rw [e]
   ·rw [if_neg h2,if_neg h2]
  ·rw [if_neg h1,if_neg h1]
 rw [hb,<- so (g.step M),hs,so]
theorem nJ {g g':Gm} (h:GEq g g') (M:MemS):eD g M=eD g' M:=by
 have hs:(g.step M).nm=(g'.step M).nm:=by rw [<- lm,<- lm,h.nm]
 unfold eD
 rw [BG h,<- zG (g.step M),<- vq (g.step M),<- sr (g.step M),<- oM (g.step M),<- vu (g.step M),<- zH (g.step M),<- vn (g.step M),hs,zG,vq,sr,oM,vu,zH,vn]
theorem xO {g g':Gm} (h:GEq g g') (M:MemS):gM g M=gM g' M:=by
 have hs:(g.step M).nm=(g'.step M).nm:=by rw [<- lm,<- lm,h.nm]
 unfold gM
 rw [<- vl (g.step M),hs,vl]
theorem zJ {g g':Gm} (h:GEq g g'):∀ (n:Nat) (M:MemS),fI g n M=fI g' n M
 | 0,_=>rfl
 | n+1,M=>by rw [fI,fI,fO,fO,nJ h];exact zJ h n _
theorem vw {g g':Gm} (h:GEq g g'):∀ (n:Nat) (M:MemS),dt g n M=dt g' n M
 | 0,_=>rfl
 | n+1,M=>by rw [dt,dt,fO,fO,nJ h,vw h n]
end Go.Proofs.YtghjbimijeinfaaGreatDoor
