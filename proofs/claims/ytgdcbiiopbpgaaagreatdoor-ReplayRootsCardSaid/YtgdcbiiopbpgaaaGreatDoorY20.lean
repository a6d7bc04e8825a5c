import Derived.Test.YtgdcbiiopbpgaaaGreatDoorY16
import Derived.Test.YtgdcbiiopbpgaaaGreatDoorY19
set_option maxHeartbeats 4000000
set_option maxRecDepth 100000
set_option linter.unusedSimpArgs false
set_option linter.unusedVariables false
namespace Go.Proofs.YtgdcbiiopbpgaaaGreatDoor
open Go.RowKit
structure Gm where
 S:Setup
 cA:Option Addr
 cn:Nat
 cc:Nat
 e0:Int
 e1:Int
 e2:Int
 version:Int
 ib:Nat
 io:Nat
 ni:Nat
 ic:Nat
 iR:Nat
 ins:List Inp
 code:List Ins
abbrev Gm.step (g:Gm) (M:MemS):Stp:=⟨g.S,g.cA,g.cn,g.cc,g.e0,g.e1,g.e2,g.version,g.ib,g.io,g.ni,g.ic,g.iR,g.ins,M.get 2,M.get 3,false,0,0,0,0,false,g.code⟩
theorem Kw (g:Gm) (mb:Nat) (M:MemS) (k:Nat) (T F:HL) (hM:MemH mb M (k+20) T) (hS:SetIn F g.S) (hp:M.get 1=0) (hI:(g.ib,.rows 3 g.iR (kh g.ins) 119 (0,0)) ∈ F) (hir:g.io+g.ni <= g.iR /\ g.ni <= 1000000):Sp Tryz.prog 125 #[.iface 96 (vP mb 0),.agg #[vI g.S.players,vS g.S.bb (g.S.bo * 9) g.S.nb g.S.bc,vI g.S.box.x0,vI g.S.box.y0,vI g.S.box.x1,vI g.S.box.y1,.slice g.S.rA g.S.rn g.S.rc,.slice g.S.dA g.S.dn g.S.dc,vI g.S.fog,vI g.S.g.x,vI g.S.g.y,vI g.S.push,vI g.S.drag,vI g.S.rest,vI g.S.rounds,vI g.S.fuel],.agg #[.slice g.cA g.cn g.cc,vI g.e0,vI g.e1,vI g.e2],vI g.version,vS g.ib (g.io * 3) g.ni g.ic] (ap [] [T]) F (λ u H'=>∃ x,H'=ap [] [x] /\ (MemH mb (aP (g.step M) M) k x /\ u=.tuple #[.bool false,.agg #[vI 0,vI 0,vI 0,vI 0],.bool false])):=by
 refine Sp.run Tryz.func125 rfl mn (A:=[]) (Ts:=[T]) rfl λ w0=>?_
 refine ae 29 (ow 0 8) λ n1=>aj (i0 1 hp hM (aA 0))<|ae 18 [] λ _=>RN.draw [] []<|ag [] [0,1,2,3,4,5,7] (ow 3 16++[.own 2,.own 2,.own 2,.own 2])<|ar [] 6 (λ X_=>(av 2 hM (aR 0)))<|ar [] 8 (λ X_=>(av 3 hM (aR 0)))<|ag [] [9] []<|RD.one 10 (RDO.ev [] [] λ n2=>?_)
 refine ag [] [11] []<|RD.fin<|ae 7 [.own 1] λ _=>RN.ct [0] [0] (Br (g.step M) (n2+0) mb M (k+12) T _ hM hS.up (List.mem_append_right _ hI) hir) ?_
 rintro _ T3 hM4
 refine ae 3 [] λ _=>RN.draw [13] [0,1,3,4]<|ag [0,1,3,4] [0,4,8,1,5,9,2,6,10,3,7,11,12] (ow 0 5++[.ro 0])<|RD.one 13 (RDO.ev [0,1,3,4] [.own 2,.own 2,.own 2,.own 2] λ _=>?_)
 refine ag [0,1,3,4] [14] []<|RD.fin<|ae 1 [] λ _=>RN.ret [.own 2,.own 2,.own 2,.own 2] [] [0] (v:=.tuple #[.bool false,.agg #[vI 0,vI 0,vI 0,vI 0],.bool false]) (H':=(ap [] [T3])) ?_
 exact ⟨T3,rfl,hM4.weak (by omega),rfl⟩
theorem Kx (g:Gm) (mb:Nat) (M:MemS) (k:Nat) (T F:HL) (hM:MemH mb M (k+20) T) (hS:SetIn F g.S) (hp:M.get 1=1) (hE:dh F) (hC:CodeIn F g.code g.cA g.cn):Sp Tryz.prog 125 #[.iface 96 (vP mb 0),.agg #[vI g.S.players,vS g.S.bb (g.S.bo * 9) g.S.nb g.S.bc,vI g.S.box.x0,vI g.S.box.y0,vI g.S.box.x1,vI g.S.box.y1,.slice g.S.rA g.S.rn g.S.rc,.slice g.S.dA g.S.dn g.S.dc,vI g.S.fog,vI g.S.g.x,vI g.S.g.y,vI g.S.push,vI g.S.drag,vI g.S.rest,vI g.S.rounds,vI g.S.fuel],.agg #[.slice g.cA g.cn g.cc,vI g.e0,vI g.e1,vI g.e2],vI g.version,vS g.ib (g.io * 3) g.ni g.ic] (ap [] [T]) F (λ u H'=>∃ x,H'=ap [] [x] /\ (MemH mb (eV (g.step M) M).M k x /\ u=.tuple #[.bool false,.agg #[vI ((eV (g.step M) M).e.t),vI ((eV (g.step M) M).e.i),vI ((eV (g.step M) M).e.k),vI ((eV (g.step M) M).e.v)],.bool ((eV (g.step M) M).em)])):=by
 refine Sp.run Tryz.func125 rfl mn (A:=[]) (Ts:=[T]) rfl λ w0=>?_
 refine ae 29 (ow 0 8) λ n1=>aj (i0 1 hp hM (aA 0))<|ae 18 [] λ _=>RN.draw [] []<|ag [] [0,1,2,3,4,5,7] (ow 3 16++[.own 2,.own 2,.own 2,.own 2])<|ar [] 6 (λ X_=>(av 2 hM (aR 0)))<|ar [] 8 (λ X_=>(av 3 hM (aR 0)))<|ag [] [9] []<|RD.one 10 (RDO.ev [] [] λ n2=>?_)
 refine ag [] [11] []<|RD.fin<|ae 7 [.own 1] λ _=>RN.ct [0] [0] (Ms (g.step M) (n2+0) mb M (k+11) T _ hM hS.up (aw hE) hC.up) ?_
 rintro _ T3 hM4
 refine ae 3 [] λ _=>RN.draw [13] [0,1,3,4]<|ag [0,1,3,4] [0,4,8,1,5,9,2,6,10,3,7,11,12] (ow 0 5++[.ro 0])<|RD.one 13 (RDO.ev [0,1,3,4] [.own 2,.own 2,.own 2,.own 2] λ _=>?_)
 refine ag [0,1,3,4] [14] []<|RD.fin<|ae 1 [] λ _=>RN.ret [.own 2,.own 2,.own 2,.own 2] [] [0] (v:=.tuple #[.bool false,.agg #[vI ((eV (g.step M) M).e.t),vI ((eV (g.step M) M).e.i),vI ((eV (g.step M) M).e.k),vI ((eV (g.step M) M).e.v)],.bool ((eV (g.step M) M).em)]) (H':=(ap [] [T3])) ?_
 exact ⟨T3,rfl,hM4.weak (by omega),rfl⟩
theorem trans2 (g:Gm) (mb:Nat) (M:MemS) (k:Nat) (T F:HL) (hM:MemH mb M (k+20) T) (hS:SetIn F g.S) (hp:M.get 1=2) (hE:dh F) (hC:CodeIn F g.code g.cA g.cn):Sp Tryz.prog 125 #[.iface 96 (vP mb 0),.agg #[vI g.S.players,vS g.S.bb (g.S.bo * 9) g.S.nb g.S.bc,vI g.S.box.x0,vI g.S.box.y0,vI g.S.box.x1,vI g.S.box.y1,.slice g.S.rA g.S.rn g.S.rc,.slice g.S.dA g.S.dn g.S.dc,vI g.S.fog,vI g.S.g.x,vI g.S.g.y,vI g.S.push,vI g.S.drag,vI g.S.rest,vI g.S.rounds,vI g.S.fuel],.agg #[.slice g.cA g.cn g.cc,vI g.e0,vI g.e1,vI g.e2],vI g.version,vS g.ib (g.io * 3) g.ni g.ic] (ap [] [T]) F (λ u H'=>∃ x,H'=ap [] [x] /\ (MemH mb (cU (g.step M) M).M k x /\ u=.tuple #[.bool false,.agg #[vI ((cU (g.step M) M).e.t),vI ((cU (g.step M) M).e.i),vI ((cU (g.step M) M).e.k),vI ((cU (g.step M) M).e.v)],.bool ((cU (g.step M) M).em)])):=by
 refine Sp.run Tryz.func125 rfl mn (A:=[]) (Ts:=[T]) rfl λ w0=>?_
 refine ae 29 (ow 0 8) λ n1=>aj (i0 1 hp hM (aA 0))<|ae 18 [] λ _=>RN.draw [] []<|ag [] [0,1,2,3,4,5,7] (ow 3 16++[.own 2,.own 2,.own 2,.own 2])<|ar [] 6 (λ X_=>(av 2 hM (aR 0)))<|ar [] 8 (λ X_=>(av 3 hM (aR 0)))<|ag [] [9] []<|RD.one 10 (RDO.ev [] [] λ n2=>?_)
 refine ag [] [11] []<|RD.fin<|ae 7 [.own 1] λ _=>RN.ct [0] [0] (Kv (g.step M) (n2+0) mb M (k+11) T _ hM hS.up (aw hE) hC.up) ?_
 rintro _ T3 hM4
 refine ae 3 [] λ _=>RN.draw [13] [0,1,3,4]<|ag [0,1,3,4] [0,4,8,1,5,9,2,6,10,3,7,11,12] (ow 0 5++[.ro 0])<|RD.one 13 (RDO.ev [0,1,3,4] [.own 2,.own 2,.own 2,.own 2] λ _=>?_)
 refine ag [0,1,3,4] [14] []<|RD.fin<|ae 1 [] λ _=>RN.ret [.own 2,.own 2,.own 2,.own 2] [] [0] (v:=.tuple #[.bool false,.agg #[vI ((cU (g.step M) M).e.t),vI ((cU (g.step M) M).e.i),vI ((cU (g.step M) M).e.k),vI ((cU (g.step M) M).e.v)],.bool ((cU (g.step M) M).em)]) (H':=(ap [] [T3])) ?_
 exact ⟨T3,rfl,hM4.weak (by omega),rfl⟩
theorem Ky (g:Gm) (mb:Nat) (M:MemS) (k:Nat) (T F:HL) (hM:MemH mb M (k+20) T) (hS:SetIn F g.S) (hp:M.get 1=3) :Sp Tryz.prog 125 #[.iface 96 (vP mb 0),.agg #[vI g.S.players,vS g.S.bb (g.S.bo * 9) g.S.nb g.S.bc,vI g.S.box.x0,vI g.S.box.y0,vI g.S.box.x1,vI g.S.box.y1,.slice g.S.rA g.S.rn g.S.rc,.slice g.S.dA g.S.dn g.S.dc,vI g.S.fog,vI g.S.g.x,vI g.S.g.y,vI g.S.push,vI g.S.drag,vI g.S.rest,vI g.S.rounds,vI g.S.fuel],.agg #[.slice g.cA g.cn g.cc,vI g.e0,vI g.e1,vI g.e2],vI g.version,vS g.ib (g.io * 3) g.ni g.ic] (ap [] [T]) F (λ u H'=>∃ x,H'=ap [] [x] /\ (MemH mb (aQ (g.step M) M) k x /\ u=.tuple #[.bool false,.agg #[vI 0,vI 0,vI 0,vI 0],.bool false])):=by
 refine Sp.run Tryz.func125 rfl mn (A:=[]) (Ts:=[T]) rfl λ w0=>?_
 refine ae 29 (ow 0 8) λ n1=>aj (i0 1 hp hM (aA 0))<|ae 18 [] λ _=>RN.draw [] []<|ag [] [0,1,2,3,4,5,7] (ow 3 16++[.own 2,.own 2,.own 2,.own 2])<|ar [] 6 (λ X_=>(av 2 hM (aR 0)))<|ar [] 8 (λ X_=>(av 3 hM (aR 0)))<|ag [] [9] []<|RD.one 10 (RDO.ev [] [] λ n2=>?_)
 refine ag [] [11] []<|RD.fin<|ae 7 [.own 1] λ _=>RN.ct [0] [0] (Bt (g.step M) (n2+0) mb M (k+12) T _ hM hS.up ) ?_
 rintro _ T3 hM4
 refine ae 3 [] λ _=>RN.draw [13] [0,1,3,4]<|ag [0,1,3,4] [0,4,8,1,5,9,2,6,10,3,7,11,12] (ow 0 5++[.ro 0])<|RD.one 13 (RDO.ev [0,1,3,4] [.own 2,.own 2,.own 2,.own 2] λ _=>?_)
 refine ag [0,1,3,4] [14] []<|RD.fin<|ae 1 [] λ _=>RN.ret [.own 2,.own 2,.own 2,.own 2] [] [0] (v:=.tuple #[.bool false,.agg #[vI 0,vI 0,vI 0,vI 0],.bool false]) (H':=(ap [] [T3])) ?_
 exact ⟨T3,rfl,hM4.weak (by omega),rfl⟩
theorem Kz (g:Gm) (mb:Nat) (M:MemS) (k:Nat) (T F:HL) (hM:MemH mb M (k+20) T) (hS:SetIn F g.S) (hp:M.get 1=4) :Sp Tryz.prog 125 #[.iface 96 (vP mb 0),.agg #[vI g.S.players,vS g.S.bb (g.S.bo * 9) g.S.nb g.S.bc,vI g.S.box.x0,vI g.S.box.y0,vI g.S.box.x1,vI g.S.box.y1,.slice g.S.rA g.S.rn g.S.rc,.slice g.S.dA g.S.dn g.S.dc,vI g.S.fog,vI g.S.g.x,vI g.S.g.y,vI g.S.push,vI g.S.drag,vI g.S.rest,vI g.S.rounds,vI g.S.fuel],.agg #[.slice g.cA g.cn g.cc,vI g.e0,vI g.e1,vI g.e2],vI g.version,vS g.ib (g.io * 3) g.ni g.ic] (ap [] [T]) F (λ u H'=>∃ x,H'=ap [] [x] /\ (MemH mb (bP (g.step M) M) k x /\ u=.tuple #[.bool false,.agg #[vI 0,vI 0,vI 0,vI 0],.bool false])):=by
 refine Sp.run Tryz.func125 rfl mn (A:=[]) (Ts:=[T]) rfl λ w0=>?_
 refine ae 29 (ow 0 8) λ n1=>aj (i0 1 hp hM (aA 0))<|ae 18 [] λ _=>RN.draw [] []<|ag [] [0,1,2,3,4,5,7] (ow 3 16++[.own 2,.own 2,.own 2,.own 2])<|ar [] 6 (λ X_=>(av 2 hM (aR 0)))<|ar [] 8 (λ X_=>(av 3 hM (aR 0)))<|ag [] [9] []<|RD.one 10 (RDO.ev [] [] λ n2=>?_)
 refine ag [] [11] []<|RD.fin<|ae 7 [.own 1] λ _=>RN.ct [0] [0] (tZ (g.step M) (n2+0) mb M (k+6) T _ hM hS.up ) ?_
 rintro _ T3 hM4
 refine ae 3 [] λ _=>RN.draw [13] [0,1,3,4]<|ag [0,1,3,4] [0,4,8,1,5,9,2,6,10,3,7,11,12] (ow 0 5++[.ro 0])<|RD.one 13 (RDO.ev [0,1,3,4] [.own 2,.own 2,.own 2,.own 2] λ _=>?_)
 refine ag [0,1,3,4] [14] []<|RD.fin<|ae 1 [] λ _=>RN.ret [.own 2,.own 2,.own 2,.own 2] [] [0] (v:=.tuple #[.bool false,.agg #[vI 0,vI 0,vI 0,vI 0],.bool false]) (H':=(ap [] [T3])) ?_
 exact ⟨T3,rfl,hM4.weak (by omega),rfl⟩
theorem KA (g:Gm) (mb:Nat) (M:MemS) (k:Nat) (T F:HL) (hM:MemH mb M (k+20) T) (hS:SetIn F g.S) (hp:M.get 1=5) :Sp Tryz.prog 125 #[.iface 96 (vP mb 0),.agg #[vI g.S.players,vS g.S.bb (g.S.bo * 9) g.S.nb g.S.bc,vI g.S.box.x0,vI g.S.box.y0,vI g.S.box.x1,vI g.S.box.y1,.slice g.S.rA g.S.rn g.S.rc,.slice g.S.dA g.S.dn g.S.dc,vI g.S.fog,vI g.S.g.x,vI g.S.g.y,vI g.S.push,vI g.S.drag,vI g.S.rest,vI g.S.rounds,vI g.S.fuel],.agg #[.slice g.cA g.cn g.cc,vI g.e0,vI g.e1,vI g.e2],vI g.version,vS g.ib (g.io * 3) g.ni g.ic] (ap [] [T]) F (λ u H'=>∃ x,H'=ap [] [x] /\ (MemH mb (dS (g.step M) M) k x /\ u=.tuple #[.bool false,.agg #[vI 0,vI 0,vI 0,vI 0],.bool false])):=by
 refine Sp.run Tryz.func125 rfl mn (A:=[]) (Ts:=[T]) rfl λ w0=>?_
 refine ae 29 (ow 0 8) λ n1=>aj (i0 1 hp hM (aA 0))<|ae 18 [] λ _=>RN.draw [] []<|ag [] [0,1,2,3,4,5,7] (ow 3 16++[.own 2,.own 2,.own 2,.own 2])<|ar [] 6 (λ X_=>(av 2 hM (aR 0)))<|ar [] 8 (λ X_=>(av 3 hM (aR 0)))<|ag [] [9] []<|RD.one 10 (RDO.ev [] [] λ n2=>?_)
 refine ag [] [11] []<|RD.fin<|ae 7 [.own 1] λ _=>RN.ct [0] [0] (BF (g.step M) (n2+0) mb M (k+12) T _ hM hS.up ) ?_
 rintro _ T3 hM4
 refine ae 3 [] λ _=>RN.draw [13] [0,1,3,4]<|ag [0,1,3,4] [0,4,8,1,5,9,2,6,10,3,7,11,12] (ow 0 5++[.ro 0])<|RD.one 13 (RDO.ev [0,1,3,4] [.own 2,.own 2,.own 2,.own 2] λ _=>?_)
 refine ag [0,1,3,4] [14] []<|RD.fin<|ae 1 [] λ _=>RN.ret [.own 2,.own 2,.own 2,.own 2] [] [0] (v:=.tuple #[.bool false,.agg #[vI 0,vI 0,vI 0,vI 0],.bool false]) (H':=(ap [] [T3])) ?_
 exact ⟨T3,rfl,hM4.weak (by omega),rfl⟩
theorem KB (g:Gm) (mb:Nat) (M:MemS) (k:Nat) (T F:HL) (hM:MemH mb M (k+20) T) (hS:SetIn F g.S) (hp:M.get 1=6) (hE:dh F) (hC:CodeIn F g.code g.cA g.cn):Sp Tryz.prog 125 #[.iface 96 (vP mb 0),.agg #[vI g.S.players,vS g.S.bb (g.S.bo * 9) g.S.nb g.S.bc,vI g.S.box.x0,vI g.S.box.y0,vI g.S.box.x1,vI g.S.box.y1,.slice g.S.rA g.S.rn g.S.rc,.slice g.S.dA g.S.dn g.S.dc,vI g.S.fog,vI g.S.g.x,vI g.S.g.y,vI g.S.push,vI g.S.drag,vI g.S.rest,vI g.S.rounds,vI g.S.fuel],.agg #[.slice g.cA g.cn g.cc,vI g.e0,vI g.e1,vI g.e2],vI g.version,vS g.ib (g.io * 3) g.ni g.ic] (ap [] [T]) F (λ u H'=>∃ x,H'=ap [] [x] /\ (MemH mb (eX (g.step M) M).M k x /\ u=.tuple #[.bool false,.agg #[vI ((eX (g.step M) M).e.t),vI ((eX (g.step M) M).e.i),vI ((eX (g.step M) M).e.k),vI ((eX (g.step M) M).e.v)],.bool ((eX (g.step M) M).em)])):=by
 refine Sp.run Tryz.func125 rfl mn (A:=[]) (Ts:=[T]) rfl λ w0=>?_
 refine ae 29 (ow 0 8) λ n1=>aj (i0 1 hp hM (aA 0))<|ae 18 [] λ _=>RN.draw [] []<|ag [] [0,1,2,3,4,5,7] (ow 3 16++[.own 2,.own 2,.own 2,.own 2])<|ar [] 6 (λ X_=>(av 2 hM (aR 0)))<|ar [] 8 (λ X_=>(av 3 hM (aR 0)))<|ag [] [9] []<|RD.one 10 (RDO.ev [] [] λ n2=>?_)
 refine ag [] [11] []<|RD.fin<|ae 7 [.own 1] λ _=>RN.ct [0] [0] (Mt (g.step M) (n2+0) mb M (k+11) T _ hM hS.up (aw hE) hC.up) ?_
 rintro _ T3 hM4
 refine ae 3 [] λ _=>RN.draw [13] [0,1,3,4]<|ag [0,1,3,4] [0,4,8,1,5,9,2,6,10,3,7,11,12] (ow 0 5++[.ro 0])<|RD.one 13 (RDO.ev [0,1,3,4] [.own 2,.own 2,.own 2,.own 2] λ _=>?_)
 refine ag [0,1,3,4] [14] []<|RD.fin<|ae 1 [] λ _=>RN.ret [.own 2,.own 2,.own 2,.own 2] [] [0] (v:=.tuple #[.bool false,.agg #[vI ((eX (g.step M) M).e.t),vI ((eX (g.step M) M).e.i),vI ((eX (g.step M) M).e.k),vI ((eX (g.step M) M).e.v)],.bool ((eX (g.step M) M).em)]) (H':=(ap [] [T3])) ?_
 exact ⟨T3,rfl,hM4.weak (by omega),rfl⟩
theorem KC (g:Gm) (mb:Nat) (M:MemS) (k:Nat) (T F:HL) (hM:MemH mb M (k+20) T) (hS:SetIn F g.S) (hp:M.get 1=7) :Sp Tryz.prog 125 #[.iface 96 (vP mb 0),.agg #[vI g.S.players,vS g.S.bb (g.S.bo * 9) g.S.nb g.S.bc,vI g.S.box.x0,vI g.S.box.y0,vI g.S.box.x1,vI g.S.box.y1,.slice g.S.rA g.S.rn g.S.rc,.slice g.S.dA g.S.dn g.S.dc,vI g.S.fog,vI g.S.g.x,vI g.S.g.y,vI g.S.push,vI g.S.drag,vI g.S.rest,vI g.S.rounds,vI g.S.fuel],.agg #[.slice g.cA g.cn g.cc,vI g.e0,vI g.e1,vI g.e2],vI g.version,vS g.ib (g.io * 3) g.ni g.ic] (ap [] [T]) F (λ u H'=>∃ x,H'=ap [] [x] /\ (MemH mb (du (g.step M) M) k x /\ u=.tuple #[.bool (fy (g.step M)),.agg #[vI 0,vI 0,vI 0,vI 0],.bool false])):=by
 refine Sp.run Tryz.func125 rfl mn (A:=[]) (Ts:=[T]) rfl λ w0=>?_
 refine ae 29 (ow 0 8) λ n1=>aj (i0 1 hp hM (aA 0))<|ae 18 [] λ _=>RN.draw [] []<|ag [] [0,1,2,3,4,5,7] (ow 3 16++[.own 2,.own 2,.own 2,.own 2])<|ar [] 6 (λ X_=>(av 2 hM (aR 0)))<|ar [] 8 (λ X_=>(av 3 hM (aR 0)))<|ag [] [9] []<|RD.one 10 (RDO.ev [] [] λ n2=>?_)
 refine ag [] [11] []<|RD.fin<|ae 7 [.own 1] λ _=>RN.ct [0] [0] (DZ (g.step M) (n2+0) mb M (k+6) T _ hM hS.up ) ?_
 rintro _ T3 hM4
 refine ae 3 [] λ _=>RN.draw [13] [0,1,3,4]<|ag [0,1,3,4] [0,4,8,1,5,9,2,6,10,3,7,11,12] (ow 0 5++[.ro 0])<|RD.one 13 (RDO.ev [0,1,3,4] [.own 2,.own 2,.own 2,.own 2] λ _=>?_)
 refine ag [0,1,3,4] [14] []<|RD.fin<|ae 1 [] λ _=>RN.ret [.own 2,.own 2,.own 2,.own 2] [] [0] (v:=.tuple #[.bool (fy (g.step M)),.agg #[vI 0,vI 0,vI 0,vI 0],.bool false]) (H':=(ap [] [T3])) ?_
 exact ⟨T3,rfl,hM4.weak (by omega),rfl⟩
def vt:Enc Eff:=⟨4,λ p k=>match k with | 0=>vI p.t | 1=>vI p.i | 2=>vI p.k | _=>vI p.v,bx⟩
noncomputable def JE:TypeInfo:=match Tryz.prog.info? 197 with | some i=>i | none=>⟨.bool,"",0,0,false,0,0,none,false,#[]⟩
noncomputable def JF:Value:=match JE.zero with | some z=>z | none=>.bool false
theorem KD:EncOk vt Tryz.prog 197 JE JF where
 info:=by kernel_rfl
 zero:=by kernel_rfl
 size:=by kernel_rfl
 zsize:=by kernel_rfl
 zcell:=λ k hk=>by
  have h:∀ k < 4,JF.cells[k]?=some (vt.cell vt.dflt k):=by intro k hk;(iterate 4 (rcases k with _ | k;· kernel_rfl));omega
  exact h k hk
 one:=λ x k=>by unfold vt;dsimp only;split <;> rfl
 bytes:=Nat.le_of_ble_eq_true (by kernel_rfl)
def eH (g:Gm) (M:MemS):VR:=if M.get 1=0 then ⟨aP (g.step M) M,0,bx,false⟩ else if M.get 1=1 then (eV (g.step M) M) else if M.get 1=2 then (cU (g.step M) M) else if M.get 1=3 then ⟨aQ (g.step M) M,0,bx,false⟩ else if M.get 1=4 then ⟨bP (g.step M) M,0,bx,false⟩ else if M.get 1=5 then ⟨dS (g.step M) M,0,bx,false⟩ else if M.get 1=6 then (eX (g.step M) M) else ⟨du (g.step M) M,0,bx,false⟩
def iU (g:Gm) (M:MemS):Bool:=if M.get 1=7 then fy (g.step M) else false
abbrev kl (g:Gm) (M:MemS):MemS:=(eH g M).M
abbrev D1 (M:MemS):Prop:=0 <= M.get 1 /\ M.get 1 <= 7
structure GmIn (F:HL) (g:Gm):Prop where
 set:SetIn F g.S
 ins:(g.ib,.rows 3 g.iR (kh g.ins) 119 (0,0)) ∈ F
 room:g.io+g.ni <= g.iR /\ g.ni <= 1000000
 eff:dh F
 code:CodeIn F g.code g.cA g.cn
theorem BG (g:Gm) (mb:Nat) (M:MemS) (k:Nat) (T F:HL) (hM:MemH mb M (k+20) T) (hg:GmIn F g) (h0:D1 M) (ver:Int) (hver:g.version=ver):Sp Tryz.prog 125 #[.iface 96 (vP mb 0),.agg #[vI g.S.players,vS g.S.bb (g.S.bo * 9) g.S.nb g.S.bc,vI g.S.box.x0,vI g.S.box.y0,vI g.S.box.x1,vI g.S.box.y1,.slice g.S.rA g.S.rn g.S.rc,.slice g.S.dA g.S.dn g.S.dc,vI g.S.fog,vI g.S.g.x,vI g.S.g.y,vI g.S.push,vI g.S.drag,vI g.S.rest,vI g.S.rounds,vI g.S.fuel],.agg #[.slice g.cA g.cn g.cc,vI g.e0,vI g.e1,vI g.e2],vI ver,vS g.ib (g.io * 3) g.ni g.ic] (ap [] [T]) F (λ u H'=>∃ x,H'=ap [] [x] /\ (MemH mb (kl g M) k x /\ u=.tuple #[.bool (iU g M),.agg #[vI ((eH g M).e.t),vI ((eH g M).e.i),vI ((eH g M).e.k),vI ((eH g M).e.v)],.bool ((eH g M).em)])):=by
 subst hver
 by_cases h0:M.get 1=0
 ·rw [kl,show eH g M=⟨aP (g.step M) M,0,bx,false⟩ by simp only [eH,if_pos h0],show iU g M=false by simp [iU,h0]]
  exact Kw g mb M k T F hM hg.set h0 hg.ins hg.room
 by_cases h1:M.get 1=1
 ·rw [kl,show eH g M=(eV (g.step M) M) by simp only [eH,if_neg h0,if_pos h1],show iU g M=false by simp [iU,h1]]
  exact Kx g mb M k T F hM hg.set h1 hg.eff hg.code
 by_cases h2:M.get 1=2
 ·rw [kl,show eH g M=(cU (g.step M) M) by simp only [eH,if_neg h0,if_neg h1,if_pos h2],show iU g M=false by simp [iU,h2]]
  exact trans2 g mb M k T F hM hg.set h2 hg.eff hg.code
 by_cases h3:M.get 1=3
 ·rw [kl,show eH g M=⟨aQ (g.step M) M,0,bx,false⟩ by simp only [eH,if_neg h0,if_neg h1,if_neg h2,if_pos h3],show iU g M=false by simp [iU,h3]]
  exact Ky g mb M k T F hM hg.set h3
 by_cases h4:M.get 1=4
 ·rw [kl,show eH g M=⟨bP (g.step M) M,0,bx,false⟩ by simp only [eH,if_neg h0,if_neg h1,if_neg h2,if_neg h3,if_pos h4],show iU g M=false by simp [iU,h4]]
  exact Kz g mb M k T F hM hg.set h4
 by_cases h5:M.get 1=5
 ·rw [kl,show eH g M=⟨dS (g.step M) M,0,bx,false⟩ by simp only [eH,if_neg h0,if_neg h1,if_neg h2,if_neg h3,if_neg h4,if_pos h5],show iU g M=false by simp [iU,h5]]
  exact KA g mb M k T F hM hg.set h5
 by_cases h6:M.get 1=6
 ·rw [kl,show eH g M=(eX (g.step M) M) by simp only [eH,if_neg h0,if_neg h1,if_neg h2,if_neg h3,if_neg h4,if_neg h5,if_pos h6],show iU g M=false by simp [iU,h6]]
  exact KB g mb M k T F hM hg.set h6 hg.eff hg.code
 have h7:M.get 1=7:=by omega
 rw [kl,show eH g M=⟨du (g.step M) M,0,bx,false⟩ by simp only [eH,if_neg h0,if_neg h1,if_neg h2,if_neg h3,if_neg h4,if_neg h5,if_neg h6],show iU g M=fy (g.step M) by simp [iU,h7]]
 exact KC g mb M k T F hM hg.set h7
def fU (g:Gm):Nat -> MemS -> MemS
 | 0,M=>M
 | n+1,M=>fU g n (kl g M)
def fA (g:Gm):Nat -> MemS -> List Eff
 | 0,_=>[]
 | n+1,M=>(if (eH g M).em=true then [(eH g M).e] else [])++fA g n (kl g M)
def dG (g:Gm):Nat -> MemS -> Prop
 | 0,_=>False
 | n+1,M=>D1 M /\ ((n=0 /\ iU g M=true) \/ (iU g M=false /\ dG g n (kl g M)))
theorem sx {g:Gm} {n:Nat} {M:MemS} (h:(eH g M).em=true):fA g (n+1) M=(eH g M).e :: fA g n (kl g M):=by rw [fA,if_pos h];rfl
theorem nh {g:Gm} {n:Nat} {M:MemS} (h:¬ (eH g M).em=true):fA g (n+1) M=fA g n (kl g M):=by rw [fA,if_neg h];rfl
def Shp.nm (s:Shp):Shp:=⟨s.r,s.poly,none,0⟩
def Bod.nm (b:Bod):Bod:=⟨b.sh.nm,b.mot,b.a,b.b⟩
def Setup.nm (S:Setup):Setup:={ S with bb:=0,bo:=0,bc:=0,bR:=0,bods:=(S.bods.drop S.bo).map Bod.nm,rA:=none,rc:=0,dA:=none,dc:=0 }
def Stp.nm (t:Stp):Stp:={ t with S:=t.S.nm,cA:=none,cc:=0,ib:=0,io:=0,ic:=0,iR:=0,ins:=[] }
theorem BI {α:Type} (l:List α) (o k:Nat) (d:α):(l.drop o).getD (0+k) d=l.getD (o+k) d:=by
 rw [Nat.zero_add,List.getD_eq_getElem?_getD,List.getD_eq_getElem?_getD,List.getElem?_drop]
theorem D2 {α β:Type} (f:α -> β) (l:List α) (k:Nat) (d:α):(l.map f).getD k (f d)=f (l.getD k d):=by
 rw [List.getD_eq_getElem?_getD,List.getD_eq_getElem?_getD,List.getElem?_map]
 cases l[k]? <;> rfl
theorem pG (S:Setup) (k:Nat):S.nm.body k=(S.body k).nm:=by
 show ((S.bods.drop S.bo).map Bod.nm).getD (0+k) dB=Bod.nm (S.bods.getD (S.bo+k) dB)
 rw [<- BI S.bods S.bo k dB]
 exact D2 Bod.nm _ _ dB
theorem jU (S:Setup):S.nm.players=S.players:=rfl
theorem gS (S:Setup):S.nm.nb=S.nb:=rfl
theorem D3 (S:Setup):S.nm.box=S.box:=rfl
theorem KE (S:Setup):S.nm.g=S.g:=rfl
theorem BJ (S:Setup):S.nm.push=S.push:=rfl
theorem BK (S:Setup):S.nm.drag=S.drag:=rfl
theorem sy (S:Setup):S.nm.rest=S.rest:=rfl
theorem vu (S:Setup):S.nm.rounds=S.rounds:=rfl
theorem sA (S:Setup):S.nm.fuel=S.fuel:=rfl
theorem zH (t:Stp):t.nm.cn=t.cn:=rfl
theorem zI (t:Stp):t.nm.e0=t.e0:=rfl
theorem HQ (t:Stp):t.nm.e1=t.e1:=rfl
theorem zJ (t:Stp):t.nm.e2=t.e2:=rfl
theorem t2 (t:Stp):t.nm.version=t.version:=rfl
theorem da (t:Stp):t.nm.i=t.i:=rfl
theorem gF (t:Stp):t.nm.j=t.j:=rfl
theorem xY (t:Stp):t.nm.ended=t.ended:=rfl
theorem pH (t:Stp):t.nm.f0=t.f0:=rfl
theorem pI (t:Stp):t.nm.f1=t.f1:=rfl
theorem pJ (t:Stp):t.nm.f2=t.f2:=rfl
theorem pK (t:Stp):t.nm.f3=t.f3:=rfl
theorem gT (t:Stp):t.nm.emitted=t.emitted:=rfl
theorem oa (t:Stp):t.nm.code=t.code:=rfl
theorem bE (t:Stp):t.nm.S=t.S.nm:=rfl
theorem zK (b:Bod):b.nm.sh=b.sh.nm:=rfl
theorem vv (b:Bod):b.nm.mot=b.mot:=rfl
theorem KF (s:Shp):s.nm.r=s.r:=rfl
theorem i7 (S:Setup) (k:Int) :ah S.nm k=ah S k:=by
 unfold ah
 simp only [jU,bE] <;> rfl
theorem eY (S:Setup) (k:Int) :af S.nm k=af S k:=by
 unfold af
 simp only [jU,gS,bE] <;> rfl
theorem t6 (S:Setup) (k:Int) :(movP S.nm k)=(movP S k):=by
 unfold movP
 simp only [gS,bE,vv,pG] <;> rfl
theorem nj (S:Setup) (M:MemS) (k:Int) :aq S.nm M k=aq S M k:=by
 unfold aq
 simp only [bE,vv,pG,eY] <;> rfl
theorem vw (a:Shp) (pa:V2) (b:Shp) (pb:V2) :cr a.nm pa b.nm pb=cr a pa b pb:=by
 kernel_rfl
theorem D4 (a:Shp) (pa va:V2) (b:Shp) (pb vb:V2) :lV a.nm pa va b.nm pb vb=lV a pa va b pb vb:=by
 kernel_rfl
theorem xZ (t:Stp) (k:Int) (m:Mot) (M:MemS) :dF t.nm k m M=dF t k m M:=by
 unfold dF
 simp only [bE,eY] <;> rfl
theorem BL (t:Stp) (c sp pos lo hi:Int) (M:MemS) :d8 t.nm c sp pos lo hi M=d8 t c sp pos lo hi M:=by
 unfold d8
 simp only [sy,bE] <;> rfl
theorem sB (t:Stp) (M:MemS) :bm t.nm M=bm t M:=by
 unfold bm
 simp only [t2,da,bE] <;> rfl
theorem sC (t:Stp) (M:MemS) :bW t.nm M=bW t M:=by
 unfold bW
 simp only [jU,da,bE] <;> rfl
theorem vz (t:Stp) :fy t.nm=fy t:=by
 unfold fy
 simp only [gS,da,xY,bE] <;> rfl
theorem D5 (t:Stp) (M:MemS) :fR t.nm M=fR t M:=by
 unfold fR
 simp only [da,bE,eY] <;> rfl
theorem D6 (t:Stp) (M:MemS) :gL t.nm M=gL t M:=by
 unfold gL
 simp only [gS,da,bE] <;> rfl
theorem vA (t:Stp) (M:MemS) :du t.nm M=du t M:=by
 unfold du
 simp only [bE,D5,D6] <;> rfl
theorem BM (t:Stp) (M:MemS) :bX t.nm M=bX t M:=by
 unfold bX
 simp only [KE,BJ,BK,da,bE,i7,nj] <;> rfl
theorem BN (t:Stp) (M:MemS) :bH t.nm M=bH t M:=by
 unfold bH
 simp only [da,bE,eY] <;> rfl
theorem BO (t:Stp) (M:MemS) :bJ t.nm M=bJ t M:=by
 unfold bJ
 simp only [da,bE,eY,t6,BM] <;> rfl
theorem BP (t:Stp) (M:MemS) :bZ t.nm M=bZ t M:=by
 unfold bZ
 simp only [gS,da,bE] <;> rfl
theorem sD (t:Stp) (M:MemS) :aQ t.nm M=aQ t M:=by
 unfold aQ
 simp only [bE,BN,BO,BP] <;> rfl
theorem ya (t:Stp) (M:MemS) :ge t.nm M=ge t M:=by
 unfold ge
 simp only [da,bE,nj] <;> rfl
theorem yb (t:Stp) (M:MemS) :cZ t.nm M=cZ t M:=by
 unfold cZ
 simp only [D3,da,bE,eY,BL,ya] <;> rfl
theorem D7 (S:Setup) (op n a b:Int) (M:MemS) :aE S.nm op n a b M=aE S op n a b M:=by
 unfold aE
 simp only [bE,eY] <;> rfl
theorem D8 (S:Setup) (op n sp pc fuel:Int) (M:MemS) :bV S.nm op n sp pc fuel M=bV S op n sp pc fuel M:=by
 unfold bV
 simp only [sA,bE,D7] <;> rfl
theorem D9 (S:Setup) (code:List Ins) (n:Nat) (M:MemS) :al S.nm code n M=al S code n M:=by
 unfold al
 simp only [oa,bE,D8] <;> rfl
theorem t7 (e:Int) (t:Stp) (self other:Int) (M:MemS) :eG e t.nm self other M=eG e t self other M:=by
 unfold eG
 simp only [sA,zH,gF,gT,oa,bE,D9,pH,pI,pJ,pK] <;> rfl
theorem t8 (e:Int) (t:Stp) (self other:Int) (M:MemS) :dj e t.nm self other M=dj e t self other M:=by
 unfold dj
 simp only [zH,gF,oa,bE] <;> rfl
theorem vB (r:VR) (over:Bool) (t:Stp) (cause:Bool) (M:MemS) :dw r over t.nm cause M=dw r over t cause M:=by
 unfold dw
 simp only [da,gF,gT,bE,KF,pH,pI,pJ,pK] <;> rfl
theorem zL (t:Stp) (M:MemS) :eV t.nm M=eV t M:=by
 unfold eV
 simp only [da,gT,bE,i7,pH,pI,pJ,pK,zI,zJ,t7,t8,vB] <;> rfl
theorem vC (t:Stp) (M:MemS) :cU t.nm M=cU t M:=by
 unfold cU
 simp only [bE,HQ,da,gF,t7,t8] <;> rfl
theorem zM (t:Stp) (M:MemS) :eX t.nm M=eX t M:=by
 unfold eX
 simp only [da,gT,bE,eY,pH,pI,pJ,pK,zI,zJ,t7,t8,vB] <;> rfl
theorem zN (t:Stp) (M:MemS) :rO t.nm M=rO t M:=by
 unfold rO
 simp only [da,gF,bE,zK,pG,nj,vw] <;> rfl
theorem HS (t:Stp) (M:MemS) :vq t.nm M=vq t M:=by
 unfold vq
 simp only [sy,da,gF,bE,nj,zN] <;> rfl
theorem vD (t:Stp) (M:MemS) :gu t.nm M=gu t M:=by
 unfold gu
 simp only [da,gF,bE,eY,xZ,HS] <;> rfl
theorem BQ (t:Stp) (M:MemS) :dL t.nm M=dL t M:=by
 unfold dL
 simp only [gS,da,gF,bE,zN,vD] <;> rfl
theorem HT (t:Stp) (M:MemS) :rP t.nm M=rP t M:=by
 unfold rP
 simp only [da,gF,bE,zK,pG,nj,D4] <;> rfl
theorem Ea (t:Stp) (M:MemS) :eO t.nm M=eO t M:=by
 unfold eO
 simp only [da,gF,bE,t6,HT] <;> rfl
theorem Eb (t:Stp) (M:MemS) :fJ t.nm M=fJ t M:=by
 unfold fJ
 simp only [gS,da,bE] <;> rfl
theorem vE (t:Stp) (M:MemS) :dS t.nm M=dS t M:=by
 unfold dS
 simp only [gS,da,gF,bE,t6,yb,Ea,Eb] <;> rfl
theorem pd (t:Stp) (M:MemS) :bP t.nm M=bP t M:=by
 unfold bP
 simp only [gS,vu,da,gF,bE,BQ] <;> rfl
def Gm.nm (g:Gm):Gm:={ g with S:=g.S.nm,cA:=none,cc:=0,ib:=0,io:=0,ic:=0,iR:=0,ins:=[] }
theorem lr (g:Gm) (M:MemS):g.nm.step M=(g.step M).nm:=rfl
structure GEq (g g':Gm):Prop where
 nm:g.nm=g'.nm
 inp:∀ k,k < g.ni -> g.ins.getD (g.io+k) dI=g'.ins.getD (g'.io+k) dI
theorem BR {g g':Gm} (h:GEq g g') (M:MemS):aP (g.step M) M=aP (g'.step M) M:=by
 have hs:(g.step M).nm=(g'.step M).nm:=by rw [<- lr,<- lr,h.nm]
 unfold aP
 rw [<- sB (g.step M),hs,sB]
 generalize bm (g'.step M) M=N
 have hb:bB (g.step M) N=bB (g'.step M) N:=by
  have hS:(g.step M).S.nm=(g'.step M).S.nm:=show (g.step M).nm.S=(g'.step M).nm.S by rw [hs]
  have hi:(g.step M).i=(g'.step M).i:=show (g.step M).nm.i=(g'.step M).nm.i by rw [hs]
  have hn:(g.step M).ni=(g'.step M).ni:=show (g.step M).nm.ni=(g'.step M).nm.ni by rw [hs]
  unfold bB
  rw [<- i7 (g.step M).S,hS,i7,hi,hn]
  by_cases h1:ah (g'.step M).S (g'.step M).i >= 0
  ·rw [if_pos h1,if_pos h1]
   by_cases h2:(g'.step M).i < (g'.step M).ni
   ·rw [if_pos h2,if_pos h2]
    have h3:0 <= (g'.step M).i:=by
     rcases Int.lt_or_le (g'.step M).i 0 with h4 | h4
     ·unfold ah at h1;rw [if_pos h4] at h1;omega
     ·exact h4
    have e:(g.step M).inp (g'.step M).i.toNat=(g'.step M).inp (g'.step M).i.toNat:=by
     have h5:(g'.step M).i.toNat < g.ni:=by
      have h6:((g'.step M).ni:Int)=(g.ni:Int):=congrArg (Nat.cast) hn.symm
      omega
     exact h.inp _ h5
    rw [e]
   ·rw [if_neg h2,if_neg h2]
  ·rw [if_neg h1,if_neg h1]
 rw [hb,<- sC (g.step M),hs,sC]
theorem yc {g g':Gm} (h:GEq g g') (M:MemS):eH g M=eH g' M:=by
 have hs:(g.step M).nm=(g'.step M).nm:=by rw [<- lr,<- lr,h.nm]
 unfold eH
 rw [BR h,<- zL (g.step M),<- vC (g.step M),<- sD (g.step M),<- pd (g.step M),<- vE (g.step M),<- zM (g.step M),<- vA (g.step M),hs,zL,vC,sD,pd,vE,zM,vA]
theorem Ec {g g':Gm} (h:GEq g g') (M:MemS):iU g M=iU g' M:=by
 have hs:(g.step M).nm=(g'.step M).nm:=by rw [<- lr,<- lr,h.nm]
 unfold iU
 rw [<- vz (g.step M),hs,vz]
theorem zO {g g':Gm} (h:GEq g g'):∀ (n:Nat) (M:MemS),fU g n M=fU g' n M
 | 0,_=>rfl
 | n+1,M=>by rw [fU,fU,kl,kl,yc h];exact zO h n _
end Go.Proofs.YtgdcbiiopbpgaaaGreatDoor
