import Derived.Test.YtobflkidpfkcaaaGreatDoorY09
import Derived.Test.YtobflkidpfkcaaaGreatDoorY11
set_option maxHeartbeats 4000000
set_option maxRecDepth 100000
set_option linter.unusedSimpArgs false
set_option linter.unusedVariables false
namespace Go.Proofs.YtobflkidpfkcaaaGreatDoor
open Go.RowKit
structure Gm where
 S:Setup
 cA:Option Addr
 cn:Nat
 cc:Nat
 e0:Int
 e1:Int
 e2:Int
 version:Int
 ib:Nat
 io:Nat
 ni:Nat
 ic:Nat
 iR:Nat
 ins:List Inp
 code:List Ins
abbrev Gm.step (g:Gm) (M:MemS):Stp:=⟨g.S,g.cA,g.cn,g.cc,g.e0,g.e1,g.e2,g.version,g.ib,g.io,g.ni,g.ic,g.iR,g.ins,M.get 2,M.get 3,false,0,0,0,0,false,g.code⟩
theorem KL (g:Gm) (mb:Nat) (M:MemS) (k:Nat) (T F:HL) (hM:MemH mb M (k+20) T) (hS:SetIn F g.S) (hp:M.get 1=0) (hI:InB F g.ib g.iR g.ni λ k=>g.ins.getD (g.io+k) dI) (hir:g.ni <= 1000000):Sp Tryz.prog 118 #[.iface 114 (vP mb 0),.agg #[vI g.S.players,vS g.S.bb (g.S.bo * 9) g.S.nb g.S.bc,vI g.S.box.x0,vI g.S.box.y0,vI g.S.box.x1,vI g.S.box.y1,.slice g.S.rA g.S.rn g.S.rc,.slice g.S.dA g.S.dn g.S.dc,vI g.S.fog,vI g.S.g.x,vI g.S.g.y,vI g.S.push,vI g.S.drag,vI g.S.rest,vI g.S.rounds,vI g.S.fuel],.agg #[.slice g.cA g.cn g.cc,vI g.e0,vI g.e1,vI g.e2],vI g.version,vS g.ib g.iR g.ni g.ic] (ap [] [T]) F (λ u H'=>∃ x,H'=ap [] [x] /\ (MemH mb (aQ (g.step M) M) k x /\ u=.tuple #[.bool false,.agg #[vI 0,vI 0,vI 0,vI 0],.bool false])):=by
 refine Sp.run Tryz.func118 rfl mn (A:=[]) (Ts:=[T]) rfl λ w0=>?_
 refine ae 29 (ow 0 8) λ n1=>aj (i2 1 hp hM (av 0))<|ae 18 [] λ _=>RN.draw [] []<|ag [] [0,1,2,3,4,5,7] (ow 3 16++[.own 2,.own 2,.own 2,.own 2])<|au [] 6 (λ X_=>(az 2 hM (aU 0)))<|au [] 8 (λ X_=>(az 3 hM (aU 0)))<|ag [] [9] []<|RD.one 10 (RDO.ev [] [] λ n2=>?_)
 refine ag [] [11] []<|RD.fin<|ae 7 [.own 1] λ _=>RN.ct [0] [0] (BI (g.step M) (n2+0) mb M (k+12) T _ hM hS.up hI.up hir) ?_
 rintro _ T3 hM4
 refine ae 3 [] λ _=>RN.draw [13] [0,1,3,4]<|ag [0,1,3,4] [0,4,8,1,5,9,2,6,10,3,7,11,12] (ow 0 5++[.ro 0])<|RD.one 13 (RDO.ev [0,1,3,4] [.own 2,.own 2,.own 2,.own 2] λ _=>?_)
 refine ag [0,1,3,4] [14] []<|RD.fin<|ae 1 [] λ _=>RN.ret [.own 2,.own 2,.own 2,.own 2] [] [0] (v:=.tuple #[.bool false,.agg #[vI 0,vI 0,vI 0,vI 0],.bool false]) (H':=(ap [] [T3])) ?_
 exact ⟨T3,rfl,hM4.weak (by omega),rfl⟩
theorem KM (g:Gm) (mb:Nat) (M:MemS) (k:Nat) (T F:HL) (hM:MemH mb M (k+20) T) (hS:SetIn F g.S) (hp:M.get 1=1) (hE:¬ M.get 3=0 -> dg F) (hC:CodeIn F g.code g.cA g.cn):Sp Tryz.prog 118 #[.iface 114 (vP mb 0),.agg #[vI g.S.players,vS g.S.bb (g.S.bo * 9) g.S.nb g.S.bc,vI g.S.box.x0,vI g.S.box.y0,vI g.S.box.x1,vI g.S.box.y1,.slice g.S.rA g.S.rn g.S.rc,.slice g.S.dA g.S.dn g.S.dc,vI g.S.fog,vI g.S.g.x,vI g.S.g.y,vI g.S.push,vI g.S.drag,vI g.S.rest,vI g.S.rounds,vI g.S.fuel],.agg #[.slice g.cA g.cn g.cc,vI g.e0,vI g.e1,vI g.e2],vI g.version,vS g.ib g.iR g.ni g.ic] (ap [] [T]) F (λ u H'=>∃ x,H'=ap [] [x] /\ (MemH mb (eT (g.step M) M).M k x /\ u=.tuple #[.bool false,.agg #[vI ((eT (g.step M) M).e.t),vI ((eT (g.step M) M).e.i),vI ((eT (g.step M) M).e.k),vI ((eT (g.step M) M).e.v)],.bool ((eT (g.step M) M).em)])):=by
 refine Sp.run Tryz.func118 rfl mn (A:=[]) (Ts:=[T]) rfl λ w0=>?_
 refine ae 29 (ow 0 8) λ n1=>aj (i2 1 hp hM (av 0))<|ae 18 [] λ _=>RN.draw [] []<|ag [] [0,1,2,3,4,5,7] (ow 3 16++[.own 2,.own 2,.own 2,.own 2])<|au [] 6 (λ X_=>(az 2 hM (aU 0)))<|au [] 8 (λ X_=>(az 3 hM (aU 0)))<|ag [] [9] []<|RD.one 10 (RDO.ev [] [] λ n2=>?_)
 refine ag [] [11] []<|RD.fin<|ae 7 [.own 1] λ _=>RN.ct [0] [0] (ML (g.step M) (n2+0) mb M (k+11) T _ hM hS.up (λ h_=>aw (hE h_)) hC.up) ?_
 rintro _ T3 hM4
 refine ae 3 [] λ _=>RN.draw [13] [0,1,3,4]<|ag [0,1,3,4] [0,4,8,1,5,9,2,6,10,3,7,11,12] (ow 0 5++[.ro 0])<|RD.one 13 (RDO.ev [0,1,3,4] [.own 2,.own 2,.own 2,.own 2] λ _=>?_)
 refine ag [0,1,3,4] [14] []<|RD.fin<|ae 1 [] λ _=>RN.ret [.own 2,.own 2,.own 2,.own 2] [] [0] (v:=.tuple #[.bool false,.agg #[vI ((eT (g.step M) M).e.t),vI ((eT (g.step M) M).e.i),vI ((eT (g.step M) M).e.k),vI ((eT (g.step M) M).e.v)],.bool ((eT (g.step M) M).em)]) (H':=(ap [] [T3])) ?_
 exact ⟨T3,rfl,hM4.weak (by omega),rfl⟩
theorem trans2 (g:Gm) (mb:Nat) (M:MemS) (k:Nat) (T F:HL) (hM:MemH mb M (k+20) T) (hS:SetIn F g.S) (hp:M.get 1=2) (hE:¬ M.get 3=0 -> dg F) (hC:CodeIn F g.code g.cA g.cn):Sp Tryz.prog 118 #[.iface 114 (vP mb 0),.agg #[vI g.S.players,vS g.S.bb (g.S.bo * 9) g.S.nb g.S.bc,vI g.S.box.x0,vI g.S.box.y0,vI g.S.box.x1,vI g.S.box.y1,.slice g.S.rA g.S.rn g.S.rc,.slice g.S.dA g.S.dn g.S.dc,vI g.S.fog,vI g.S.g.x,vI g.S.g.y,vI g.S.push,vI g.S.drag,vI g.S.rest,vI g.S.rounds,vI g.S.fuel],.agg #[.slice g.cA g.cn g.cc,vI g.e0,vI g.e1,vI g.e2],vI g.version,vS g.ib g.iR g.ni g.ic] (ap [] [T]) F (λ u H'=>∃ x,H'=ap [] [x] /\ (MemH mb (cU (g.step M) M).M k x /\ u=.tuple #[.bool false,.agg #[vI ((cU (g.step M) M).e.t),vI ((cU (g.step M) M).e.i),vI ((cU (g.step M) M).e.k),vI ((cU (g.step M) M).e.v)],.bool ((cU (g.step M) M).em)])):=by
 refine Sp.run Tryz.func118 rfl mn (A:=[]) (Ts:=[T]) rfl λ w0=>?_
 refine ae 29 (ow 0 8) λ n1=>aj (i2 1 hp hM (av 0))<|ae 18 [] λ _=>RN.draw [] []<|ag [] [0,1,2,3,4,5,7] (ow 3 16++[.own 2,.own 2,.own 2,.own 2])<|au [] 6 (λ X_=>(az 2 hM (aU 0)))<|au [] 8 (λ X_=>(az 3 hM (aU 0)))<|ag [] [9] []<|RD.one 10 (RDO.ev [] [] λ n2=>?_)
 refine ag [] [11] []<|RD.fin<|ae 7 [.own 1] λ _=>RN.ct [0] [0] (KJ (g.step M) (n2+0) mb M (k+11) T _ hM hS.up (λ h_=>aw (hE h_)) hC.up) ?_
 rintro _ T3 hM4
 refine ae 3 [] λ _=>RN.draw [13] [0,1,3,4]<|ag [0,1,3,4] [0,4,8,1,5,9,2,6,10,3,7,11,12] (ow 0 5++[.ro 0])<|RD.one 13 (RDO.ev [0,1,3,4] [.own 2,.own 2,.own 2,.own 2] λ _=>?_)
 refine ag [0,1,3,4] [14] []<|RD.fin<|ae 1 [] λ _=>RN.ret [.own 2,.own 2,.own 2,.own 2] [] [0] (v:=.tuple #[.bool false,.agg #[vI ((cU (g.step M) M).e.t),vI ((cU (g.step M) M).e.i),vI ((cU (g.step M) M).e.k),vI ((cU (g.step M) M).e.v)],.bool ((cU (g.step M) M).em)]) (H':=(ap [] [T3])) ?_
 exact ⟨T3,rfl,hM4.weak (by omega),rfl⟩
theorem KN (g:Gm) (mb:Nat) (M:MemS) (k:Nat) (T F:HL) (hM:MemH mb M (k+20) T) (hS:SetIn F g.S) (hp:M.get 1=3) :Sp Tryz.prog 118 #[.iface 114 (vP mb 0),.agg #[vI g.S.players,vS g.S.bb (g.S.bo * 9) g.S.nb g.S.bc,vI g.S.box.x0,vI g.S.box.y0,vI g.S.box.x1,vI g.S.box.y1,.slice g.S.rA g.S.rn g.S.rc,.slice g.S.dA g.S.dn g.S.dc,vI g.S.fog,vI g.S.g.x,vI g.S.g.y,vI g.S.push,vI g.S.drag,vI g.S.rest,vI g.S.rounds,vI g.S.fuel],.agg #[.slice g.cA g.cn g.cc,vI g.e0,vI g.e1,vI g.e2],vI g.version,vS g.ib g.iR g.ni g.ic] (ap [] [T]) F (λ u H'=>∃ x,H'=ap [] [x] /\ (MemH mb (aR (g.step M) M) k x /\ u=.tuple #[.bool false,.agg #[vI 0,vI 0,vI 0,vI 0],.bool false])):=by
 refine Sp.run Tryz.func118 rfl mn (A:=[]) (Ts:=[T]) rfl λ w0=>?_
 refine ae 29 (ow 0 8) λ n1=>aj (i2 1 hp hM (av 0))<|ae 18 [] λ _=>RN.draw [] []<|ag [] [0,1,2,3,4,5,7] (ow 3 16++[.own 2,.own 2,.own 2,.own 2])<|au [] 6 (λ X_=>(az 2 hM (aU 0)))<|au [] 8 (λ X_=>(az 3 hM (aU 0)))<|ag [] [9] []<|RD.one 10 (RDO.ev [] [] λ n2=>?_)
 refine ag [] [11] []<|RD.fin<|ae 7 [.own 1] λ _=>RN.ct [0] [0] (BJ (g.step M) (n2+0) mb M (k+12) T _ hM hS.up ) ?_
 rintro _ T3 hM4
 refine ae 3 [] λ _=>RN.draw [13] [0,1,3,4]<|ag [0,1,3,4] [0,4,8,1,5,9,2,6,10,3,7,11,12] (ow 0 5++[.ro 0])<|RD.one 13 (RDO.ev [0,1,3,4] [.own 2,.own 2,.own 2,.own 2] λ _=>?_)
 refine ag [0,1,3,4] [14] []<|RD.fin<|ae 1 [] λ _=>RN.ret [.own 2,.own 2,.own 2,.own 2] [] [0] (v:=.tuple #[.bool false,.agg #[vI 0,vI 0,vI 0,vI 0],.bool false]) (H':=(ap [] [T3])) ?_
 exact ⟨T3,rfl,hM4.weak (by omega),rfl⟩
theorem KO (g:Gm) (mb:Nat) (M:MemS) (k:Nat) (T F:HL) (hM:MemH mb M (k+20) T) (hS:SetIn F g.S) (hp:M.get 1=4) :Sp Tryz.prog 118 #[.iface 114 (vP mb 0),.agg #[vI g.S.players,vS g.S.bb (g.S.bo * 9) g.S.nb g.S.bc,vI g.S.box.x0,vI g.S.box.y0,vI g.S.box.x1,vI g.S.box.y1,.slice g.S.rA g.S.rn g.S.rc,.slice g.S.dA g.S.dn g.S.dc,vI g.S.fog,vI g.S.g.x,vI g.S.g.y,vI g.S.push,vI g.S.drag,vI g.S.rest,vI g.S.rounds,vI g.S.fuel],.agg #[.slice g.cA g.cn g.cc,vI g.e0,vI g.e1,vI g.e2],vI g.version,vS g.ib g.iR g.ni g.ic] (ap [] [T]) F (λ u H'=>∃ x,H'=ap [] [x] /\ (MemH mb (bS (g.step M) M) k x /\ u=.tuple #[.bool false,.agg #[vI 0,vI 0,vI 0,vI 0],.bool false])):=by
 refine Sp.run Tryz.func118 rfl mn (A:=[]) (Ts:=[T]) rfl λ w0=>?_
 refine ae 29 (ow 0 8) λ n1=>aj (i2 1 hp hM (av 0))<|ae 18 [] λ _=>RN.draw [] []<|ag [] [0,1,2,3,4,5,7] (ow 3 16++[.own 2,.own 2,.own 2,.own 2])<|au [] 6 (λ X_=>(az 2 hM (aU 0)))<|au [] 8 (λ X_=>(az 3 hM (aU 0)))<|ag [] [9] []<|RD.one 10 (RDO.ev [] [] λ n2=>?_)
 refine ag [] [11] []<|RD.fin<|ae 7 [.own 1] λ _=>RN.ct [0] [0] (tV (g.step M) (n2+0) mb M (k+6) T _ hM hS.up ) ?_
 rintro _ T3 hM4
 refine ae 3 [] λ _=>RN.draw [13] [0,1,3,4]<|ag [0,1,3,4] [0,4,8,1,5,9,2,6,10,3,7,11,12] (ow 0 5++[.ro 0])<|RD.one 13 (RDO.ev [0,1,3,4] [.own 2,.own 2,.own 2,.own 2] λ _=>?_)
 refine ag [0,1,3,4] [14] []<|RD.fin<|ae 1 [] λ _=>RN.ret [.own 2,.own 2,.own 2,.own 2] [] [0] (v:=.tuple #[.bool false,.agg #[vI 0,vI 0,vI 0,vI 0],.bool false]) (H':=(ap [] [T3])) ?_
 exact ⟨T3,rfl,hM4.weak (by omega),rfl⟩
theorem KP (g:Gm) (mb:Nat) (M:MemS) (k:Nat) (T F:HL) (hM:MemH mb M (k+20) T) (hS:SetIn F g.S) (hp:M.get 1=5) :Sp Tryz.prog 118 #[.iface 114 (vP mb 0),.agg #[vI g.S.players,vS g.S.bb (g.S.bo * 9) g.S.nb g.S.bc,vI g.S.box.x0,vI g.S.box.y0,vI g.S.box.x1,vI g.S.box.y1,.slice g.S.rA g.S.rn g.S.rc,.slice g.S.dA g.S.dn g.S.dc,vI g.S.fog,vI g.S.g.x,vI g.S.g.y,vI g.S.push,vI g.S.drag,vI g.S.rest,vI g.S.rounds,vI g.S.fuel],.agg #[.slice g.cA g.cn g.cc,vI g.e0,vI g.e1,vI g.e2],vI g.version,vS g.ib g.iR g.ni g.ic] (ap [] [T]) F (λ u H'=>∃ x,H'=ap [] [x] /\ (MemH mb (dS (g.step M) M) k x /\ u=.tuple #[.bool false,.agg #[vI 0,vI 0,vI 0,vI 0],.bool false])):=by
 refine Sp.run Tryz.func118 rfl mn (A:=[]) (Ts:=[T]) rfl λ w0=>?_
 refine ae 29 (ow 0 8) λ n1=>aj (i2 1 hp hM (av 0))<|ae 18 [] λ _=>RN.draw [] []<|ag [] [0,1,2,3,4,5,7] (ow 3 16++[.own 2,.own 2,.own 2,.own 2])<|au [] 6 (λ X_=>(az 2 hM (aU 0)))<|au [] 8 (λ X_=>(az 3 hM (aU 0)))<|ag [] [9] []<|RD.one 10 (RDO.ev [] [] λ n2=>?_)
 refine ag [] [11] []<|RD.fin<|ae 7 [.own 1] λ _=>RN.ct [0] [0] (BT (g.step M) (n2+0) mb M (k+12) T _ hM hS.up ) ?_
 rintro _ T3 hM4
 refine ae 3 [] λ _=>RN.draw [13] [0,1,3,4]<|ag [0,1,3,4] [0,4,8,1,5,9,2,6,10,3,7,11,12] (ow 0 5++[.ro 0])<|RD.one 13 (RDO.ev [0,1,3,4] [.own 2,.own 2,.own 2,.own 2] λ _=>?_)
 refine ag [0,1,3,4] [14] []<|RD.fin<|ae 1 [] λ _=>RN.ret [.own 2,.own 2,.own 2,.own 2] [] [0] (v:=.tuple #[.bool false,.agg #[vI 0,vI 0,vI 0,vI 0],.bool false]) (H':=(ap [] [T3])) ?_
 exact ⟨T3,rfl,hM4.weak (by omega),rfl⟩
theorem KQ (g:Gm) (mb:Nat) (M:MemS) (k:Nat) (T F:HL) (hM:MemH mb M (k+20) T) (hS:SetIn F g.S) (hp:M.get 1=6) (hE:¬ M.get 3=0 -> dg F) (hC:CodeIn F g.code g.cA g.cn):Sp Tryz.prog 118 #[.iface 114 (vP mb 0),.agg #[vI g.S.players,vS g.S.bb (g.S.bo * 9) g.S.nb g.S.bc,vI g.S.box.x0,vI g.S.box.y0,vI g.S.box.x1,vI g.S.box.y1,.slice g.S.rA g.S.rn g.S.rc,.slice g.S.dA g.S.dn g.S.dc,vI g.S.fog,vI g.S.g.x,vI g.S.g.y,vI g.S.push,vI g.S.drag,vI g.S.rest,vI g.S.rounds,vI g.S.fuel],.agg #[.slice g.cA g.cn g.cc,vI g.e0,vI g.e1,vI g.e2],vI g.version,vS g.ib g.iR g.ni g.ic] (ap [] [T]) F (λ u H'=>∃ x,H'=ap [] [x] /\ (MemH mb (eU (g.step M) M).M k x /\ u=.tuple #[.bool false,.agg #[vI ((eU (g.step M) M).e.t),vI ((eU (g.step M) M).e.i),vI ((eU (g.step M) M).e.k),vI ((eU (g.step M) M).e.v)],.bool ((eU (g.step M) M).em)])):=by
 refine Sp.run Tryz.func118 rfl mn (A:=[]) (Ts:=[T]) rfl λ w0=>?_
 refine ae 29 (ow 0 8) λ n1=>aj (i2 1 hp hM (av 0))<|ae 18 [] λ _=>RN.draw [] []<|ag [] [0,1,2,3,4,5,7] (ow 3 16++[.own 2,.own 2,.own 2,.own 2])<|au [] 6 (λ X_=>(az 2 hM (aU 0)))<|au [] 8 (λ X_=>(az 3 hM (aU 0)))<|ag [] [9] []<|RD.one 10 (RDO.ev [] [] λ n2=>?_)
 refine ag [] [11] []<|RD.fin<|ae 7 [.own 1] λ _=>RN.ct [0] [0] (MM (g.step M) (n2+0) mb M (k+11) T _ hM hS.up (λ h_=>aw (hE h_)) hC.up) ?_
 rintro _ T3 hM4
 refine ae 3 [] λ _=>RN.draw [13] [0,1,3,4]<|ag [0,1,3,4] [0,4,8,1,5,9,2,6,10,3,7,11,12] (ow 0 5++[.ro 0])<|RD.one 13 (RDO.ev [0,1,3,4] [.own 2,.own 2,.own 2,.own 2] λ _=>?_)
 refine ag [0,1,3,4] [14] []<|RD.fin<|ae 1 [] λ _=>RN.ret [.own 2,.own 2,.own 2,.own 2] [] [0] (v:=.tuple #[.bool false,.agg #[vI ((eU (g.step M) M).e.t),vI ((eU (g.step M) M).e.i),vI ((eU (g.step M) M).e.k),vI ((eU (g.step M) M).e.v)],.bool ((eU (g.step M) M).em)]) (H':=(ap [] [T3])) ?_
 exact ⟨T3,rfl,hM4.weak (by omega),rfl⟩
theorem KR (g:Gm) (mb:Nat) (M:MemS) (k:Nat) (T F:HL) (hM:MemH mb M (k+20) T) (hS:SetIn F g.S) (hp:M.get 1=7) :Sp Tryz.prog 118 #[.iface 114 (vP mb 0),.agg #[vI g.S.players,vS g.S.bb (g.S.bo * 9) g.S.nb g.S.bc,vI g.S.box.x0,vI g.S.box.y0,vI g.S.box.x1,vI g.S.box.y1,.slice g.S.rA g.S.rn g.S.rc,.slice g.S.dA g.S.dn g.S.dc,vI g.S.fog,vI g.S.g.x,vI g.S.g.y,vI g.S.push,vI g.S.drag,vI g.S.rest,vI g.S.rounds,vI g.S.fuel],.agg #[.slice g.cA g.cn g.cc,vI g.e0,vI g.e1,vI g.e2],vI g.version,vS g.ib g.iR g.ni g.ic] (ap [] [T]) F (λ u H'=>∃ x,H'=ap [] [x] /\ (MemH mb (dw (g.step M) M) k x /\ u=.tuple #[.bool (fw (g.step M)),.agg #[vI 0,vI 0,vI 0,vI 0],.bool false])):=by
 refine Sp.run Tryz.func118 rfl mn (A:=[]) (Ts:=[T]) rfl λ w0=>?_
 refine ae 29 (ow 0 8) λ n1=>aj (i2 1 hp hM (av 0))<|ae 18 [] λ _=>RN.draw [] []<|ag [] [0,1,2,3,4,5,7] (ow 3 16++[.own 2,.own 2,.own 2,.own 2])<|au [] 6 (λ X_=>(az 2 hM (aU 0)))<|au [] 8 (λ X_=>(az 3 hM (aU 0)))<|ag [] [9] []<|RD.one 10 (RDO.ev [] [] λ n2=>?_)
 refine ag [] [11] []<|RD.fin<|ae 7 [.own 1] λ _=>RN.ct [0] [0] (Ek (g.step M) (n2+0) mb M (k+6) T _ hM hS.up ) ?_
 rintro _ T3 hM4
 refine ae 3 [] λ _=>RN.draw [13] [0,1,3,4]<|ag [0,1,3,4] [0,4,8,1,5,9,2,6,10,3,7,11,12] (ow 0 5++[.ro 0])<|RD.one 13 (RDO.ev [0,1,3,4] [.own 2,.own 2,.own 2,.own 2] λ _=>?_)
 refine ag [0,1,3,4] [14] []<|RD.fin<|ae 1 [] λ _=>RN.ret [.own 2,.own 2,.own 2,.own 2] [] [0] (v:=.tuple #[.bool (fw (g.step M)),.agg #[vI 0,vI 0,vI 0,vI 0],.bool false]) (H':=(ap [] [T3])) ?_
 exact ⟨T3,rfl,hM4.weak (by omega),rfl⟩
def vl:Enc Eff:=⟨4,λ p k=>match k with | 0=>vI p.t | 1=>vI p.i | 2=>vI p.k | _=>vI p.v,bz⟩
noncomputable def JS:TypeInfo:=match Tryz.prog.info? 183 with | some i=>i | none=>⟨.bool,"",0,0,false,0,0,none,false,#[]⟩
noncomputable def JT:Value:=match JS.zero with | some z=>z | none=>.bool false
theorem KS:EncOk vl Tryz.prog 183 JS JT where
 info:=by kernel_rfl
 zero:=by kernel_rfl
 size:=by kernel_rfl
 zsize:=by kernel_rfl
 zcell:=λ k hk=>by
  have h:∀ k < 4,JT.cells[k]?=some (vl.cell vl.dflt k):=by intro k hk;(iterate 4 (rcases k with _ | k;· kernel_rfl));omega
  exact h k hk
 one:=λ x k=>by unfold vl;dsimp only;split <;> rfl
 bytes:=Nat.le_of_ble_eq_true (by kernel_rfl)
def eo (g:Gm) (M:MemS):VR:=if M.get 1=0 then ⟨aQ (g.step M) M,0,bz,false⟩ else if M.get 1=1 then (eT (g.step M) M) else if M.get 1=2 then (cU (g.step M) M) else if M.get 1=3 then ⟨aR (g.step M) M,0,bz,false⟩ else if M.get 1=4 then ⟨bS (g.step M) M,0,bz,false⟩ else if M.get 1=5 then ⟨dS (g.step M) M,0,bz,false⟩ else if M.get 1=6 then (eU (g.step M) M) else ⟨dw (g.step M) M,0,bz,false⟩
def iP (g:Gm) (M:MemS):Bool:=if M.get 1=7 then fw (g.step M) else false
abbrev jW (g:Gm) (M:MemS):MemS:=(eo g M).M
abbrev BU (M:MemS):Prop:=0 <= M.get 1 /\ M.get 1 <= 7
structure GmIn (F:HL) (g:Gm):Prop where
 set:SetIn F g.S
 ins:InB F g.ib g.iR g.ni λ k=>g.ins.getD (g.io+k) dI
 room:g.ni <= 1000000
 eff:dg F
 code:CodeIn F g.code g.cA g.cn
structure GmC (F:HL) (g:Gm):Prop where
 set:SetIn F g.S
 ins:InB F g.ib g.iR g.ni λ k=>g.ins.getD (g.io+k) dI
 room:g.ni <= 1000000
 code:CodeIn F g.code g.cA g.cn
theorem GmIn.c {F:HL} {g:Gm} (h:GmIn F g):GmC F g:=⟨h.set,h.ins,h.room,h.code⟩
abbrev OD (M:MemS):Prop:=(M.get 1=1 \/ M.get 1=2 \/ M.get 1=6) /\ ¬ M.get 3=0
theorem yc (g:Gm) (mb:Nat) (M:MemS) (k:Nat) (T F:HL) (hM:MemH mb M (k+20) T) (hg:GmC F g) (hJ:OD M -> dg F) (h0:BU M) (ver:Int) (hver:g.version=ver):Sp Tryz.prog 118 #[.iface 114 (vP mb 0),.agg #[vI g.S.players,vS g.S.bb (g.S.bo * 9) g.S.nb g.S.bc,vI g.S.box.x0,vI g.S.box.y0,vI g.S.box.x1,vI g.S.box.y1,.slice g.S.rA g.S.rn g.S.rc,.slice g.S.dA g.S.dn g.S.dc,vI g.S.fog,vI g.S.g.x,vI g.S.g.y,vI g.S.push,vI g.S.drag,vI g.S.rest,vI g.S.rounds,vI g.S.fuel],.agg #[.slice g.cA g.cn g.cc,vI g.e0,vI g.e1,vI g.e2],vI ver,vS g.ib g.iR g.ni g.ic] (ap [] [T]) F (λ u H'=>∃ x,H'=ap [] [x] /\ (MemH mb (jW g M) k x /\ u=.tuple #[.bool (iP g M),.agg #[vI ((eo g M).e.t),vI ((eo g M).e.i),vI ((eo g M).e.k),vI ((eo g M).e.v)],.bool ((eo g M).em)])):=by
 subst hver
 by_cases h0:M.get 1=0
 ·rw [jW,show eo g M=⟨aQ (g.step M) M,0,bz,false⟩ by simp only [eo,if_pos h0],show iP g M=false by simp [iP,h0]]
  exact KL g mb M k T F hM hg.set h0 hg.ins hg.room
 by_cases h1:M.get 1=1
 ·rw [jW,show eo g M=(eT (g.step M) M) by simp only [eo,if_neg h0,if_pos h1],show iP g M=false by simp [iP,h1]]
  exact KM g mb M k T F hM hg.set h1 (λ h_=>hJ ⟨by omega,h_⟩) hg.code
 by_cases h2:M.get 1=2
 ·rw [jW,show eo g M=(cU (g.step M) M) by simp only [eo,if_neg h0,if_neg h1,if_pos h2],show iP g M=false by simp [iP,h2]]
  exact trans2 g mb M k T F hM hg.set h2 (λ h_=>hJ ⟨by omega,h_⟩) hg.code
 by_cases h3:M.get 1=3
 ·rw [jW,show eo g M=⟨aR (g.step M) M,0,bz,false⟩ by simp only [eo,if_neg h0,if_neg h1,if_neg h2,if_pos h3],show iP g M=false by simp [iP,h3]]
  exact KN g mb M k T F hM hg.set h3
 by_cases h4:M.get 1=4
 ·rw [jW,show eo g M=⟨bS (g.step M) M,0,bz,false⟩ by simp only [eo,if_neg h0,if_neg h1,if_neg h2,if_neg h3,if_pos h4],show iP g M=false by simp [iP,h4]]
  exact KO g mb M k T F hM hg.set h4
 by_cases h5:M.get 1=5
 ·rw [jW,show eo g M=⟨dS (g.step M) M,0,bz,false⟩ by simp only [eo,if_neg h0,if_neg h1,if_neg h2,if_neg h3,if_neg h4,if_pos h5],show iP g M=false by simp [iP,h5]]
  exact KP g mb M k T F hM hg.set h5
 by_cases h6:M.get 1=6
 ·rw [jW,show eo g M=(eU (g.step M) M) by simp only [eo,if_neg h0,if_neg h1,if_neg h2,if_neg h3,if_neg h4,if_neg h5,if_pos h6],show iP g M=false by simp [iP,h6]]
  exact KQ g mb M k T F hM hg.set h6 (λ h_=>hJ ⟨by omega,h_⟩) hg.code
 have h7:M.get 1=7:=by omega
 rw [jW,show eo g M=⟨dw (g.step M) M,0,bz,false⟩ by simp only [eo,if_neg h0,if_neg h1,if_neg h2,if_neg h3,if_neg h4,if_neg h5,if_neg h6],show iP g M=fw (g.step M) by simp [iP,h7]]
 exact KR g mb M k T F hM hg.set h7
theorem BV (g:Gm) (mb:Nat) (M:MemS) (k:Nat) (T F:HL) (hM:MemH mb M (k+20) T) (hg:GmIn F g) (h0:BU M) (ver:Int) (hver:g.version=ver):Sp Tryz.prog 118 #[.iface 114 (vP mb 0),.agg #[vI g.S.players,vS g.S.bb (g.S.bo * 9) g.S.nb g.S.bc,vI g.S.box.x0,vI g.S.box.y0,vI g.S.box.x1,vI g.S.box.y1,.slice g.S.rA g.S.rn g.S.rc,.slice g.S.dA g.S.dn g.S.dc,vI g.S.fog,vI g.S.g.x,vI g.S.g.y,vI g.S.push,vI g.S.drag,vI g.S.rest,vI g.S.rounds,vI g.S.fuel],.agg #[.slice g.cA g.cn g.cc,vI g.e0,vI g.e1,vI g.e2],vI ver,vS g.ib g.iR g.ni g.ic] (ap [] [T]) F (λ u H'=>∃ x,H'=ap [] [x] /\ (MemH mb (jW g M) k x /\ u=.tuple #[.bool (iP g M),.agg #[vI ((eo g M).e.t),vI ((eo g M).e.i),vI ((eo g M).e.k),vI ((eo g M).e.v)],.bool ((eo g M).em)])):=yc g mb M k T F hM hg.c (λ _=>hg.eff) h0 ver hver
def fU (g:Gm):Nat -> MemS -> MemS
 | 0,M=>M
 | n+1,M=>fU g n (jW g M)
def fy (g:Gm):Nat -> MemS -> List Eff
 | 0,_=>[]
 | n+1,M=>(if (eo g M).em=true then [(eo g M).e] else [])++fy g n (jW g M)
def dJ (g:Gm):Nat -> MemS -> Prop
 | 0,_=>False
 | n+1,M=>BU M /\ ((n=0 /\ iP g M=true) \/ (iP g M=false /\ dJ g n (jW g M)))
theorem so {g:Gm} {n:Nat} {M:MemS} (h:(eo g M).em=true):fy g (n+1) M=(eo g M).e :: fy g n (jW g M):=by rw [fy,if_pos h];rfl
theorem nh {g:Gm} {n:Nat} {M:MemS} (h:¬ (eo g M).em=true):fy g (n+1) M=fy g n (jW g M):=by rw [fy,if_neg h];rfl
def Shp.nm (s:Shp):Shp:=⟨s.r,s.poly,none,0⟩
def Bod.nm (b:Bod):Bod:=⟨b.sh.nm,b.mot,b.a,b.b⟩
def Setup.nm (S:Setup):Setup:={ S with bb:=0,bo:=0,bc:=0,bR:=0,bods:=(S.bods.drop S.bo).map Bod.nm,rA:=none,rc:=0,dA:=none,dc:=0 }
def Stp.nm (t:Stp):Stp:={ t with S:=t.S.nm,cA:=none,cc:=0,ib:=0,io:=0,ic:=0,iR:=0,ins:=[] }
theorem BW {α:Type} (l:List α) (o k:Nat) (d:α):(l.drop o).getD (0+k) d=l.getD (o+k) d:=by
 rw [Nat.zero_add,List.getD_eq_getElem?_getD,List.getD_eq_getElem?_getD,List.getElem?_drop]
theorem El {α β:Type} (f:α -> β) (l:List α) (k:Nat) (d:α):(l.map f).getD k (f d)=f (l.getD k d):=by
 rw [List.getD_eq_getElem?_getD,List.getD_eq_getElem?_getD,List.getElem?_map]
 cases l[k]? <;> rfl
theorem pE (S:Setup) (k:Nat):S.nm.body k=(S.body k).nm:=by
 show ((S.bods.drop S.bo).map Bod.nm).getD (0+k) dB=Bod.nm (S.bods.getD (S.bo+k) dB)
 rw [<- BW S.bods S.bo k dB]
 exact El Bod.nm _ _ dB
theorem jX (S:Setup):S.nm.players=S.players:=rfl
theorem gR (S:Setup):S.nm.nb=S.nb:=rfl
theorem Em (S:Setup):S.nm.box=S.box:=rfl
theorem KT (S:Setup):S.nm.g=S.g:=rfl
theorem BX (S:Setup):S.nm.push=S.push:=rfl
theorem B0 (S:Setup):S.nm.drag=S.drag:=rfl
theorem sr (S:Setup):S.nm.rest=S.rest:=rfl
theorem vn (S:Setup):S.nm.rounds=S.rounds:=rfl
theorem su (S:Setup):S.nm.fuel=S.fuel:=rfl
theorem zN (t:Stp):t.nm.cn=t.cn:=rfl
theorem zO (t:Stp):t.nm.e0=t.e0:=rfl
theorem H8 (t:Stp):t.nm.e1=t.e1:=rfl
theorem zP (t:Stp):t.nm.e2=t.e2:=rfl
theorem tW (t:Stp):t.nm.version=t.version:=rfl
theorem da (t:Stp):t.nm.i=t.i:=rfl
theorem gE (t:Stp):t.nm.j=t.j:=rfl
theorem yd (t:Stp):t.nm.ended=t.ended:=rfl
theorem pF (t:Stp):t.nm.f0=t.f0:=rfl
theorem pG (t:Stp):t.nm.f1=t.f1:=rfl
theorem pH (t:Stp):t.nm.f2=t.f2:=rfl
theorem pI (t:Stp):t.nm.f3=t.f3:=rfl
theorem gS (t:Stp):t.nm.emitted=t.emitted:=rfl
theorem nS (t:Stp):t.nm.code=t.code:=rfl
theorem bE (t:Stp):t.nm.S=t.S.nm:=rfl
theorem zQ (b:Bod):b.nm.sh=b.sh.nm:=rfl
theorem vp (b:Bod):b.nm.mot=b.mot:=rfl
theorem KU (s:Shp):s.nm.r=s.r:=rfl
theorem i7 (S:Setup) (k:Int) :ah S.nm k=ah S k:=by
 unfold ah
 simp only [jX,bE] <;> rfl
theorem eV (S:Setup) (k:Int) :af S.nm k=af S k:=by
 unfold af
 simp only [jX,gR,bE] <;> rfl
theorem tX (S:Setup) (k:Int) :(movP S.nm k)=(movP S k):=by
 unfold movP
 simp only [gR,bE,vp,pE] <;> rfl
theorem nj (S:Setup) (M:MemS) (k:Int) :ar S.nm M k=ar S M k:=by
 unfold ar
 simp only [bE,vp,pE,eV] <;> rfl
theorem vq (a:Shp) (pa:V2) (b:Shp) (pb:V2) :cw a.nm pa b.nm pb=cw a pa b pb:=by
 kernel_rfl
theorem Eo (a:Shp) (pa va:V2) (b:Shp) (pb vb:V2) :lQ a.nm pa va b.nm pb vb=lQ a pa va b pb vb:=by
 kernel_rfl
theorem ye (t:Stp) (k:Int) (m:Mot) (M:MemS) :dH t.nm k m M=dH t k m M:=by
 unfold dH
 simp only [bE,eV] <;> rfl
theorem B1 (t:Stp) (c sp pos lo hi:Int) (M:MemS) :d5 t.nm c sp pos lo hi M=d5 t c sp pos lo hi M:=by
 unfold d5
 simp only [sr,bE] <;> rfl
theorem sw (t:Stp) (M:MemS) :bq t.nm M=bq t M:=by
 unfold bq
 simp only [tW,da,bE] <;> rfl
theorem sx (t:Stp) (M:MemS) :bZ t.nm M=bZ t M:=by
 unfold bZ
 simp only [jX,da,bE] <;> rfl
theorem vt (t:Stp) :fw t.nm=fw t:=by
 unfold fw
 simp only [gR,da,yd,bE] <;> rfl
theorem Ep (t:Stp) (M:MemS) :fP t.nm M=fP t M:=by
 unfold fP
 simp only [da,bE,eV] <;> rfl
theorem Er (t:Stp) (M:MemS) :gK t.nm M=gK t M:=by
 unfold gK
 simp only [gR,da,bE] <;> rfl
theorem vu (t:Stp) (M:MemS) :dw t.nm M=dw t M:=by
 unfold dw
 simp only [bE,Ep,Er] <;> rfl
theorem B2 (t:Stp) (M:MemS) :b6 t.nm M=b6 t M:=by
 unfold b6
 simp only [KT,BX,B0,da,bE,i7,nj] <;> rfl
theorem B3 (t:Stp) (M:MemS) :bJ t.nm M=bJ t M:=by
 unfold bJ
 simp only [da,bE,eV] <;> rfl
theorem B4 (t:Stp) (M:MemS) :bL t.nm M=bL t M:=by
 unfold bL
 simp only [da,bE,eV,tX,B2] <;> rfl
theorem B5 (t:Stp) (M:MemS) :b7 t.nm M=b7 t M:=by
 unfold b7
 simp only [gR,da,bE] <;> rfl
theorem sy (t:Stp) (M:MemS) :aR t.nm M=aR t M:=by
 unfold aR
 simp only [bE,B3,B4,B5] <;> rfl
theorem yf (t:Stp) (M:MemS) :gc t.nm M=gc t M:=by
 unfold gc
 simp only [da,bE,nj] <;> rfl
theorem yg (t:Stp) (M:MemS) :cZ t.nm M=cZ t M:=by
 unfold cZ
 simp only [Em,da,bE,eV,B1,yf] <;> rfl
theorem Es (S:Setup) (op n a b:Int) (M:MemS) :aF S.nm op n a b M=aF S op n a b M:=by
 unfold aF
 simp only [bE,eV] <;> rfl
theorem Et (S:Setup) (op n sp pc fuel:Int) (M:MemS) :bW S.nm op n sp pc fuel M=bW S op n sp pc fuel M:=by
 unfold bW
 simp only [su,bE,Es] <;> rfl
theorem Eu (S:Setup) (code:List Ins) (n:Nat) (M:MemS) :al S.nm code n M=al S code n M:=by
 unfold al
 simp only [nS,bE,Et] <;> rfl
theorem tY (e:Int) (t:Stp) (self other:Int) (M:MemS) :eG e t.nm self other M=eG e t self other M:=by
 unfold eG
 simp only [su,zN,gE,gS,nS,bE,Eu,pF,pG,pH,pI] <;> rfl
theorem tZ (e:Int) (t:Stp) (self other:Int) (M:MemS) :di e t.nm self other M=di e t self other M:=by
 unfold di
 simp only [zN,gE,nS,bE] <;> rfl
theorem vv (r:VR) (over:Bool) (t:Stp) (cause:Bool) (M:MemS) :dz r over t.nm cause M=dz r over t cause M:=by
 unfold dz
 simp only [da,gE,gS,bE,KU,pF,pG,pH,pI] <;> rfl
theorem zR (t:Stp) (M:MemS) :eT t.nm M=eT t M:=by
 unfold eT
 simp only [da,gS,bE,i7,pF,pG,pH,pI,zO,zP,tY,tZ,vv] <;> rfl
theorem vw (t:Stp) (M:MemS) :cU t.nm M=cU t M:=by
 unfold cU
 simp only [bE,H8,da,gE,tY,tZ] <;> rfl
theorem zS (t:Stp) (M:MemS) :eU t.nm M=eU t M:=by
 unfold eU
 simp only [da,gS,bE,eV,pF,pG,pH,pI,zO,zP,tY,tZ,vv] <;> rfl
theorem zT (t:Stp) (M:MemS) :rL t.nm M=rL t M:=by
 unfold rL
 simp only [da,gE,bE,zQ,pE,nj,vq] <;> rfl
theorem H9 (t:Stp) (M:MemS) :vk t.nm M=vk t M:=by
 unfold vk
 simp only [sr,da,gE,bE,nj,zT] <;> rfl
theorem vz (t:Stp) (M:MemS) :gt t.nm M=gt t M:=by
 unfold gt
 simp only [da,gE,bE,eV,ye,H9] <;> rfl
theorem B6 (t:Stp) (M:MemS) :dM t.nm M=dM t M:=by
 unfold dM
 simp only [gR,da,gE,bE,zT,vz] <;> rfl
theorem Ib (t:Stp) (M:MemS) :rM t.nm M=rM t M:=by
 unfold rM
 simp only [da,gE,bE,zQ,pE,nj,Eo] <;> rfl
theorem Ev (t:Stp) (M:MemS) :eL t.nm M=eL t M:=by
 unfold eL
 simp only [da,gE,bE,tX,Ib] <;> rfl
theorem Ew (t:Stp) (M:MemS) :fI t.nm M=fI t M:=by
 unfold fI
 simp only [gR,da,bE] <;> rfl
theorem vA (t:Stp) (M:MemS) :dS t.nm M=dS t M:=by
 unfold dS
 simp only [gR,da,gE,bE,tX,yg,Ev,Ew] <;> rfl
theorem oW (t:Stp) (M:MemS) :bS t.nm M=bS t M:=by
 unfold bS
 simp only [gR,vn,da,gE,bE,B6] <;> rfl
def Gm.nm (g:Gm):Gm:={ g with S:=g.S.nm,cA:=none,cc:=0,ib:=0,io:=0,ic:=0,iR:=0,ins:=[] }
theorem ll (g:Gm) (M:MemS):g.nm.step M=(g.step M).nm:=rfl
structure GEq (g g':Gm):Prop where
 nm:g.nm=g'.nm
 inp:∀ k,k < g.ni -> g.ins.getD (g.io+k) dI=g'.ins.getD (g'.io+k) dI
theorem B7 {g g':Gm} (h:GEq g g') (M:MemS):aQ (g.step M) M=aQ (g'.step M) M:=by
 have hs:(g.step M).nm=(g'.step M).nm:=by rw [<- ll,<- ll,h.nm]
 unfold aQ
 rw [<- sw (g.step M),hs,sw]
 generalize bq (g'.step M) M=N
 have hb:bC (g.step M) N=bC (g'.step M) N:=by
  have hS:(g.step M).S.nm=(g'.step M).S.nm:=show (g.step M).nm.S=(g'.step M).nm.S by rw [hs]
  have hi:(g.step M).i=(g'.step M).i:=show (g.step M).nm.i=(g'.step M).nm.i by rw [hs]
  have hn:(g.step M).ni=(g'.step M).ni:=show (g.step M).nm.ni=(g'.step M).nm.ni by rw [hs]
  unfold bC
  rw [<- i7 (g.step M).S,hS,i7,hi,hn]
  by_cases h1:ah (g'.step M).S (g'.step M).i >= 0
  ·rw [if_pos h1,if_pos h1]
   by_cases h2:(g'.step M).i < (g'.step M).ni
   ·rw [if_pos h2,if_pos h2]
    have h3:0 <= (g'.step M).i:=by
     rcases Int.lt_or_le (g'.step M).i 0 with h4 | h4
     ·unfold ah at h1;rw [if_pos h4] at h1;omega
     ·exact h4
    have e:(g.step M).inp (g'.step M).i.toNat=(g'.step M).inp (g'.step M).i.toNat:=by
     have h5:(g'.step M).i.toNat < g.ni:=by
      have h6:((g'.step M).ni:Int)=(g.ni:Int):=congrArg (Nat.cast) hn.symm
      omega
     exact h.inp _ h5
    rw [e]
   ·rw [if_neg h2,if_neg h2]
  ·rw [if_neg h1,if_neg h1]
 rw [hb,<- sx (g.step M),hs,sx]
theorem yh {g g':Gm} (h:GEq g g') (M:MemS):eo g M=eo g' M:=by
 have hs:(g.step M).nm=(g'.step M).nm:=by rw [<- ll,<- ll,h.nm]
 unfold eo
 rw [B7 h,<- zR (g.step M),<- vw (g.step M),<- sy (g.step M),<- oW (g.step M),<- vA (g.step M),<- zS (g.step M),<- vu (g.step M),hs,zR,vw,sy,oW,vA,zS,vu]
theorem Ey {g g':Gm} (h:GEq g g') (M:MemS):iP g M=iP g' M:=by
 have hs:(g.step M).nm=(g'.step M).nm:=by rw [<- ll,<- ll,h.nm]
 unfold iP
 rw [<- vt (g.step M),hs,vt]
theorem zU {g g':Gm} (h:GEq g g'):∀ (n:Nat) (M:MemS),fU g n M=fU g' n M
 | 0,_=>rfl
 | n+1,M=>by rw [fU,fU,jW,jW,yh h];exact zU h n _
def MemS.sh (M:MemS) (l:List (Int × Int)) (b:Int):MemS:=⟨M.cs,l++M.lg,b⟩
def VR.sh (r:VR) (l:List (Int × Int)) (b:Int):VR:={ r with M:=r.M.sh l b }
theorem aV (M:MemS) (l:List (Int × Int)) (b i:Int):(M.sh l b).get i=M.get i:=rfl
theorem aW (M:MemS) (l:List (Int × Int)) (b i v:Int):(M.sh l b).set i v=(M.set i v).sh l b:=by
 unfold MemS.set MemS.sh
 dsimp only
 split
 ·simp
 ·rfl
theorem aY (M N:MemS) (l:List (Int × Int)) (b:Int) (c:Prop) [Decidable c]:(if c then M.sh l b else N.sh l b)=(if c then M else N).sh l b:=by split <;> rfl
theorem aI (M N:VR) (l:List (Int × Int)) (b:Int) (c:Prop) [Decidable c]:(if c then M.sh l b else N.sh l b)=(if c then M else N).sh l b:=by split <;> rfl
theorem aX (M:MemS) (l:List (Int × Int)) (b v:Int) (e:Eff) (em:Bool):(⟨M.sh l b,v,e,em⟩:VR)=VR.sh ⟨M,v,e,em⟩ l b:=rfl
theorem aD (code:List Ins) (M:MemS) (l:List (Int × Int)) (b:Int):bm code (M.sh l b)=bm code M:=rfl
theorem bT (r:VR) (l:List (Int × Int)) (b:Int):(r.sh l b).z=r.z.sh l b:=rfl
theorem bH (r:VR) (l:List (Int × Int)) (b:Int):(r.sh l b).M=r.M.sh l b:=rfl
theorem bU (r:VR) (l:List (Int × Int)) (b:Int):(r.sh l b).v=r.v:=rfl
theorem bV (r:VR) (l:List (Int × Int)) (b:Int):(r.sh l b).e=r.e:=rfl
theorem aZ (r:VR) (l:List (Int × Int)) (b:Int):(r.sh l b).em=r.em:=rfl
theorem nk (S:Setup) (M:MemS) (k:Int) (l_:List (Int × Int)) (b_:Int):ar S (M.sh l_ b_) k=ar S M k:=by
 unfold ar
 simp only [aV,aW,aY,aI,aX,bH,bU,bV,aZ,aD,bT] <;> rfl
theorem fV (t:Stp) (ph j:Int) (M:MemS) (l_:List (Int × Int)) (b_:Int):aM t ph j (M.sh l_ b_)=(aM t ph j M).sh l_ b_:=by
 unfold aM
 simp only [aV,aW,aY,aI,aX,bH,bU,bV,aZ,aD,bT] <;> rfl
theorem yi (t:Stp) (k:Int) (m:Mot) (M:MemS) (l_:List (Int × Int)) (b_:Int):dH t k m (M.sh l_ b_)=(dH t k m M).sh l_ b_:=by
 unfold dH
 simp only [aV,aW,aY,aI,aX,bH,bU,bV,aZ,aD,bT] <;> rfl
theorem B8 (t:Stp) (c sp pos lo hi:Int) (M:MemS) (l_:List (Int × Int)) (b_:Int):d5 t c sp pos lo hi (M.sh l_ b_)=(d5 t c sp pos lo hi M).sh l_ b_:=by
 unfold d5
 simp only [aV,aW,aY,aI,aX,bH,bU,bV,aZ,aD,bT] <;> rfl
theorem B9 (t:Stp) (M:MemS) (l_:List (Int × Int)) (b_:Int):bq t (M.sh l_ b_)=(bq t M).sh l_ b_:=by
 unfold bq
 simp only [aV,aW,aY,aI,aX,bH,bU,bV,aZ,aD,bT] <;> rfl
theorem Ca (t:Stp) (M:MemS) (l_:List (Int × Int)) (b_:Int):bC t (M.sh l_ b_)=(bC t M).sh l_ b_:=by
 unfold bC
 simp only [aV,aW,aY,aI,aX,bH,bU,bV,aZ,aD,bT] <;> rfl
theorem Cb (t:Stp) (M:MemS) (l_:List (Int × Int)) (b_:Int):bZ t (M.sh l_ b_)=(bZ t M).sh l_ b_:=by
 unfold bZ
 simp only [aV,aW,aY,aI,aX,bH,bU,bV,aZ,aD,bT,fV] <;> rfl
theorem Cc (t:Stp) (M:MemS) (l_:List (Int × Int)) (b_:Int):aQ t (M.sh l_ b_)=(aQ t M).sh l_ b_:=by
 unfold aQ
 simp only [aV,aW,aY,aI,aX,bH,bU,bV,aZ,aD,bT,B9,Ca,Cb] <;> rfl
theorem Ez (t:Stp) (M:MemS) (l_:List (Int × Int)) (b_:Int):fP t (M.sh l_ b_)=(fP t M).sh l_ b_:=by
 unfold fP
 simp only [aV,aW,aY,aI,aX,bH,bU,bV,aZ,aD,bT] <;> rfl
theorem sA (M:MemS) (l_:List (Int × Int)) (b_:Int):∀ n,cF (M.sh l_ b_) n=(cF M n).sh l_ b_
 | 0=>rfl
 | n+1=>by rw [cF,cF,sA M l_ b_ n,aW]
theorem EA (t:Stp) (M:MemS) (l_:List (Int × Int)) (b_:Int):gK t (M.sh l_ b_)=(gK t M).sh l_ b_:=by
 unfold gK
 simp only [aV,aW,aY,aI,aX,bH,bU,bV,aZ,aD,bT,sA] <;> rfl
theorem EB (t:Stp) (M:MemS) (l_:List (Int × Int)) (b_:Int):dw t (M.sh l_ b_)=(dw t M).sh l_ b_:=by
 unfold dw
 simp only [aV,aW,aY,aI,aX,bH,bU,bV,aZ,aD,bT,Ez,EA] <;> rfl
theorem Cd (t:Stp) (M:MemS) (l_:List (Int × Int)) (b_:Int):b6 t (M.sh l_ b_)=b6 t M:=by
 unfold b6
 simp only [aV,aW,aY,aI,aX,bH,bU,bV,aZ,aD,bT,nk] <;> rfl
theorem Ce (t:Stp) (M:MemS) (l_:List (Int × Int)) (b_:Int):bJ t (M.sh l_ b_)=(bJ t M).sh l_ b_:=by
 unfold bJ
 simp only [aV,aW,aY,aI,aX,bH,bU,bV,aZ,aD,bT] <;> rfl
theorem Cf (t:Stp) (M:MemS) (l_:List (Int × Int)) (b_:Int):bL t (M.sh l_ b_)=(bL t M).sh l_ b_:=by
 unfold bL
 simp only [aV,aW,aY,aI,aX,bH,bU,bV,aZ,aD,bT,Cd] <;> rfl
theorem Cg (t:Stp) (M:MemS) (l_:List (Int × Int)) (b_:Int):b7 t (M.sh l_ b_)=(b7 t M).sh l_ b_:=by
 unfold b7
 simp only [aV,aW,aY,aI,aX,bH,bU,bV,aZ,aD,bT,fV] <;> rfl
theorem Ch (t:Stp) (M:MemS) (l_:List (Int × Int)) (b_:Int):aR t (M.sh l_ b_)=(aR t M).sh l_ b_:=by
 unfold aR
 simp only [aV,aW,aY,aI,aX,bH,bU,bV,aZ,aD,bT,Ce,Cf,Cg] <;> rfl
theorem yj (M:MemS) (l_:List (Int × Int)) (b_:Int):lh (M.sh l_ b_)=lh M:=by
 unfold lh
 simp only [aV,aW,aY,aI,aX,bH,bU,bV,aZ,aD,bT] <;> rfl
theorem yl (t:Stp) (M:MemS) (l_:List (Int × Int)) (b_:Int):gc t (M.sh l_ b_)=gc t M:=by
 unfold gc
 simp only [aV,aW,aY,aI,aX,bH,bU,bV,aZ,aD,bT,nk,yj] <;> rfl
theorem ym (t:Stp) (M:MemS) (l_:List (Int × Int)) (b_:Int):cZ t (M.sh l_ b_)=(cZ t M).sh l_ b_:=by
 unfold cZ
 simp only [aV,aW,aY,aI,aX,bH,bU,bV,aZ,aD,bT,B8,yl] <;> rfl
theorem EC (k v:Int) (M:MemS) (l_:List (Int × Int)) (b_:Int):cL k v (M.sh l_ b_)=(cL k v M).sh l_ b_:=by
 unfold cL
 simp only [aV,aW,aY,aI,aX,bH,bU,bV,aZ,aD,bT] <;> rfl
theorem ED (S:Setup) (op n a b:Int) (M:MemS) (l_:List (Int × Int)) (b_:Int):aF S op n a b (M.sh l_ b_)=(aF S op n a b M).sh l_ b_:=by
 unfold aF
 simp only [aV,aW,aY,aI,aX,bH,bU,bV,aZ,aD,bT,EC] <;> rfl
theorem Ic (op sp:Int) (M:MemS) (l_:List (Int × Int)) (b_:Int):dU op sp (M.sh l_ b_)=dU op sp M:=by
 unfold dU
 simp only [aV,aW,aY,aI,aX,bH,bU,bV,aZ,aD,bT] <;> rfl
theorem Ie (op sp:Int) (M:MemS) (l_:List (Int × Int)) (b_:Int):dV op sp (M.sh l_ b_)=dV op sp M:=by
 unfold dV
 simp only [aV,aW,aY,aI,aX,bH,bU,bV,aZ,aD,bT] <;> rfl
theorem Ig (op sp pc fuel:Int) (M:MemS) (l_:List (Int × Int)) (b_:Int):dC op sp pc fuel (M.sh l_ b_)=(dC op sp pc fuel M).sh l_ b_:=by
 unfold dC
 simp only [aV,aW,aY,aI,aX,bH,bU,bV,aZ,aD,bT] <;> rfl
theorem EE (S:Setup) (op n sp pc fuel:Int) (M:MemS) (l_:List (Int × Int)) (b_:Int):bW S op n sp pc fuel (M.sh l_ b_)=(bW S op n sp pc fuel M).sh l_ b_:=by
 unfold bW
 simp only [aV,aW,aY,aI,aX,bH,bU,bV,aZ,aD,bT,ED,Ic,Ie,Ig] <;> rfl
theorem vB (code:List Ins) (n:Nat) (M:MemS) (l_:List (Int × Int)) (b_:Int):(dQ code n (M.sh l_ b_))=(dQ code n M):=by
 unfold dQ
 simp only [aV,aW,aY,aI,aX,bH,bU,bV,aZ,aD,bT] <;> rfl
theorem EF (op sp:Int) (r:VR) (l_:List (Int × Int)) (b_:Int):cj op sp (r.sh l_ b_)=(cj op sp r).sh l_ b_:=by
 unfold cj
 simp only [aV,aW,aY,aI,aX,bH,bU,bV,aZ,aD,bT] <;> rfl
theorem EG (S:Setup) (code:List Ins) (n:Nat) (M:MemS) (l_:List (Int × Int)) (b_:Int):al S code n (M.sh l_ b_)=(al S code n M).sh l_ b_:=by
 unfold al
 simp only [aV,aW,aY,aI,aX,bH,bU,bV,aZ,aD,bT,EE,vB,EF] <;> rfl
theorem Ii (code:List Ins) (n:Nat) (M:MemS) (l_:List (Int × Int)) (b_:Int):bu code n (M.sh l_ b_)=bu code n M:=by
 unfold bu
 simp only [aV,aW,aY,aI,aX,bH,bU,bV,aZ,aD,bT,vB] <;> rfl
theorem Ci (e fuel self other:Int) (M:MemS) (l_:List (Int × Int)) (b_:Int):aN e fuel self other (M.sh l_ b_)=(aN e fuel self other M).sh l_ b_:=by
 unfold aN
 simp only [aV,aW,aY,aI,aX,bH,bU,bV,aZ,aD,bT] <;> rfl
theorem t2 (e:Int) (t:Stp) (self other:Int) (M:MemS) (l_:List (Int × Int)) (b_:Int):eG e t self other (M.sh l_ b_)=(eG e t self other M).sh l_ b_:=by
 unfold eG
 simp only [aV,aW,aY,aI,aX,bH,bU,bV,aZ,aD,bT,EG,Ci] <;> rfl
theorem t6 (e:Int) (t:Stp) (self other:Int) (M:MemS) (l_:List (Int × Int)) (b_:Int):di e t self other (M.sh l_ b_)=di e t self other M:=by
 unfold di
 simp only [aV,aW,aY,aI,aX,bH,bU,bV,aZ,aD,bT,Ii] <;> rfl
theorem vC (r:VR) (over:Bool) (t:Stp) (cause:Bool) (M:MemS) (l_:List (Int × Int)) (b_:Int):dz (r.sh l_ b_) over t cause (M.sh l_ b_)=(dz r over t cause M).sh l_ b_:=by
 unfold dz
 simp only [aV,aW,aY,aI,aX,bH,bU,bV,aZ,aD,bT] <;> rfl
theorem EH (t:Stp) (o:Int) (c:Bool) (M:MemS) (l_:List (Int × Int)) (b_:Int):cM t o c (M.sh l_ b_)=(cM t o c M).sh l_ b_:=by
 unfold cM b8 jk
 rw [t2,t6,vC]
theorem EI (t:Stp) (o:Int) (c:Bool) (M:MemS) (l_:List (Int × Int)) (b_:Int):cN t o c (M.sh l_ b_)=(cN t o c M).sh l_ b_:=by
 unfold cN b9 jl
 rw [t2,t6,vC]
theorem Ij (t:Stp) (M:MemS) (l_:List (Int × Int)) (b_:Int):eT t (M.sh l_ b_)=(eT t M).sh l_ b_:=by
 unfold eT
 simp only [aV,aW,aY,aI,aX,bH,bU,bV,aZ,aD,bT,fV,EH] <;> rfl
theorem EJ (t:Stp) (M:MemS) (l_:List (Int × Int)) (b_:Int):cU t (M.sh l_ b_)=(cU t M).sh l_ b_:=by
 unfold cU
 simp only [aV,aW,aY,aI,aX,bH,bU,bV,aZ,aD,bT,fV,t2,t6] <;> rfl
theorem zV (t:Stp) (M:MemS) (l_:List (Int × Int)) (b_:Int):rL t (M.sh l_ b_)=rL t M:=by
 unfold rL
 simp only [aV,aW,aY,aI,aX,bH,bU,bV,aZ,aD,bT,nk] <;> rfl
theorem Ik (t:Stp) (M:MemS) (l_:List (Int × Int)) (b_:Int):vk t (M.sh l_ b_)=vk t M:=by
 unfold vk
 simp only [aV,aW,aY,aI,aX,bH,bU,bV,aZ,aD,bT,nk,zV] <;> rfl
theorem vD (t:Stp) (M:MemS) (l_:List (Int × Int)) (b_:Int):gt t (M.sh l_ b_)=(gt t M).sh l_ b_:=by
 unfold gt
 simp only [aV,aW,aY,aI,aX,bH,bU,bV,aZ,aD,bT,yi,Ik] <;> rfl
theorem Cj (t:Stp) (M:MemS) (l_:List (Int × Int)) (b_:Int):dM t (M.sh l_ b_)=(dM t M).sh l_ b_:=by
 unfold dM
 simp only [aV,aW,aY,aI,aX,bH,bU,bV,aZ,aD,bT,zV,vD] <;> rfl
theorem Il (t:Stp) (M:MemS) (l_:List (Int × Int)) (b_:Int):rM t (M.sh l_ b_)=rM t M:=by
 unfold rM
 simp only [aV,aW,aY,aI,aX,bH,bU,bV,aZ,aD,bT,nk] <;> rfl
theorem EK (t:Stp) (M:MemS) (l_:List (Int × Int)) (b_:Int):eL t (M.sh l_ b_)=(eL t M).sh l_ b_:=by
 unfold eL
 simp only [aV,aW,aY,aI,aX,bH,bU,bV,aZ,aD,bT,Il] <;> rfl
theorem EL (t:Stp) (M:MemS) (l_:List (Int × Int)) (b_:Int):fI t (M.sh l_ b_)=(fI t M).sh l_ b_:=by
 unfold fI
 simp only [aV,aW,aY,aI,aX,bH,bU,bV,aZ,aD,bT,fV] <;> rfl
theorem EM (t:Stp) (M:MemS) (l_:List (Int × Int)) (b_:Int):dS t (M.sh l_ b_)=(dS t M).sh l_ b_:=by
 unfold dS
 simp only [aV,aW,aY,aI,aX,bH,bU,bV,aZ,aD,bT,ym,EK,EL] <;> rfl
theorem vE (t:Stp) (M:MemS) (l_:List (Int × Int)) (b_:Int):bS t (M.sh l_ b_)=(bS t M).sh l_ b_:=by
 unfold bS
 simp only [aV,aW,aY,aI,aX,bH,bU,bV,aZ,aD,bT,fV,Cj] <;> rfl
theorem Im (t:Stp) (M:MemS) (l_:List (Int × Int)) (b_:Int):eU t (M.sh l_ b_)=(eU t M).sh l_ b_:=by
 unfold eU
 simp only [aV,aW,aY,aI,aX,bH,bU,bV,aZ,aD,bT,fV,EI] <;> rfl
theorem Io (g:Gm) (M:MemS) (l:List (Int × Int)) (b:Int):g.step (M.sh l b)=g.step M:=rfl
theorem yn (g:Gm) (M:MemS) (l:List (Int × Int)) (b:Int):eo g (M.sh l b)=(eo g M).sh l b:=by
 unfold eo
 simp only [Io,aV,Cc,Ij,EJ,Ch,vE,EM,Im,EB,aX,aI]
theorem EN (g:Gm) (M:MemS) (l:List (Int × Int)) (b:Int):iP g (M.sh l b)=iP g M:=rfl
theorem zW (g:Gm) (l:List (Int × Int)) (b:Int):∀ (n:Nat) (M:MemS),fU g n (M.sh l b)=(fU g n M).sh l b
 | 0,_=>rfl
 | n+1,M=>by rw [fU,fU,jW,jW,yn,bH];exact zW g l b n _
def zX (g:Gm):Nat -> MemS -> Nat
 | 0,_=>0
 | f+1,M=>if iP g M=true then 0 else zX g f (jW g M)+1
theorem EO {g:Gm}:∀ (m f:Nat) (M:MemS),dJ g (m+1) M -> m < f -> zX g f M=m
 | m,0,M,_,h=>by omega
 | 0,f+1,M,h,_=>by
  rcases h.2 with ⟨_,e⟩ | ⟨_,e⟩
  ·rw [zX,if_pos e]
  ·exact e.elim
 | m+1,f+1,M,h,hf=>by
  rcases h.2 with ⟨e,_⟩ | ⟨e1,e2⟩
  ·omega
  ·rw [zX,if_neg (by rw [e1];simp),EO m f _ e2 (by omega)]
def nl (g:Gm) (M:MemS):MemS:=fU g (zX g 1000 M+1) M
def N4 (g:Gm) (M:MemS):List Eff:=fy g (zX g 1000 M+1) M
theorem EP {g g':Gm} (h:GEq g g'):∀ (f:Nat) (M:MemS),zX g f M=zX g' f M
 | 0,_=>rfl
 | f+1,M=>by rw [zX,zX,Ey h,jW,jW,yh h,EP h f]
theorem EQ {g g':Gm} (h:GEq g g') (M:MemS):nl g M=nl g' M:=by rw [nl,nl,EP h,zU h]
theorem ES (g:Gm) (l:List (Int × Int)) (b:Int):∀ (f:Nat) (M:MemS),zX g f (M.sh l b)=zX g f M
 | 0,_=>rfl
 | f+1,M=>by rw [zX,zX,EN,jW,jW,yn,bH,ES g l b f]
theorem yo (g:Gm) (M:MemS) (l:List (Int × Int)) (b:Int):nl g (M.sh l b)=(nl g M).sh l b:=by rw [nl,nl,ES,zW]
theorem qf (M:MemS):(MemS.sh ⟨M.cs,[],0⟩ M.lg M.base)=M:=by cases M;simp [MemS.sh]
theorem qg (g:Gm) {M N:MemS} (h:M.cs=N.cs):(nl g M).cs=(nl g N).cs:=by
 rw [<- qf M,<- qf N,yo,yo,h];rfl
def iB (g:Gm):Nat -> MemS -> List (Eff × Bool)
 | 0,_=>[]
 | n+1,M=>((eo g M).e,(eo g M).em) :: iB g n (jW g M)
theorem iC (g:Gm):∀ (n:Nat) (M:MemS),(iB g n M).length=n
 | 0,_=>rfl
 | n+1,M=>by rw [iB,List.length_cons,iC g n]
def lJ:List (Eff × Bool) -> List Eff
 | []=>[]
 | x :: l=>(if x.2=true then [x.1] else [])++lJ l
theorem vF (g:Gm):∀ (n:Nat) (M:MemS),lJ (iB g n M)=fy g n M
 | 0,_=>rfl
 | n+1,M=>by rw [iB,lJ,vF g n,fy]
theorem qh:∀ (l m:List (Eff × Bool)),lJ (l++m)=lJ l++lJ m
 | [],m=>rfl
 | x :: l,m=>by rw [List.cons_append,lJ,lJ,qh l m,List.append_assoc]
theorem vG:∀ (l:List (Eff × Bool)),(lJ l).length <= l.length
 | []=>Nat.le_refl _
 | x :: l=>by
  have:=vG l
  rw [lJ,List.length_append,List.length_cons]
  split
  ·simp;omega
  ·simp;omega
theorem ET {l:List (Eff × Bool)} {i:Nat} {x:Eff × Bool} (h:l[i]?=some x) (e:x.2=true):lJ (l.take (i+1))=lJ (l.take i)++[x.1]:=by
 rw [List.take_add_one,h,qh]
 show _++((if x.2=true then [x.1] else [])++[])=_
 rw [if_pos e];rfl
theorem Ip {l:List (Eff × Bool)} {i:Nat} {x:Eff × Bool} (h:l[i]?=some x) (e:¬ x.2=true):lJ (l.take (i+1))=lJ (l.take i):=by
 rw [List.take_add_one,h,qh]
 show _++((if x.2=true then [x.1] else [])++[])=_
 rw [if_neg e];simp
theorem gu {g:Gm} {l:List (Eff × Bool)} {i r:Nat} {M:MemS} (h:l.drop i=iB g (r+1) M):l[i]?=some ((eo g M).e,(eo g M).em) /\ l.drop (i+1)=iB g r (jW g M):=by
 constructor
 ·have:=congrArg (·[0]?) h
  simpa [iB] using this
 ·have:=congrArg List.tail h
  rwa [List.tail_drop] at this
end Go.Proofs.YtobflkidpfkcaaaGreatDoor
