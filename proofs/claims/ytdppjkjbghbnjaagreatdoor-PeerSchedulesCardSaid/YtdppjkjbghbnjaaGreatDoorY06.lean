import Derived.Test.YtdppjkjbghbnjaaGreatDoorY05
set_option maxHeartbeats 4000000
set_option maxRecDepth 100000
set_option linter.all false
namespace Go.Proofs.YtdppjkjbghbnjaaGreatDoor
open IntKind
open Go.RowKit
structure Gm where
 S:Setup
 cA:Option Addr
 cn:Nat
 cc:Nat
 e0:Int
 e1:Int
 e2:Int
 version:Int
 ib:Nat
 io:Nat
 ni:Nat
 ic:Nat
 iR:Nat
 ins:List Inp
 code:List Ins
abbrev Gm.step(g:Gm)(M:MemS):Stp:=⟨g.S,g.cA,g.cn,g.cc,g.e0,g.e1,g.e2,g.version,g.ib,g.io,g.ni,g.ic,g.iR,g.ins,M.get 2,M.get 3,false,0,0,0,0,false,g.code⟩
theorem OU(g:Gm)(mb:Nat)(M:MemS)(k:Nat)(T F:HL)(hM:MemH mb M (k+20) T)(hS:SetIn F g.S)(hp:M.get 1=0)(hI:(g.ib,.rows 3 g.iR (ll g.ins) 40 (0,0))∈F)(hir:g.io+g.ni <= g.iR /\ g.ni <= 1000000):Sp Tryz.prog 107 #[.iface 113 (vP mb 0),.agg #[vI g.S.players,vS g.S.bb (g.S.bo*9) g.S.nb g.S.bc,vI g.S.box.x0,vI g.S.box.y0,vI g.S.box.x1,vI g.S.box.y1,.slice g.S.rA g.S.rn g.S.rc,.slice g.S.dA g.S.dn g.S.dc,vI g.S.fog,vI g.S.g.x,vI g.S.g.y,vI g.S.push,vI g.S.drag,vI g.S.rest,vI g.S.rounds,vI g.S.fuel],.agg #[.slice g.cA g.cn g.cc,vI g.e0,vI g.e1,vI g.e2],vI g.version,vS g.ib (g.io*3) g.ni g.ic] (ap [] [T]) F (λ u H'=>∃x,H'=ap [] [x] /\ (MemH mb (aY (g.step M) M) k x /\ u=.tuple #[.bool false,.agg #[vI 0,vI 0,vI 0,vI 0],.bool false])):=by
 refine aav Tryz.func107 rfl mn (A:=[]) (Ts:=[T]) rfl λ w0=>?_;refine ae 29 (ow 0 8) λ n1=>aai (kH 1 hp hM (ak 0))<|ae 18 [] λ _=>aal [] []<|ag [] [0,1,2,3,4,5,7] (ow 3 16++[.own 2,.own 2,.own 2,.own 2])<|aac [] 6 (λ X_=>(aD 2 hM (aE 0)))<|aac [] 8 (λ X_=>(aD 3 hM (aE 0)))<|ag [] [9] []<|aae 10 (aag [] [] λ n2=>?_);refine ag [] [11] []<|aad<|ae 7 [.own 1] λ _=>aaj [0] [0] (FN (g.step M) (n2+0) mb M (k+12) T _ hM hS.up (List.mem_append_right _ hI) hir) ?_;rintro _ T3 Tf;refine ae 3 [] λ _=>aal [13] [0,1,3,4]<|ag [0,1,3,4] [0,4,8,1,5,9,2,6,10,3,7,11,12] (ow 0 5++[.ro 0])<|aae 13 (aag [0,1,3,4] [.own 2,.own 2,.own 2,.own 2] λ _=>?_);refine ag [0,1,3,4] [14] []<|aad<|ae 1 [] λ _=>aaq [.own 2,.own 2,.own 2,.own 2] [] [0] (v:=.tuple #[.bool false,.agg #[vI 0,vI 0,vI 0,vI 0],.bool false]) (H':=(ap [] [T3])) ?_;exact⟨T3,rfl,Tf.weak (by omega),rfl⟩
theorem OV(g:Gm)(mb:Nat)(M:MemS)(k:Nat)(T F:HL)(hM:MemH mb M (k+20) T)(hS:SetIn F g.S)(hp:M.get 1=1)(hE:bF F)(hC:CodeIn F g.code g.cA g.cn):Sp Tryz.prog 107 #[.iface 113 (vP mb 0),.agg #[vI g.S.players,vS g.S.bb (g.S.bo*9) g.S.nb g.S.bc,vI g.S.box.x0,vI g.S.box.y0,vI g.S.box.x1,vI g.S.box.y1,.slice g.S.rA g.S.rn g.S.rc,.slice g.S.dA g.S.dn g.S.dc,vI g.S.fog,vI g.S.g.x,vI g.S.g.y,vI g.S.push,vI g.S.drag,vI g.S.rest,vI g.S.rounds,vI g.S.fuel],.agg #[.slice g.cA g.cn g.cc,vI g.e0,vI g.e1,vI g.e2],vI g.version,vS g.ib (g.io*3) g.ni g.ic] (ap [] [T]) F (λ u H'=>∃x,H'=ap [] [x] /\ (MemH mb (fN (g.step M) M).M k x /\ u=.tuple #[.bool false,.agg (aaa (fN (g.step M) M).e).toArray,.bool ((fN (g.step M) M).em)])):=by
 refine aav Tryz.func107 rfl mn (A:=[]) (Ts:=[T]) rfl λ w0=>?_;refine ae 29 (ow 0 8) λ n1=>aai (kH 1 hp hM (ak 0))<|ae 18 [] λ _=>aal [] []<|ag [] [0,1,2,3,4,5,7] (ow 3 16++[.own 2,.own 2,.own 2,.own 2])<|aac [] 6 (λ X_=>(aD 2 hM (aE 0)))<|aac [] 8 (λ X_=>(aD 3 hM (aE 0)))<|ag [] [9] []<|aae 10 (aag [] [] λ n2=>?_);refine ag [] [11] []<|aad<|ae 7 [.own 1] λ _=>aaj [0] [0] (QQ (g.step M) (n2+0) mb M (k+11) T _ hM hS.up (aq hE) hC.up) ?_;rintro _ T3 Tf;refine ae 3 [] λ _=>aal [13] [0,1,3,4]<|ag [0,1,3,4] [0,4,8,1,5,9,2,6,10,3,7,11,12] (ow 0 5++[.ro 0])<|aae 13 (aag [0,1,3,4] [.own 2,.own 2,.own 2,.own 2] λ _=>?_);refine ag [0,1,3,4] [14] []<|aad<|ae 1 [] λ _=>aaq [.own 2,.own 2,.own 2,.own 2] [] [0] (v:=.tuple #[.bool false,.agg (aaa (fN (g.step M) M).e).toArray,.bool ((fN (g.step M) M).em)]) (H':=(ap [] [T3])) ?_;exact⟨T3,rfl,Tf.weak (by omega),rfl⟩
theorem OW(g:Gm)(mb:Nat)(M:MemS)(k:Nat)(T F:HL)(hM:MemH mb M (k+20) T)(hS:SetIn F g.S)(hp:M.get 1=2)(hE:bF F)(hC:CodeIn F g.code g.cA g.cn):Sp Tryz.prog 107 #[.iface 113 (vP mb 0),.agg #[vI g.S.players,vS g.S.bb (g.S.bo*9) g.S.nb g.S.bc,vI g.S.box.x0,vI g.S.box.y0,vI g.S.box.x1,vI g.S.box.y1,.slice g.S.rA g.S.rn g.S.rc,.slice g.S.dA g.S.dn g.S.dc,vI g.S.fog,vI g.S.g.x,vI g.S.g.y,vI g.S.push,vI g.S.drag,vI g.S.rest,vI g.S.rounds,vI g.S.fuel],.agg #[.slice g.cA g.cn g.cc,vI g.e0,vI g.e1,vI g.e2],vI g.version,vS g.ib (g.io*3) g.ni g.ic] (ap [] [T]) F (λ u H'=>∃x,H'=ap [] [x] /\ (MemH mb (dq (g.step M) M).M k x /\ u=.tuple #[.bool false,.agg (aaa (dq (g.step M) M).e).toArray,.bool ((dq (g.step M) M).em)])):=by
 refine aav Tryz.func107 rfl mn (A:=[]) (Ts:=[T]) rfl λ w0=>?_;refine ae 29 (ow 0 8) λ n1=>aai (kH 1 hp hM (ak 0))<|ae 18 [] λ _=>aal [] []<|ag [] [0,1,2,3,4,5,7] (ow 3 16++[.own 2,.own 2,.own 2,.own 2])<|aac [] 6 (λ X_=>(aD 2 hM (aE 0)))<|aac [] 8 (λ X_=>(aD 3 hM (aE 0)))<|ag [] [9] []<|aae 10 (aag [] [] λ n2=>?_);refine ag [] [11] []<|aad<|ae 7 [.own 1] λ _=>aaj [0] [0] (OT (g.step M) (n2+0) mb M (k+11) T _ hM hS.up (aq hE) hC.up) ?_;rintro _ T3 Tf;refine ae 3 [] λ _=>aal [13] [0,1,3,4]<|ag [0,1,3,4] [0,4,8,1,5,9,2,6,10,3,7,11,12] (ow 0 5++[.ro 0])<|aae 13 (aag [0,1,3,4] [.own 2,.own 2,.own 2,.own 2] λ _=>?_);refine ag [0,1,3,4] [14] []<|aad<|ae 1 [] λ _=>aaq [.own 2,.own 2,.own 2,.own 2] [] [0] (v:=.tuple #[.bool false,.agg (aaa (dq (g.step M) M).e).toArray,.bool ((dq (g.step M) M).em)]) (H':=(ap [] [T3])) ?_;exact⟨T3,rfl,Tf.weak (by omega),rfl⟩
theorem OX(g:Gm)(mb:Nat)(M:MemS)(k:Nat)(T F:HL)(hM:MemH mb M (k+20) T)(hS:SetIn F g.S)(hp:M.get 1=3) :Sp Tryz.prog 107 #[.iface 113 (vP mb 0),.agg #[vI g.S.players,vS g.S.bb (g.S.bo*9) g.S.nb g.S.bc,vI g.S.box.x0,vI g.S.box.y0,vI g.S.box.x1,vI g.S.box.y1,.slice g.S.rA g.S.rn g.S.rc,.slice g.S.dA g.S.dn g.S.dc,vI g.S.fog,vI g.S.g.x,vI g.S.g.y,vI g.S.push,vI g.S.drag,vI g.S.rest,vI g.S.rounds,vI g.S.fuel],.agg #[.slice g.cA g.cn g.cc,vI g.e0,vI g.e1,vI g.e2],vI g.version,vS g.ib (g.io*3) g.ni g.ic] (ap [] [T]) F (λ u H'=>∃x,H'=ap [] [x] /\ (MemH mb (aZ (g.step M) M) k x /\ u=.tuple #[.bool false,.agg #[vI 0,vI 0,vI 0,vI 0],.bool false])):=by
 refine aav Tryz.func107 rfl mn (A:=[]) (Ts:=[T]) rfl λ w0=>?_;refine ae 29 (ow 0 8) λ n1=>aai (kH 1 hp hM (ak 0))<|ae 18 [] λ _=>aal [] []<|ag [] [0,1,2,3,4,5,7] (ow 3 16++[.own 2,.own 2,.own 2,.own 2])<|aac [] 6 (λ X_=>(aD 2 hM (aE 0)))<|aac [] 8 (λ X_=>(aD 3 hM (aE 0)))<|ag [] [9] []<|aae 10 (aag [] [] λ n2=>?_);refine ag [] [11] []<|aad<|ae 7 [.own 1] λ _=>aaj [0] [0] (FO (g.step M) (n2+0) mb M (k+12) T _ hM hS.up ) ?_;rintro _ T3 Tf;refine ae 3 [] λ _=>aal [13] [0,1,3,4]<|ag [0,1,3,4] [0,4,8,1,5,9,2,6,10,3,7,11,12] (ow 0 5++[.ro 0])<|aae 13 (aag [0,1,3,4] [.own 2,.own 2,.own 2,.own 2] λ _=>?_);refine ag [0,1,3,4] [14] []<|aad<|ae 1 [] λ _=>aaq [.own 2,.own 2,.own 2,.own 2] [] [0] (v:=.tuple #[.bool false,.agg #[vI 0,vI 0,vI 0,vI 0],.bool false]) (H':=(ap [] [T3])) ?_;exact⟨T3,rfl,Tf.weak (by omega),rfl⟩
theorem OY(g:Gm)(mb:Nat)(M:MemS)(k:Nat)(T F:HL)(hM:MemH mb M (k+20) T)(hS:SetIn F g.S)(hp:M.get 1=4) :Sp Tryz.prog 107 #[.iface 113 (vP mb 0),.agg #[vI g.S.players,vS g.S.bb (g.S.bo*9) g.S.nb g.S.bc,vI g.S.box.x0,vI g.S.box.y0,vI g.S.box.x1,vI g.S.box.y1,.slice g.S.rA g.S.rn g.S.rc,.slice g.S.dA g.S.dn g.S.dc,vI g.S.fog,vI g.S.g.x,vI g.S.g.y,vI g.S.push,vI g.S.drag,vI g.S.rest,vI g.S.rounds,vI g.S.fuel],.agg #[.slice g.cA g.cn g.cc,vI g.e0,vI g.e1,vI g.e2],vI g.version,vS g.ib (g.io*3) g.ni g.ic] (ap [] [T]) F (λ u H'=>∃x,H'=ap [] [x] /\ (MemH mb (bT (g.step M) M) k x /\ u=.tuple #[.bool false,.agg #[vI 0,vI 0,vI 0,vI 0],.bool false])):=by
 refine aav Tryz.func107 rfl mn (A:=[]) (Ts:=[T]) rfl λ w0=>?_;refine ae 29 (ow 0 8) λ n1=>aai (kH 1 hp hM (ak 0))<|ae 18 [] λ _=>aal [] []<|ag [] [0,1,2,3,4,5,7] (ow 3 16++[.own 2,.own 2,.own 2,.own 2])<|aac [] 6 (λ X_=>(aD 2 hM (aE 0)))<|aac [] 8 (λ X_=>(aD 3 hM (aE 0)))<|ag [] [9] []<|aae 10 (aag [] [] λ n2=>?_);refine ag [] [11] []<|aad<|ae 7 [.own 1] λ _=>aaj [0] [0] (xJ (g.step M) (n2+0) mb M (k+6) T _ hM hS.up ) ?_;rintro _ T3 Tf;refine ae 3 [] λ _=>aal [13] [0,1,3,4]<|ag [0,1,3,4] [0,4,8,1,5,9,2,6,10,3,7,11,12] (ow 0 5++[.ro 0])<|aae 13 (aag [0,1,3,4] [.own 2,.own 2,.own 2,.own 2] λ _=>?_);refine ag [0,1,3,4] [14] []<|aad<|ae 1 [] λ _=>aaq [.own 2,.own 2,.own 2,.own 2] [] [0] (v:=.tuple #[.bool false,.agg #[vI 0,vI 0,vI 0,vI 0],.bool false]) (H':=(ap [] [T3])) ?_;exact⟨T3,rfl,Tf.weak (by omega),rfl⟩
theorem OZ(g:Gm)(mb:Nat)(M:MemS)(k:Nat)(T F:HL)(hM:MemH mb M (k+20) T)(hS:SetIn F g.S)(hp:M.get 1=5) :Sp Tryz.prog 107 #[.iface 113 (vP mb 0),.agg #[vI g.S.players,vS g.S.bb (g.S.bo*9) g.S.nb g.S.bc,vI g.S.box.x0,vI g.S.box.y0,vI g.S.box.x1,vI g.S.box.y1,.slice g.S.rA g.S.rn g.S.rc,.slice g.S.dA g.S.dn g.S.dc,vI g.S.fog,vI g.S.g.x,vI g.S.g.y,vI g.S.push,vI g.S.drag,vI g.S.rest,vI g.S.rounds,vI g.S.fuel],.agg #[.slice g.cA g.cn g.cc,vI g.e0,vI g.e1,vI g.e2],vI g.version,vS g.ib (g.io*3) g.ni g.ic] (ap [] [T]) F (λ u H'=>∃x,H'=ap [] [x] /\ (MemH mb (eC (g.step M) M) k x /\ u=.tuple #[.bool false,.agg #[vI 0,vI 0,vI 0,vI 0],.bool false])):=by
 refine aav Tryz.func107 rfl mn (A:=[]) (Ts:=[T]) rfl λ w0=>?_;refine ae 29 (ow 0 8) λ n1=>aai (kH 1 hp hM (ak 0))<|ae 18 [] λ _=>aal [] []<|ag [] [0,1,2,3,4,5,7] (ow 3 16++[.own 2,.own 2,.own 2,.own 2])<|aac [] 6 (λ X_=>(aD 2 hM (aE 0)))<|aac [] 8 (λ X_=>(aD 3 hM (aE 0)))<|ag [] [9] []<|aae 10 (aag [] [] λ n2=>?_);refine ag [] [11] []<|aad<|ae 7 [.own 1] λ _=>aaj [0] [0] (FY (g.step M) (n2+0) mb M (k+12) T _ hM hS.up ) ?_;rintro _ T3 Tf;refine ae 3 [] λ _=>aal [13] [0,1,3,4]<|ag [0,1,3,4] [0,4,8,1,5,9,2,6,10,3,7,11,12] (ow 0 5++[.ro 0])<|aae 13 (aag [0,1,3,4] [.own 2,.own 2,.own 2,.own 2] λ _=>?_);refine ag [0,1,3,4] [14] []<|aad<|ae 1 [] λ _=>aaq [.own 2,.own 2,.own 2,.own 2] [] [0] (v:=.tuple #[.bool false,.agg #[vI 0,vI 0,vI 0,vI 0],.bool false]) (H':=(ap [] [T3])) ?_;exact⟨T3,rfl,Tf.weak (by omega),rfl⟩
theorem O0(g:Gm)(mb:Nat)(M:MemS)(k:Nat)(T F:HL)(hM:MemH mb M (k+20) T)(hS:SetIn F g.S)(hp:M.get 1=6)(hE:bF F)(hC:CodeIn F g.code g.cA g.cn):Sp Tryz.prog 107 #[.iface 113 (vP mb 0),.agg #[vI g.S.players,vS g.S.bb (g.S.bo*9) g.S.nb g.S.bc,vI g.S.box.x0,vI g.S.box.y0,vI g.S.box.x1,vI g.S.box.y1,.slice g.S.rA g.S.rn g.S.rc,.slice g.S.dA g.S.dn g.S.dc,vI g.S.fog,vI g.S.g.x,vI g.S.g.y,vI g.S.push,vI g.S.drag,vI g.S.rest,vI g.S.rounds,vI g.S.fuel],.agg #[.slice g.cA g.cn g.cc,vI g.e0,vI g.e1,vI g.e2],vI g.version,vS g.ib (g.io*3) g.ni g.ic] (ap [] [T]) F (λ u H'=>∃x,H'=ap [] [x] /\ (MemH mb (fO (g.step M) M).M k x /\ u=.tuple #[.bool false,.agg (aaa (fO (g.step M) M).e).toArray,.bool ((fO (g.step M) M).em)])):=by
 refine aav Tryz.func107 rfl mn (A:=[]) (Ts:=[T]) rfl λ w0=>?_;refine ae 29 (ow 0 8) λ n1=>aai (kH 1 hp hM (ak 0))<|ae 18 [] λ _=>aal [] []<|ag [] [0,1,2,3,4,5,7] (ow 3 16++[.own 2,.own 2,.own 2,.own 2])<|aac [] 6 (λ X_=>(aD 2 hM (aE 0)))<|aac [] 8 (λ X_=>(aD 3 hM (aE 0)))<|ag [] [9] []<|aae 10 (aag [] [] λ n2=>?_);refine ag [] [11] []<|aad<|ae 7 [.own 1] λ _=>aaj [0] [0] (QR (g.step M) (n2+0) mb M (k+11) T _ hM hS.up (aq hE) hC.up) ?_;rintro _ T3 Tf;refine ae 3 [] λ _=>aal [13] [0,1,3,4]<|ag [0,1,3,4] [0,4,8,1,5,9,2,6,10,3,7,11,12] (ow 0 5++[.ro 0])<|aae 13 (aag [0,1,3,4] [.own 2,.own 2,.own 2,.own 2] λ _=>?_);refine ag [0,1,3,4] [14] []<|aad<|ae 1 [] λ _=>aaq [.own 2,.own 2,.own 2,.own 2] [] [0] (v:=.tuple #[.bool false,.agg (aaa (fO (g.step M) M).e).toArray,.bool ((fO (g.step M) M).em)]) (H':=(ap [] [T3])) ?_;exact⟨T3,rfl,Tf.weak (by omega),rfl⟩
theorem O2(g:Gm)(mb:Nat)(M:MemS)(k:Nat)(T F:HL)(hM:MemH mb M (k+20) T)(hS:SetIn F g.S)(hp:M.get 1=7) :Sp Tryz.prog 107 #[.iface 113 (vP mb 0),.agg #[vI g.S.players,vS g.S.bb (g.S.bo*9) g.S.nb g.S.bc,vI g.S.box.x0,vI g.S.box.y0,vI g.S.box.x1,vI g.S.box.y1,.slice g.S.rA g.S.rn g.S.rc,.slice g.S.dA g.S.dn g.S.dc,vI g.S.fog,vI g.S.g.x,vI g.S.g.y,vI g.S.push,vI g.S.drag,vI g.S.rest,vI g.S.rounds,vI g.S.fuel],.agg #[.slice g.cA g.cn g.cc,vI g.e0,vI g.e1,vI g.e2],vI g.version,vS g.ib (g.io*3) g.ni g.ic] (ap [] [T]) F (λ u H'=>∃x,H'=ap [] [x] /\ (MemH mb (dS (g.step M) M) k x /\ u=.tuple #[.bool (gJ (g.step M)),.agg #[vI 0,vI 0,vI 0,vI 0],.bool false])):=by
 refine aav Tryz.func107 rfl mn (A:=[]) (Ts:=[T]) rfl λ w0=>?_;refine ae 29 (ow 0 8) λ n1=>aai (kH 1 hp hM (ak 0))<|ae 18 [] λ _=>aal [] []<|ag [] [0,1,2,3,4,5,7] (ow 3 16++[.own 2,.own 2,.own 2,.own 2])<|aac [] 6 (λ X_=>(aD 2 hM (aE 0)))<|aac [] 8 (λ X_=>(aD 3 hM (aE 0)))<|ag [] [9] []<|aae 10 (aag [] [] λ n2=>?_);refine ag [] [11] []<|aad<|ae 7 [.own 1] λ _=>aaj [0] [0] (IP (g.step M) (n2+0) mb M (k+6) T _ hM hS.up ) ?_;rintro _ T3 Tf;refine ae 3 [] λ _=>aal [13] [0,1,3,4]<|ag [0,1,3,4] [0,4,8,1,5,9,2,6,10,3,7,11,12] (ow 0 5++[.ro 0])<|aae 13 (aag [0,1,3,4] [.own 2,.own 2,.own 2,.own 2] λ _=>?_);refine ag [0,1,3,4] [14] []<|aad<|ae 1 [] λ _=>aaq [.own 2,.own 2,.own 2,.own 2] [] [0] (v:=.tuple #[.bool (gJ (g.step M)),.agg #[vI 0,vI 0,vI 0,vI 0],.bool false]) (H':=(ap [] [T3])) ?_;exact⟨T3,rfl,Tf.weak (by omega),rfl⟩
def dk:Enc Eff:=⟨4,λ p k=>match k with|0=>vI p.t|1=>vI p.i|2=>vI p.k|_=>vI p.v,bI⟩
noncomputable def NX:TypeInfo:=match Tryz.prog.info? 111 with | some i=>i | none=>⟨.bool,"",0,0,false,0,0,none,false,#[]⟩
noncomputable def NY:Value:=match NX.zero with|some z=>z|none=>.bool false
theorem j5:EncOk dk Tryz.prog 111 NX NY where
 info:=by kernel_rfl
 zero:=by kernel_rfl
 size:=by kernel_rfl
 zsize:=by kernel_rfl
 zcell:=λ k hk=>by
  have h:∀k<4,NY.cells[k]?=some (dk.cell dk.dflt k):=by intro k hk;(iterate 4 (rcases k with _|k;· kernel_rfl));omega
  exact h k hk
 one:=λ x k=>by unfold dk;dsimp only;split <;> rfl
 bytes:=Nat.le_of_ble_eq_true (by kernel_rfl)
def fL(g:Gm)(M:MemS):VR:=if M.get 1=0 then ⟨aY (g.step M) M,0,bI,false⟩ else if M.get 1=1 then (fN (g.step M) M) else if M.get 1=2 then (dq (g.step M) M) else if M.get 1=3 then ⟨aZ (g.step M) M,0,bI,false⟩ else if M.get 1=4 then ⟨bT (g.step M) M,0,bI,false⟩ else if M.get 1=5 then ⟨eC (g.step M) M,0,bI,false⟩ else if M.get 1=6 then (fO (g.step M) M) else ⟨dS (g.step M) M,0,bI,false⟩
def kB(g:Gm)(M:MemS):Bool:=if M.get 1=7 then gJ (g.step M) else false
abbrev jH(g:Gm)(M:MemS):MemS:=(fL g M).M
abbrev IQ(M:MemS):Prop:=0 <= M.get 1 /\ M.get 1 <= 7
structure GmIn(F:HL)(g:Gm):Prop where
 set:SetIn F g.S
 ins:(g.ib,.rows 3 g.iR (ll g.ins) 40 (0,0))∈F
 room:g.io+g.ni <= g.iR /\ g.ni <= 1000000
 eff:bF F
 code:CodeIn F g.code g.cA g.cn
theorem FZ(g:Gm)(mb:Nat)(M:MemS)(k:Nat)(T F:HL)(hM:MemH mb M (k+20) T)(hg:GmIn F g)(h0:IQ M)(ver:Int)(aed:g.version=ver):Sp Tryz.prog 107 #[.iface 113 (vP mb 0),.agg #[vI g.S.players,vS g.S.bb (g.S.bo*9) g.S.nb g.S.bc,vI g.S.box.x0,vI g.S.box.y0,vI g.S.box.x1,vI g.S.box.y1,.slice g.S.rA g.S.rn g.S.rc,.slice g.S.dA g.S.dn g.S.dc,vI g.S.fog,vI g.S.g.x,vI g.S.g.y,vI g.S.push,vI g.S.drag,vI g.S.rest,vI g.S.rounds,vI g.S.fuel],.agg #[.slice g.cA g.cn g.cc,vI g.e0,vI g.e1,vI g.e2],vI ver,vS g.ib (g.io*3) g.ni g.ic] (ap [] [T]) F (λ u H'=>∃x,H'=ap [] [x] /\ (MemH mb (jH g M) k x /\ u=.tuple #[.bool (kB g M),.agg (aaa (fL g M).e).toArray,.bool ((fL g M).em)])):=by
 subst aed
 by_cases h0:M.get 1=0
 ·rw[jH,show fL g M=⟨aY (g.step M) M,0,bI,false⟩ by simp only[fL,if_pos h0],show kB g M=false by simp[kB,h0]];exact OU g mb M k T F hM hg.set h0 hg.ins hg.room
 by_cases h1:M.get 1=1
 ·rw[jH,show fL g M=(fN (g.step M) M) by simp only[fL,if_neg h0,if_pos h1],show kB g M=false by simp[kB,h1]];exact OV g mb M k T F hM hg.set h1 hg.eff hg.code
 by_cases h2:M.get 1=2
 ·rw[jH,show fL g M=(dq (g.step M) M) by simp only[fL,if_neg h0,if_neg h1,if_pos h2],show kB g M=false by simp[kB,h2]];exact OW g mb M k T F hM hg.set h2 hg.eff hg.code
 by_cases h3:M.get 1=3
 ·rw[jH,show fL g M=⟨aZ (g.step M) M,0,bI,false⟩ by simp only[fL,if_neg h0,if_neg h1,if_neg h2,if_pos h3],show kB g M=false by simp[kB,h3]];exact OX g mb M k T F hM hg.set h3
 by_cases h4:M.get 1=4
 ·rw[jH,show fL g M=⟨bT (g.step M) M,0,bI,false⟩ by simp only[fL,if_neg h0,if_neg h1,if_neg h2,if_neg h3,if_pos h4],show kB g M=false by simp[kB,h4]];exact OY g mb M k T F hM hg.set h4
 by_cases h5:M.get 1=5
 ·rw[jH,show fL g M=⟨eC (g.step M) M,0,bI,false⟩ by simp only[fL,if_neg h0,if_neg h1,if_neg h2,if_neg h3,if_neg h4,if_pos h5],show kB g M=false by simp[kB,h5]];exact OZ g mb M k T F hM hg.set h5
 by_cases h6:M.get 1=6
 ·rw[jH,show fL g M=(fO (g.step M) M) by simp only[fL,if_neg h0,if_neg h1,if_neg h2,if_neg h3,if_neg h4,if_neg h5,if_pos h6],show kB g M=false by simp[kB,h6]];exact O0 g mb M k T F hM hg.set h6 hg.eff hg.code
 have h7:M.get 1=7:=by omega
 rw[jH,show fL g M=⟨dS (g.step M) M,0,bI,false⟩ by simp only[fL,if_neg h0,if_neg h1,if_neg h2,if_neg h3,if_neg h4,if_neg h5,if_neg h6],show kB g M=gJ (g.step M) by simp[kB,h7]];exact O2 g mb M k T F hM hg.set h7
def gU(g:Gm):Nat -> MemS -> MemS
 | 0,M=>M
 | n+1,M=>gU g n (jH g M)
def effsV(g:Gm):Nat -> MemS -> List Eff
 | 0,_=>[]
 | n+1,M=>(if (fL g M).em=true then [(fL g M).e] else [])++effsV g n (jH g M)
def eL(g:Gm):Nat -> MemS -> Prop
 | 0,_=>False
 | n+1,M=>IQ M /\ ((n=0 /\ kB g M=true) \/ (kB g M=false /\ eL g n (jH g M)))
theorem wm{g:Gm}{n:Nat}{M:MemS}(h:(fL g M).em=true):effsV g (n+1) M=(fL g M).e::effsV g n (jH g M):=by rw[effsV,if_pos h];rfl
theorem qg{g:Gm}{n:Nat}{M:MemS}(h:¬ (fL g M).em=true):effsV g (n+1) M=effsV g n (jH g M):=by rw[effsV,if_neg h];rfl
def Shp.nm(s:Shp):Shp:=⟨s.r,s.poly,none,0⟩
def Bod.nm(b:Bod):Bod:=⟨b.sh.nm,b.mot,b.a,b.b⟩
def Setup.nm(S:Setup):Setup:={ S with bb:=0,bo:=0,bc:=0,bR:=0,bods:=(S.bods.drop S.bo).map Bod.nm,rA:=none,rc:=0,dA:=none,dc:=0 }
def Stp.nm(t:Stp):Stp:={ t with S:=t.S.nm,cA:=none,cc:=0,ib:=0,io:=0,ic:=0,iR:=0,ins:=[] }
theorem F1{α:Type}(l:List α)(o k:Nat)(d:α):(l.drop o).getD (0+k) d=l.getD (o+k) d:=by
 rw[Nat.zero_add,List.getD_eq_getElem?_getD,List.getD_eq_getElem?_getD,List.getElem?_drop]
theorem IR{α β:Type}(f:α -> β)(l:List α)(k:Nat)(d:α):(l.map f).getD k (f d)=f (l.getD k d):=by
 rw[List.getD_eq_getElem?_getD,List.getD_eq_getElem?_getD,List.getElem?_map];cases l[k]? <;> rfl
theorem sU(S:Setup)(k:Nat):S.nm.body k=(S.body k).nm:=by
 show ((S.bods.drop S.bo).map Bod.nm).getD (0+k) dB=Bod.nm (S.bods.getD (S.bo+k) dB);rw[<- F1 S.bods S.bo k dB];exact IR Bod.nm _ _ dB
theorem lS(S:Setup):S.nm.players=S.players:=rfl
theorem jI(S:Setup):S.nm.nb=S.nb:=rfl
theorem IU(S:Setup):S.nm.box=S.box:=rfl
theorem O3(S:Setup):S.nm.g=S.g:=rfl
theorem F3(S:Setup):S.nm.push=S.push:=rfl
theorem F4(S:Setup):S.nm.drag=S.drag:=rfl
theorem wo(S:Setup):S.nm.rest=S.rest:=rfl
theorem zG(S:Setup):S.nm.rounds=S.rounds:=rfl
theorem wp(S:Setup):S.nm.fuel=S.fuel:=rfl
theorem D7(t:Stp):t.nm.cn=t.cn:=rfl
theorem D8(t:Stp):t.nm.e0=t.e0:=rfl
theorem Mh(t:Stp):t.nm.e1=t.e1:=rfl
theorem D9(t:Stp):t.nm.e2=t.e2:=rfl
theorem xK(t:Stp):t.nm.version=t.version:=rfl
theorem dQ(t:Stp):t.nm.i=t.i:=rfl
theorem jo(t:Stp):t.nm.j=t.j:=rfl
theorem CA(t:Stp):t.nm.ended=t.ended:=rfl
theorem sV(t:Stp):t.nm.f0=t.f0:=rfl
theorem sW(t:Stp):t.nm.f1=t.f1:=rfl
theorem sX(t:Stp):t.nm.f2=t.f2:=rfl
theorem sY(t:Stp):t.nm.f3=t.f3:=rfl
theorem jJ(t:Stp):t.nm.emitted=t.emitted:=rfl
theorem qQ(t:Stp):t.nm.code=t.code:=rfl
theorem bS(t:Stp):t.nm.S=t.S.nm:=rfl
theorem Ea(b:Bod):b.nm.sh=b.sh.nm:=rfl
theorem zH(b:Bod):b.nm.mot=b.mot:=rfl
theorem O4(s:Shp):s.nm.r=s.r:=rfl
theorem kL(S:Setup)(k:Int) :aj S.nm k=aj S k:=by
 unfold aj;simp only[lS,bS] <;> rfl
theorem f9(S:Setup)(k:Int) :af S.nm k=af S k:=by
 unfold af;simp only[lS,jI,bS] <;> rfl
theorem xL(S:Setup)(k:Int) :(movP S.nm k)=(movP S k):=by
 unfold movP;simp only[jI,bS,zH,sU] <;> rfl
theorem qh(S:Setup)(M:MemS)(k:Int) :au S.nm M k=au S M k:=by
 unfold au;simp only[bS,zH,sU,f9] <;> rfl
theorem zI(a:Shp)(pa:V2)(b:Shp)(pb:V2) :cT a.nm pa b.nm pb=cT a pa b pb:=by
 kernel_rfl
theorem IV(a:Shp)(pa va:V2)(b:Shp)(pb vb:V2) :oJ a.nm pa va b.nm pb vb=oJ a pa va b pb vb:=by
 kernel_rfl
theorem CB(t:Stp)(k:Int)(m:Mot)(M:MemS) :dP t.nm k m M=dP t k m M:=by
 unfold dP;simp only[bS,f9] <;> rfl
theorem F5(t:Stp)(c sp pos lo hi:Int)(M:MemS) :eE t.nm c sp pos lo hi M=eE t c sp pos lo hi M:=by
 unfold eE;simp only[wo,bS] <;> rfl
theorem wq(t:Stp)(M:MemS) :bB t.nm M=bB t M:=by
 unfold bB;simp only[xK,dQ,bS] <;> rfl
theorem wt(t:Stp)(M:MemS) :b7 t.nm M=b7 t M:=by
 unfold b7;simp only[lS,dQ,bS] <;> rfl
theorem zJ(t:Stp) :gJ t.nm=gJ t:=by
 unfold gJ;simp only[jI,dQ,CA,bS] <;> rfl
theorem IW(t:Stp)(M:MemS) :gK t.nm M=gK t M:=by
 unfold gK;simp only[dQ,bS,f9] <;> rfl
theorem IX(t:Stp)(M:MemS) :il t.nm M=il t M:=by
 unfold il;simp only[jI,dQ,bS] <;> rfl
theorem zK(t:Stp)(M:MemS) :dS t.nm M=dS t M:=by
 unfold dS;simp only[bS,IW,IX] <;> rfl
theorem F6(t:Stp)(M:MemS) :cC t.nm M=cC t M:=by
 unfold cC;simp only[O3,F3,F4,dQ,bS,kL,qh] <;> rfl
theorem F7(t:Stp)(M:MemS) :bQ t.nm M=bQ t M:=by
 unfold bQ;simp only[dQ,bS,f9] <;> rfl
theorem F8(t:Stp)(M:MemS) :bW t.nm M=bW t M:=by
 unfold bW;simp only[dQ,bS,f9,xL,F6] <;> rfl
theorem F9(t:Stp)(M:MemS) :cf t.nm M=cf t M:=by
 unfold cf;simp only[jI,dQ,bS] <;> rfl
theorem wu(t:Stp)(M:MemS) :aZ t.nm M=aZ t M:=by
 unfold aZ;simp only[bS,F7,F8,F9] <;> rfl
theorem CC(t:Stp)(M:MemS) :iU t.nm M=iU t M:=by
 unfold iU;simp only[dQ,bS,qh] <;> rfl
theorem CD(t:Stp)(M:MemS) :du t.nm M=du t M:=by
 unfold du;simp only[IU,dQ,bS,f9,F5,CC] <;> rfl
theorem IY(S:Setup)(op n a b:Int)(M:MemS) :aJ S.nm op n a b M=aJ S op n a b M:=by
 unfold aJ;simp only[bS,f9] <;> rfl
theorem IZ(S:Setup)(op n sp pc fuel:Int)(M:MemS) :bZ S.nm op n sp pc fuel M=bZ S op n sp pc fuel M:=by
 unfold bZ;simp only[wp,bS,IY] <;> rfl
theorem I0(S:Setup)(code:List Ins)(n:Nat)(M:MemS) :ao S.nm code n M=ao S code n M:=by
 unfold ao;simp only[qQ,bS,IZ] <;> rfl
theorem xM(e:Int)(t:Stp)(self other:Int)(M:MemS) :fA e t.nm self other M=fA e t self other M:=by
 unfold fA;simp only[wp,D7,jo,jJ,qQ,bS,I0,sV,sW,sX,sY] <;> rfl
theorem xN(e:Int)(t:Stp)(self other:Int)(M:MemS) :dV e t.nm self other M=dV e t self other M:=by
 unfold dV;simp only[D7,jo,qQ,bS] <;> rfl
theorem zL(r:VR)(over:Bool)(t:Stp)(UI:Bool)(M:MemS) :dT r over t.nm UI M=dT r over t UI M:=by
 unfold dT;simp only[dQ,jo,jJ,bS,O4,sV,sW,sX,sY] <;> rfl
theorem Eb(t:Stp)(M:MemS) :fN t.nm M=fN t M:=by
 unfold fN;simp only[dQ,jJ,bS,kL,sV,sW,sX,sY,D8,D9,xM,xN,zL] <;> rfl
theorem zM(t:Stp)(M:MemS) :dq t.nm M=dq t M:=by
 unfold dq;simp only[bS,Mh,dQ,jo,xM,xN] <;> rfl
theorem Ec(t:Stp)(M:MemS) :fO t.nm M=fO t M:=by
 unfold fO;simp only[dQ,jJ,bS,f9,sV,sW,sX,sY,D8,D9,xM,xN,zL] <;> rfl
theorem Ed(t:Stp)(M:MemS) :vn t.nm M=vn t M:=by
 unfold vn;simp only[dQ,jo,bS,Ea,sU,qh,zI] <;> rfl
theorem Mi(t:Stp)(M:MemS) :zF t.nm M=zF t M:=by
 unfold zF;simp only[wo,dQ,jo,bS,qh,Ed] <;> rfl
theorem zN(t:Stp)(M:MemS) :gv t.nm M=gv t M:=by
 unfold gv;simp only[dQ,jo,bS,f9,CB,Mi] <;> rfl
theorem Ga(t:Stp)(M:MemS) :d9 t.nm M=d9 t M:=by
 unfold d9;simp only[jI,dQ,jo,bS,Ed,zN] <;> rfl
theorem Mj(t:Stp)(M:MemS) :vp t.nm M=vp t M:=by
 unfold vp;simp only[dQ,jo,bS,Ea,sU,qh,IV] <;> rfl
theorem I1(t:Stp)(M:MemS) :fB t.nm M=fB t M:=by
 unfold fB;simp only[dQ,jo,bS,xL,Mj] <;> rfl
theorem I2(t:Stp)(M:MemS) :gw t.nm M=gw t M:=by
 unfold gw;simp only[jI,dQ,bS] <;> rfl
theorem zO(t:Stp)(M:MemS) :eC t.nm M=eC t M:=by
 unfold eC;simp only[jI,dQ,jo,bS,xL,CD,I1,I2] <;> rfl
theorem sa(t:Stp)(M:MemS) :bT t.nm M=bT t M:=by
 unfold bT;simp only[jI,zG,dQ,jo,bS,Ga] <;> rfl
def Gm.nm(g:Gm):Gm:={ g with S:=g.S.nm,cA:=none,cc:=0,ib:=0,io:=0,ic:=0,iR:=0,ins:=[] }
theorem nQ(g:Gm)(M:MemS):g.nm.step M=(g.step M).nm:=rfl
structure GEq(g g':Gm):Prop where
 nm:g.nm=g'.nm
 inp:∀k,k<g.ni -> g.ins.getD (g.io+k) dI=g'.ins.getD (g'.io+k) dI
theorem Gb{g g':Gm}(h:GEq g g')(M:MemS):aY (g.step M) M=aY (g'.step M) M:=by
 have hs:(g.step M).nm=(g'.step M).nm:=by rw[<- nQ,<- nQ,h.nm]
 unfold aY;rw[<- wq (g.step M),hs,wq];generalize bB (g'.step M) M=N;have hb:bG (g.step M) N=bG (g'.step M) N:=by
  have hS:(g.step M).S.nm=(g'.step M).S.nm:=show (g.step M).nm.S=(g'.step M).nm.S by rw[hs]
  have hi:(g.step M).i=(g'.step M).i:=show (g.step M).nm.i=(g'.step M).nm.i by rw[hs]
  have hn:(g.step M).ni=(g'.step M).ni:=show (g.step M).nm.ni=(g'.step M).nm.ni by rw[hs]
  unfold bG;rw[<- kL (g.step M).S,hS,kL,hi,hn]
  by_cases h1:aj (g'.step M).S (g'.step M).i >= 0
  ·rw[if_pos h1,if_pos h1]
   by_cases h2:(g'.step M).i<(g'.step M).ni
   ·rw[if_pos h2,if_pos h2];have h3:0 <= (g'.step M).i:=by
     rcases Int.lt_or_le (g'.step M).i 0 with h4|h4
     ·unfold aj at h1;rw[if_pos h4] at h1;omega
     ·exact h4
    have e:(g.step M).inp (g'.step M).i.toNat=(g'.step M).inp (g'.step M).i.toNat:=by
     have h5:(g'.step M).i.toNat<g.ni:=by
      have h6:((g'.step M).ni:Int)=(g.ni:Int):=congrArg (Nat.cast) hn.symm;omega
     exact h.inp _ h5
    rw[e]
   ·rw[if_neg h2,if_neg h2]
  ·rw[if_neg h1,if_neg h1]
 rw[hb,<- wt (g.step M),hs,wt]
theorem xO{g g':Gm}(h:GEq g g')(M:MemS):fL g M=fL g' M:=by
 have hs:(g.step M).nm=(g'.step M).nm:=by rw[<- nQ,<- nQ,h.nm]
 unfold fL;rw[Gb h,<- Eb (g.step M),<- zM (g.step M),<- wu (g.step M),<- sa (g.step M),<- zO (g.step M),<- Ec (g.step M),<- zK (g.step M),hs,Eb,zM,wu,sa,zO,Ec,zK]
theorem I3{g g':Gm}(h:GEq g g')(M:MemS):kB g M=kB g' M:=by
 have hs:(g.step M).nm=(g'.step M).nm:=by rw[<- nQ,<- nQ,h.nm]
 unfold kB;rw[<- zJ (g.step M),hs,zJ]
theorem Ee{g g':Gm}(h:GEq g g'):∀ (n:Nat) (M:MemS),gU g n M=gU g' n M
 | 0,_=>rfl
 | n+1,M=>by rw[gU,gU,jH,jH,xO h];exact Ee h n _
theorem zP{g g':Gm}(h:GEq g g'):∀ (n:Nat) (M:MemS),effsV g n M=effsV g' n M
 | 0,_=>rfl
 | n+1,M=>by rw[effsV,effsV,jH,jH,xO h,zP h n]
def MemS.sh(M:MemS)(l:List (Int × Int))(b:Int):MemS:=⟨M.cs,l++M.lg,b⟩
def VR.sh(r:VR)(l:List (Int × Int))(b:Int):VR:={ r with M:=r.M.sh l b }
theorem bm(M:MemS)(l:List (Int × Int))(b i:Int):(M.sh l b).get i=M.get i:=rfl
theorem bn(M:MemS)(l:List (Int × Int))(b i v:Int):(M.sh l b).set i v=(M.set i v).sh l b:=by
 unfold MemS.set MemS.sh;dsimp only;split
 ·simp
 ·rfl
theorem bx(M N:MemS)(l:List (Int × Int))(b:Int)(c:Prop)[Decidable c]:(if c then M.sh l b else N.sh l b)=(if c then M else N).sh l b:=by split <;> rfl
theorem aQ(M N:VR)(l:List (Int × Int))(b:Int)(c:Prop)[Decidable c]:(if c then M.sh l b else N.sh l b)=(if c then M else N).sh l b:=by split <;> rfl
theorem bq(M:MemS)(l:List (Int × Int))(b v:Int)(e:Eff)(em:Bool):(⟨M.sh l b,v,e,em⟩:VR)=VR.sh ⟨M,v,e,em⟩ l b:=rfl
theorem aG(code:List Ins)(M:MemS)(l:List (Int × Int))(b:Int):bE code (M.sh l b)=bE code M:=rfl
theorem cq(r:VR)(l:List (Int × Int))(b:Int):(r.sh l b).z=r.z.sh l b:=rfl
theorem bU(r:VR)(l:List (Int × Int))(b:Int):(r.sh l b).M=r.M.sh l b:=rfl
theorem cr(r:VR)(l:List (Int × Int))(b:Int):(r.sh l b).v=r.v:=rfl
theorem b6(r:VR)(l:List (Int × Int))(b:Int):(r.sh l b).e=r.e:=rfl
theorem br(r:VR)(l:List (Int × Int))(b:Int):(r.sh l b).em=r.em:=rfl
theorem qi(S:Setup)(M:MemS)(k:Int)(l_:List (Int × Int))(b_:Int):au S (M.sh l_ b_) k=au S M k:=by
 unfold au;simp only[bm,bn,bx,aQ,bq,bU,cr,b6,br,aG,cq] <;> rfl
theorem iA(t:Stp)(ph j:Int)(M:MemS)(l_:List (Int × Int))(b_:Int):aS t ph j (M.sh l_ b_)=(aS t ph j M).sh l_ b_:=by
 unfold aS;simp only[bm,bn,bx,aQ,bq,bU,cr,b6,br,aG,cq] <;> rfl
theorem CE(t:Stp)(k:Int)(m:Mot)(M:MemS)(l_:List (Int × Int))(b_:Int):dP t k m (M.sh l_ b_)=(dP t k m M).sh l_ b_:=by
 unfold dP;simp only[bm,bn,bx,aQ,bq,bU,cr,b6,br,aG,cq] <;> rfl
theorem Gc(t:Stp)(c sp pos lo hi:Int)(M:MemS)(l_:List (Int × Int))(b_:Int):eE t c sp pos lo hi (M.sh l_ b_)=(eE t c sp pos lo hi M).sh l_ b_:=by
 unfold eE;simp only[bm,bn,bx,aQ,bq,bU,cr,b6,br,aG,cq] <;> rfl
theorem Ge(t:Stp)(M:MemS)(l_:List (Int × Int))(b_:Int):bB t (M.sh l_ b_)=(bB t M).sh l_ b_:=by
 unfold bB;simp only[bm,bn,bx,aQ,bq,bU,cr,b6,br,aG,cq] <;> rfl
theorem Gf(t:Stp)(M:MemS)(l_:List (Int × Int))(b_:Int):bG t (M.sh l_ b_)=(bG t M).sh l_ b_:=by
 unfold bG;simp only[bm,bn,bx,aQ,bq,bU,cr,b6,br,aG,cq] <;> rfl
theorem Gg(t:Stp)(M:MemS)(l_:List (Int × Int))(b_:Int):b7 t (M.sh l_ b_)=(b7 t M).sh l_ b_:=by
 unfold b7;simp only[bm,bn,bx,aQ,bq,bU,cr,b6,br,aG,cq,iA] <;> rfl
theorem Gh(t:Stp)(M:MemS)(l_:List (Int × Int))(b_:Int):aY t (M.sh l_ b_)=(aY t M).sh l_ b_:=by
 unfold aY;simp only[bm,bn,bx,aQ,bq,bU,cr,b6,br,aG,cq,Ge,Gf,Gg] <;> rfl
theorem I4(t:Stp)(M:MemS)(l_:List (Int × Int))(b_:Int):gK t (M.sh l_ b_)=(gK t M).sh l_ b_:=by
 unfold gK;simp only[bm,bn,bx,aQ,bq,bU,cr,b6,br,aG,cq] <;> rfl
theorem wv(M:MemS)(l_:List (Int × Int))(b_:Int):∀n,cQ (M.sh l_ b_) n=(cQ M n).sh l_ b_
 | 0=>rfl
 | n+1=>by rw[cQ,cQ,wv M l_ b_ n,bn]
theorem I5(t:Stp)(M:MemS)(l_:List (Int × Int))(b_:Int):il t (M.sh l_ b_)=(il t M).sh l_ b_:=by
 unfold il;simp only[bm,bn,bx,aQ,bq,bU,cr,b6,br,aG,cq,wv] <;> rfl
theorem I6(t:Stp)(M:MemS)(l_:List (Int × Int))(b_:Int):dS t (M.sh l_ b_)=(dS t M).sh l_ b_:=by
 unfold dS;simp only[bm,bn,bx,aQ,bq,bU,cr,b6,br,aG,cq,I4,I5] <;> rfl
theorem Gi(t:Stp)(M:MemS)(l_:List (Int × Int))(b_:Int):cC t (M.sh l_ b_)=cC t M:=by
 unfold cC;simp only[bm,bn,bx,aQ,bq,bU,cr,b6,br,aG,cq,qi] <;> rfl
theorem Gj(t:Stp)(M:MemS)(l_:List (Int × Int))(b_:Int):bQ t (M.sh l_ b_)=(bQ t M).sh l_ b_:=by
 unfold bQ;simp only[bm,bn,bx,aQ,bq,bU,cr,b6,br,aG,cq] <;> rfl
theorem Gk(t:Stp)(M:MemS)(l_:List (Int × Int))(b_:Int):bW t (M.sh l_ b_)=(bW t M).sh l_ b_:=by
 unfold bW;simp only[bm,bn,bx,aQ,bq,bU,cr,b6,br,aG,cq,Gi] <;> rfl
theorem Gl(t:Stp)(M:MemS)(l_:List (Int × Int))(b_:Int):cf t (M.sh l_ b_)=(cf t M).sh l_ b_:=by
 unfold cf;simp only[bm,bn,bx,aQ,bq,bU,cr,b6,br,aG,cq,iA] <;> rfl
theorem Gn(t:Stp)(M:MemS)(l_:List (Int × Int))(b_:Int):aZ t (M.sh l_ b_)=(aZ t M).sh l_ b_:=by
 unfold aZ;simp only[bm,bn,bx,aQ,bq,bU,cr,b6,br,aG,cq,Gj,Gk,Gl] <;> rfl
theorem CF(M:MemS)(l_:List (Int × Int))(b_:Int):nO (M.sh l_ b_)=nO M:=by
 unfold nO;simp only[bm,bn,bx,aQ,bq,bU,cr,b6,br,aG,cq] <;> rfl
theorem CG(t:Stp)(M:MemS)(l_:List (Int × Int))(b_:Int):iU t (M.sh l_ b_)=iU t M:=by
 unfold iU;simp only[bm,bn,bx,aQ,bq,bU,cr,b6,br,aG,cq,qi,CF] <;> rfl
theorem CH(t:Stp)(M:MemS)(l_:List (Int × Int))(b_:Int):du t (M.sh l_ b_)=(du t M).sh l_ b_:=by
 unfold du;simp only[bm,bn,bx,aQ,bq,bU,cr,b6,br,aG,cq,Gc,CG] <;> rfl
theorem I7(k v:Int)(M:MemS)(l_:List (Int × Int))(b_:Int):da k v (M.sh l_ b_)=(da k v M).sh l_ b_:=by
 unfold da;simp only[bm,bn,bx,aQ,bq,bU,cr,b6,br,aG,cq] <;> rfl
theorem I8(S:Setup)(op n a b:Int)(M:MemS)(l_:List (Int × Int))(b_:Int):aJ S op n a b (M.sh l_ b_)=(aJ S op n a b M).sh l_ b_:=by
 unfold aJ;simp only[bm,bn,bx,aQ,bq,bU,cr,b6,br,aG,cq,I7] <;> rfl
theorem Ml(op sp:Int)(M:MemS)(l_:List (Int × Int))(b_:Int):fe op sp (M.sh l_ b_)=fe op sp M:=by
 unfold fe;simp only[bm,bn,bx,aQ,bq,bU,cr,b6,br,aG,cq] <;> rfl
theorem Mm(op sp:Int)(M:MemS)(l_:List (Int × Int))(b_:Int):ff op sp (M.sh l_ b_)=ff op sp M:=by
 unfold ff;simp only[bm,bn,bx,aQ,bq,bU,cr,b6,br,aG,cq] <;> rfl
theorem Mn(op sp pc fuel:Int)(M:MemS)(l_:List (Int × Int))(b_:Int):d8 op sp pc fuel (M.sh l_ b_)=(d8 op sp pc fuel M).sh l_ b_:=by
 unfold d8;simp only[bm,bn,bx,aQ,bq,bU,cr,b6,br,aG,cq] <;> rfl
theorem I9(S:Setup)(op n sp pc fuel:Int)(M:MemS)(l_:List (Int × Int))(b_:Int):bZ S op n sp pc fuel (M.sh l_ b_)=(bZ S op n sp pc fuel M).sh l_ b_:=by
 unfold bZ;simp only[bm,bn,bx,aQ,bq,bU,cr,b6,br,aG,cq,I8,Ml,Mm,Mn] <;> rfl
theorem zQ(code:List Ins)(n:Nat)(M:MemS)(l_:List (Int × Int))(b_:Int):(eY code n (M.sh l_ b_))=(eY code n M):=by
 unfold eY;simp only[bm,bn,bx,aQ,bq,bU,cr,b6,br,aG,cq] <;> rfl
theorem Ja(op sp:Int)(r:VR)(l_:List (Int × Int))(b_:Int):cD op sp (r.sh l_ b_)=(cD op sp r).sh l_ b_:=by
 unfold cD;simp only[bm,bn,bx,aQ,bq,bU,cr,b6,br,aG,cq] <;> rfl
theorem Jb(S:Setup)(code:List Ins)(n:Nat)(M:MemS)(l_:List (Int × Int))(b_:Int):ao S code n (M.sh l_ b_)=(ao S code n M).sh l_ b_:=by
 unfold ao;simp only[bm,bn,bx,aQ,bq,bU,cr,b6,br,aG,cq,I9,zQ,Ja] <;> rfl
theorem Mo(code:List Ins)(n:Nat)(M:MemS)(l_:List (Int × Int))(b_:Int):bH code n (M.sh l_ b_)=bH code n M:=by
 unfold bH;simp only[bm,bn,bx,aQ,bq,bU,cr,b6,br,aG,cq,zQ] <;> rfl
theorem Gp(e fuel self other:Int)(M:MemS)(l_:List (Int × Int))(b_:Int):aU e fuel self other (M.sh l_ b_)=(aU e fuel self other M).sh l_ b_:=by
 unfold aU;simp only[bm,bn,bx,aQ,bq,bU,cr,b6,br,aG,cq] <;> rfl
theorem xP(e:Int)(t:Stp)(self other:Int)(M:MemS)(l_:List (Int × Int))(b_:Int):fA e t self other (M.sh l_ b_)=(fA e t self other M).sh l_ b_:=by
 unfold fA;simp only[bm,bn,bx,aQ,bq,bU,cr,b6,br,aG,cq,Jb,Gp] <;> rfl
theorem xQ(e:Int)(t:Stp)(self other:Int)(M:MemS)(l_:List (Int × Int))(b_:Int):dV e t self other (M.sh l_ b_)=dV e t self other M:=by
 unfold dV;simp only[bm,bn,bx,aQ,bq,bU,cr,b6,br,aG,cq,Mo] <;> rfl
theorem zR(r:VR)(over:Bool)(t:Stp)(UI:Bool)(M:MemS)(l_:List (Int × Int))(b_:Int):dT (r.sh l_ b_) over t UI (M.sh l_ b_)=(dT r over t UI M).sh l_ b_:=by
 unfold dT;simp only[bm,bn,bx,aQ,bq,bU,cr,b6,br,aG,cq] <;> rfl
theorem Jc(t:Stp)(o:Int)(c:Bool)(M:MemS)(l_:List (Int × Int))(b_:Int):db t o c (M.sh l_ b_)=(db t o c M).sh l_ b_:=by
 unfold db cE ky;rw[xP,xQ,zR]
theorem Jd(t:Stp)(o:Int)(c:Bool)(M:MemS)(l_:List (Int × Int))(b_:Int):dg t o c (M.sh l_ b_)=(dg t o c M).sh l_ b_:=by
 unfold dg cF kz;rw[xP,xQ,zR]
theorem Mp(t:Stp)(M:MemS)(l_:List (Int × Int))(b_:Int):fN t (M.sh l_ b_)=(fN t M).sh l_ b_:=by
 unfold fN;simp only[bm,bn,bx,aQ,bq,bU,cr,b6,br,aG,cq,iA,Jc] <;> rfl
theorem Je(t:Stp)(M:MemS)(l_:List (Int × Int))(b_:Int):dq t (M.sh l_ b_)=(dq t M).sh l_ b_:=by
 unfold dq;simp only[bm,bn,bx,aQ,bq,bU,cr,b6,br,aG,cq,iA,xP,xQ] <;> rfl
theorem Eg(t:Stp)(M:MemS)(l_:List (Int × Int))(b_:Int):vn t (M.sh l_ b_)=vn t M:=by
 unfold vn;simp only[bm,bn,bx,aQ,bq,bU,cr,b6,br,aG,cq,qi] <;> rfl
theorem Mq(t:Stp)(M:MemS)(l_:List (Int × Int))(b_:Int):zF t (M.sh l_ b_)=zF t M:=by
 unfold zF;simp only[bm,bn,bx,aQ,bq,bU,cr,b6,br,aG,cq,qi,Eg] <;> rfl
theorem zS(t:Stp)(M:MemS)(l_:List (Int × Int))(b_:Int):gv t (M.sh l_ b_)=(gv t M).sh l_ b_:=by
 unfold gv;simp only[bm,bn,bx,aQ,bq,bU,cr,b6,br,aG,cq,CE,Mq] <;> rfl
theorem Gq(t:Stp)(M:MemS)(l_:List (Int × Int))(b_:Int):d9 t (M.sh l_ b_)=(d9 t M).sh l_ b_:=by
 unfold d9;simp only[bm,bn,bx,aQ,bq,bU,cr,b6,br,aG,cq,Eg,zS] <;> rfl
theorem Mr(t:Stp)(M:MemS)(l_:List (Int × Int))(b_:Int):vp t (M.sh l_ b_)=vp t M:=by
 unfold vp;simp only[bm,bn,bx,aQ,bq,bU,cr,b6,br,aG,cq,qi] <;> rfl
theorem Jf(t:Stp)(M:MemS)(l_:List (Int × Int))(b_:Int):fB t (M.sh l_ b_)=(fB t M).sh l_ b_:=by
 unfold fB;simp only[bm,bn,bx,aQ,bq,bU,cr,b6,br,aG,cq,Mr] <;> rfl
theorem Jg(t:Stp)(M:MemS)(l_:List (Int × Int))(b_:Int):gw t (M.sh l_ b_)=(gw t M).sh l_ b_:=by
 unfold gw;simp only[bm,bn,bx,aQ,bq,bU,cr,b6,br,aG,cq,iA] <;> rfl
theorem Jh(t:Stp)(M:MemS)(l_:List (Int × Int))(b_:Int):eC t (M.sh l_ b_)=(eC t M).sh l_ b_:=by
 unfold eC;simp only[bm,bn,bx,aQ,bq,bU,cr,b6,br,aG,cq,CH,Jf,Jg] <;> rfl
theorem zT(t:Stp)(M:MemS)(l_:List (Int × Int))(b_:Int):bT t (M.sh l_ b_)=(bT t M).sh l_ b_:=by
 unfold bT;simp only[bm,bn,bx,aQ,bq,bU,cr,b6,br,aG,cq,iA,Gq] <;> rfl
theorem Ms(t:Stp)(M:MemS)(l_:List (Int × Int))(b_:Int):fO t (M.sh l_ b_)=(fO t M).sh l_ b_:=by
 unfold fO;simp only[bm,bn,bx,aQ,bq,bU,cr,b6,br,aG,cq,iA,Jd] <;> rfl
theorem Mt(g:Gm)(M:MemS)(l:List (Int × Int))(b:Int):g.step (M.sh l b)=g.step M:=rfl
theorem xR(g:Gm)(M:MemS)(l:List (Int × Int))(b:Int):fL g (M.sh l b)=(fL g M).sh l b:=by
 unfold fL;simp only[Mt,bm,Gh,Mp,Je,Gn,zT,Jh,Ms,I6,bq,aQ]
theorem Ji(g:Gm)(M:MemS)(l:List (Int × Int))(b:Int):kB g (M.sh l b)=kB g M:=rfl
theorem Eh(g:Gm)(l:List (Int × Int))(b:Int):∀ (n:Nat) (M:MemS),gU g n (M.sh l b)=(gU g n M).sh l b
 | 0,_=>rfl
 | n+1,M=>by rw[gU,gU,jH,jH,xR,bU];exact Eh g l b n _
theorem zU(g:Gm)(l:List (Int × Int))(b:Int):∀ (n:Nat) (M:MemS),effsV g n (M.sh l b)=effsV g n M
 | 0,_=>rfl
 | n+1,M=>by rw[effsV,effsV,jH,jH,xR,bU,b6,br,zU g l b n]
def tL(g:Gm):Nat -> MemS -> Nat
 | 0,_=>0
 | f+1,M=>if kB g M=true then 0 else tL g f (jH g M)+1
theorem Jj{g:Gm}:∀ (m f:Nat) (M:MemS),eL g (m+1) M -> m<f -> tL g f M=m
 | m,0,M,_,h=>by omega
 | 0,f+1,M,h,_=>by
  rcases h.2 with ⟨_,e⟩|⟨_,e⟩
  ·rw[tL,if_pos e]
  ·exact e.elim
 | m+1,f+1,M,h,hf=>by
  rcases h.2 with ⟨e,_⟩|⟨e1,e2⟩
  ·omega
  ·rw[tL,if_neg (by rw[e1];simp),Jj m f _ e2 (by omega)]
def fw(g:Gm)(M:MemS):MemS:=gU g (tL g 1000 M+1) M
def lq(g:Gm)(M:MemS):List Eff:=effsV g (tL g 1000 M+1) M
theorem CI{g g':Gm}(h:GEq g g'):∀ (f:Nat) (M:MemS),tL g f M=tL g' f M
 | 0,_=>rfl
 | f+1,M=>by rw[tL,tL,I3 h,jH,jH,xO h,CI h f]
theorem CJ{g g':Gm}(h:GEq g g')(M:MemS):fw g M=fw g' M:=by rw[fw,fw,CI h,Ee h]
theorem CK{g g':Gm}(h:GEq g g')(M:MemS):lq g M=lq g' M:=by rw[lq,lq,CI h,zP h]
theorem CL(g:Gm)(l:List (Int × Int))(b:Int):∀ (f:Nat) (M:MemS),tL g f (M.sh l b)=tL g f M
 | 0,_=>rfl
 | f+1,M=>by rw[tL,tL,Ji,jH,jH,xR,bU,CL g l b f]
theorem xS(g:Gm)(M:MemS)(l:List (Int × Int))(b:Int):fw g (M.sh l b)=(fw g M).sh l b:=by rw[fw,fw,CL,Eh]
theorem Jk(g:Gm)(M:MemS)(l:List (Int × Int))(b:Int):lq g (M.sh l b)=lq g M:=by rw[lq,lq,CL,zU]
theorem mW(M:MemS):(MemS.sh ⟨M.cs,[],0⟩ M.lg M.base)=M:=by cases M;simp[MemS.sh]
theorem o9(g:Gm){M N:MemS}(h:M.cs=N.cs):(fw g M).cs=(fw g N).cs:=by
 rw[<- mW M,<- mW N,xS,xS,h];rfl
theorem qR(g:Gm){M N:MemS}(h:M.cs=N.cs):lq g M=lq g N:=by
 rw[<- mW M,<- mW N,Jk,Jk,h]
def j6(g:Gm):Nat -> MemS -> List (Eff × Bool)
 | 0,_=>[]
 | n+1,M=>((fL g M).e,(fL g M).em)::j6 g n (jH g M)
theorem j7(g:Gm):∀ (n:Nat) (M:MemS),(j6 g n M).length=n
 | 0,_=>rfl
 | n+1,M=>by rw[j6,List.length_cons,j7 g n]
def oA:List (Eff × Bool) -> List Eff
 | []=>[]
 | x::l=>(if x.2=true then [x.1] else [])++oA l
theorem zV(g:Gm):∀ (n:Nat) (M:MemS),oA (j6 g n M)=effsV g n M
 | 0,_=>rfl
 | n+1,M=>by rw[j6,oA,zV g n,effsV]
theorem tM:∀ (l m:List (Eff × Bool)),oA (l++m)=oA l++oA m
 | [],m=>rfl
 | x::l,m=>by rw[List.cons_append,oA,oA,tM l m,List.append_assoc]
theorem zW:∀ (l:List (Eff × Bool)),(oA l).length <= l.length
 | []=>Nat.le_refl _
 | x::l=>by
  have:=zW l;rw[oA,List.length_append,List.length_cons];split
  ·simp;omega
  ·simp;omega
theorem Jl{l:List (Eff × Bool)}{i:Nat}{x:Eff × Bool}(h:l[i]?=some x)(e:x.2=true):oA (l.take (i+1))=oA (l.take i)++[x.1]:=by
 rw[List.take_add_one,h,tM];show _++((if x.2=true then [x.1] else [])++[])=_;rw[if_pos e];rfl
theorem Mu{l:List (Eff × Bool)}{i:Nat}{x:Eff × Bool}(h:l[i]?=some x)(e:¬ x.2=true):oA (l.take (i+1))=oA (l.take i):=by
 rw[List.take_add_one,h,tM];show _++((if x.2=true then [x.1] else [])++[])=_;rw[if_neg e];simp
theorem jc{g:Gm}{l:List (Eff × Bool)}{i r:Nat}{M:MemS}(h:l.drop i=j6 g (r+1) M):l[i]?=some ((fL g M).e,(fL g M).em) /\ l.drop (i+1)=j6 g r (jH g M):=by
 constructor
 ·have:=congrArg (·[0]?) h;simpa [j6] using this
 ·have:=congrArg List.tail h;rwa [List.tail_drop] at this
theorem cg{p:MemS -> Prop}{c:Prop}[Decidable c]{A B:MemS}(h1:p A)(h2:p B):p (if c then A else B):=by split <;> assumption
theorem bC{p:MemS -> Prop}{c:Prop}[Decidable c]{A B:VR}(h1:p A.M)(h2:p B.M):p (if c then A else B).M:=by split <;> assumption
theorem dM{p:MemS -> Prop}{r:VR}(h:p r.M):p r.z.M:=h
theorem iB{p:MemS -> Prop}(hp:∀ (M:MemS) (i v:Int),p M -> p (M.set i v))(t:Stp)(ph j:Int)(M:MemS)(S7:p M):p (aS t ph j M):=by
 unfold aS
 repeat' (first|with_reducible assumption|with_reducible apply hp|with_reducible apply cg|with_reducible apply bC|with_reducible apply dM|split|assumption)
theorem CM{p:MemS -> Prop}(hp:∀ (M:MemS) (i v:Int),p M -> p (M.set i v))(t:Stp)(k:Int)(m:Mot)(M:MemS)(S7:p M):p (dP t k m M):=by
 unfold dP
 repeat' (first|with_reducible assumption|with_reducible apply hp|with_reducible apply cg|with_reducible apply bC|with_reducible apply dM|split|assumption)
theorem Gr{p:MemS -> Prop}(hp:∀ (M:MemS) (i v:Int),p M -> p (M.set i v))(t:Stp)(c sp pos lo hi:Int)(M:MemS)(S7:p M):p (eE t c sp pos lo hi M):=by
 unfold eE
 repeat' (first|with_reducible assumption|with_reducible apply hp|with_reducible apply cg|with_reducible apply bC|with_reducible apply dM|split|assumption)
theorem Gs{p:MemS -> Prop}(hp:∀ (M:MemS) (i v:Int),p M -> p (M.set i v))(t:Stp)(M:MemS)(S7:p M):p (bB t M):=by
 unfold bB
 repeat' (first|with_reducible assumption|with_reducible apply hp|with_reducible apply cg|with_reducible apply bC|with_reducible apply dM|split|assumption)
theorem Gt{p:MemS -> Prop}(hp:∀ (M:MemS) (i v:Int),p M -> p (M.set i v))(t:Stp)(M:MemS)(S7:p M):p (bG t M):=by
 unfold bG
 repeat' (first|with_reducible assumption|with_reducible apply hp|with_reducible apply cg|with_reducible apply bC|with_reducible apply dM|split|assumption)
theorem Gu{p:MemS -> Prop}(hp:∀ (M:MemS) (i v:Int),p M -> p (M.set i v))(t:Stp)(M:MemS)(S7:p M):p (b7 t M):=by
 unfold b7
 repeat' (first|with_reducible assumption|with_reducible apply hp|with_reducible apply iB hp|with_reducible apply cg|with_reducible apply bC|with_reducible apply dM|split|assumption)
theorem Gv{p:MemS -> Prop}(hp:∀ (M:MemS) (i v:Int),p M -> p (M.set i v))(t:Stp)(M:MemS)(S7:p M):p (aY t M):=by
 unfold aY
 repeat' (first|with_reducible assumption|with_reducible apply hp|with_reducible apply Gs hp|with_reducible apply Gt hp|with_reducible apply Gu hp|with_reducible apply cg|with_reducible apply bC|with_reducible apply dM|split|assumption)
theorem Jm{p:MemS -> Prop}(hp:∀ (M:MemS) (i v:Int),p M -> p (M.set i v))(t:Stp)(M:MemS)(S7:p M):p (gK t M):=by
 unfold gK
 repeat' (first|with_reducible assumption|with_reducible apply hp|with_reducible apply cg|with_reducible apply bC|with_reducible apply dM|split|assumption)
theorem wx{p:MemS -> Prop}(hp:∀ (M:MemS) (i v:Int),p M -> p (M.set i v))(M:MemS)(h:p M):∀n,p (cQ M n)
 | 0=>h
 | n+1=>by rw[cQ];exact hp _ _ _ (wx hp M h n)
theorem Jn{p:MemS -> Prop}(hp:∀ (M:MemS) (i v:Int),p M -> p (M.set i v))(t:Stp)(M:MemS)(S7:p M):p (il t M):=by
 unfold il
 repeat' (first|with_reducible assumption|with_reducible apply hp|with_reducible apply wx hp|with_reducible apply cg|with_reducible apply bC|with_reducible apply dM|split|assumption)
theorem Jo{p:MemS -> Prop}(hp:∀ (M:MemS) (i v:Int),p M -> p (M.set i v))(t:Stp)(M:MemS)(S7:p M):p (dS t M):=by
 unfold dS
 repeat' (first|with_reducible assumption|with_reducible apply hp|with_reducible apply Jm hp|with_reducible apply Jn hp|with_reducible apply cg|with_reducible apply bC|with_reducible apply dM|split|assumption)
theorem Gw{p:MemS -> Prop}(hp:∀ (M:MemS) (i v:Int),p M -> p (M.set i v))(t:Stp)(M:MemS)(S7:p M):p (bQ t M):=by
 unfold bQ
 repeat' (first|with_reducible assumption|with_reducible apply hp|with_reducible apply cg|with_reducible apply bC|with_reducible apply dM|split|assumption)
theorem Gx{p:MemS -> Prop}(hp:∀ (M:MemS) (i v:Int),p M -> p (M.set i v))(t:Stp)(M:MemS)(S7:p M):p (bW t M):=by
 unfold bW
 repeat' (first|with_reducible assumption|with_reducible apply hp|with_reducible apply cg|with_reducible apply bC|with_reducible apply dM|split|assumption)
theorem Gy{p:MemS -> Prop}(hp:∀ (M:MemS) (i v:Int),p M -> p (M.set i v))(t:Stp)(M:MemS)(S7:p M):p (cf t M):=by
 unfold cf
 repeat' (first|with_reducible assumption|with_reducible apply hp|with_reducible apply iB hp|with_reducible apply cg|with_reducible apply bC|with_reducible apply dM|split|assumption)
theorem Gz{p:MemS -> Prop}(hp:∀ (M:MemS) (i v:Int),p M -> p (M.set i v))(t:Stp)(M:MemS)(S7:p M):p (aZ t M):=by
 unfold aZ
 repeat' (first|with_reducible assumption|with_reducible apply hp|with_reducible apply Gw hp|with_reducible apply Gx hp|with_reducible apply Gy hp|with_reducible apply cg|with_reducible apply bC|with_reducible apply dM|split|assumption)
theorem CN{p:MemS -> Prop}(hp:∀ (M:MemS) (i v:Int),p M -> p (M.set i v))(t:Stp)(M:MemS)(S7:p M):p (du t M):=by
 unfold du
 repeat' (first|with_reducible assumption|with_reducible apply hp|with_reducible apply Gr hp|with_reducible apply cg|with_reducible apply bC|with_reducible apply dM|split|assumption)
theorem Jp{p:MemS -> Prop}(hp:∀ (M:MemS) (i v:Int),p M -> p (M.set i v))(k v:Int)(M:MemS)(S7:p M):p (da k v M).M:=by
 unfold da
 repeat' (first|with_reducible assumption|with_reducible apply hp|with_reducible apply cg|with_reducible apply bC|with_reducible apply dM|split|assumption)
theorem Jq{p:MemS -> Prop}(hp:∀ (M:MemS) (i v:Int),p M -> p (M.set i v))(S:Setup)(op n a b:Int)(M:MemS)(S7:p M):p (aJ S op n a b M).M:=by
 unfold aJ
 repeat' (first|with_reducible assumption|with_reducible apply hp|with_reducible apply Jp hp|with_reducible apply cg|with_reducible apply bC|with_reducible apply dM|split|assumption)
theorem Mv{p:MemS -> Prop}(hp:∀ (M:MemS) (i v:Int),p M -> p (M.set i v))(op sp pc fuel:Int)(M:MemS)(S7:p M):p (d8 op sp pc fuel M):=by
 unfold d8
 repeat' (first|with_reducible assumption|with_reducible apply hp|with_reducible apply cg|with_reducible apply bC|with_reducible apply dM|split|assumption)
theorem Jr{p:MemS -> Prop}(hp:∀ (M:MemS) (i v:Int),p M -> p (M.set i v))(S:Setup)(op n sp pc fuel:Int)(M:MemS)(S7:p M):p (bZ S op n sp pc fuel M).M:=by
 unfold bZ
 repeat' (first|with_reducible assumption|with_reducible apply hp|with_reducible apply Jq hp|with_reducible apply Mv hp|with_reducible apply cg|with_reducible apply bC|with_reducible apply dM|split|assumption)
theorem Js{p:MemS -> Prop}(hp:∀ (M:MemS) (i v:Int),p M -> p (M.set i v))(op sp:Int)(r:VR)(S7:p r.M):p (cD op sp r).M:=by
 unfold cD
 repeat' (first|with_reducible assumption|with_reducible apply hp|with_reducible apply cg|with_reducible apply bC|with_reducible apply dM|split|assumption)
theorem Jt{p:MemS -> Prop}(hp:∀ (M:MemS) (i v:Int),p M -> p (M.set i v))(S:Setup)(code:List Ins)(n:Nat)(M:MemS)(S7:p M):p (ao S code n M).M:=by
 unfold ao
 repeat' (first|with_reducible assumption|with_reducible apply hp|with_reducible apply Jr hp|with_reducible apply Js hp|with_reducible apply cg|with_reducible apply bC|with_reducible apply dM|split|assumption)
theorem GA{p:MemS -> Prop}(hp:∀ (M:MemS) (i v:Int),p M -> p (M.set i v))(e fuel self other:Int)(M:MemS)(S7:p M):p (aU e fuel self other M):=by
 unfold aU
 repeat' (first|with_reducible assumption|with_reducible apply hp|with_reducible apply cg|with_reducible apply bC|with_reducible apply dM|split|assumption)
theorem xT{p:MemS -> Prop}(hp:∀ (M:MemS) (i v:Int),p M -> p (M.set i v))(e:Int)(t:Stp)(self other:Int)(M:MemS)(S7:p M):p (fA e t self other M).M:=by
 unfold fA
 repeat' (first|with_reducible assumption|with_reducible apply hp|with_reducible apply Jt hp|with_reducible apply GA hp|with_reducible apply cg|with_reducible apply bC|with_reducible apply dM|split|assumption)
theorem lr{p:MemS -> Prop}(hp:∀ (M:MemS) (i v:Int),p M -> p (M.set i v))(r:VR)(over:Bool)(t:Stp)(UI:Bool)(M:MemS)(S7:p r.M)(VH:p M):p (dT r over t UI M).M:=by
 unfold dT
 repeat' (first|with_reducible assumption|with_reducible apply hp|with_reducible apply cg|with_reducible apply bC|with_reducible apply dM|split|assumption)
theorem Ju{p:MemS -> Prop}(hp:∀ (M:MemS) (i v:Int),p M -> p (M.set i v))(t:Stp)(o:Int)(c:Bool)(M:MemS)(h:p M):p (db t o c M).M:=by
 unfold db cE ky
 first|exact lr hp _ _ _ _ _ h|exact lr hp _ _ _ _ h|(repeat' (first|assumption|apply lr hp|apply xT hp|split))
theorem Jv{p:MemS -> Prop}(hp:∀ (M:MemS) (i v:Int),p M -> p (M.set i v))(t:Stp)(o:Int)(c:Bool)(M:MemS)(h:p M):p (dg t o c M).M:=by
 unfold dg cF kz
 first|exact lr hp _ _ _ _ _ h|exact lr hp _ _ _ _ h|(repeat' (first|assumption|apply lr hp|apply xT hp|split))
theorem Mw{p:MemS -> Prop}(hp:∀ (M:MemS) (i v:Int),p M -> p (M.set i v))(t:Stp)(M:MemS)(S7:p M):p (fN t M).M:=by
 unfold fN
 repeat' (first|with_reducible assumption|with_reducible apply hp|with_reducible apply iB hp|with_reducible apply Ju hp|with_reducible apply cg|with_reducible apply bC|with_reducible apply dM|split|assumption)
theorem Jw{p:MemS -> Prop}(hp:∀ (M:MemS) (i v:Int),p M -> p (M.set i v))(t:Stp)(M:MemS)(S7:p M):p (dq t M).M:=by
 unfold dq
 repeat' (first|with_reducible assumption|with_reducible apply hp|with_reducible apply iB hp|with_reducible apply xT hp|with_reducible apply cg|with_reducible apply bC|with_reducible apply dM|split|assumption)
theorem zX{p:MemS -> Prop}(hp:∀ (M:MemS) (i v:Int),p M -> p (M.set i v))(t:Stp)(M:MemS)(S7:p M):p (gv t M):=by
 unfold gv
 repeat' (first|with_reducible assumption|with_reducible apply hp|with_reducible apply CM hp|with_reducible apply cg|with_reducible apply bC|with_reducible apply dM|split|assumption)
theorem GB{p:MemS -> Prop}(hp:∀ (M:MemS) (i v:Int),p M -> p (M.set i v))(t:Stp)(M:MemS)(S7:p M):p (d9 t M):=by
 unfold d9
 repeat' (first|with_reducible assumption|with_reducible apply hp|with_reducible apply zX hp|with_reducible apply cg|with_reducible apply bC|with_reducible apply dM|split|assumption)
theorem Jy{p:MemS -> Prop}(hp:∀ (M:MemS) (i v:Int),p M -> p (M.set i v))(t:Stp)(M:MemS)(S7:p M):p (fB t M):=by
 unfold fB
 repeat' (first|with_reducible assumption|with_reducible apply hp|with_reducible apply cg|with_reducible apply bC|with_reducible apply dM|split|assumption)
theorem Jz{p:MemS -> Prop}(hp:∀ (M:MemS) (i v:Int),p M -> p (M.set i v))(t:Stp)(M:MemS)(S7:p M):p (gw t M):=by
 unfold gw
 repeat' (first|with_reducible assumption|with_reducible apply hp|with_reducible apply iB hp|with_reducible apply cg|with_reducible apply bC|with_reducible apply dM|split|assumption)
theorem JA{p:MemS -> Prop}(hp:∀ (M:MemS) (i v:Int),p M -> p (M.set i v))(t:Stp)(M:MemS)(S7:p M):p (eC t M):=by
 unfold eC
 repeat' (first|with_reducible assumption|with_reducible apply hp|with_reducible apply CN hp|with_reducible apply Jy hp|with_reducible apply Jz hp|with_reducible apply cg|with_reducible apply bC|with_reducible apply dM|split|assumption)
theorem zY{p:MemS -> Prop}(hp:∀ (M:MemS) (i v:Int),p M -> p (M.set i v))(t:Stp)(M:MemS)(S7:p M):p (bT t M):=by
 unfold bT
 repeat' (first|with_reducible assumption|with_reducible apply hp|with_reducible apply iB hp|with_reducible apply GB hp|with_reducible apply cg|with_reducible apply bC|with_reducible apply dM|split|assumption)
theorem Mx{p:MemS -> Prop}(hp:∀ (M:MemS) (i v:Int),p M -> p (M.set i v))(t:Stp)(M:MemS)(S7:p M):p (fO t M).M:=by
 unfold fO
 repeat' (first|with_reducible assumption|with_reducible apply hp|with_reducible apply iB hp|with_reducible apply Jv hp|with_reducible apply cg|with_reducible apply bC|with_reducible apply dM|split|assumption)
theorem O5{p:MemS -> Prop}(hp:∀ (M:MemS) (i v:Int),p M -> p (M.set i v))(g:Gm)(M:MemS)(h:p M):p (fL g M).M:=by
 unfold fL
 repeat' (first|with_reducible assumption|with_reducible apply Gv hp|with_reducible apply Jo hp|with_reducible apply Gz hp|with_reducible apply Mw hp|with_reducible apply Jw hp|with_reducible apply JA hp|with_reducible apply zY hp|with_reducible apply Mx hp|with_reducible apply cg|with_reducible apply bC|split)
theorem Ei{p:MemS -> Prop}(hp:∀ (M:MemS) (i v:Int),p M -> p (M.set i v))(g:Gm):∀ (n:Nat) (M:MemS),p M -> p (gU g n M)
 | 0,_,h=>h
 | n+1,M,h=>by rw[gU,jH];exact Ei hp g n _ (O5 hp g M h)
theorem O6{p:MemS -> Prop}(hp:∀ (M:MemS) (i v:Int),p M -> p (M.set i v))(g:Gm)(M:MemS)(h:p M):p (fw g M):=Ei hp g _ M h
def jd(cs:List Int)(es:List (Int × Int)):List Int:=es.foldr (λ e c=>c.set e.1.toNat e.2) cs
structure UndP(c:List Int)(M:MemS):Prop where
 und:jd M.cs M.lg=c
 len:M.cs.length=c.length
 ent:∀e∈M.lg,0 <= e.1 /\ e.1<(c.length:Int)
theorem UndP.set{c:List Int}(M:MemS)(i v:Int)(h:UndP c M):UndP c (M.set i v):=by
 unfold MemS.set;split
 ·next hi =>
  have hl:=h.len;refine⟨?_,by show (M.cs.set _ _).length=_;rw[List.length_set];exact hl,?_⟩
  ·show jd (M.cs.set _ _) (M.lg++[_])=c;unfold jd;rw[List.foldr_append];show M.lg.foldr _ ((M.cs.set i.toNat v).set i.toNat (M.cs.getD i.toNat 0))=c;have e:(M.cs.set i.toNat v).set i.toNat (M.cs.getD i.toNat 0)=M.cs:=by
    rw[List.set_set];apply List.ext_getElem?;intro k;rw[List.getElem?_set];split
    ·next e=>subst e;rw[if_pos (by omega),List.getD_eq_getElem?_getD,List.getElem?_eq_getElem (by omega)];rfl
    ·rfl
   rw[e];exact h.und
  ·intro e he;rcases List.mem_append.1 he with he|he
   ·exact h.ent e he
   ·rw[List.mem_singleton] at he;subst he;exact⟨by omega,by show i<_;omega⟩
 ·exact h
theorem CO(c:List Int)(b:Int):UndP c ⟨c,[],b⟩:=⟨rfl,rfl,λ _ h=>by cases h⟩
theorem O7(g:Gm)(M:MemS):∃es,(fw g M).lg=M.lg++es /\ (fw g M).base=M.base /\ UndP M.cs ⟨(fw g M).cs,es,0⟩:=by
 have h:=O6 (p:=UndP M.cs) UndP.set g ⟨M.cs,[],0⟩ (CO M.cs 0);have e:fw g M=(fw g ⟨M.cs,[],0⟩).sh M.lg M.base:=by rw[<- xS,mW]
 rw[e];refine⟨(fw g ⟨M.cs,[],0⟩).lg,rfl,rfl,?_⟩;exact⟨h.und,h.len,h.ent⟩
def oB(cs:List Int)(i:Nat):List Int:=cs.take i++List.replicate (cs.length-i) 0
theorem wy(n:Nat):sm [vI 0]=aB (List.replicate n 0):=by
 funext i k;rcases k with _|k
 ·have:(List.replicate n (0:Int)).getD i 0=0:=by
   rw[List.getD_eq_getElem?_getD,List.getElem?_replicate];split <;> rfl
  show vI 0=vI _;rw[this]
 ·simp[sm,aB]
theorem mX(cs:List Int):sm [vI 0]=aB (oB cs 0):=by rw[wy cs.length];simp[oB]
theorem qj(cs:List Int):oB cs cs.length=cs:=by simp[oB]
theorem mY{cs:List Int}{i:Nat}(h:i<cs.length):dG (aB (oB cs i)) i 0 (vI (cs.getD i 0))=aB (oB cs (i+1)):=by
 rw[gT (by simp[oB];omega)];congr 1;unfold oB;rw[List.set_append_right _ _ (by simp;omega)];have e:cs.length-i=(cs.length-(i+1))+1:=by omega
 rw[e,List.replicate_succ,List.take_succ_eq_append_getElem h,List.append_assoc];simp[List.length_take,Nat.min_eq_left (Nat.le_of_lt h),h]
theorem My(q:Nat)(cs:List Int)(k cap:Nat)(F:HL)(hq:(q,.rows 1 cs.length (aB cs) 3 (0,0))∈F)(hc:cs.length <= 1000000)(hk:k <= 100000000)(hcap:cs.length <= cap):Sp Tryz.prog 87 #[vS q 0 cs.length cap] [] F (λ u H'=>∃x:Nat × HL,H'=ap [] [x.2] /\ (u=vP x.1 0 /\ MemH x.1 ⟨cs,[],0⟩ k x.2)):=by
 refine aav Tryz.func87 rfl (mc hq mn) (A:=[]) (Ts:=[]) rfl λ w0=>?_;refine ah 24 [.mk cs.length cs.length] [(cs.length:Int)=((cs.length:Nat):Int) /\ (cs.length:Int)=((cs.length:Nat):Int) /\ cs.length <= cs.length /\ 8*cs.length <= 140737488355328 /\ 1=1 /\ cs.length <= 9223372036854775807] λ n1=>aah 1 (congrArg (λ v_=>(.rows 1 cs.length v_ 3 (0,0):Blk)) (show (sm [vI 0])=(aB (oB cs 0)) from (by rw[mX cs])))<|aao (σ:=Nat) (λ i=>⟨[(0,vS q 0 cs.length cap),(3,vP (n1+1) 0),(11,vI (cs.length:Int)),(12,vI (i:Int))],[((n1+1),.lit [vS (n1+0) 0 cs.length cs.length,.slice none 0 0,vI 0] 162 (0,0)),((n1+0),.rows 1 cs.length (aB (oB cs i)) 3 (0,0))],[],i <= cs.length,cs.length-i⟩) 0 [0,1] [] (Nat.zero_le _) ?_;rintro i Yl Th;refine ae 6 [] λ _=>aam ((i:Int)<(cs.length:Int)) 13 (λ h4=>?_) λ h4=>?_
 ·refine ae 11 [] λ _=>aal [10] []<|av [] [0,4,5,6,1,7,2,8,3,9] [.ix i,.rorow 0 i 0,.own 0,.ix i] [(i:Int)=((i:Nat):Int) /\ i<cs.length,(0+i*1)=i*1+0 /\ i<cs.length,(i:Int)=((i:Nat):Int) /\ i<cs.length]<|aae 10 (gS [] [.row 1 i 0] [(0+i*1)=i*1+0 /\ i<cs.length] λ _=>?_);refine aad<|ah 6 [.nw] [aI ((i:Int)+1)] λ _=>aah 1 (congrArg (λ v_=>(.rows 1 cs.length v_ 3 (0,0):Blk)) (show (dG (aB (oB cs i)) i 0 (vI (cs.getD i 0)))=(aB (oB cs (i+1))) from (by rw[<- mY (cs:=cs) (i:=i) (by omega)]))) ?_;refine Th (i+1) [0,1] [] ?_
  try dsimp only
  exact⟨by omega,by omega⟩
 ·refine ae 12 [] λ _=>aaq [] [0,1] [] (v:=vP (n1+1) 0) (H':=[((n1+1),.lit [vS (n1+0) 0 cs.length cs.length,.slice none 0 0,vI 0] 162 (0,0)),((n1+0),.rows 1 cs.length (aB (oB cs i)) 3 (0,0))]) ?_;have ei:i=cs.length:=by omega
  subst ei;rw[qj];have hmm:=MemH.mk (mb:=(n1+1)) (M:=⟨cs,[],0⟩) (k:=k) (n1+0) none 0 [] (aau _ _) hc (show ([]:List (Int × Int)).length+k <= 100000000 by simpa using hk);exact⟨((n1+1),_),rfl,rfl,hmm⟩
def ai(n Uz:Int):Int:=(if n<0 then bz (0-bz (n+1)) else n).tmod Uz
theorem eT(n:Int)(Uz:Int)(h0:Uz≠0)(F:HL):Sp Tryz.prog 11 #[vI n,vI Uz] [] F (λ u H'=>u=vI (ai n Uz) /\ H'=[]):=by
 refine aav Tryz.func11 rfl mn (A:=[]) (Ts:=[]) rfl λ w0=>?_;refine ae 12 [] λ _=>aam (n<0) 6 (λ h1=>?_) λ h1=>?_
 ·refine tn 16 [.gen,.dv] (λ _=>[Uz≠0]) (λ _=>(ac h0 an)) λ _=>aaq [] [] [] (v:=vI ((i64.wrap (0-(i64.wrap (n+1)))).tmod Uz)) (H':=[]) ?_;exact⟨by unfold ai;simp[*],rfl⟩
 ·refine tn 11 [.dv] (λ _=>[Uz≠0]) (λ _=>(ac h0 an)) λ _=>aaq [] [] [] (v:=vI (n.tmod Uz)) (H':=[]) ?_;exact⟨by unfold ai;simp[*],rfl⟩
def tN(n:Int):Int:=ai n 1000
def qS(n:Int):Int:=bz (512*bz (1+(bz ((tN n).tdiv 7)).tmod 5))
def vq(r:Int):List V2:=[⟨bz (0-r),bz (0-r)⟩,⟨r,bz (0-r)⟩,⟨r,r⟩,⟨bz (0-r),r⟩]
def zZ(r:Int):List V2:=[⟨bz (0-r),bz (0-r)⟩,⟨r,bz (0-r)⟩,⟨0,r⟩]
def z0(r:Int):List V2:=[⟨bz (-2*r),-300⟩,⟨bz (2*r),-300⟩,⟨bz (2*r),300⟩,⟨bz (-2*r),300⟩]
def dm(n:Int):Int × List V2:=if (tN n).tmod 7=0 then (qS n,[]) else if (tN n).tmod 7=1 then (qS n,[]) else if (tN n).tmod 7=2 then (qS n,[]) else if (tN n).tmod 7=3 then (0,vq (qS n)) else if (tN n).tmod 7=4 then (0,vq (qS n)) else if (tN n).tmod 7=5 then (0,zZ (qS n)) else (0,z0 (qS n))
def ShH(s:Shp)(T:HL):Prop:=∀F,(∀x∈T,x∈F) -> ShIn F s
theorem ShH.circle(r:Int)(A:Option Addr)(cap:Nat):ShH ⟨r,[],A,cap⟩ []:=λ F _=>.circle r A cap
theorem ShH.poly(r:Int)(l:List V2)(b cap:Nat)(h3:3 <= l.length)(h4:l.length <= cap)(h5:l.length <= 1000000):ShH ⟨r,l,some ⟨b,0,none⟩,cap⟩ [(b,.rows 2 cap (lj l) 29 (0,0))]:=λ F h=>.poly r l b cap (h _ (by simp)) h3 h4 h5
theorem z6(n:Int)(F:HL):Sp Tryz.prog 40 #[vI n] [] F (λ u H'=>∃x:Option Addr × Nat × HL,H'=ap [] [x.2.2] /\ (u=P4 ⟨(dm n).1,(dm n).2,x.1,x.2.1⟩ /\ ShH ⟨(dm n).1,(dm n).2,x.1,x.2.1⟩ x.2.2)):=by
 refine aav Tryz.func40 rfl mn (A:=[]) (Ts:=[]) rfl λ w0=>?_;refine ae 8 [] λ n1=>aai (eT n 1000 (by decide) _)<|ae 28 [] λ _=>aam ((tN n).tmod 7=0) 14 (λ h2=>?_) λ h2=>?_
 ·refine ae 11 (aab 2) λ _=>aaq (aab 2) [] [] (v:=.agg #[vI (i64.wrap (512*(i64.wrap (1+((i64.wrap ((tN n).tdiv 7)).tmod 5))))),.slice none 0 0]) (H':=[]) ?_;have e:dm n=(qS n,[]):=by simp only[dm,if_pos h2]
  rw[e];exact⟨(none,0,[]),rfl,rfl,ShH.circle _ _ _⟩
 ·refine ae 7 [] λ _=>aam ((tN n).tmod 7=1) 14 (λ h3=>?_) λ h3=>?_
  ·refine ae 11 (aab 2) λ _=>aaq (aab 2) [] [] (v:=.agg #[vI (i64.wrap (512*(i64.wrap (1+((i64.wrap ((tN n).tdiv 7)).tmod 5))))),.slice none 0 0]) (H':=[]) ?_;have e:dm n=(qS n,[]):=by simp only[dm,if_neg h2,if_pos h3]
   rw[e];exact⟨(none,0,[]),rfl,rfl,ShH.circle _ _ _⟩
  ·refine ae 6 [] λ _=>aam ((tN n).tmod 7=2) 14 (λ h4=>?_) λ h4=>?_
   ·refine ae 8 (aab 2) λ _=>aaq (aab 2) [] [] (v:=.agg #[vI (i64.wrap (512*(i64.wrap (1+((i64.wrap ((tN n).tdiv 7)).tmod 5))))),.slice none 0 0]) (H':=[]) ?_;have e:dm n=(qS n,[]):=by simp only[dm,if_neg h2,if_neg h3,if_pos h4]
    rw[e];exact⟨(none,0,[]),rfl,rfl,ShH.circle _ _ _⟩
   ·refine ae 8 [] λ _=>aam ((tN n).tmod 7=3) 20 (λ h5=>?_) λ h5=>?_
    ·refine ae 27 [.own 1,.own 1] λ n6=>aak 0 (.rows 2 4 (lj (vq (qS n))) 29 (0,0))<|aaq [.own 1,.own 1] [0] [] (v:=.agg #[vI 0,vS (n6+0) 0 4 4]) (H':=[((n6+0),.rows 2 4 (lj (vq (qS n))) 29 (0,0))]) ?_;have e:dm n=(0,vq (qS n)):=by simp only[dm,if_neg h2,if_neg h3,if_neg h4,if_pos h5]
     rw[e];exact⟨(some ⟨(n6+0),0,none⟩,4,_),rfl,rfl,ShH.poly 0 (vq (qS n)) (n6+0) 4 (Nat.le_of_ble_eq_true rfl) (Nat.le_of_ble_eq_true rfl) (Nat.le_of_ble_eq_true rfl)⟩
    ·refine ae 6 [] λ _=>aam ((tN n).tmod 7=4) 20 (λ h7=>?_) λ h7=>?_
     ·refine ae 24 [.own 1,.own 1] λ n8=>aak 0 (.rows 2 4 (lj (vq (qS n))) 29 (0,0))<|aaq [.own 1,.own 1] [0] [] (v:=.agg #[vI 0,vS (n8+0) 0 4 4]) (H':=[((n8+0),.rows 2 4 (lj (vq (qS n))) 29 (0,0))]) ?_;have e:dm n=(0,vq (qS n)):=by simp only[dm,if_neg h2,if_neg h3,if_neg h4,if_neg h5,if_pos h7]
      rw[e];exact⟨(some ⟨(n8+0),0,none⟩,4,_),rfl,rfl,ShH.poly 0 (vq (qS n)) (n8+0) 4 (Nat.le_of_ble_eq_true rfl) (Nat.le_of_ble_eq_true rfl) (Nat.le_of_ble_eq_true rfl)⟩
     ·refine ae 7 [] λ _=>aam ((tN n).tmod 7=5) 41 (λ h9=>?_) λ h9=>?_
      ·refine ae 19 [.own 1,.own 1] λ VW=>aak 0 (.rows 2 3 (lj (zZ (qS n))) 29 (0,0))<|aaq [.own 1,.own 1] [0] [] (v:=.agg #[vI 0,vS (VW+0) 0 3 3]) (H':=[((VW+0),.rows 2 3 (lj (zZ (qS n))) 29 (0,0))]) ?_;have e:dm n=(0,zZ (qS n)):=by simp only[dm,if_neg h2,if_neg h3,if_neg h4,if_neg h5,if_neg h7,if_pos h9]
       rw[e];exact⟨(some ⟨(VW+0),0,none⟩,3,_),rfl,rfl,ShH.poly 0 (zZ (qS n)) (VW+0) 3 (Nat.le_of_ble_eq_true rfl) (Nat.le_of_ble_eq_true rfl) (Nat.le_of_ble_eq_true rfl)⟩
      ·refine ae 23 [.own 1,.own 1] λ n11=>aak 0 (.rows 2 4 (lj (z0 (qS n))) 29 (0,0))<|aaq [.own 1,.own 1] [0] [] (v:=.agg #[vI 0,vS (n11+0) 0 4 4]) (H':=[((n11+0),.rows 2 4 (lj (z0 (qS n))) 29 (0,0))]) ?_;have e:dm n=(0,z0 (qS n)):=by simp only[dm,if_neg h2,if_neg h3,if_neg h4,if_neg h5,if_neg h7,if_neg h9]
       rw[e];exact⟨(some ⟨(n11+0),0,none⟩,4,_),rfl,rfl,ShH.poly 0 (z0 (qS n)) (n11+0) 4 (Nat.le_of_ble_eq_true rfl) (Nat.le_of_ble_eq_true rfl) (Nat.le_of_ble_eq_true rfl)⟩
theorem qT{S:Setup}(h:SetN S){i:Nat}(hi:i<S.nb):0 <= af S i /\ af S i+8 <= sizeOf S /\ sizeOf S <= 20000000:=by
 have:=h.pl;have:=h.nb;unfold af sizeOf;rw[if_neg (by omega),if_neg (by omega)];omega
theorem GC{S:Setup}(h:SetN S):48 <= sizeOf S /\ sizeOf S <= 20000000:=by
 have:=h.pl;have:=h.nb;unfold sizeOf;omega
def aH(S:Setup):Nat -> List Int
 | 0=>List.replicate (sizeOf S).toNat 0
 | i+1=>((((((aH S i).set (af S i).toNat (S.body i).mot.px).set (af S i+1).toNat (S.body i).mot.py).set (af S i+2).toNat (S.body i).mot.vx).set (af S i+3).toNat (S.body i).mot.vy).set (af S i+4).toNat (S.body i).a).set (af S i+5).toNat (S.body i).b
theorem gx(S:Setup):∀i,(aH S i).length=(sizeOf S).toNat
 | 0=>by simp[aH]
 | i+1=>by simp[aH,gx S i]
theorem GD{S:Setup}(h:SetN S){i:Nat}(hi:i<S.nb):dG (dG (dG (dG (dG (dG (aB (aH S i)) (af S i).toNat 0 (vI (S.body i).mot.px)) (af S i+1).toNat 0 (vI (S.body i).mot.py)) (af S i+2).toNat 0 (vI (S.body i).mot.vx)) (af S i+3).toNat 0 (vI (S.body i).mot.vy)) (af S i+4).toNat 0 (vI (S.body i).a)) (af S i+5).toNat 0 (vI (S.body i).b)=aB (aH S (i+1)):=by
 have:=qT h hi;rw[gT,gT,gT,gT,gT,gT,aH] <;> (simp only[List.length_set,gx];omega)
def CP:Enc Int:=⟨1,λ p k=>match k with|0=>vI p|_=>vI p,0⟩
noncomputable def NZ:TypeInfo:=match Tryz.prog.info? 3 with | some i=>i | none=>⟨.bool,"",0,0,false,0,0,none,false,#[]⟩
noncomputable def N0:Value:=match NZ.zero with|some z=>z|none=>.bool false
theorem JB:EncOk CP Tryz.prog 3 NZ N0 where
 info:=by kernel_rfl
 zero:=by kernel_rfl
 size:=by kernel_rfl
 zsize:=by kernel_rfl
 zcell:=λ k hk=>by
  have h:∀k<1,N0.cells[k]?=some (CP.cell CP.dflt k):=by intro k hk;(iterate 1 (rcases k with _|k;· kernel_rfl));omega
  exact h k hk
 one:=λ x k=>by unfold CP;dsimp only;split <;> rfl
 bytes:=Nat.le_of_ble_eq_true (by kernel_rfl)
abbrev fH(n:Int):Prop:=-9223372036854775808 <= n /\ n <= 9223372036854775807
theorem aA{n:Int}(hn:fH n)(Uz:Int)(h:0<Uz):0 <= ai n Uz /\ ai n Uz<Uz:=by
 unfold ai;have hx:0 <= (if n<0 then bz (0-bz (n+1)) else n):=by
  split
  ·rw[dH (x:=n+1) (by omega),dH (by omega)];omega
  ·omega
 exact⟨Int.tmod_nonneg _ hx,Int.tmod_lt_of_pos _ h⟩
inductive ArgL(F:HL):Option Addr -> Nat -> List Int -> Prop
 | zero (A:Option Addr):ArgL F A 0 []
 | cells (q o N:Nat) (g:Nat -> Nat -> Value) (ty:TypeId) (fz:Nat × Nat) (xs:List Int) (hq:(q,.rows 1 N g ty fz)∈F) (ho:o+xs.length <= N) (hx:∀k,k<xs.length -> g (o+k) 0=vI (xs.getD k 0)) (hb:∀k,k<xs.length -> fH (xs.getD k 0)):ArgL F (some ⟨q,o,none⟩) xs.length xs
theorem ArgL.up{F X:HL}{A:Option Addr}{n:Nat}{xs:List Int}(h:ArgL F A n xs):ArgL (X++F) A n xs:=by
 cases h with
 | zero=>exact .zero _
 | cells q o N g ty fz xs hq ho hx hb=>exact .cells q o N g ty fz xs (List.mem_append_right _ hq) ho hx hb
theorem ArgL.len{F:HL}{A:Option Addr}{n:Nat}{xs:List Int}(h:ArgL F A n xs):xs.length=n:=by
 cases h <;> rfl
theorem ArgL.at{F:HL}{A:Option Addr}{n:Nat}{xs:List Int}(h:ArgL F A n xs){k:Nat}(hk:k<n):∃q o N g ty fz,A=some ⟨q,o,none⟩ /\ (q,.rows 1 N g ty fz)∈F /\ o+k<N /\ g (o+k) 0=vI (xs.getD k 0) /\ fH (xs.getD k 0):=by
 cases h with
 | zero=>omega
 | cells q o N g ty fz xs hq ho hx hb=>exact⟨q,o,N,g,ty,fz,rfl,hq,by omega,hx k hk,hb k hk⟩
def kv(xs:List Int)(i:Nat):Int:=if i<xs.length then ai (xs.getD i 0) 1000000 else 0
theorem jD{F:HL}{A:Option Addr}{n:Nat}{xs:List Int}(h:ArgL F A n xs)(i:Nat):0 <= kv xs i /\ kv xs i<1000000:=by
 unfold kv;split
 ·next hi =>
  rw[h.len] at hi;obtain⟨_,_,_,_,_,_,_,_,_,_,hr⟩:=h.at hi;exact aA hr 1000000 (by decide)
 ·omega
def ks(xs:List Int)(n:Nat):List Int:=(List.range n).map (kv xs)
theorem pd(xs:List Int)(n:Nat):(ks xs n).length=n:=by simp[ks]
theorem Ej(xs:List Int)(n:Nat):ks xs (n+1)=ks xs n++[kv xs n]:=by simp[ks,List.range_succ]
theorem O8{xs:List Int}{n i:Nat}(h:i<n):(ks xs n).getD i 0=kv xs i:=by simp[ks,h]
structure Dr where (a b:Int)
def oC:Enc V2:=⟨2,λ p k=>match k with|0=>vI p.x|_=>vI p.y,⟨0,0⟩⟩
noncomputable def N3:TypeInfo:=match Tryz.prog.info? 29 with | some i=>i | none=>⟨.bool,"",0,0,false,0,0,none,false,#[]⟩
noncomputable def N4:Value:=match N3.zero with|some z=>z|none=>.bool false
theorem JC:EncOk oC Tryz.prog 29 N3 N4 where
 info:=by kernel_rfl
 zero:=by kernel_rfl
 size:=by kernel_rfl
 zsize:=by kernel_rfl
 zcell:=λ k hk=>by
  have h:∀k<2,N4.cells[k]?=some (oC.cell oC.dflt k):=by intro k hk;(iterate 2 (rcases k with _|k;· kernel_rfl));omega
  exact h k hk
 one:=λ x k=>by unfold oC;dsimp only;split <;> rfl
 bytes:=Nat.le_of_ble_eq_true (by kernel_rfl)
def z7:Enc Bx:=⟨4,λ p k=>match k with|0=>vI p.x0|1=>vI p.y0|2=>vI p.x1|_=>vI p.y1,⟨0,0,0,0⟩⟩
noncomputable def QS:TypeInfo:=match Tryz.prog.info? 25 with | some i=>i | none=>⟨.bool,"",0,0,false,0,0,none,false,#[]⟩
noncomputable def QT:Value:=match QS.zero with|some z=>z|none=>.bool false
theorem N5:EncOk z7 Tryz.prog 25 QS QT where
 info:=by kernel_rfl
 zero:=by kernel_rfl
 size:=by kernel_rfl
 zsize:=by kernel_rfl
 zcell:=λ k hk=>by
  have h:∀k<4,QT.cells[k]?=some (z7.cell z7.dflt k):=by intro k hk;(iterate 4 (rcases k with _|k;· kernel_rfl));omega
  exact h k hk
 one:=λ x k=>by unfold z7;dsimp only;split <;> rfl
 bytes:=Nat.le_of_ble_eq_true (by kernel_rfl)
def pf:Enc Dr:=⟨2,λ p k=>match k with|0=>vI p.a|_=>vI p.b,⟨0,0⟩⟩
noncomputable def QU:TypeInfo:=match Tryz.prog.info? 81 with | some i=>i | none=>⟨.bool,"",0,0,false,0,0,none,false,#[]⟩
noncomputable def QV:Value:=match QU.zero with|some z=>z|none=>.bool false
theorem N6:EncOk pf Tryz.prog 81 QU QV where
 info:=by kernel_rfl
 zero:=by kernel_rfl
 size:=by kernel_rfl
 zsize:=by kernel_rfl
 zcell:=λ k hk=>by
  have h:∀k<2,QV.cells[k]?=some (pf.cell pf.dflt k):=by intro k hk;(iterate 2 (rcases k with _|k;· kernel_rfl));omega
  exact h k hk
 one:=λ x k=>by unfold pf;dsimp only;split <;> rfl
 bytes:=Nat.le_of_ble_eq_true (by kernel_rfl)
structure MapIn(F:HL)(S:Setup)(rs:List Bx)(ds:List Dr):Prop where
 rooms:RowL z7 25 F S.rA S.rn rs
 doors:RowL pf 81 F S.dA S.dn ds
theorem MapIn.up{F X:HL}{S:Setup}{rs:List Bx}{ds:List Dr}(h:MapIn F S rs ds):MapIn (X++F) S rs ds:=⟨h.rooms.up,h.doors.up⟩
abbrev j8:List Bx:=[⟨-12000,-9000,-1,9000⟩,⟨0,0,12000,9000⟩,⟨0,-9000,12000,-1⟩]
abbrev gD(i:Nat):List Dr:=match i with|0=>[]|1=>[⟨0,1⟩]|_=>[⟨0,2⟩,⟨1,2⟩]
def ClS{α:Type}(e:Enc α)(T:TypeId)(xs:List α)(A':Option Addr)(c':Nat)(Hl:HL):Prop:=∃A0,NewS e T xs A0 A' c' Hl
theorem ClS.rowL{α:Type}{e:Enc α}{T:TypeId}{xs:List α}{A':Option Addr}{c':Nat}{Hl:HL}(h:ClS e T xs A' c' Hl){F:HL}(hF:∀x∈Hl,x∈F):RowL e T F A' xs.length xs:=h.elim λ _ h=>h.rowL hF
theorem ClS.nil{α:Type}(e:Enc α)(T:TypeId)(A:Option Addr):ClS e T [] A 0 []:=⟨A,.inl ⟨rfl,rfl,rfl,rfl⟩⟩
end Go.Proofs.YtdppjkjbghbnjaaGreatDoor
