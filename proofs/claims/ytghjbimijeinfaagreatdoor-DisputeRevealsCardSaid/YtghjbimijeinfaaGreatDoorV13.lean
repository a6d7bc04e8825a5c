import Derived.Test.YtghjbimijeinfaaGreatDoorV10
import Derived.Test.YtghjbimijeinfaaGreatDoorV12
set_option maxHeartbeats 4000000
set_option maxRecDepth 100000
set_option linter.all false
namespace Go.Proofs.YtghjbimijeinfaaGreatDoor
open Go.RowKit
structure Gm where
 S:Setup
 cA:Option Addr
 cn:Nat
 cc:Nat
 e0:Int
 e1:Int
 e2:Int
 version:Int
 ib:Nat
 io:Nat
 ni:Nat
 ic:Nat
 iR:Nat
 ins:List Inp
 code:List Ins
abbrev Gm.step(g:Gm)(M:MemS):Stp:=⟨g.S,g.cA,g.cn,g.cc,g.e0,g.e1,g.e2,g.version,g.ib,g.io,g.ni,g.ic,g.iR,g.ins,M.get 2,M.get 3,false,0,0,0,0,false,g.code⟩
theorem Ot(g:Gm)(mb:Nat)(M:MemS)(k:Nat)(T F:HL)(hM:MemH mb M (k+20) T)(hS:SetIn F g.S)(hp:M.get 1=0)(hI:(g.ib,.rows 3 g.iR (j9 g.ins) 151 (0,0))∈F)(hir:g.io+g.ni <= g.iR /\ g.ni <= 1000000):Sp Tryz.prog 18 #[.iface 40 (vP mb 0),.agg #[vI g.S.players,vS g.S.bb (g.S.bo*9) g.S.nb g.S.bc,vI g.S.box.x0,vI g.S.box.y0,vI g.S.box.x1,vI g.S.box.y1,.slice g.S.rA g.S.rn g.S.rc,.slice g.S.dA g.S.dn g.S.dc,vI g.S.fog,vI g.S.g.x,vI g.S.g.y,vI g.S.push,vI g.S.drag,vI g.S.rest,vI g.S.rounds,vI g.S.fuel],.agg #[.slice g.cA g.cn g.cc,vI g.e0,vI g.e1,vI g.e2],vI g.version,vS g.ib (g.io*3) g.ni g.ic] (ap [] [T]) F (λ u H'=>∃x,H'=ap [] [x] /\ (MemH mb (aP (g.step M) M) k x /\ u=.tuple #[.bool false,.agg #[vI 0,vI 0,vI 0,vI 0],.bool false])):=by
 refine aas Tryz.func18 rfl mn (A:=[]) (Ts:=[T]) rfl λ w0=>?_;refine ae 29 (ow 0 8) λ n1=>aah (jF 1 hp hM (ay 0))<|ae 18 [] λ _=>aak [] []<|ag [] [0,1,2,3,4,5,7] (ow 3 16++[.own 2,.own 2,.own 2,.own 2])<|aac [] 6 (λ X_=>(ar 2 hM (aQ 0)))<|aac [] 8 (λ X_=>(ar 3 hM (aQ 0)))<|ag [] [9] []<|aae 10 (aag [] [] λ n2=>?_);refine ag [] [11] []<|aad<|ae 7 [.own 1] λ _=>aai [0] [0] (Eu (g.step M) (n2+0) mb M (k+12) T _ hM hS.up (aau _ hI) hir) ?_;rintro _ T3 H_;refine ae 3 [] λ _=>aak [13] [0,1,3,4]<|ag [0,1,3,4] [0,4,8,1,5,9,2,6,10,3,7,11,12] (ow 0 5++[.ro 0])<|aae 13 (aag [0,1,3,4] [.own 2,.own 2,.own 2,.own 2] λ _=>?_);refine ag [0,1,3,4] [14] []<|aad<|ae 1 [] λ _=>aap [.own 2,.own 2,.own 2,.own 2] [] [0] (v:=.tuple #[.bool false,.agg #[vI 0,vI 0,vI 0,vI 0],.bool false]) (H':=(ap [] [T3])) ?_;exact⟨T3,rfl,H_.weak (by omega),rfl⟩
theorem Ou(g:Gm)(mb:Nat)(M:MemS)(k:Nat)(T F:HL)(hM:MemH mb M (k+20) T)(hS:SetIn F g.S)(hp:M.get 1=1)(hE:dp F)(hC:CodeIn F g.code g.cA g.cn):Sp Tryz.prog 18 #[.iface 40 (vP mb 0),.agg #[vI g.S.players,vS g.S.bb (g.S.bo*9) g.S.nb g.S.bc,vI g.S.box.x0,vI g.S.box.y0,vI g.S.box.x1,vI g.S.box.y1,.slice g.S.rA g.S.rn g.S.rc,.slice g.S.dA g.S.dn g.S.dc,vI g.S.fog,vI g.S.g.x,vI g.S.g.y,vI g.S.push,vI g.S.drag,vI g.S.rest,vI g.S.rounds,vI g.S.fuel],.agg #[.slice g.cA g.cn g.cc,vI g.e0,vI g.e1,vI g.e2],vI g.version,vS g.ib (g.io*3) g.ni g.ic] (ap [] [T]) F (λ u H'=>∃x,H'=ap [] [x] /\ (MemH mb (ff (g.step M) M).M k x /\ u=.tuple #[.bool false,.agg (aaa (ff (g.step M) M).e).toArray,.bool ((ff (g.step M) M).em)])):=by
 refine aas Tryz.func18 rfl mn (A:=[]) (Ts:=[T]) rfl λ w0=>?_;refine ae 29 (ow 0 8) λ n1=>aah (jF 1 hp hM (ay 0))<|ae 18 [] λ _=>aak [] []<|ag [] [0,1,2,3,4,5,7] (ow 3 16++[.own 2,.own 2,.own 2,.own 2])<|aac [] 6 (λ X_=>(ar 2 hM (aQ 0)))<|aac [] 8 (λ X_=>(ar 3 hM (aQ 0)))<|ag [] [9] []<|aae 10 (aag [] [] λ n2=>?_);refine ag [] [11] []<|aad<|ae 7 [.own 1] λ _=>aai [0] [0] (Qy (g.step M) (n2+0) mb M (k+11) T _ hM hS.up (aq hE) hC.up) ?_;rintro _ T3 H_;refine ae 3 [] λ _=>aak [13] [0,1,3,4]<|ag [0,1,3,4] [0,4,8,1,5,9,2,6,10,3,7,11,12] (ow 0 5++[.ro 0])<|aae 13 (aag [0,1,3,4] [.own 2,.own 2,.own 2,.own 2] λ _=>?_);refine ag [0,1,3,4] [14] []<|aad<|ae 1 [] λ _=>aap [.own 2,.own 2,.own 2,.own 2] [] [0] (v:=.tuple #[.bool false,.agg (aaa (ff (g.step M) M).e).toArray,.bool ((ff (g.step M) M).em)]) (H':=(ap [] [T3])) ?_;exact⟨T3,rfl,H_.weak (by omega),rfl⟩
theorem Ov(g:Gm)(mb:Nat)(M:MemS)(k:Nat)(T F:HL)(hM:MemH mb M (k+20) T)(hS:SetIn F g.S)(hp:M.get 1=2)(hE:dp F)(hC:CodeIn F g.code g.cA g.cn):Sp Tryz.prog 18 #[.iface 40 (vP mb 0),.agg #[vI g.S.players,vS g.S.bb (g.S.bo*9) g.S.nb g.S.bc,vI g.S.box.x0,vI g.S.box.y0,vI g.S.box.x1,vI g.S.box.y1,.slice g.S.rA g.S.rn g.S.rc,.slice g.S.dA g.S.dn g.S.dc,vI g.S.fog,vI g.S.g.x,vI g.S.g.y,vI g.S.push,vI g.S.drag,vI g.S.rest,vI g.S.rounds,vI g.S.fuel],.agg #[.slice g.cA g.cn g.cc,vI g.e0,vI g.e1,vI g.e2],vI g.version,vS g.ib (g.io*3) g.ni g.ic] (ap [] [T]) F (λ u H'=>∃x,H'=ap [] [x] /\ (MemH mb (cS (g.step M) M).M k x /\ u=.tuple #[.bool false,.agg (aaa (cS (g.step M) M).e).toArray,.bool ((cS (g.step M) M).em)])):=by
 refine aas Tryz.func18 rfl mn (A:=[]) (Ts:=[T]) rfl λ w0=>?_;refine ae 29 (ow 0 8) λ n1=>aah (jF 1 hp hM (ay 0))<|ae 18 [] λ _=>aak [] []<|ag [] [0,1,2,3,4,5,7] (ow 3 16++[.own 2,.own 2,.own 2,.own 2])<|aac [] 6 (λ X_=>(ar 2 hM (aQ 0)))<|aac [] 8 (λ X_=>(ar 3 hM (aQ 0)))<|ag [] [9] []<|aae 10 (aag [] [] λ n2=>?_);refine ag [] [11] []<|aad<|ae 7 [.own 1] λ _=>aai [0] [0] (Oq (g.step M) (n2+0) mb M (k+11) T _ hM hS.up (aq hE) hC.up) ?_;rintro _ T3 H_;refine ae 3 [] λ _=>aak [13] [0,1,3,4]<|ag [0,1,3,4] [0,4,8,1,5,9,2,6,10,3,7,11,12] (ow 0 5++[.ro 0])<|aae 13 (aag [0,1,3,4] [.own 2,.own 2,.own 2,.own 2] λ _=>?_);refine ag [0,1,3,4] [14] []<|aad<|ae 1 [] λ _=>aap [.own 2,.own 2,.own 2,.own 2] [] [0] (v:=.tuple #[.bool false,.agg (aaa (cS (g.step M) M).e).toArray,.bool ((cS (g.step M) M).em)]) (H':=(ap [] [T3])) ?_;exact⟨T3,rfl,H_.weak (by omega),rfl⟩
theorem Ow(g:Gm)(mb:Nat)(M:MemS)(k:Nat)(T F:HL)(hM:MemH mb M (k+20) T)(hS:SetIn F g.S)(hp:M.get 1=3) :Sp Tryz.prog 18 #[.iface 40 (vP mb 0),.agg #[vI g.S.players,vS g.S.bb (g.S.bo*9) g.S.nb g.S.bc,vI g.S.box.x0,vI g.S.box.y0,vI g.S.box.x1,vI g.S.box.y1,.slice g.S.rA g.S.rn g.S.rc,.slice g.S.dA g.S.dn g.S.dc,vI g.S.fog,vI g.S.g.x,vI g.S.g.y,vI g.S.push,vI g.S.drag,vI g.S.rest,vI g.S.rounds,vI g.S.fuel],.agg #[.slice g.cA g.cn g.cc,vI g.e0,vI g.e1,vI g.e2],vI g.version,vS g.ib (g.io*3) g.ni g.ic] (ap [] [T]) F (λ u H'=>∃x,H'=ap [] [x] /\ (MemH mb (aL (g.step M) M) k x /\ u=.tuple #[.bool false,.agg #[vI 0,vI 0,vI 0,vI 0],.bool false])):=by
 refine aas Tryz.func18 rfl mn (A:=[]) (Ts:=[T]) rfl λ w0=>?_;refine ae 29 (ow 0 8) λ n1=>aah (jF 1 hp hM (ay 0))<|ae 18 [] λ _=>aak [] []<|ag [] [0,1,2,3,4,5,7] (ow 3 16++[.own 2,.own 2,.own 2,.own 2])<|aac [] 6 (λ X_=>(ar 2 hM (aQ 0)))<|aac [] 8 (λ X_=>(ar 3 hM (aQ 0)))<|ag [] [9] []<|aae 10 (aag [] [] λ n2=>?_);refine ag [] [11] []<|aad<|ae 7 [.own 1] λ _=>aai [0] [0] (Ev (g.step M) (n2+0) mb M (k+12) T _ hM hS.up ) ?_;rintro _ T3 H_;refine ae 3 [] λ _=>aak [13] [0,1,3,4]<|ag [0,1,3,4] [0,4,8,1,5,9,2,6,10,3,7,11,12] (ow 0 5++[.ro 0])<|aae 13 (aag [0,1,3,4] [.own 2,.own 2,.own 2,.own 2] λ _=>?_);refine ag [0,1,3,4] [14] []<|aad<|ae 1 [] λ _=>aap [.own 2,.own 2,.own 2,.own 2] [] [0] (v:=.tuple #[.bool false,.agg #[vI 0,vI 0,vI 0,vI 0],.bool false]) (H':=(ap [] [T3])) ?_;exact⟨T3,rfl,H_.weak (by omega),rfl⟩
theorem Ox(g:Gm)(mb:Nat)(M:MemS)(k:Nat)(T F:HL)(hM:MemH mb M (k+20) T)(hS:SetIn F g.S)(hp:M.get 1=4) :Sp Tryz.prog 18 #[.iface 40 (vP mb 0),.agg #[vI g.S.players,vS g.S.bb (g.S.bo*9) g.S.nb g.S.bc,vI g.S.box.x0,vI g.S.box.y0,vI g.S.box.x1,vI g.S.box.y1,.slice g.S.rA g.S.rn g.S.rc,.slice g.S.dA g.S.dn g.S.dc,vI g.S.fog,vI g.S.g.x,vI g.S.g.y,vI g.S.push,vI g.S.drag,vI g.S.rest,vI g.S.rounds,vI g.S.fuel],.agg #[.slice g.cA g.cn g.cc,vI g.e0,vI g.e1,vI g.e2],vI g.version,vS g.ib (g.io*3) g.ni g.ic] (ap [] [T]) F (λ u H'=>∃x,H'=ap [] [x] /\ (MemH mb (bq (g.step M) M) k x /\ u=.tuple #[.bool false,.agg #[vI 0,vI 0,vI 0,vI 0],.bool false])):=by
 refine aas Tryz.func18 rfl mn (A:=[]) (Ts:=[T]) rfl λ w0=>?_;refine ae 29 (ow 0 8) λ n1=>aah (jF 1 hp hM (ay 0))<|ae 18 [] λ _=>aak [] []<|ag [] [0,1,2,3,4,5,7] (ow 3 16++[.own 2,.own 2,.own 2,.own 2])<|aac [] 6 (λ X_=>(ar 2 hM (aQ 0)))<|aac [] 8 (λ X_=>(ar 3 hM (aQ 0)))<|ag [] [9] []<|aae 10 (aag [] [] λ n2=>?_);refine ag [] [11] []<|aad<|ae 7 [.own 1] λ _=>aai [0] [0] (wH (g.step M) (n2+0) mb M (k+6) T _ hM hS.up ) ?_;rintro _ T3 H_;refine ae 3 [] λ _=>aak [13] [0,1,3,4]<|ag [0,1,3,4] [0,4,8,1,5,9,2,6,10,3,7,11,12] (ow 0 5++[.ro 0])<|aae 13 (aag [0,1,3,4] [.own 2,.own 2,.own 2,.own 2] λ _=>?_);refine ag [0,1,3,4] [14] []<|aad<|ae 1 [] λ _=>aap [.own 2,.own 2,.own 2,.own 2] [] [0] (v:=.tuple #[.bool false,.agg #[vI 0,vI 0,vI 0,vI 0],.bool false]) (H':=(ap [] [T3])) ?_;exact⟨T3,rfl,H_.weak (by omega),rfl⟩
theorem Oy(g:Gm)(mb:Nat)(M:MemS)(k:Nat)(T F:HL)(hM:MemH mb M (k+20) T)(hS:SetIn F g.S)(hp:M.get 1=5) :Sp Tryz.prog 18 #[.iface 40 (vP mb 0),.agg #[vI g.S.players,vS g.S.bb (g.S.bo*9) g.S.nb g.S.bc,vI g.S.box.x0,vI g.S.box.y0,vI g.S.box.x1,vI g.S.box.y1,.slice g.S.rA g.S.rn g.S.rc,.slice g.S.dA g.S.dn g.S.dc,vI g.S.fog,vI g.S.g.x,vI g.S.g.y,vI g.S.push,vI g.S.drag,vI g.S.rest,vI g.S.rounds,vI g.S.fuel],.agg #[.slice g.cA g.cn g.cc,vI g.e0,vI g.e1,vI g.e2],vI g.version,vS g.ib (g.io*3) g.ni g.ic] (ap [] [T]) F (λ u H'=>∃x,H'=ap [] [x] /\ (MemH mb (dg (g.step M) M) k x /\ u=.tuple #[.bool false,.agg #[vI 0,vI 0,vI 0,vI 0],.bool false])):=by
 refine aas Tryz.func18 rfl mn (A:=[]) (Ts:=[T]) rfl λ w0=>?_;refine ae 29 (ow 0 8) λ n1=>aah (jF 1 hp hM (ay 0))<|ae 18 [] λ _=>aak [] []<|ag [] [0,1,2,3,4,5,7] (ow 3 16++[.own 2,.own 2,.own 2,.own 2])<|aac [] 6 (λ X_=>(ar 2 hM (aQ 0)))<|aac [] 8 (λ X_=>(ar 3 hM (aQ 0)))<|ag [] [9] []<|aae 10 (aag [] [] λ n2=>?_);refine ag [] [11] []<|aad<|ae 7 [.own 1] λ _=>aai [0] [0] (EG (g.step M) (n2+0) mb M (k+12) T _ hM hS.up ) ?_;rintro _ T3 H_;refine ae 3 [] λ _=>aak [13] [0,1,3,4]<|ag [0,1,3,4] [0,4,8,1,5,9,2,6,10,3,7,11,12] (ow 0 5++[.ro 0])<|aae 13 (aag [0,1,3,4] [.own 2,.own 2,.own 2,.own 2] λ _=>?_);refine ag [0,1,3,4] [14] []<|aad<|ae 1 [] λ _=>aap [.own 2,.own 2,.own 2,.own 2] [] [0] (v:=.tuple #[.bool false,.agg #[vI 0,vI 0,vI 0,vI 0],.bool false]) (H':=(ap [] [T3])) ?_;exact⟨T3,rfl,H_.weak (by omega),rfl⟩
theorem Oz(g:Gm)(mb:Nat)(M:MemS)(k:Nat)(T F:HL)(hM:MemH mb M (k+20) T)(hS:SetIn F g.S)(hp:M.get 1=6)(hE:dp F)(hC:CodeIn F g.code g.cA g.cn):Sp Tryz.prog 18 #[.iface 40 (vP mb 0),.agg #[vI g.S.players,vS g.S.bb (g.S.bo*9) g.S.nb g.S.bc,vI g.S.box.x0,vI g.S.box.y0,vI g.S.box.x1,vI g.S.box.y1,.slice g.S.rA g.S.rn g.S.rc,.slice g.S.dA g.S.dn g.S.dc,vI g.S.fog,vI g.S.g.x,vI g.S.g.y,vI g.S.push,vI g.S.drag,vI g.S.rest,vI g.S.rounds,vI g.S.fuel],.agg #[.slice g.cA g.cn g.cc,vI g.e0,vI g.e1,vI g.e2],vI g.version,vS g.ib (g.io*3) g.ni g.ic] (ap [] [T]) F (λ u H'=>∃x,H'=ap [] [x] /\ (MemH mb (fg (g.step M) M).M k x /\ u=.tuple #[.bool false,.agg (aaa (fg (g.step M) M).e).toArray,.bool ((fg (g.step M) M).em)])):=by
 refine aas Tryz.func18 rfl mn (A:=[]) (Ts:=[T]) rfl λ w0=>?_;refine ae 29 (ow 0 8) λ n1=>aah (jF 1 hp hM (ay 0))<|ae 18 [] λ _=>aak [] []<|ag [] [0,1,2,3,4,5,7] (ow 3 16++[.own 2,.own 2,.own 2,.own 2])<|aac [] 6 (λ X_=>(ar 2 hM (aQ 0)))<|aac [] 8 (λ X_=>(ar 3 hM (aQ 0)))<|ag [] [9] []<|aae 10 (aag [] [] λ n2=>?_);refine ag [] [11] []<|aad<|ae 7 [.own 1] λ _=>aai [0] [0] (Qz (g.step M) (n2+0) mb M (k+11) T _ hM hS.up (aq hE) hC.up) ?_;rintro _ T3 H_;refine ae 3 [] λ _=>aak [13] [0,1,3,4]<|ag [0,1,3,4] [0,4,8,1,5,9,2,6,10,3,7,11,12] (ow 0 5++[.ro 0])<|aae 13 (aag [0,1,3,4] [.own 2,.own 2,.own 2,.own 2] λ _=>?_);refine ag [0,1,3,4] [14] []<|aad<|ae 1 [] λ _=>aap [.own 2,.own 2,.own 2,.own 2] [] [0] (v:=.tuple #[.bool false,.agg (aaa (fg (g.step M) M).e).toArray,.bool ((fg (g.step M) M).em)]) (H':=(ap [] [T3])) ?_;exact⟨T3,rfl,H_.weak (by omega),rfl⟩
theorem OA(g:Gm)(mb:Nat)(M:MemS)(k:Nat)(T F:HL)(hM:MemH mb M (k+20) T)(hS:SetIn F g.S)(hp:M.get 1=7) :Sp Tryz.prog 18 #[.iface 40 (vP mb 0),.agg #[vI g.S.players,vS g.S.bb (g.S.bo*9) g.S.nb g.S.bc,vI g.S.box.x0,vI g.S.box.y0,vI g.S.box.x1,vI g.S.box.y1,.slice g.S.rA g.S.rn g.S.rc,.slice g.S.dA g.S.dn g.S.dc,vI g.S.fog,vI g.S.g.x,vI g.S.g.y,vI g.S.push,vI g.S.drag,vI g.S.rest,vI g.S.rounds,vI g.S.fuel],.agg #[.slice g.cA g.cn g.cc,vI g.e0,vI g.e1,vI g.e2],vI g.version,vS g.ib (g.io*3) g.ni g.ic] (ap [] [T]) F (λ u H'=>∃x,H'=ap [] [x] /\ (MemH mb (dm (g.step M) M) k x /\ u=.tuple #[.bool (gi (g.step M)),.agg #[vI 0,vI 0,vI 0,vI 0],.bool false])):=by
 refine aas Tryz.func18 rfl mn (A:=[]) (Ts:=[T]) rfl λ w0=>?_;refine ae 29 (ow 0 8) λ n1=>aah (jF 1 hp hM (ay 0))<|ae 18 [] λ _=>aak [] []<|ag [] [0,1,2,3,4,5,7] (ow 3 16++[.own 2,.own 2,.own 2,.own 2])<|aac [] 6 (λ X_=>(ar 2 hM (aQ 0)))<|aac [] 8 (λ X_=>(ar 3 hM (aQ 0)))<|ag [] [9] []<|aae 10 (aag [] [] λ n2=>?_);refine ag [] [11] []<|aad<|ae 7 [.own 1] λ _=>aai [0] [0] (Hh (g.step M) (n2+0) mb M (k+6) T _ hM hS.up ) ?_;rintro _ T3 H_;refine ae 3 [] λ _=>aak [13] [0,1,3,4]<|ag [0,1,3,4] [0,4,8,1,5,9,2,6,10,3,7,11,12] (ow 0 5++[.ro 0])<|aae 13 (aag [0,1,3,4] [.own 2,.own 2,.own 2,.own 2] λ _=>?_);refine ag [0,1,3,4] [14] []<|aad<|ae 1 [] λ _=>aap [.own 2,.own 2,.own 2,.own 2] [] [0] (v:=.tuple #[.bool (gi (g.step M)),.agg #[vI 0,vI 0,vI 0,vI 0],.bool false]) (H':=(ap [] [T3])) ?_;exact⟨T3,rfl,H_.weak (by omega),rfl⟩
def sy:Enc Eff:=⟨4,λ p k=>match k with|0=>vI p.t|1=>vI p.i|2=>vI p.k|_=>vI p.v,bz⟩
noncomputable def Np:TypeInfo:=match Tryz.prog.info? 53 with | some i=>i | none=>⟨.bool,"",0,0,false,0,0,none,false,#[]⟩
noncomputable def Nq:Value:=match Np.zero with|some z=>z|none=>.bool false
theorem AZ:EncOk sy Tryz.prog 53 Np Nq where
 info:=by kernel_rfl
 zero:=by kernel_rfl
 size:=by kernel_rfl
 zsize:=by kernel_rfl
 zcell:=λ k hk=>by
  have h:∀k<4,Nq.cells[k]?=some (sy.cell sy.dflt k):=by intro k hk;(iterate 4 (rcases k with _|k;· kernel_rfl));omega
  exact h k hk
 one:=λ x k=>by unfold sy;dsimp only;split <;> rfl
 bytes:=aaN (by kernel_rfl)
def eV(g:Gm)(M:MemS):VR:=if M.get 1=0 then ⟨aP (g.step M) M,0,bz,false⟩ else if M.get 1=1 then (ff (g.step M) M) else if M.get 1=2 then (cS (g.step M) M) else if M.get 1=3 then ⟨aL (g.step M) M,0,bz,false⟩ else if M.get 1=4 then ⟨bq (g.step M) M,0,bz,false⟩ else if M.get 1=5 then ⟨dg (g.step M) M,0,bz,false⟩ else if M.get 1=6 then (fg (g.step M) M) else ⟨dm (g.step M) M,0,bz,false⟩
def gS(g:Gm)(M:MemS):Bool:=if M.get 1=7 then gi (g.step M) else false
abbrev eR(g:Gm)(M:MemS):MemS:=(eV g M).M
abbrev mX(M:MemS):Prop:=0 <= M.get 1 /\ M.get 1 <= 7
structure GmIn(F:HL)(g:Gm):Prop where
 set:SetIn F g.S
 ins:(g.ib,.rows 3 g.iR (j9 g.ins) 151 (0,0))∈F
 room:g.io+g.ni <= g.iR /\ g.ni <= 1000000
 eff:dp F
 code:CodeIn F g.code g.cA g.cn
theorem EH(g:Gm)(mb:Nat)(M:MemS)(k:Nat)(T F:HL)(hM:MemH mb M (k+20) T)(hg:GmIn F g)(h0:mX M)(ver:Int)(Z9:g.version=ver):Sp Tryz.prog 18 #[.iface 40 (vP mb 0),.agg #[vI g.S.players,vS g.S.bb (g.S.bo*9) g.S.nb g.S.bc,vI g.S.box.x0,vI g.S.box.y0,vI g.S.box.x1,vI g.S.box.y1,.slice g.S.rA g.S.rn g.S.rc,.slice g.S.dA g.S.dn g.S.dc,vI g.S.fog,vI g.S.g.x,vI g.S.g.y,vI g.S.push,vI g.S.drag,vI g.S.rest,vI g.S.rounds,vI g.S.fuel],.agg #[.slice g.cA g.cn g.cc,vI g.e0,vI g.e1,vI g.e2],vI ver,vS g.ib (g.io*3) g.ni g.ic] (ap [] [T]) F (λ u H'=>∃x,H'=ap [] [x] /\ (MemH mb (eR g M) k x /\ u=.tuple #[.bool (gS g M),.agg (aaa (eV g M).e).toArray,.bool ((eV g M).em)])):=by
 subst Z9
 by_cases h0:M.get 1=0
 ·rw[eR,show eV g M=⟨aP (g.step M) M,0,bz,false⟩ by simp only[eV,if_pos h0],show gS g M=false by simp[gS,h0]];exact Ot g mb M k T F hM hg.set h0 hg.ins hg.room
 by_cases h1:M.get 1=1
 ·rw[eR,show eV g M=(ff (g.step M) M) by simp only[eV,if_neg h0,if_pos h1],show gS g M=false by simp[gS,h1]];exact Ou g mb M k T F hM hg.set h1 hg.eff hg.code
 by_cases h2:M.get 1=2
 ·rw[eR,show eV g M=(cS (g.step M) M) by simp only[eV,if_neg h0,if_neg h1,if_pos h2],show gS g M=false by simp[gS,h2]];exact Ov g mb M k T F hM hg.set h2 hg.eff hg.code
 by_cases h3:M.get 1=3
 ·rw[eR,show eV g M=⟨aL (g.step M) M,0,bz,false⟩ by simp only[eV,if_neg h0,if_neg h1,if_neg h2,if_pos h3],show gS g M=false by simp[gS,h3]];exact Ow g mb M k T F hM hg.set h3
 by_cases h4:M.get 1=4
 ·rw[eR,show eV g M=⟨bq (g.step M) M,0,bz,false⟩ by simp only[eV,if_neg h0,if_neg h1,if_neg h2,if_neg h3,if_pos h4],show gS g M=false by simp[gS,h4]];exact Ox g mb M k T F hM hg.set h4
 by_cases h5:M.get 1=5
 ·rw[eR,show eV g M=⟨dg (g.step M) M,0,bz,false⟩ by simp only[eV,if_neg h0,if_neg h1,if_neg h2,if_neg h3,if_neg h4,if_pos h5],show gS g M=false by simp[gS,h5]];exact Oy g mb M k T F hM hg.set h5
 by_cases h6:M.get 1=6
 ·rw[eR,show eV g M=(fg (g.step M) M) by simp only[eV,if_neg h0,if_neg h1,if_neg h2,if_neg h3,if_neg h4,if_neg h5,if_pos h6],show gS g M=false by simp[gS,h6]];exact Oz g mb M k T F hM hg.set h6 hg.eff hg.code
 have h7:M.get 1=7:=by omega
 rw[eR,show eV g M=⟨dm (g.step M) M,0,bz,false⟩ by simp only[eV,if_neg h0,if_neg h1,if_neg h2,if_neg h3,if_neg h4,if_neg h5,if_neg h6],show gS g M=gi (g.step M) by simp[gS,h7]];exact OA g mb M k T F hM hg.set h7
def eI(g:Gm):Nat -> MemS -> MemS
 | 0,M=>M
 | n+1,M=>eI g n (eR g M)
def dP(g:Gm):Nat -> MemS -> List Eff
 | 0,_=>[]
 | n+1,M=>(if (eV g M).em=true then [(eV g M).e] else [])++dP g n (eR g M)
def cH(g:Gm):Nat -> MemS -> Prop
 | 0,_=>False
 | n+1,M=>mX M /\ ((n=0 /\ gS g M=true) \/ (gS g M=false /\ cH g n (eR g M)))
theorem uO{g:Gm}{n:Nat}{M:MemS}(h:(eV g M).em=true):dP g (n+1) M=(eV g M).e::dP g n (eR g M):=by rw[dP,if_pos h];rfl
theorem oV{g:Gm}{n:Nat}{M:MemS}(h:¬ (eV g M).em=true):dP g (n+1) M=dP g n (eR g M):=by rw[dP,if_neg h];rfl
theorem uP(g:Gm):∀n M,(dP g n M).length <= n
 | 0,_=>aaS _
 | n+1,M=>by
  rw[dP,aaV];have:=uP g n (eR g M);split
  ·simp;omega
  ·simp;omega
def Shp.nm(s:Shp):Shp:=⟨s.r,s.poly,none,0⟩
def Bod.nm(b:Bod):Bod:=⟨b.sh.nm,b.mot,b.a,b.b⟩
def Setup.nm(S:Setup):Setup:={ S with bb:=0,bo:=0,bc:=0,bR:=0,bods:=(S.bods.drop S.bo).map Bod.nm,rA:=none,rc:=0,dA:=none,dc:=0 }
def Stp.nm(t:Stp):Stp:={ t with S:=t.S.nm,cA:=none,cc:=0,ib:=0,io:=0,ic:=0,iR:=0,ins:=[] }
theorem EI{α:Type}(l:List α)(o k:Nat)(d:α):(l.drop o).getD (0+k) d=l.getD (o+k) d:=by
 rw[Nat.zero_add,aaK,aaK,List.getElem?_drop]
theorem Hj{α β:Type}(f:α -> β)(l:List α)(k:Nat)(d:α):(l.map f).getD k (f d)=f (l.getD k d):=by
 rw[aaK,aaK,abv];cases l[k]? <;> rfl
theorem rN(S:Setup)(k:Nat):S.nm.body k=(S.body k).nm:=by
 show ((S.bods.drop S.bo).map Bod.nm).getD (0+k) dB=Bod.nm (S.bods.getD (S.bo+k) dB);rw[<- EI S.bods S.bo k dB];exact Hj Bod.nm _ _ dB
theorem kR(S:Setup):S.nm.players=S.players:=rfl
theorem iG(S:Setup):S.nm.nb=S.nb:=rfl
theorem Hk(S:Setup):S.nm.box=S.box:=rfl
theorem OB(S:Setup):S.nm.g=S.g:=rfl
theorem EJ(S:Setup):S.nm.push=S.push:=rfl
theorem EK(S:Setup):S.nm.drag=S.drag:=rfl
theorem uQ(S:Setup):S.nm.rest=S.rest:=rfl
theorem yi(S:Setup):S.nm.rounds=S.rounds:=rfl
theorem uR(S:Setup):S.nm.fuel=S.fuel:=rfl
theorem CM(t:Stp):t.nm.cn=t.cn:=rfl
theorem CN(t:Stp):t.nm.e0=t.e0:=rfl
theorem K9(t:Stp):t.nm.e1=t.e1:=rfl
theorem CO(t:Stp):t.nm.e2=t.e2:=rfl
theorem wI(t:Stp):t.nm.version=t.version:=rfl
theorem dw(t:Stp):t.nm.i=t.i:=rfl
theorem ii(t:Stp):t.nm.j=t.j:=rfl
theorem A7(t:Stp):t.nm.ended=t.ended:=rfl
theorem rO(t:Stp):t.nm.f0=t.f0:=rfl
theorem rP(t:Stp):t.nm.f1=t.f1:=rfl
theorem rQ(t:Stp):t.nm.f2=t.f2:=rfl
theorem rR(t:Stp):t.nm.f3=t.f3:=rfl
theorem iH(t:Stp):t.nm.emitted=t.emitted:=rfl
theorem pU(t:Stp):t.nm.code=t.code:=rfl
theorem bG(t:Stp):t.nm.S=t.S.nm:=rfl
theorem CP(b:Bod):b.nm.sh=b.sh.nm:=rfl
theorem yj(b:Bod):b.nm.mot=b.mot:=rfl
theorem OC(s:Shp):s.nm.r=s.r:=rfl
theorem jK(S:Setup)(k:Int) :ah S.nm k=ah S k:=by
 unfold ah;simp only[kR,bG] <;> rfl
theorem fH(S:Setup)(k:Int) :af S.nm k=af S k:=by
 unfold af;simp only[kR,iG,bG] <;> rfl
theorem wJ(S:Setup)(k:Int) :(movP S.nm k)=(movP S k):=by
 unfold movP;simp only[iG,bG,yj,rN] <;> rfl
theorem oW(S:Setup)(M:MemS)(k:Int) :al S.nm M k=al S M k:=by
 unfold al;simp only[bG,yj,rN,fH] <;> rfl
theorem yl(a:Shp)(pa:V2)(b:Shp)(pb:V2) :cy a.nm pa b.nm pb=cy a pa b pb:=by
 kernel_rfl
theorem Hm(a:Shp)(pa va:V2)(b:Shp)(pb vb:V2) :lX a.nm pa va b.nm pb vb=lX a pa va b pb vb:=by
 kernel_rfl
theorem A8(t:Stp)(k:Int)(m:Mot)(M:MemS) :du t.nm k m M=du t k m M:=by
 unfold du;simp only[bG,fH] <;> rfl
theorem EL(t:Stp)(c sp pos lo hi:Int)(M:MemS) :dK t.nm c sp pos lo hi M=dK t c sp pos lo hi M:=by
 unfold dK;simp only[uQ,bG] <;> rfl
theorem uS(t:Stp)(M:MemS) :aW t.nm M=aW t M:=by
 unfold aW;simp only[wI,dw,bG] <;> rfl
theorem uT(t:Stp)(M:MemS) :b6 t.nm M=b6 t M:=by
 unfold b6;simp only[kR,dw,bG] <;> rfl
theorem ym(t:Stp) :gi t.nm=gi t:=by
 unfold gi;simp only[iG,dw,A7,bG] <;> rfl
theorem Hn(t:Stp)(M:MemS) :fq t.nm M=fq t M:=by
 unfold fq;simp only[dw,bG,fH] <;> rfl
theorem Hs(t:Stp)(M:MemS) :gP t.nm M=gP t M:=by
 unfold gP;simp only[iG,dw,bG] <;> rfl
theorem yn(t:Stp)(M:MemS) :dm t.nm M=dm t M:=by
 unfold dm;simp only[bG,Hn,Hs] <;> rfl
theorem EM(t:Stp)(M:MemS) :bF t.nm M=bF t M:=by
 unfold bF;simp only[OB,EJ,EK,dw,bG,jK,oW] <;> rfl
theorem EN(t:Stp)(M:MemS) :bA t.nm M=bA t M:=by
 unfold bA;simp only[dw,bG,fH] <;> rfl
theorem EO(t:Stp)(M:MemS) :bB t.nm M=bB t M:=by
 unfold bB;simp only[dw,bG,fH,wJ,EM] <;> rfl
theorem EP(t:Stp)(M:MemS) :b7 t.nm M=b7 t M:=by
 unfold b7;simp only[iG,dw,bG] <;> rfl
theorem uU(t:Stp)(M:MemS) :aL t.nm M=aL t M:=by
 unfold aL;simp only[bG,EN,EO,EP] <;> rfl
theorem Ba(t:Stp)(M:MemS) :eM t.nm M=eM t M:=by
 unfold eM;simp only[dw,bG,oW] <;> rfl
theorem Bb(t:Stp)(M:MemS) :bH t.nm M=bH t M:=by
 unfold bH;simp only[Hk,dw,bG,fH,EL,Ba] <;> rfl
theorem Ht(S:Setup)(op n a b:Int)(M:MemS) :aD S.nm op n a b M=aD S op n a b M:=by
 unfold aD;simp only[bG,fH] <;> rfl
theorem Hu(S:Setup)(op n sp pc fuel:Int)(M:MemS) :bP S.nm op n sp pc fuel M=bP S op n sp pc fuel M:=by
 unfold bP;simp only[uR,bG,Ht] <;> rfl
theorem Hv(S:Setup)(code:List Ins)(n:Nat)(M:MemS) :ak S.nm code n M=ak S code n M:=by
 unfold ak;simp only[pU,bG,Hu] <;> rfl
theorem wK(e:Int)(t:Stp)(self other:Int)(M:MemS) :eO e t.nm self other M=eO e t self other M:=by
 unfold eO;simp only[uR,CM,ii,iH,pU,bG,Hv,rO,rP,rQ,rR] <;> rfl
theorem wL(e:Int)(t:Stp)(self other:Int)(M:MemS) :db e t.nm self other M=db e t self other M:=by
 unfold db;simp only[CM,ii,pU,bG] <;> rfl
theorem yo(r:VR)(over:Bool)(t:Stp)(Tb:Bool)(M:MemS) :dq r over t.nm Tb M=dq r over t Tb M:=by
 unfold dq;simp only[dw,ii,iH,bG,OC,rO,rP,rQ,rR] <;> rfl
theorem CQ(t:Stp)(M:MemS) :ff t.nm M=ff t M:=by
 unfold ff;simp only[dw,iH,bG,jK,rO,rP,rQ,rR,CN,CO,wK,wL,yo] <;> rfl
theorem yp(t:Stp)(M:MemS) :cS t.nm M=cS t M:=by
 unfold cS;simp only[bG,K9,dw,ii,wK,wL] <;> rfl
theorem CS(t:Stp)(M:MemS) :fg t.nm M=fg t M:=by
 unfold fg;simp only[dw,iH,bG,fH,rO,rP,rQ,rR,CN,CO,wK,wL,yo] <;> rfl
theorem CT(t:Stp)(M:MemS) :mW t.nm M=mW t M:=by
 unfold mW;simp only[dw,ii,bG,CP,rN,oW,yl] <;> rfl
theorem Lb(t:Stp)(M:MemS) :pT t.nm M=pT t M:=by
 unfold pT;simp only[uQ,dw,ii,bG,oW,CT] <;> rfl
theorem yq(t:Stp)(M:MemS) :fS t.nm M=fS t M:=by
 unfold fS;simp only[dw,ii,bG,fH,A8,Lb] <;> rfl
theorem EQ(t:Stp)(M:MemS) :cT t.nm M=cT t M:=by
 unfold cT;simp only[iG,dw,ii,bG,CT,yq] <;> rfl
theorem Lc(t:Stp)(M:MemS) :nO t.nm M=nO t M:=by
 unfold nO;simp only[dw,ii,bG,CP,rN,oW,Hm] <;> rfl
theorem Hw(t:Stp)(M:MemS) :dZ t.nm M=dZ t M:=by
 unfold dZ;simp only[dw,ii,bG,wJ,Lc] <;> rfl
theorem Hy(t:Stp)(M:MemS) :fM t.nm M=fM t M:=by
 unfold fM;simp only[iG,dw,bG] <;> rfl
theorem yr(t:Stp)(M:MemS) :dg t.nm M=dg t M:=by
 unfold dg;simp only[iG,dw,ii,bG,wJ,Bb,Hw,Hy] <;> rfl
theorem qV(t:Stp)(M:MemS) :bq t.nm M=bq t M:=by
 unfold bq;simp only[iG,yi,dw,ii,bG,EQ] <;> rfl
def Gm.nm(g:Gm):Gm:={ g with S:=g.S.nm,cA:=none,cc:=0,ib:=0,io:=0,ic:=0,iR:=0,ins:=[] }
theorem mz(g:Gm)(M:MemS):g.nm.step M=(g.step M).nm:=rfl
structure GEq(g g':Gm):Prop where
 nm:g.nm=g'.nm
 inp:∀k,k<g.ni -> g.ins.getD (g.io+k) dI=g'.ins.getD (g'.io+k) dI
theorem ES{g g':Gm}(h:GEq g g')(M:MemS):aP (g.step M) M=aP (g'.step M) M:=by
 have hs:(g.step M).nm=(g'.step M).nm:=by rw[<- mz,<- mz,h.nm]
 unfold aP;rw[<- uS (g.step M),hs,uS];generalize aW (g'.step M) M=N;have hb:br (g.step M) N=br (g'.step M) N:=by
  have hS:(g.step M).S.nm=(g'.step M).S.nm:=show (g.step M).nm.S=(g'.step M).nm.S by rw[hs]
  have hi:(g.step M).i=(g'.step M).i:=show (g.step M).nm.i=(g'.step M).nm.i by rw[hs]
  have hn:(g.step M).ni=(g'.step M).ni:=show (g.step M).nm.ni=(g'.step M).nm.ni by rw[hs]
  unfold br;rw[<- jK (g.step M).S,hS,jK,hi,hn]
  by_cases h1:ah (g'.step M).S (g'.step M).i >= 0
  ·rw[if_pos h1,if_pos h1]
   by_cases h2:(g'.step M).i<(g'.step M).ni
   ·rw[if_pos h2,if_pos h2];have h3:0 <= (g'.step M).i:=by
     rcases Int.lt_or_le (g'.step M).i 0 with h4|h4
     ·unfold ah at h1;rw[if_pos h4] at h1;omega
     ·exact h4
    have e:(g.step M).inp (g'.step M).i.toNat=(g'.step M).inp (g'.step M).i.toNat:=by
     have h5:(g'.step M).i.toNat<g.ni:=by
      have h6:((g'.step M).ni:Int)=(g.ni:Int):=congrArg (Nat.cast) hn.symm;omega
     exact h.inp _ h5
    rw[e]
   ·rw[if_neg h2,if_neg h2]
  ·rw[if_neg h1,if_neg h1]
 rw[hb,<- uT (g.step M),hs,uT]
theorem nP{g g':Gm}(h:GEq g g')(M:MemS):eV g M=eV g' M:=by
 have hs:(g.step M).nm=(g'.step M).nm:=by rw[<- mz,<- mz,h.nm]
 unfold eV;rw[ES h,<- CQ (g.step M),<- yp (g.step M),<- uU (g.step M),<- qV (g.step M),<- yr (g.step M),<- CS (g.step M),<- yn (g.step M),hs,CQ,yp,uU,qV,yr,CS,yn]
theorem Bc{g g':Gm}(h:GEq g g')(M:MemS):gS g M=gS g' M:=by
 have hs:(g.step M).nm=(g'.step M).nm:=by rw[<- mz,<- mz,h.nm]
 unfold gS;rw[<- ym (g.step M),hs,ym]
theorem CV{g g':Gm}(h:GEq g g'):∀ (n:Nat) (M:MemS),eI g n M=eI g' n M
 | 0,_=>rfl
 | n+1,M=>by rw[eI,eI,eR,eR,nP h];exact CV h n _
theorem yt{g g':Gm}(h:GEq g g'):∀ (n:Nat) (M:MemS),dP g n M=dP g' n M
 | 0,_=>rfl
 | n+1,M=>by rw[dP,dP,eR,eR,nP h,yt h n]
end Go.Proofs.YtghjbimijeinfaaGreatDoor
