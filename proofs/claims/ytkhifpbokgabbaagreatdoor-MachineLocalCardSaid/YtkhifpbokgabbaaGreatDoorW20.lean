import Derived.Test.YtkhifpbokgabbaaGreatDoorW19
import Derived.Test.YtkhifpbokgabbaaGreatDoorW16
set_option maxHeartbeats 4000000
set_option maxRecDepth 100000
set_option linter.unusedSimpArgs false
set_option linter.unusedVariables false
namespace Go.Proofs.YtkhifpbokgabbaaGreatDoor
open Go.RowKit
variable {K:Kd} {D:Int -> Prop}
theorem rest_any (t:Stp)  (tb mb:Nat) (M:MemS) (k:Nat) (T F:HL) (hM:MemK K D mb M (k+14) T) (hS:SetIn F t.S)  (hl:DLo D) (hbi:DBd D t.S t.i) :Sp Tryz.prog 32 #[vP tb 0] (ap [(tb,.lit (Stp.l K t mb) 94 (0,0))] [T]) F (λ u H'=>∃ x,H'=ap [(tb,.lit [.iface K.tid (vP mb 0),vI t.S.players,vS t.S.bb (t.S.bo * 9) t.S.nb t.S.bc,vI t.S.box.x0,vI t.S.box.y0,vI t.S.box.x1,vI t.S.box.y1,.slice t.S.rA t.S.rn t.S.rc,.slice t.S.dA t.S.dn t.S.dc,vI t.S.fog,vI t.S.g.x,vI t.S.g.y,vI t.S.push,vI t.S.drag,vI t.S.rest,vI t.S.rounds,vI t.S.fuel,.slice t.cA t.cn t.cc,vI t.e0,vI t.e1,vI t.e2,vI t.version,vS t.ib (t.io * 3) t.ni t.ic,vI t.i,vI t.j,.bool (restB t),vI t.f0,vI t.f1,vI t.f2,vI t.f3,.bool t.emitted] 94 (0,0))] [x] /\ (MemK K D mb (restM t M) k x)):=by
 have hp:=hS.pl
 have hn:=hS.nb
 have hr:=hS.room
 refine Sp.run Tryz.func32 rfl (mc hS.blk mn) (A:=[(tb,.lit (Stp.l K t mb) 94 (0,0))]) (Ts:=[T]) rfl λ w0=>?_
 refine RN.go 2 [] λ _=>RN.draw [] []<|RD.go [] [0,4,1,5,2,6,3,7] (ow 0 17)<|RD.cp [] 8 (λ X_=>(lbody_any t.S t.i _ hS.toSetN)) ?_
 have hb1:=bodyAt_bd hS.toSetN t.i
 refine RD.go [] [9] []<|RD.fin<|RN.go 7 [] λ _=>RN.em (bodyAt t.S t.i >= 0) 15 (λ h2=>?_) λ h2=>?_
 ·refine RN.goP 15 [.own 0,.nw] [I64 ((bodyAt t.S t.i)+2)] λ _=>RN.cpK (get_any ((bodyAt t.S t.i)+2) hM (hbi h2 2 (by decide) (by decide)) (sub_ap 0))<|RN.go 2 [] λ _=>RN.em (M.get ((bodyAt t.S t.i)+2)=0) 24 (λ h3=>?_) λ h3=>?_
  ·refine RN.goP 6 [.own 0,.nw] [I64 ((bodyAt t.S t.i)+3)] λ _=>RN.cpK (get_any ((bodyAt t.S t.i)+3) hM (hbi h2 3 (by decide) (by decide)) (sub_ap 0))<|RN.go 4 [] λ _=>RN.em (M.get ((bodyAt t.S t.i)+3)=0) 33 (λ h4=>?_) λ h4=>?_
   ·refine RN.goP 8 [.own 0,.nw] [I64 ((bodyAt t.S t.i)+7)] λ _=>RN.cpK (get_any ((bodyAt t.S t.i)+7) hM (hbi h2 7 (by decide) (by decide)) (sub_ap 0))<|RN.goP 13 [.own 0,.nw] [I64 ((bodyAt t.S t.i)+7)] λ _=>RN.ctK [] [0] (set_any ((bodyAt t.S t.i)+7) (if 1000 < IntKind.i64.wrap ((M.get ((bodyAt t.S t.i)+7))+1) then 1000 else IntKind.i64.wrap ((M.get ((bodyAt t.S t.i)+7))+1)) hM (hbi h2 7 (by decide) (by decide))) ?_
    rintro _ T5 hM6
    refine RN.go 4 [] λ _=>RN.draw [] []<|RD.go [] [0,5,1,6,2,7,3,8,4,9,10,11] [.own 0,.own 0]<|RD.fin<|RN.go 1 [] λ _=>RN.em (IntKind.i64.wrap (t.i+1) < (t.S.nb:Int)) 62 (λ h7=>?_) λ h7=>?_
    ·refine RN.go 2 [] λ _=>RN.draw [11] []<|RD.go [] [0,4,1,5,2,6,3,7,8,9,10] [.own 0,.own 0]<|RD.one 11 (RDO.ctK [] [] [0] (set_any 2 (IntKind.i64.wrap (t.i+1)) hM6 (hl 2 (by decide) (by decide))) ?_)
     rintro _ T8 hM9
     refine RD.fin<|RN.go 1 [] λ _=>RN.ret [] [0] [0] (v:=.tuple #[]) (H':=(ap [(tb,.lit (Stp.l K t mb) 94 (0,0))] [T8])) ?_
     refine ⟨T8,by simp only [restB,Stp.l,if_pos h2,if_pos h3,if_pos h4,if_pos h7],?_⟩
     have e:(restM t M)=((M.set ((bodyAt t.S t.i)+7) (if 1000 < IntKind.i64.wrap ((M.get ((bodyAt t.S t.i)+7))+1) then 1000 else IntKind.i64.wrap ((M.get ((bodyAt t.S t.i)+7))+1))).set 2 (IntKind.i64.wrap (t.i+1))):=by
      simp only [restM,restA,restC,if_pos h2,if_pos h3,if_pos h4,if_pos h7]
     rw [e]
     exact hM9.weak (by omega)
    ·refine RN.go 12 [.own 0] λ _=>RN.draw [12] []<|RD.go [] [0,4,1,5,2,6,3,7,10,11] [.own 0,.own 0]<|RD.cpK [] 8 (λ X_=>(get_any 0 hM6 (hl 0 (by decide) (by decide)) (sub_apX 0)))<|RD.go [] [9] []<|RD.one 12 (RDO.ctK [] [] [0] (set_any 0 (IntKind.i64.wrap (((M.set ((bodyAt t.S t.i)+7) (if 1000 < IntKind.i64.wrap ((M.get ((bodyAt t.S t.i)+7))+1) then 1000 else IntKind.i64.wrap ((M.get ((bodyAt t.S t.i)+7))+1))).get 0)+1)) hM6 (hl 0 (by decide) (by decide))) ?_)
     rintro _ T10 hM11
     refine RD.fin<|RN.go 7 [] λ _=>RN.loop (σ:=Nat × HL) (λ ⟨n,T_⟩=>⟨[(0,vP tb 0),(4,vI ((n+1:Nat):Int))],[(tb,.lit [.iface K.tid (vP mb 0),vI t.S.players,vS t.S.bb (t.S.bo * 9) t.S.nb t.S.bc,vI t.S.box.x0,vI t.S.box.y0,vI t.S.box.x1,vI t.S.box.y1,.slice t.S.rA t.S.rn t.S.rc,.slice t.S.dA t.S.dn t.S.dc,vI t.S.fog,vI t.S.g.x,vI t.S.g.y,vI t.S.push,vI t.S.drag,vI t.S.rest,vI t.S.rounds,vI t.S.fuel,.slice t.cA t.cn t.cc,vI t.e0,vI t.e1,vI t.e2,vI t.version,vS t.ib (t.io * 3) t.ni t.ic,vI t.i,vI t.j,.bool true,vI t.f0,vI t.f1,vI t.f2,vI t.f3,.bool t.emitted] 94 (0,0))],[T_],n <= 10 /\ MemK K D mb (zeroTo ((M.set ((bodyAt t.S t.i)+7) (if 1000 < IntKind.i64.wrap ((M.get ((bodyAt t.S t.i)+7))+1) then 1000 else IntKind.i64.wrap ((M.get ((bodyAt t.S t.i)+7))+1))).set 0 (IntKind.i64.wrap (((M.set ((bodyAt t.S t.i)+7) (if 1000 < IntKind.i64.wrap ((M.get ((bodyAt t.S t.i)+7))+1) then 1000 else IntKind.i64.wrap ((M.get ((bodyAt t.S t.i)+7))+1))).get 0)+1))) n) (k+10 - n) T_,10 - n⟩) (0,T10) [0] [0] (⟨by omega,hM11.weak (by omega)⟩) ?_
     rintro ⟨n,T_⟩ ⟨hn_,hM_⟩ mt13
     refine RN.go 7 [] λ _=>RN.em (((n+1:Nat):Int) <= 10) 92 (λ h14=>?_) λ h14=>?_
     ·obtain ⟨e_,he_⟩:∃ e,k+10 - n=e+1:=⟨k+9 - n,by omega⟩
      have hM_2:MemK K D mb (zeroTo ((M.set ((bodyAt t.S t.i)+7) (if 1000 < IntKind.i64.wrap ((M.get ((bodyAt t.S t.i)+7))+1) then 1000 else IntKind.i64.wrap ((M.get ((bodyAt t.S t.i)+7))+1))).set 0 (IntKind.i64.wrap (((M.set ((bodyAt t.S t.i)+7) (if 1000 < IntKind.i64.wrap ((M.get ((bodyAt t.S t.i)+7))+1) then 1000 else IntKind.i64.wrap ((M.get ((bodyAt t.S t.i)+7))+1))).get 0)+1))) n) (e_+1) T_:=he_ ▸ hM_
      refine RN.go 11 [.own 0] λ _=>RN.ctK [] [0] (set_any ((n+1:Nat):Int) 0 hM_2 (hl _ (by omega) (by omega))) ?_
      rintro _ T15 hM16
      refine RN.goP 8 [.nw] [I64 (((n+1:Nat):Int)+1)] λ _=>?_
      refine mt13 (n+1,T15) [0] [0] ?_
      try dsimp only
      refine ⟨⟨by omega,hM16.cast (by rw [zeroTo]) (by omega)⟩,by omega⟩
     ·refine RN.go 5 [] λ _=>RN.ret [] [0] [0] (v:=.tuple #[]) (H':=(ap [(tb,.lit [.iface K.tid (vP mb 0),vI t.S.players,vS t.S.bb (t.S.bo * 9) t.S.nb t.S.bc,vI t.S.box.x0,vI t.S.box.y0,vI t.S.box.x1,vI t.S.box.y1,.slice t.S.rA t.S.rn t.S.rc,.slice t.S.dA t.S.dn t.S.dc,vI t.S.fog,vI t.S.g.x,vI t.S.g.y,vI t.S.push,vI t.S.drag,vI t.S.rest,vI t.S.rounds,vI t.S.fuel,.slice t.cA t.cn t.cc,vI t.e0,vI t.e1,vI t.e2,vI t.version,vS t.ib (t.io * 3) t.ni t.ic,vI t.i,vI t.j,.bool true,vI t.f0,vI t.f1,vI t.f2,vI t.f3,.bool t.emitted] 94 (0,0))] [T_])) ?_
      refine ⟨T_,by simp only [restB,Stp.l,if_pos h2,if_pos h3,if_pos h4,if_neg h7,if_neg h14],?_⟩
      have en:n=10:=by omega
      have e:(restM t M)=(zeroTo ((M.set ((bodyAt t.S t.i)+7) (if 1000 < IntKind.i64.wrap ((M.get ((bodyAt t.S t.i)+7))+1) then 1000 else IntKind.i64.wrap ((M.get ((bodyAt t.S t.i)+7))+1))).set 0 (IntKind.i64.wrap (((M.set ((bodyAt t.S t.i)+7) (if 1000 < IntKind.i64.wrap ((M.get ((bodyAt t.S t.i)+7))+1) then 1000 else IntKind.i64.wrap ((M.get ((bodyAt t.S t.i)+7))+1))).get 0)+1))) n):=by
       rw [en]
       simp only [restM,restA,restC,if_pos h2,if_pos h3,if_pos h4,if_neg h7,if_neg h14]
      rw [e]
      exact hM_.weak (by omega)
   ·refine RN.goP 11 [.own 0,.nw] [I64 ((bodyAt t.S t.i)+7)] λ _=>RN.ctK [] [0] (set_any ((bodyAt t.S t.i)+7) 0 hM (hbi h2 7 (by decide) (by decide))) ?_
    rintro _ T17 hM18
    refine RN.go 4 [] λ _=>RN.draw [] []<|RD.go [] [0,5,1,6,2,7,3,8,4,9,10,11] [.own 0,.own 0]<|RD.fin<|RN.go 1 [] λ _=>RN.em (IntKind.i64.wrap (t.i+1) < (t.S.nb:Int)) 62 (λ h19=>?_) λ h19=>?_
    ·refine RN.go 2 [] λ _=>RN.draw [11] []<|RD.go [] [0,4,1,5,2,6,3,7,8,9,10] [.own 0,.own 0]<|RD.one 11 (RDO.ctK [] [] [0] (set_any 2 (IntKind.i64.wrap (t.i+1)) hM18 (hl 2 (by decide) (by decide))) ?_)
     rintro _ T20 hM21
     refine RD.fin<|RN.go 1 [] λ _=>RN.ret [] [0] [0] (v:=.tuple #[]) (H':=(ap [(tb,.lit (Stp.l K t mb) 94 (0,0))] [T20])) ?_
     refine ⟨T20,by simp only [restB,Stp.l,if_pos h2,if_pos h3,if_neg h4,if_pos h19],?_⟩
     have e:(restM t M)=((M.set ((bodyAt t.S t.i)+7) 0).set 2 (IntKind.i64.wrap (t.i+1))):=by
      simp only [restM,restA,restC,if_pos h2,if_pos h3,if_neg h4,if_pos h19]
     rw [e]
     exact hM21.weak (by omega)
    ·refine RN.go 12 [.own 0] λ _=>RN.draw [12] []<|RD.go [] [0,4,1,5,2,6,3,7,10,11] [.own 0,.own 0]<|RD.cpK [] 8 (λ X_=>(get_any 0 hM18 (hl 0 (by decide) (by decide)) (sub_apX 0)))<|RD.go [] [9] []<|RD.one 12 (RDO.ctK [] [] [0] (set_any 0 (IntKind.i64.wrap (((M.set ((bodyAt t.S t.i)+7) 0).get 0)+1)) hM18 (hl 0 (by decide) (by decide))) ?_)
     rintro _ T22 hM23
     refine RD.fin<|RN.go 7 [] λ _=>RN.loop (σ:=Nat × HL) (λ ⟨n,T_⟩=>⟨[(0,vP tb 0),(4,vI ((n+1:Nat):Int))],[(tb,.lit [.iface K.tid (vP mb 0),vI t.S.players,vS t.S.bb (t.S.bo * 9) t.S.nb t.S.bc,vI t.S.box.x0,vI t.S.box.y0,vI t.S.box.x1,vI t.S.box.y1,.slice t.S.rA t.S.rn t.S.rc,.slice t.S.dA t.S.dn t.S.dc,vI t.S.fog,vI t.S.g.x,vI t.S.g.y,vI t.S.push,vI t.S.drag,vI t.S.rest,vI t.S.rounds,vI t.S.fuel,.slice t.cA t.cn t.cc,vI t.e0,vI t.e1,vI t.e2,vI t.version,vS t.ib (t.io * 3) t.ni t.ic,vI t.i,vI t.j,.bool true,vI t.f0,vI t.f1,vI t.f2,vI t.f3,.bool t.emitted] 94 (0,0))],[T_],n <= 10 /\ MemK K D mb (zeroTo ((M.set ((bodyAt t.S t.i)+7) 0).set 0 (IntKind.i64.wrap (((M.set ((bodyAt t.S t.i)+7) 0).get 0)+1))) n) (k+10 - n) T_,10 - n⟩) (0,T22) [0] [0] (⟨by omega,hM23.weak (by omega)⟩) ?_
     rintro ⟨n,T_⟩ ⟨hn_,hM_⟩ mt25
     refine RN.go 7 [] λ _=>RN.em (((n+1:Nat):Int) <= 10) 92 (λ h26=>?_) λ h26=>?_
     ·obtain ⟨e_,he_⟩:∃ e,k+10 - n=e+1:=⟨k+9 - n,by omega⟩
      have hM_2:MemK K D mb (zeroTo ((M.set ((bodyAt t.S t.i)+7) 0).set 0 (IntKind.i64.wrap (((M.set ((bodyAt t.S t.i)+7) 0).get 0)+1))) n) (e_+1) T_:=he_ ▸ hM_
      refine RN.go 11 [.own 0] λ _=>RN.ctK [] [0] (set_any ((n+1:Nat):Int) 0 hM_2 (hl _ (by omega) (by omega))) ?_
      rintro _ T27 hM28
      refine RN.goP 8 [.nw] [I64 (((n+1:Nat):Int)+1)] λ _=>?_
      refine mt25 (n+1,T27) [0] [0] ?_
      try dsimp only
      refine ⟨⟨by omega,hM28.cast (by rw [zeroTo]) (by omega)⟩,by omega⟩
     ·refine RN.go 5 [] λ _=>RN.ret [] [0] [0] (v:=.tuple #[]) (H':=(ap [(tb,.lit [.iface K.tid (vP mb 0),vI t.S.players,vS t.S.bb (t.S.bo * 9) t.S.nb t.S.bc,vI t.S.box.x0,vI t.S.box.y0,vI t.S.box.x1,vI t.S.box.y1,.slice t.S.rA t.S.rn t.S.rc,.slice t.S.dA t.S.dn t.S.dc,vI t.S.fog,vI t.S.g.x,vI t.S.g.y,vI t.S.push,vI t.S.drag,vI t.S.rest,vI t.S.rounds,vI t.S.fuel,.slice t.cA t.cn t.cc,vI t.e0,vI t.e1,vI t.e2,vI t.version,vS t.ib (t.io * 3) t.ni t.ic,vI t.i,vI t.j,.bool true,vI t.f0,vI t.f1,vI t.f2,vI t.f3,.bool t.emitted] 94 (0,0))] [T_])) ?_
      refine ⟨T_,by simp only [restB,Stp.l,if_pos h2,if_pos h3,if_neg h4,if_neg h19,if_neg h26],?_⟩
      have en:n=10:=by omega
      have e:(restM t M)=(zeroTo ((M.set ((bodyAt t.S t.i)+7) 0).set 0 (IntKind.i64.wrap (((M.set ((bodyAt t.S t.i)+7) 0).get 0)+1))) n):=by
       rw [en]
       simp only [restM,restA,restC,if_pos h2,if_pos h3,if_neg h4,if_neg h19,if_neg h26]
      rw [e]
      exact hM_.weak (by omega)
  ·refine RN.goP 22 [.own 0,.nw] [I64 ((bodyAt t.S t.i)+7)] λ _=>RN.ctK [] [0] (set_any ((bodyAt t.S t.i)+7) 0 hM (hbi h2 7 (by decide) (by decide))) ?_
   rintro _ T29 hM30
   refine RN.go 4 [] λ _=>RN.draw [] []<|RD.go [] [0,5,1,6,2,7,3,8,4,9,10,11] [.own 0,.own 0]<|RD.fin<|RN.go 1 [] λ _=>RN.em (IntKind.i64.wrap (t.i+1) < (t.S.nb:Int)) 62 (λ h31=>?_) λ h31=>?_
   ·refine RN.go 2 [] λ _=>RN.draw [11] []<|RD.go [] [0,4,1,5,2,6,3,7,8,9,10] [.own 0,.own 0]<|RD.one 11 (RDO.ctK [] [] [0] (set_any 2 (IntKind.i64.wrap (t.i+1)) hM30 (hl 2 (by decide) (by decide))) ?_)
    rintro _ T32 hM33
    refine RD.fin<|RN.go 1 [] λ _=>RN.ret [] [0] [0] (v:=.tuple #[]) (H':=(ap [(tb,.lit (Stp.l K t mb) 94 (0,0))] [T32])) ?_
    refine ⟨T32,by simp only [restB,Stp.l,if_pos h2,if_neg h3,if_pos h31],?_⟩
    have e:(restM t M)=((M.set ((bodyAt t.S t.i)+7) 0).set 2 (IntKind.i64.wrap (t.i+1))):=by
     simp only [restM,restA,restC,if_pos h2,if_neg h3,if_pos h31]
    rw [e]
    exact hM33.weak (by omega)
   ·refine RN.go 12 [.own 0] λ _=>RN.draw [12] []<|RD.go [] [0,4,1,5,2,6,3,7,10,11] [.own 0,.own 0]<|RD.cpK [] 8 (λ X_=>(get_any 0 hM30 (hl 0 (by decide) (by decide)) (sub_apX 0)))<|RD.go [] [9] []<|RD.one 12 (RDO.ctK [] [] [0] (set_any 0 (IntKind.i64.wrap (((M.set ((bodyAt t.S t.i)+7) 0).get 0)+1)) hM30 (hl 0 (by decide) (by decide))) ?_)
    rintro _ T34 hM35
    refine RD.fin<|RN.go 7 [] λ _=>RN.loop (σ:=Nat × HL) (λ ⟨n,T_⟩=>⟨[(0,vP tb 0),(4,vI ((n+1:Nat):Int))],[(tb,.lit [.iface K.tid (vP mb 0),vI t.S.players,vS t.S.bb (t.S.bo * 9) t.S.nb t.S.bc,vI t.S.box.x0,vI t.S.box.y0,vI t.S.box.x1,vI t.S.box.y1,.slice t.S.rA t.S.rn t.S.rc,.slice t.S.dA t.S.dn t.S.dc,vI t.S.fog,vI t.S.g.x,vI t.S.g.y,vI t.S.push,vI t.S.drag,vI t.S.rest,vI t.S.rounds,vI t.S.fuel,.slice t.cA t.cn t.cc,vI t.e0,vI t.e1,vI t.e2,vI t.version,vS t.ib (t.io * 3) t.ni t.ic,vI t.i,vI t.j,.bool true,vI t.f0,vI t.f1,vI t.f2,vI t.f3,.bool t.emitted] 94 (0,0))],[T_],n <= 10 /\ MemK K D mb (zeroTo ((M.set ((bodyAt t.S t.i)+7) 0).set 0 (IntKind.i64.wrap (((M.set ((bodyAt t.S t.i)+7) 0).get 0)+1))) n) (k+10 - n) T_,10 - n⟩) (0,T34) [0] [0] (⟨by omega,hM35.weak (by omega)⟩) ?_
    rintro ⟨n,T_⟩ ⟨hn_,hM_⟩ mt37
    refine RN.go 7 [] λ _=>RN.em (((n+1:Nat):Int) <= 10) 92 (λ h38=>?_) λ h38=>?_
    ·obtain ⟨e_,he_⟩:∃ e,k+10 - n=e+1:=⟨k+9 - n,by omega⟩
     have hM_2:MemK K D mb (zeroTo ((M.set ((bodyAt t.S t.i)+7) 0).set 0 (IntKind.i64.wrap (((M.set ((bodyAt t.S t.i)+7) 0).get 0)+1))) n) (e_+1) T_:=he_ ▸ hM_
     refine RN.go 11 [.own 0] λ _=>RN.ctK [] [0] (set_any ((n+1:Nat):Int) 0 hM_2 (hl _ (by omega) (by omega))) ?_
     rintro _ T39 hM40
     refine RN.goP 8 [.nw] [I64 (((n+1:Nat):Int)+1)] λ _=>?_
     refine mt37 (n+1,T39) [0] [0] ?_
     try dsimp only
     refine ⟨⟨by omega,hM40.cast (by rw [zeroTo]) (by omega)⟩,by omega⟩
    ·refine RN.go 5 [] λ _=>RN.ret [] [0] [0] (v:=.tuple #[]) (H':=(ap [(tb,.lit [.iface K.tid (vP mb 0),vI t.S.players,vS t.S.bb (t.S.bo * 9) t.S.nb t.S.bc,vI t.S.box.x0,vI t.S.box.y0,vI t.S.box.x1,vI t.S.box.y1,.slice t.S.rA t.S.rn t.S.rc,.slice t.S.dA t.S.dn t.S.dc,vI t.S.fog,vI t.S.g.x,vI t.S.g.y,vI t.S.push,vI t.S.drag,vI t.S.rest,vI t.S.rounds,vI t.S.fuel,.slice t.cA t.cn t.cc,vI t.e0,vI t.e1,vI t.e2,vI t.version,vS t.ib (t.io * 3) t.ni t.ic,vI t.i,vI t.j,.bool true,vI t.f0,vI t.f1,vI t.f2,vI t.f3,.bool t.emitted] 94 (0,0))] [T_])) ?_
     refine ⟨T_,by simp only [restB,Stp.l,if_pos h2,if_neg h3,if_neg h31,if_neg h38],?_⟩
     have en:n=10:=by omega
     have e:(restM t M)=(zeroTo ((M.set ((bodyAt t.S t.i)+7) 0).set 0 (IntKind.i64.wrap (((M.set ((bodyAt t.S t.i)+7) 0).get 0)+1))) n):=by
      rw [en]
      simp only [restM,restA,restC,if_pos h2,if_neg h3,if_neg h31,if_neg h38]
     rw [e]
     exact hM_.weak (by omega)
 ·refine RN.go 5 [] λ _=>RN.draw [] []<|RD.go [] [0,5,1,6,2,7,3,8,4,9,10,11] [.own 0,.own 0]<|RD.fin<|RN.go 1 [] λ _=>RN.em (IntKind.i64.wrap (t.i+1) < (t.S.nb:Int)) 62 (λ h41=>?_) λ h41=>?_
  ·refine RN.go 2 [] λ _=>RN.draw [11] []<|RD.go [] [0,4,1,5,2,6,3,7,8,9,10] [.own 0,.own 0]<|RD.one 11 (RDO.ctK [] [] [0] (set_any 2 (IntKind.i64.wrap (t.i+1)) hM (hl 2 (by decide) (by decide))) ?_)
   rintro _ T42 hM43
   refine RD.fin<|RN.go 1 [] λ _=>RN.ret [] [0] [0] (v:=.tuple #[]) (H':=(ap [(tb,.lit (Stp.l K t mb) 94 (0,0))] [T42])) ?_
   refine ⟨T42,by simp only [restB,Stp.l,if_neg h2,if_pos h41],?_⟩
   have e:(restM t M)=(M.set 2 (IntKind.i64.wrap (t.i+1))):=by
    simp only [restM,restA,restC,if_neg h2,if_pos h41]
   rw [e]
   exact hM43.weak (by omega)
  ·refine RN.go 12 [.own 0] λ _=>RN.draw [12] []<|RD.go [] [0,4,1,5,2,6,3,7,10,11] [.own 0,.own 0]<|RD.cpK [] 8 (λ X_=>(get_any 0 hM (hl 0 (by decide) (by decide)) (sub_apX 0)))<|RD.go [] [9] []<|RD.one 12 (RDO.ctK [] [] [0] (set_any 0 (IntKind.i64.wrap ((M.get 0)+1)) hM (hl 0 (by decide) (by decide))) ?_)
   rintro _ T44 hM45
   refine RD.fin<|RN.go 7 [] λ _=>RN.loop (σ:=Nat × HL) (λ ⟨n,T_⟩=>⟨[(0,vP tb 0),(4,vI ((n+1:Nat):Int))],[(tb,.lit [.iface K.tid (vP mb 0),vI t.S.players,vS t.S.bb (t.S.bo * 9) t.S.nb t.S.bc,vI t.S.box.x0,vI t.S.box.y0,vI t.S.box.x1,vI t.S.box.y1,.slice t.S.rA t.S.rn t.S.rc,.slice t.S.dA t.S.dn t.S.dc,vI t.S.fog,vI t.S.g.x,vI t.S.g.y,vI t.S.push,vI t.S.drag,vI t.S.rest,vI t.S.rounds,vI t.S.fuel,.slice t.cA t.cn t.cc,vI t.e0,vI t.e1,vI t.e2,vI t.version,vS t.ib (t.io * 3) t.ni t.ic,vI t.i,vI t.j,.bool true,vI t.f0,vI t.f1,vI t.f2,vI t.f3,.bool t.emitted] 94 (0,0))],[T_],n <= 10 /\ MemK K D mb (zeroTo (M.set 0 (IntKind.i64.wrap ((M.get 0)+1))) n) (k+10 - n) T_,10 - n⟩) (0,T44) [0] [0] (⟨by omega,hM45.weak (by omega)⟩) ?_
   rintro ⟨n,T_⟩ ⟨hn_,hM_⟩ mt47
   refine RN.go 7 [] λ _=>RN.em (((n+1:Nat):Int) <= 10) 92 (λ h48=>?_) λ h48=>?_
   ·obtain ⟨e_,he_⟩:∃ e,k+10 - n=e+1:=⟨k+9 - n,by omega⟩
    have hM_2:MemK K D mb (zeroTo (M.set 0 (IntKind.i64.wrap ((M.get 0)+1))) n) (e_+1) T_:=he_ ▸ hM_
    refine RN.go 11 [.own 0] λ _=>RN.ctK [] [0] (set_any ((n+1:Nat):Int) 0 hM_2 (hl _ (by omega) (by omega))) ?_
    rintro _ T49 hM50
    refine RN.goP 8 [.nw] [I64 (((n+1:Nat):Int)+1)] λ _=>?_
    refine mt47 (n+1,T49) [0] [0] ?_
    try dsimp only
    refine ⟨⟨by omega,hM50.cast (by rw [zeroTo]) (by omega)⟩,by omega⟩
   ·refine RN.go 5 [] λ _=>RN.ret [] [0] [0] (v:=.tuple #[]) (H':=(ap [(tb,.lit [.iface K.tid (vP mb 0),vI t.S.players,vS t.S.bb (t.S.bo * 9) t.S.nb t.S.bc,vI t.S.box.x0,vI t.S.box.y0,vI t.S.box.x1,vI t.S.box.y1,.slice t.S.rA t.S.rn t.S.rc,.slice t.S.dA t.S.dn t.S.dc,vI t.S.fog,vI t.S.g.x,vI t.S.g.y,vI t.S.push,vI t.S.drag,vI t.S.rest,vI t.S.rounds,vI t.S.fuel,.slice t.cA t.cn t.cc,vI t.e0,vI t.e1,vI t.e2,vI t.version,vS t.ib (t.io * 3) t.ni t.ic,vI t.i,vI t.j,.bool true,vI t.f0,vI t.f1,vI t.f2,vI t.f3,.bool t.emitted] 94 (0,0))] [T_])) ?_
    refine ⟨T_,by simp only [restB,Stp.l,if_neg h2,if_neg h41,if_neg h48],?_⟩
    have en:n=10:=by omega
    have e:(restM t M)=(zeroTo (M.set 0 (IntKind.i64.wrap ((M.get 0)+1))) n):=by
     rw [en]
     simp only [restM,restA,restC,if_neg h2,if_neg h41,if_neg h48]
    rw [e]
    exact hM_.weak (by omega)
variable {K:Kd} {D:Int -> Prop}
structure Gm where
 S:Setup
 cA:Option Addr
 cn:Nat
 cc:Nat
 e0:Int
 e1:Int
 e2:Int
 version:Int
 ib:Nat
 io:Nat
 ni:Nat
 ic:Nat
 iR:Nat
 ins:List Inp
 code:List Ins
abbrev Gm.step (g:Gm) (M:MemS):Stp:=⟨g.S,g.cA,g.cn,g.cc,g.e0,g.e1,g.e2,g.version,g.ib,g.io,g.ni,g.ic,g.iR,g.ins,M.get 2,M.get 3,false,0,0,0,0,false,g.code⟩
theorem trans0 (g:Gm) (mb:Nat) (M:MemS) (k:Nat) (T F:HL) (hM:MemK K D mb M (k+20) T) (hS:SetIn F g.S) (hp:M.get 1=0) (hI:(g.ib,.rows 3 g.iR (inrow g.ins) 89 (0,0)) ∈ F) (hir:g.io+g.ni <= g.iR /\ g.ni <= 1000000) (hl:DLo D) (hpl:DPl D g.S  (M.get 2)):Sp Tryz.prog 11 #[.iface K.tid (vP mb 0),.agg #[vI g.S.players,vS g.S.bb (g.S.bo * 9) g.S.nb g.S.bc,vI g.S.box.x0,vI g.S.box.y0,vI g.S.box.x1,vI g.S.box.y1,.slice g.S.rA g.S.rn g.S.rc,.slice g.S.dA g.S.dn g.S.dc,vI g.S.fog,vI g.S.g.x,vI g.S.g.y,vI g.S.push,vI g.S.drag,vI g.S.rest,vI g.S.rounds,vI g.S.fuel],.agg #[.slice g.cA g.cn g.cc,vI g.e0,vI g.e1,vI g.e2],vI g.version,vS g.ib (g.io * 3) g.ni g.ic] (ap [] [T]) F (λ u H'=>∃ x,H'=ap [] [x] /\ (MemK K D mb (inputM (g.step M) M) k x /\ u=.tuple #[.bool false,.agg #[vI 0,vI 0,vI 0,vI 0],.bool false])):=by
 refine Sp.run Tryz.func11 rfl mn (A:=[]) (Ts:=[T]) rfl λ w0=>?_
 refine RN.go 29 (ow 0 8) λ n1=>RN.cpK (get_lit 1 hp hM (hl 1 (by decide) (by decide)) (sub_ap 0))<|RN.go 18 [] λ _=>RN.draw [] []<|RD.go [] [0,1,2,3,4,5,7] (ow 3 16++[.own 2,.own 2,.own 2,.own 2])<|RD.cpK [] 6 (λ X_=>(get_any 2 hM (hl 2 (by decide) (by decide)) (sub_apX 0)))<|RD.cpK [] 8 (λ X_=>(get_any 3 hM (hl 3 (by decide) (by decide)) (sub_apX 0)))<|RD.go [] [9] []<|RD.one 10 (RDO.ev [] [] λ n2=>?_)
 refine RD.go [] [11] []<|RD.fin<|RN.go 7 [.own 1] λ _=>RN.ct [0] [0] (input_any (g.step M) (n2+0) mb M (k+12) T _ hM hS.up (List.mem_append_right _ hI) hir hl hpl) ?_
 rintro _ T3 hM4
 refine RN.go 3 [] λ _=>RN.draw [13] [0,1,3,4]<|RD.go [0,1,3,4] [0,4,8,1,5,9,2,6,10,3,7,11,12] (ow 0 5++[.ro 0])<|RD.one 13 (RDO.ev [0,1,3,4] [.own 2,.own 2,.own 2,.own 2] λ _=>?_)
 refine RD.go [0,1,3,4] [14] []<|RD.fin<|RN.go 1 [] λ _=>RN.ret [.own 2,.own 2,.own 2,.own 2] [] [0] (v:=.tuple #[.bool false,.agg #[vI 0,vI 0,vI 0,vI 0],.bool false]) (H':=(ap [] [T3])) ?_
 exact ⟨T3,rfl,hM4.weak (by omega),rfl⟩
theorem trans1 (g:Gm) (mb:Nat) (M:MemS) (k:Nat) (T F:HL) (hM:MemK K D mb M (k+20) T) (hS:SetIn F g.S) (hp:M.get 1=1) (hE:¬ M.get 3=0 -> EffIn F) (hC:CodeIn F g.code g.cA g.cn) (hl:DLo D) (hpl:DPl D g.S  (M.get 2)) (hst:¬ M.get 3=0 -> StD D g.S g.code g.cn M):Sp Tryz.prog 11 #[.iface K.tid (vP mb 0),.agg #[vI g.S.players,vS g.S.bb (g.S.bo * 9) g.S.nb g.S.bc,vI g.S.box.x0,vI g.S.box.y0,vI g.S.box.x1,vI g.S.box.y1,.slice g.S.rA g.S.rn g.S.rc,.slice g.S.dA g.S.dn g.S.dc,vI g.S.fog,vI g.S.g.x,vI g.S.g.y,vI g.S.push,vI g.S.drag,vI g.S.rest,vI g.S.rounds,vI g.S.fuel],.agg #[.slice g.cA g.cn g.cc,vI g.e0,vI g.e1,vI g.e2],vI g.version,vS g.ib (g.io * 3) g.ni g.ic] (ap [] [T]) F (λ u H'=>∃ x,H'=ap [] [x] /\ (MemK K D mb (actV (g.step M) M).M k x /\ u=.tuple #[.bool false,.agg #[vI ((actV (g.step M) M).e.t),vI ((actV (g.step M) M).e.i),vI ((actV (g.step M) M).e.k),vI ((actV (g.step M) M).e.v)],.bool ((actV (g.step M) M).em)])):=by
 refine Sp.run Tryz.func11 rfl mn (A:=[]) (Ts:=[T]) rfl λ w0=>?_
 refine RN.go 29 (ow 0 8) λ n1=>RN.cpK (get_lit 1 hp hM (hl 1 (by decide) (by decide)) (sub_ap 0))<|RN.go 18 [] λ _=>RN.draw [] []<|RD.go [] [0,1,2,3,4,5,7] (ow 3 16++[.own 2,.own 2,.own 2,.own 2])<|RD.cpK [] 6 (λ X_=>(get_any 2 hM (hl 2 (by decide) (by decide)) (sub_apX 0)))<|RD.cpK [] 8 (λ X_=>(get_any 3 hM (hl 3 (by decide) (by decide)) (sub_apX 0)))<|RD.go [] [9] []<|RD.one 10 (RDO.ev [] [] λ n2=>?_)
 refine RD.go [] [11] []<|RD.fin<|RN.go 7 [.own 1] λ _=>RN.ct [0] [0] (act_v (g.step M) (n2+0) mb M (k+11) T _ hM hS.up (λ h_=>ro_ap (hE h_)) hC.up hl hpl hst) ?_
 rintro _ T3 hM4
 refine RN.go 3 [] λ _=>RN.draw [13] [0,1,3,4]<|RD.go [0,1,3,4] [0,4,8,1,5,9,2,6,10,3,7,11,12] (ow 0 5++[.ro 0])<|RD.one 13 (RDO.ev [0,1,3,4] [.own 2,.own 2,.own 2,.own 2] λ _=>?_)
 refine RD.go [0,1,3,4] [14] []<|RD.fin<|RN.go 1 [] λ _=>RN.ret [.own 2,.own 2,.own 2,.own 2] [] [0] (v:=.tuple #[.bool false,.agg #[vI ((actV (g.step M) M).e.t),vI ((actV (g.step M) M).e.i),vI ((actV (g.step M) M).e.k),vI ((actV (g.step M) M).e.v)],.bool ((actV (g.step M) M).em)]) (H':=(ap [] [T3])) ?_
 exact ⟨T3,rfl,hM4.weak (by omega),rfl⟩
theorem trans2 (g:Gm) (mb:Nat) (M:MemS) (k:Nat) (T F:HL) (hM:MemK K D mb M (k+20) T) (hS:SetIn F g.S) (hp:M.get 1=2) (hE:¬ M.get 3=0 -> EffIn F) (hC:CodeIn F g.code g.cA g.cn) (hl:DLo D) (hst:¬ M.get 3=0 -> StD D g.S g.code g.cn M):Sp Tryz.prog 11 #[.iface K.tid (vP mb 0),.agg #[vI g.S.players,vS g.S.bb (g.S.bo * 9) g.S.nb g.S.bc,vI g.S.box.x0,vI g.S.box.y0,vI g.S.box.x1,vI g.S.box.y1,.slice g.S.rA g.S.rn g.S.rc,.slice g.S.dA g.S.dn g.S.dc,vI g.S.fog,vI g.S.g.x,vI g.S.g.y,vI g.S.push,vI g.S.drag,vI g.S.rest,vI g.S.rounds,vI g.S.fuel],.agg #[.slice g.cA g.cn g.cc,vI g.e0,vI g.e1,vI g.e2],vI g.version,vS g.ib (g.io * 3) g.ni g.ic] (ap [] [T]) F (λ u H'=>∃ x,H'=ap [] [x] /\ (MemK K D mb (tickV (g.step M) M).M k x /\ u=.tuple #[.bool false,.agg #[vI ((tickV (g.step M) M).e.t),vI ((tickV (g.step M) M).e.i),vI ((tickV (g.step M) M).e.k),vI ((tickV (g.step M) M).e.v)],.bool ((tickV (g.step M) M).em)])):=by
 refine Sp.run Tryz.func11 rfl mn (A:=[]) (Ts:=[T]) rfl λ w0=>?_
 refine RN.go 29 (ow 0 8) λ n1=>RN.cpK (get_lit 1 hp hM (hl 1 (by decide) (by decide)) (sub_ap 0))<|RN.go 18 [] λ _=>RN.draw [] []<|RD.go [] [0,1,2,3,4,5,7] (ow 3 16++[.own 2,.own 2,.own 2,.own 2])<|RD.cpK [] 6 (λ X_=>(get_any 2 hM (hl 2 (by decide) (by decide)) (sub_apX 0)))<|RD.cpK [] 8 (λ X_=>(get_any 3 hM (hl 3 (by decide) (by decide)) (sub_apX 0)))<|RD.go [] [9] []<|RD.one 10 (RDO.ev [] [] λ n2=>?_)
 refine RD.go [] [11] []<|RD.fin<|RN.go 7 [.own 1] λ _=>RN.ct [0] [0] (tick_v (g.step M) (n2+0) mb M (k+11) T _ hM hS.up (λ h_=>ro_ap (hE h_)) hC.up hl hst) ?_
 rintro _ T3 hM4
 refine RN.go 3 [] λ _=>RN.draw [13] [0,1,3,4]<|RD.go [0,1,3,4] [0,4,8,1,5,9,2,6,10,3,7,11,12] (ow 0 5++[.ro 0])<|RD.one 13 (RDO.ev [0,1,3,4] [.own 2,.own 2,.own 2,.own 2] λ _=>?_)
 refine RD.go [0,1,3,4] [14] []<|RD.fin<|RN.go 1 [] λ _=>RN.ret [.own 2,.own 2,.own 2,.own 2] [] [0] (v:=.tuple #[.bool false,.agg #[vI ((tickV (g.step M) M).e.t),vI ((tickV (g.step M) M).e.i),vI ((tickV (g.step M) M).e.k),vI ((tickV (g.step M) M).e.v)],.bool ((tickV (g.step M) M).em)]) (H':=(ap [] [T3])) ?_
 exact ⟨T3,rfl,hM4.weak (by omega),rfl⟩
theorem trans3 (g:Gm) (mb:Nat) (M:MemS) (k:Nat) (T F:HL) (hM:MemK K D mb M (k+20) T) (hS:SetIn F g.S) (hp:M.get 1=3)  (hl:DLo D) (hpl:DPl D g.S  (M.get 2)) (hbi:DBd D g.S  (M.get 2)):Sp Tryz.prog 11 #[.iface K.tid (vP mb 0),.agg #[vI g.S.players,vS g.S.bb (g.S.bo * 9) g.S.nb g.S.bc,vI g.S.box.x0,vI g.S.box.y0,vI g.S.box.x1,vI g.S.box.y1,.slice g.S.rA g.S.rn g.S.rc,.slice g.S.dA g.S.dn g.S.dc,vI g.S.fog,vI g.S.g.x,vI g.S.g.y,vI g.S.push,vI g.S.drag,vI g.S.rest,vI g.S.rounds,vI g.S.fuel],.agg #[.slice g.cA g.cn g.cc,vI g.e0,vI g.e1,vI g.e2],vI g.version,vS g.ib (g.io * 3) g.ni g.ic] (ap [] [T]) F (λ u H'=>∃ x,H'=ap [] [x] /\ (MemK K D mb (forceM (g.step M) M) k x /\ u=.tuple #[.bool false,.agg #[vI 0,vI 0,vI 0,vI 0],.bool false])):=by
 refine Sp.run Tryz.func11 rfl mn (A:=[]) (Ts:=[T]) rfl λ w0=>?_
 refine RN.go 29 (ow 0 8) λ n1=>RN.cpK (get_lit 1 hp hM (hl 1 (by decide) (by decide)) (sub_ap 0))<|RN.go 18 [] λ _=>RN.draw [] []<|RD.go [] [0,1,2,3,4,5,7] (ow 3 16++[.own 2,.own 2,.own 2,.own 2])<|RD.cpK [] 6 (λ X_=>(get_any 2 hM (hl 2 (by decide) (by decide)) (sub_apX 0)))<|RD.cpK [] 8 (λ X_=>(get_any 3 hM (hl 3 (by decide) (by decide)) (sub_apX 0)))<|RD.go [] [9] []<|RD.one 10 (RDO.ev [] [] λ n2=>?_)
 refine RD.go [] [11] []<|RD.fin<|RN.go 7 [.own 1] λ _=>RN.ct [0] [0] (force_any (g.step M) (n2+0) mb M (k+12) T _ hM hS.up hl hpl hbi) ?_
 rintro _ T3 hM4
 refine RN.go 3 [] λ _=>RN.draw [13] [0,1,3,4]<|RD.go [0,1,3,4] [0,4,8,1,5,9,2,6,10,3,7,11,12] (ow 0 5++[.ro 0])<|RD.one 13 (RDO.ev [0,1,3,4] [.own 2,.own 2,.own 2,.own 2] λ _=>?_)
 refine RD.go [0,1,3,4] [14] []<|RD.fin<|RN.go 1 [] λ _=>RN.ret [.own 2,.own 2,.own 2,.own 2] [] [0] (v:=.tuple #[.bool false,.agg #[vI 0,vI 0,vI 0,vI 0],.bool false]) (H':=(ap [] [T3])) ?_
 exact ⟨T3,rfl,hM4.weak (by omega),rfl⟩
theorem trans4 (g:Gm) (mb:Nat) (M:MemS) (k:Nat) (T F:HL) (hM:MemK K D mb M (k+20) T) (hS:SetIn F g.S) (hp:M.get 1=4)  (hl:DLo D) (hbi:DBd D g.S  (M.get 2)) (hbj:DBd D g.S  (M.get 3)):Sp Tryz.prog 11 #[.iface K.tid (vP mb 0),.agg #[vI g.S.players,vS g.S.bb (g.S.bo * 9) g.S.nb g.S.bc,vI g.S.box.x0,vI g.S.box.y0,vI g.S.box.x1,vI g.S.box.y1,.slice g.S.rA g.S.rn g.S.rc,.slice g.S.dA g.S.dn g.S.dc,vI g.S.fog,vI g.S.g.x,vI g.S.g.y,vI g.S.push,vI g.S.drag,vI g.S.rest,vI g.S.rounds,vI g.S.fuel],.agg #[.slice g.cA g.cn g.cc,vI g.e0,vI g.e1,vI g.e2],vI g.version,vS g.ib (g.io * 3) g.ni g.ic] (ap [] [T]) F (λ u H'=>∃ x,H'=ap [] [x] /\ (MemK K D mb (contactF (g.step M) M) k x /\ u=.tuple #[.bool false,.agg #[vI 0,vI 0,vI 0,vI 0],.bool false])):=by
 refine Sp.run Tryz.func11 rfl mn (A:=[]) (Ts:=[T]) rfl λ w0=>?_
 refine RN.go 29 (ow 0 8) λ n1=>RN.cpK (get_lit 1 hp hM (hl 1 (by decide) (by decide)) (sub_ap 0))<|RN.go 18 [] λ _=>RN.draw [] []<|RD.go [] [0,1,2,3,4,5,7] (ow 3 16++[.own 2,.own 2,.own 2,.own 2])<|RD.cpK [] 6 (λ X_=>(get_any 2 hM (hl 2 (by decide) (by decide)) (sub_apX 0)))<|RD.cpK [] 8 (λ X_=>(get_any 3 hM (hl 3 (by decide) (by decide)) (sub_apX 0)))<|RD.go [] [9] []<|RD.one 10 (RDO.ev [] [] λ n2=>?_)
 refine RD.go [] [11] []<|RD.fin<|RN.go 7 [.own 1] λ _=>RN.ct [0] [0] (contact_full (g.step M) (n2+0) mb M (k+6) T _ hM hS.up hl hbi hbj) ?_
 rintro _ T3 hM4
 refine RN.go 3 [] λ _=>RN.draw [13] [0,1,3,4]<|RD.go [0,1,3,4] [0,4,8,1,5,9,2,6,10,3,7,11,12] (ow 0 5++[.ro 0])<|RD.one 13 (RDO.ev [0,1,3,4] [.own 2,.own 2,.own 2,.own 2] λ _=>?_)
 refine RD.go [0,1,3,4] [14] []<|RD.fin<|RN.go 1 [] λ _=>RN.ret [.own 2,.own 2,.own 2,.own 2] [] [0] (v:=.tuple #[.bool false,.agg #[vI 0,vI 0,vI 0,vI 0],.bool false]) (H':=(ap [] [T3])) ?_
 exact ⟨T3,rfl,hM4.weak (by omega),rfl⟩
theorem trans5 (g:Gm) (mb:Nat) (M:MemS) (k:Nat) (T F:HL) (hM:MemK K D mb M (k+20) T) (hS:SetIn F g.S) (hp:M.get 1=5)  (hl:DLo D) (hbi:DBd D g.S  (M.get 2)) (hbj:DBd D g.S  (M.get 3)):Sp Tryz.prog 11 #[.iface K.tid (vP mb 0),.agg #[vI g.S.players,vS g.S.bb (g.S.bo * 9) g.S.nb g.S.bc,vI g.S.box.x0,vI g.S.box.y0,vI g.S.box.x1,vI g.S.box.y1,.slice g.S.rA g.S.rn g.S.rc,.slice g.S.dA g.S.dn g.S.dc,vI g.S.fog,vI g.S.g.x,vI g.S.g.y,vI g.S.push,vI g.S.drag,vI g.S.rest,vI g.S.rounds,vI g.S.fuel],.agg #[.slice g.cA g.cn g.cc,vI g.e0,vI g.e1,vI g.e2],vI g.version,vS g.ib (g.io * 3) g.ni g.ic] (ap [] [T]) F (λ u H'=>∃ x,H'=ap [] [x] /\ (MemK K D mb (moveF (g.step M) M) k x /\ u=.tuple #[.bool false,.agg #[vI 0,vI 0,vI 0,vI 0],.bool false])):=by
 refine Sp.run Tryz.func11 rfl mn (A:=[]) (Ts:=[T]) rfl λ w0=>?_
 refine RN.go 29 (ow 0 8) λ n1=>RN.cpK (get_lit 1 hp hM (hl 1 (by decide) (by decide)) (sub_ap 0))<|RN.go 18 [] λ _=>RN.draw [] []<|RD.go [] [0,1,2,3,4,5,7] (ow 3 16++[.own 2,.own 2,.own 2,.own 2])<|RD.cpK [] 6 (λ X_=>(get_any 2 hM (hl 2 (by decide) (by decide)) (sub_apX 0)))<|RD.cpK [] 8 (λ X_=>(get_any 3 hM (hl 3 (by decide) (by decide)) (sub_apX 0)))<|RD.go [] [9] []<|RD.one 10 (RDO.ev [] [] λ n2=>?_)
 refine RD.go [] [11] []<|RD.fin<|RN.go 7 [.own 1] λ _=>RN.ct [0] [0] (move_full (g.step M) (n2+0) mb M (k+12) T _ hM hS.up hl hbi hbj) ?_
 rintro _ T3 hM4
 refine RN.go 3 [] λ _=>RN.draw [13] [0,1,3,4]<|RD.go [0,1,3,4] [0,4,8,1,5,9,2,6,10,3,7,11,12] (ow 0 5++[.ro 0])<|RD.one 13 (RDO.ev [0,1,3,4] [.own 2,.own 2,.own 2,.own 2] λ _=>?_)
 refine RD.go [0,1,3,4] [14] []<|RD.fin<|RN.go 1 [] λ _=>RN.ret [.own 2,.own 2,.own 2,.own 2] [] [0] (v:=.tuple #[.bool false,.agg #[vI 0,vI 0,vI 0,vI 0],.bool false]) (H':=(ap [] [T3])) ?_
 exact ⟨T3,rfl,hM4.weak (by omega),rfl⟩
theorem trans6 (g:Gm) (mb:Nat) (M:MemS) (k:Nat) (T F:HL) (hM:MemK K D mb M (k+20) T) (hS:SetIn F g.S) (hp:M.get 1=6) (hE:¬ M.get 3=0 -> EffIn F) (hC:CodeIn F g.code g.cA g.cn) (hl:DLo D) (hbi:DBd D g.S  (M.get 2)) (hst:¬ M.get 3=0 -> StD D g.S g.code g.cn M):Sp Tryz.prog 11 #[.iface K.tid (vP mb 0),.agg #[vI g.S.players,vS g.S.bb (g.S.bo * 9) g.S.nb g.S.bc,vI g.S.box.x0,vI g.S.box.y0,vI g.S.box.x1,vI g.S.box.y1,.slice g.S.rA g.S.rn g.S.rc,.slice g.S.dA g.S.dn g.S.dc,vI g.S.fog,vI g.S.g.x,vI g.S.g.y,vI g.S.push,vI g.S.drag,vI g.S.rest,vI g.S.rounds,vI g.S.fuel],.agg #[.slice g.cA g.cn g.cc,vI g.e0,vI g.e1,vI g.e2],vI g.version,vS g.ib (g.io * 3) g.ni g.ic] (ap [] [T]) F (λ u H'=>∃ x,H'=ap [] [x] /\ (MemK K D mb (hitV (g.step M) M).M k x /\ u=.tuple #[.bool false,.agg #[vI ((hitV (g.step M) M).e.t),vI ((hitV (g.step M) M).e.i),vI ((hitV (g.step M) M).e.k),vI ((hitV (g.step M) M).e.v)],.bool ((hitV (g.step M) M).em)])):=by
 refine Sp.run Tryz.func11 rfl mn (A:=[]) (Ts:=[T]) rfl λ w0=>?_
 refine RN.go 29 (ow 0 8) λ n1=>RN.cpK (get_lit 1 hp hM (hl 1 (by decide) (by decide)) (sub_ap 0))<|RN.go 18 [] λ _=>RN.draw [] []<|RD.go [] [0,1,2,3,4,5,7] (ow 3 16++[.own 2,.own 2,.own 2,.own 2])<|RD.cpK [] 6 (λ X_=>(get_any 2 hM (hl 2 (by decide) (by decide)) (sub_apX 0)))<|RD.cpK [] 8 (λ X_=>(get_any 3 hM (hl 3 (by decide) (by decide)) (sub_apX 0)))<|RD.go [] [9] []<|RD.one 10 (RDO.ev [] [] λ n2=>?_)
 refine RD.go [] [11] []<|RD.fin<|RN.go 7 [.own 1] λ _=>RN.ct [0] [0] (hit_v (g.step M) (n2+0) mb M (k+11) T _ hM hS.up (λ h_=>ro_ap (hE h_)) hC.up hl hbi hst) ?_
 rintro _ T3 hM4
 refine RN.go 3 [] λ _=>RN.draw [13] [0,1,3,4]<|RD.go [0,1,3,4] [0,4,8,1,5,9,2,6,10,3,7,11,12] (ow 0 5++[.ro 0])<|RD.one 13 (RDO.ev [0,1,3,4] [.own 2,.own 2,.own 2,.own 2] λ _=>?_)
 refine RD.go [0,1,3,4] [14] []<|RD.fin<|RN.go 1 [] λ _=>RN.ret [.own 2,.own 2,.own 2,.own 2] [] [0] (v:=.tuple #[.bool false,.agg #[vI ((hitV (g.step M) M).e.t),vI ((hitV (g.step M) M).e.i),vI ((hitV (g.step M) M).e.k),vI ((hitV (g.step M) M).e.v)],.bool ((hitV (g.step M) M).em)]) (H':=(ap [] [T3])) ?_
 exact ⟨T3,rfl,hM4.weak (by omega),rfl⟩
theorem trans7 (g:Gm) (mb:Nat) (M:MemS) (k:Nat) (T F:HL) (hM:MemK K D mb M (k+20) T) (hS:SetIn F g.S) (hp:M.get 1=7)  (hl:DLo D) (hbi:DBd D g.S  (M.get 2)):Sp Tryz.prog 11 #[.iface K.tid (vP mb 0),.agg #[vI g.S.players,vS g.S.bb (g.S.bo * 9) g.S.nb g.S.bc,vI g.S.box.x0,vI g.S.box.y0,vI g.S.box.x1,vI g.S.box.y1,.slice g.S.rA g.S.rn g.S.rc,.slice g.S.dA g.S.dn g.S.dc,vI g.S.fog,vI g.S.g.x,vI g.S.g.y,vI g.S.push,vI g.S.drag,vI g.S.rest,vI g.S.rounds,vI g.S.fuel],.agg #[.slice g.cA g.cn g.cc,vI g.e0,vI g.e1,vI g.e2],vI g.version,vS g.ib (g.io * 3) g.ni g.ic] (ap [] [T]) F (λ u H'=>∃ x,H'=ap [] [x] /\ (MemK K D mb (restM (g.step M) M) k x /\ u=.tuple #[.bool (restB (g.step M)),.agg #[vI 0,vI 0,vI 0,vI 0],.bool false])):=by
 refine Sp.run Tryz.func11 rfl mn (A:=[]) (Ts:=[T]) rfl λ w0=>?_
 refine RN.go 29 (ow 0 8) λ n1=>RN.cpK (get_lit 1 hp hM (hl 1 (by decide) (by decide)) (sub_ap 0))<|RN.go 18 [] λ _=>RN.draw [] []<|RD.go [] [0,1,2,3,4,5,7] (ow 3 16++[.own 2,.own 2,.own 2,.own 2])<|RD.cpK [] 6 (λ X_=>(get_any 2 hM (hl 2 (by decide) (by decide)) (sub_apX 0)))<|RD.cpK [] 8 (λ X_=>(get_any 3 hM (hl 3 (by decide) (by decide)) (sub_apX 0)))<|RD.go [] [9] []<|RD.one 10 (RDO.ev [] [] λ n2=>?_)
 refine RD.go [] [11] []<|RD.fin<|RN.go 7 [.own 1] λ _=>RN.ct [0] [0] (rest_any (g.step M) (n2+0) mb M (k+6) T _ hM hS.up hl hbi) ?_
 rintro _ T3 hM4
 refine RN.go 3 [] λ _=>RN.draw [13] [0,1,3,4]<|RD.go [0,1,3,4] [0,4,8,1,5,9,2,6,10,3,7,11,12] (ow 0 5++[.ro 0])<|RD.one 13 (RDO.ev [0,1,3,4] [.own 2,.own 2,.own 2,.own 2] λ _=>?_)
 refine RD.go [0,1,3,4] [14] []<|RD.fin<|RN.go 1 [] λ _=>RN.ret [.own 2,.own 2,.own 2,.own 2] [] [0] (v:=.tuple #[.bool (restB (g.step M)),.agg #[vI 0,vI 0,vI 0,vI 0],.bool false]) (H':=(ap [] [T3])) ?_
 exact ⟨T3,rfl,hM4.weak (by omega),rfl⟩
end Go.Proofs.YtkhifpbokgabbaaGreatDoor
