import Derived.Test.YtgdcbiiopbpgaaaGreatDoorY18
set_option maxHeartbeats 4000000
set_option maxRecDepth 100000
set_option linter.unusedSimpArgs false
set_option linter.unusedVariables false
namespace Go.Proofs.YtgdcbiiopbpgaaaGreatDoor
open Go.RowKit
theorem DZ (t:Stp)  (tb mb:Nat) (M:MemS) (k:Nat) (T F:HL) (hM:MemH mb M (k+14) T) (hS:SetIn F t.S) :Sp Tryz.prog 155 #[vP tb 0] (ap [(tb,.lit (Stp.l t mb) 275 (0,0))] [T]) F (λ u H'=>∃ x,H'=ap [(tb,.lit [.iface 96 (vP mb 0),vI t.S.players,vS t.S.bb (t.S.bo * 9) t.S.nb t.S.bc,vI t.S.box.x0,vI t.S.box.y0,vI t.S.box.x1,vI t.S.box.y1,.slice t.S.rA t.S.rn t.S.rc,.slice t.S.dA t.S.dn t.S.dc,vI t.S.fog,vI t.S.g.x,vI t.S.g.y,vI t.S.push,vI t.S.drag,vI t.S.rest,vI t.S.rounds,vI t.S.fuel,.slice t.cA t.cn t.cc,vI t.e0,vI t.e1,vI t.e2,vI t.version,vS t.ib (t.io * 3) t.ni t.ic,vI t.i,vI t.j,.bool (fy t),vI t.f0,vI t.f1,vI t.f2,vI t.f3,.bool t.emitted] 275 (0,0))] [x] /\ (MemH mb (du t M) k x)):=by
 have hp:=hS.pl
 have hn:=hS.nb
 have hr:=hS.room
 refine Sp.run Tryz.func155 rfl (mc hS.blk mn) (A:=[(tb,.lit (Stp.l t mb) 275 (0,0))]) (Ts:=[T]) rfl λ w0=>?_
 refine ae 2 [] λ _=>RN.draw [] []<|ag [] [0,4,1,5,2,6,3,7] (ow 0 17)<|ar [] 8 (λ X_=>(cG t.S t.i _ hS.toSetN)) ?_
 have hb1:=cF hS.toSetN t.i
 refine ag [] [9] []<|RD.fin<|ae 7 [] λ _=>RN.em (af t.S t.i >= 0) 15 (λ h2=>?_) λ h2=>?_
 ·refine ai 15 [.own 0,.nw] [bd ((af t.S t.i)+2)] λ _=>aj (av ((af t.S t.i)+2) hM (aA 0))<|ae 2 [] λ _=>RN.em (M.get ((af t.S t.i)+2)=0) 24 (λ h3=>?_) λ h3=>?_
  ·refine ai 6 [.own 0,.nw] [bd ((af t.S t.i)+3)] λ _=>aj (av ((af t.S t.i)+3) hM (aA 0))<|ae 4 [] λ _=>RN.em (M.get ((af t.S t.i)+3)=0) 33 (λ h4=>?_) λ h4=>?_
   ·refine ai 8 [.own 0,.nw] [bd ((af t.S t.i)+7)] λ _=>aj (av ((af t.S t.i)+7) hM (aA 0))<|ai 13 [.own 0,.nw] [bd ((af t.S t.i)+7)] λ _=>RN.ct [] [0] (ak ((af t.S t.i)+7) (if 1000 < IntKind.i64.wrap ((M.get ((af t.S t.i)+7))+1) then 1000 else IntKind.i64.wrap ((M.get ((af t.S t.i)+7))+1)) hM) ?_
    rintro _ T5 hM6
    refine ae 4 [] λ _=>RN.draw [] []<|ag [] [0,5,1,6,2,7,3,8,4,9,10,11] [.own 0,.own 0]<|RD.fin<|ae 1 [] λ _=>RN.em (IntKind.i64.wrap (t.i+1) < (t.S.nb:Int)) 62 (λ h7=>?_) λ h7=>?_
    ·refine ae 2 [] λ _=>RN.draw [11] []<|ag [] [0,4,1,5,2,6,3,7,8,9,10] [.own 0,.own 0]<|RD.one 11 (RDO.ct [] [] [0] (ak 2 (IntKind.i64.wrap (t.i+1)) hM6) ?_)
     rintro _ T8 hM9
     refine RD.fin<|ae 1 [] λ _=>RN.ret [] [0] [0] (v:=.tuple #[]) (H':=(ap [(tb,.lit (Stp.l t mb) 275 (0,0))] [T8])) ?_
     refine ⟨T8,by simp only [fy,Stp.l,if_pos h2,if_pos h3,if_pos h4,if_pos h7],?_⟩
     have e:(du t M)=((M.set ((af t.S t.i)+7) (if 1000 < IntKind.i64.wrap ((M.get ((af t.S t.i)+7))+1) then 1000 else IntKind.i64.wrap ((M.get ((af t.S t.i)+7))+1))).set 2 (IntKind.i64.wrap (t.i+1))):=by
      simp only [du,fR,gL,if_pos h2,if_pos h3,if_pos h4,if_pos h7]
     rw [e]
     exact hM9.weak (by omega)
    ·refine ae 12 [.own 0] λ _=>RN.draw [12] []<|ag [] [0,4,1,5,2,6,3,7,10,11] [.own 0,.own 0]<|ar [] 8 (λ X_=>(av 0 hM6 (aR 0)))<|ag [] [9] []<|RD.one 12 (RDO.ct [] [] [0] (ak 0 (IntKind.i64.wrap (((M.set ((af t.S t.i)+7) (if 1000 < IntKind.i64.wrap ((M.get ((af t.S t.i)+7))+1) then 1000 else IntKind.i64.wrap ((M.get ((af t.S t.i)+7))+1))).get 0)+1)) hM6) ?_)
     rintro _ T10 hM11
     refine RD.fin<|ae 7 [] λ _=>RN.loop (σ:=Nat × HL) (λ ⟨n,T_⟩=>⟨[(0,vP tb 0),(4,vI ((n+1:Nat):Int))],[(tb,.lit [.iface 96 (vP mb 0),vI t.S.players,vS t.S.bb (t.S.bo * 9) t.S.nb t.S.bc,vI t.S.box.x0,vI t.S.box.y0,vI t.S.box.x1,vI t.S.box.y1,.slice t.S.rA t.S.rn t.S.rc,.slice t.S.dA t.S.dn t.S.dc,vI t.S.fog,vI t.S.g.x,vI t.S.g.y,vI t.S.push,vI t.S.drag,vI t.S.rest,vI t.S.rounds,vI t.S.fuel,.slice t.cA t.cn t.cc,vI t.e0,vI t.e1,vI t.e2,vI t.version,vS t.ib (t.io * 3) t.ni t.ic,vI t.i,vI t.j,.bool true,vI t.f0,vI t.f1,vI t.f2,vI t.f3,.bool t.emitted] 275 (0,0))],[T_],n <= 10 /\ MemH mb (cD ((M.set ((af t.S t.i)+7) (if 1000 < IntKind.i64.wrap ((M.get ((af t.S t.i)+7))+1) then 1000 else IntKind.i64.wrap ((M.get ((af t.S t.i)+7))+1))).set 0 (IntKind.i64.wrap (((M.set ((af t.S t.i)+7) (if 1000 < IntKind.i64.wrap ((M.get ((af t.S t.i)+7))+1) then 1000 else IntKind.i64.wrap ((M.get ((af t.S t.i)+7))+1))).get 0)+1))) n) (k+10 - n) T_,10 - n⟩) (0,T10) [0] [0] (⟨by omega,hM11.weak (by omega)⟩) ?_
     rintro ⟨n,T_⟩ ⟨hn_,hM_⟩ mt13
     refine ae 7 [] λ _=>RN.em (((n+1:Nat):Int) <= 10) 92 (λ h14=>?_) λ h14=>?_
     ·obtain ⟨e_,he_⟩:∃ e,k+10 - n=e+1:=⟨k+9 - n,by omega⟩
      have hM_2:MemH mb (cD ((M.set ((af t.S t.i)+7) (if 1000 < IntKind.i64.wrap ((M.get ((af t.S t.i)+7))+1) then 1000 else IntKind.i64.wrap ((M.get ((af t.S t.i)+7))+1))).set 0 (IntKind.i64.wrap (((M.set ((af t.S t.i)+7) (if 1000 < IntKind.i64.wrap ((M.get ((af t.S t.i)+7))+1) then 1000 else IntKind.i64.wrap ((M.get ((af t.S t.i)+7))+1))).get 0)+1))) n) (e_+1) T_:=he_ ▸ hM_
      refine ae 11 [.own 0] λ _=>RN.ct [] [0] (ak ((n+1:Nat):Int) 0 hM_2) ?_
      rintro _ T15 hM16
      refine ai 8 [.nw] [bd (((n+1:Nat):Int)+1)] λ _=>?_
      refine mt13 (n+1,T15) [0] [0] ?_
      try dsimp only
      refine ⟨⟨by omega,hM16.cast (by rw [cD]) (by omega)⟩,by omega⟩
     ·refine ae 5 [] λ _=>RN.ret [] [0] [0] (v:=.tuple #[]) (H':=(ap [(tb,.lit [.iface 96 (vP mb 0),vI t.S.players,vS t.S.bb (t.S.bo * 9) t.S.nb t.S.bc,vI t.S.box.x0,vI t.S.box.y0,vI t.S.box.x1,vI t.S.box.y1,.slice t.S.rA t.S.rn t.S.rc,.slice t.S.dA t.S.dn t.S.dc,vI t.S.fog,vI t.S.g.x,vI t.S.g.y,vI t.S.push,vI t.S.drag,vI t.S.rest,vI t.S.rounds,vI t.S.fuel,.slice t.cA t.cn t.cc,vI t.e0,vI t.e1,vI t.e2,vI t.version,vS t.ib (t.io * 3) t.ni t.ic,vI t.i,vI t.j,.bool true,vI t.f0,vI t.f1,vI t.f2,vI t.f3,.bool t.emitted] 275 (0,0))] [T_])) ?_
      refine ⟨T_,by simp only [fy,Stp.l,if_pos h2,if_pos h3,if_pos h4,if_neg h7,if_neg h14],?_⟩
      have en:n=10:=by omega
      have e:(du t M)=(cD ((M.set ((af t.S t.i)+7) (if 1000 < IntKind.i64.wrap ((M.get ((af t.S t.i)+7))+1) then 1000 else IntKind.i64.wrap ((M.get ((af t.S t.i)+7))+1))).set 0 (IntKind.i64.wrap (((M.set ((af t.S t.i)+7) (if 1000 < IntKind.i64.wrap ((M.get ((af t.S t.i)+7))+1) then 1000 else IntKind.i64.wrap ((M.get ((af t.S t.i)+7))+1))).get 0)+1))) n):=by
       rw [en]
       simp only [du,fR,gL,if_pos h2,if_pos h3,if_pos h4,if_neg h7,if_neg h14]
      rw [e]
      exact hM_.weak (by omega)
   ·refine ai 11 [.own 0,.nw] [bd ((af t.S t.i)+7)] λ _=>RN.ct [] [0] (ak ((af t.S t.i)+7) 0 hM) ?_
    rintro _ T17 hM18
    refine ae 4 [] λ _=>RN.draw [] []<|ag [] [0,5,1,6,2,7,3,8,4,9,10,11] [.own 0,.own 0]<|RD.fin<|ae 1 [] λ _=>RN.em (IntKind.i64.wrap (t.i+1) < (t.S.nb:Int)) 62 (λ h19=>?_) λ h19=>?_
    ·refine ae 2 [] λ _=>RN.draw [11] []<|ag [] [0,4,1,5,2,6,3,7,8,9,10] [.own 0,.own 0]<|RD.one 11 (RDO.ct [] [] [0] (ak 2 (IntKind.i64.wrap (t.i+1)) hM18) ?_)
     rintro _ T20 hM21
     refine RD.fin<|ae 1 [] λ _=>RN.ret [] [0] [0] (v:=.tuple #[]) (H':=(ap [(tb,.lit (Stp.l t mb) 275 (0,0))] [T20])) ?_
     refine ⟨T20,by simp only [fy,Stp.l,if_pos h2,if_pos h3,if_neg h4,if_pos h19],?_⟩
     have e:(du t M)=((M.set ((af t.S t.i)+7) 0).set 2 (IntKind.i64.wrap (t.i+1))):=by
      simp only [du,fR,gL,if_pos h2,if_pos h3,if_neg h4,if_pos h19]
     rw [e]
     exact hM21.weak (by omega)
    ·refine ae 12 [.own 0] λ _=>RN.draw [12] []<|ag [] [0,4,1,5,2,6,3,7,10,11] [.own 0,.own 0]<|ar [] 8 (λ X_=>(av 0 hM18 (aR 0)))<|ag [] [9] []<|RD.one 12 (RDO.ct [] [] [0] (ak 0 (IntKind.i64.wrap (((M.set ((af t.S t.i)+7) 0).get 0)+1)) hM18) ?_)
     rintro _ T22 hM23
     refine RD.fin<|ae 7 [] λ _=>RN.loop (σ:=Nat × HL) (λ ⟨n,T_⟩=>⟨[(0,vP tb 0),(4,vI ((n+1:Nat):Int))],[(tb,.lit [.iface 96 (vP mb 0),vI t.S.players,vS t.S.bb (t.S.bo * 9) t.S.nb t.S.bc,vI t.S.box.x0,vI t.S.box.y0,vI t.S.box.x1,vI t.S.box.y1,.slice t.S.rA t.S.rn t.S.rc,.slice t.S.dA t.S.dn t.S.dc,vI t.S.fog,vI t.S.g.x,vI t.S.g.y,vI t.S.push,vI t.S.drag,vI t.S.rest,vI t.S.rounds,vI t.S.fuel,.slice t.cA t.cn t.cc,vI t.e0,vI t.e1,vI t.e2,vI t.version,vS t.ib (t.io * 3) t.ni t.ic,vI t.i,vI t.j,.bool true,vI t.f0,vI t.f1,vI t.f2,vI t.f3,.bool t.emitted] 275 (0,0))],[T_],n <= 10 /\ MemH mb (cD ((M.set ((af t.S t.i)+7) 0).set 0 (IntKind.i64.wrap (((M.set ((af t.S t.i)+7) 0).get 0)+1))) n) (k+10 - n) T_,10 - n⟩) (0,T22) [0] [0] (⟨by omega,hM23.weak (by omega)⟩) ?_
     rintro ⟨n,T_⟩ ⟨hn_,hM_⟩ mt25
     refine ae 7 [] λ _=>RN.em (((n+1:Nat):Int) <= 10) 92 (λ h26=>?_) λ h26=>?_
     ·obtain ⟨e_,he_⟩:∃ e,k+10 - n=e+1:=⟨k+9 - n,by omega⟩
      have hM_2:MemH mb (cD ((M.set ((af t.S t.i)+7) 0).set 0 (IntKind.i64.wrap (((M.set ((af t.S t.i)+7) 0).get 0)+1))) n) (e_+1) T_:=he_ ▸ hM_
      refine ae 11 [.own 0] λ _=>RN.ct [] [0] (ak ((n+1:Nat):Int) 0 hM_2) ?_
      rintro _ T27 hM28
      refine ai 8 [.nw] [bd (((n+1:Nat):Int)+1)] λ _=>?_
      refine mt25 (n+1,T27) [0] [0] ?_
      try dsimp only
      refine ⟨⟨by omega,hM28.cast (by rw [cD]) (by omega)⟩,by omega⟩
     ·refine ae 5 [] λ _=>RN.ret [] [0] [0] (v:=.tuple #[]) (H':=(ap [(tb,.lit [.iface 96 (vP mb 0),vI t.S.players,vS t.S.bb (t.S.bo * 9) t.S.nb t.S.bc,vI t.S.box.x0,vI t.S.box.y0,vI t.S.box.x1,vI t.S.box.y1,.slice t.S.rA t.S.rn t.S.rc,.slice t.S.dA t.S.dn t.S.dc,vI t.S.fog,vI t.S.g.x,vI t.S.g.y,vI t.S.push,vI t.S.drag,vI t.S.rest,vI t.S.rounds,vI t.S.fuel,.slice t.cA t.cn t.cc,vI t.e0,vI t.e1,vI t.e2,vI t.version,vS t.ib (t.io * 3) t.ni t.ic,vI t.i,vI t.j,.bool true,vI t.f0,vI t.f1,vI t.f2,vI t.f3,.bool t.emitted] 275 (0,0))] [T_])) ?_
      refine ⟨T_,by simp only [fy,Stp.l,if_pos h2,if_pos h3,if_neg h4,if_neg h19,if_neg h26],?_⟩
      have en:n=10:=by omega
      have e:(du t M)=(cD ((M.set ((af t.S t.i)+7) 0).set 0 (IntKind.i64.wrap (((M.set ((af t.S t.i)+7) 0).get 0)+1))) n):=by
       rw [en]
       simp only [du,fR,gL,if_pos h2,if_pos h3,if_neg h4,if_neg h19,if_neg h26]
      rw [e]
      exact hM_.weak (by omega)
  ·refine ai 22 [.own 0,.nw] [bd ((af t.S t.i)+7)] λ _=>RN.ct [] [0] (ak ((af t.S t.i)+7) 0 hM) ?_
   rintro _ T29 hM30
   refine ae 4 [] λ _=>RN.draw [] []<|ag [] [0,5,1,6,2,7,3,8,4,9,10,11] [.own 0,.own 0]<|RD.fin<|ae 1 [] λ _=>RN.em (IntKind.i64.wrap (t.i+1) < (t.S.nb:Int)) 62 (λ h31=>?_) λ h31=>?_
   ·refine ae 2 [] λ _=>RN.draw [11] []<|ag [] [0,4,1,5,2,6,3,7,8,9,10] [.own 0,.own 0]<|RD.one 11 (RDO.ct [] [] [0] (ak 2 (IntKind.i64.wrap (t.i+1)) hM30) ?_)
    rintro _ T32 hM33
    refine RD.fin<|ae 1 [] λ _=>RN.ret [] [0] [0] (v:=.tuple #[]) (H':=(ap [(tb,.lit (Stp.l t mb) 275 (0,0))] [T32])) ?_
    refine ⟨T32,by simp only [fy,Stp.l,if_pos h2,if_neg h3,if_pos h31],?_⟩
    have e:(du t M)=((M.set ((af t.S t.i)+7) 0).set 2 (IntKind.i64.wrap (t.i+1))):=by
     simp only [du,fR,gL,if_pos h2,if_neg h3,if_pos h31]
    rw [e]
    exact hM33.weak (by omega)
   ·refine ae 12 [.own 0] λ _=>RN.draw [12] []<|ag [] [0,4,1,5,2,6,3,7,10,11] [.own 0,.own 0]<|ar [] 8 (λ X_=>(av 0 hM30 (aR 0)))<|ag [] [9] []<|RD.one 12 (RDO.ct [] [] [0] (ak 0 (IntKind.i64.wrap (((M.set ((af t.S t.i)+7) 0).get 0)+1)) hM30) ?_)
    rintro _ T34 hM35
    refine RD.fin<|ae 7 [] λ _=>RN.loop (σ:=Nat × HL) (λ ⟨n,T_⟩=>⟨[(0,vP tb 0),(4,vI ((n+1:Nat):Int))],[(tb,.lit [.iface 96 (vP mb 0),vI t.S.players,vS t.S.bb (t.S.bo * 9) t.S.nb t.S.bc,vI t.S.box.x0,vI t.S.box.y0,vI t.S.box.x1,vI t.S.box.y1,.slice t.S.rA t.S.rn t.S.rc,.slice t.S.dA t.S.dn t.S.dc,vI t.S.fog,vI t.S.g.x,vI t.S.g.y,vI t.S.push,vI t.S.drag,vI t.S.rest,vI t.S.rounds,vI t.S.fuel,.slice t.cA t.cn t.cc,vI t.e0,vI t.e1,vI t.e2,vI t.version,vS t.ib (t.io * 3) t.ni t.ic,vI t.i,vI t.j,.bool true,vI t.f0,vI t.f1,vI t.f2,vI t.f3,.bool t.emitted] 275 (0,0))],[T_],n <= 10 /\ MemH mb (cD ((M.set ((af t.S t.i)+7) 0).set 0 (IntKind.i64.wrap (((M.set ((af t.S t.i)+7) 0).get 0)+1))) n) (k+10 - n) T_,10 - n⟩) (0,T34) [0] [0] (⟨by omega,hM35.weak (by omega)⟩) ?_
    rintro ⟨n,T_⟩ ⟨hn_,hM_⟩ mt37
    refine ae 7 [] λ _=>RN.em (((n+1:Nat):Int) <= 10) 92 (λ h38=>?_) λ h38=>?_
    ·obtain ⟨e_,he_⟩:∃ e,k+10 - n=e+1:=⟨k+9 - n,by omega⟩
     have hM_2:MemH mb (cD ((M.set ((af t.S t.i)+7) 0).set 0 (IntKind.i64.wrap (((M.set ((af t.S t.i)+7) 0).get 0)+1))) n) (e_+1) T_:=he_ ▸ hM_
     refine ae 11 [.own 0] λ _=>RN.ct [] [0] (ak ((n+1:Nat):Int) 0 hM_2) ?_
     rintro _ T39 hM40
     refine ai 8 [.nw] [bd (((n+1:Nat):Int)+1)] λ _=>?_
     refine mt37 (n+1,T39) [0] [0] ?_
     try dsimp only
     refine ⟨⟨by omega,hM40.cast (by rw [cD]) (by omega)⟩,by omega⟩
    ·refine ae 5 [] λ _=>RN.ret [] [0] [0] (v:=.tuple #[]) (H':=(ap [(tb,.lit [.iface 96 (vP mb 0),vI t.S.players,vS t.S.bb (t.S.bo * 9) t.S.nb t.S.bc,vI t.S.box.x0,vI t.S.box.y0,vI t.S.box.x1,vI t.S.box.y1,.slice t.S.rA t.S.rn t.S.rc,.slice t.S.dA t.S.dn t.S.dc,vI t.S.fog,vI t.S.g.x,vI t.S.g.y,vI t.S.push,vI t.S.drag,vI t.S.rest,vI t.S.rounds,vI t.S.fuel,.slice t.cA t.cn t.cc,vI t.e0,vI t.e1,vI t.e2,vI t.version,vS t.ib (t.io * 3) t.ni t.ic,vI t.i,vI t.j,.bool true,vI t.f0,vI t.f1,vI t.f2,vI t.f3,.bool t.emitted] 275 (0,0))] [T_])) ?_
     refine ⟨T_,by simp only [fy,Stp.l,if_pos h2,if_neg h3,if_neg h31,if_neg h38],?_⟩
     have en:n=10:=by omega
     have e:(du t M)=(cD ((M.set ((af t.S t.i)+7) 0).set 0 (IntKind.i64.wrap (((M.set ((af t.S t.i)+7) 0).get 0)+1))) n):=by
      rw [en]
      simp only [du,fR,gL,if_pos h2,if_neg h3,if_neg h31,if_neg h38]
     rw [e]
     exact hM_.weak (by omega)
 ·refine ae 5 [] λ _=>RN.draw [] []<|ag [] [0,5,1,6,2,7,3,8,4,9,10,11] [.own 0,.own 0]<|RD.fin<|ae 1 [] λ _=>RN.em (IntKind.i64.wrap (t.i+1) < (t.S.nb:Int)) 62 (λ h41=>?_) λ h41=>?_
  ·refine ae 2 [] λ _=>RN.draw [11] []<|ag [] [0,4,1,5,2,6,3,7,8,9,10] [.own 0,.own 0]<|RD.one 11 (RDO.ct [] [] [0] (ak 2 (IntKind.i64.wrap (t.i+1)) hM) ?_)
   rintro _ T42 hM43
   refine RD.fin<|ae 1 [] λ _=>RN.ret [] [0] [0] (v:=.tuple #[]) (H':=(ap [(tb,.lit (Stp.l t mb) 275 (0,0))] [T42])) ?_
   refine ⟨T42,by simp only [fy,Stp.l,if_neg h2,if_pos h41],?_⟩
   have e:(du t M)=(M.set 2 (IntKind.i64.wrap (t.i+1))):=by
    simp only [du,fR,gL,if_neg h2,if_pos h41]
   rw [e]
   exact hM43.weak (by omega)
  ·refine ae 12 [.own 0] λ _=>RN.draw [12] []<|ag [] [0,4,1,5,2,6,3,7,10,11] [.own 0,.own 0]<|ar [] 8 (λ X_=>(av 0 hM (aR 0)))<|ag [] [9] []<|RD.one 12 (RDO.ct [] [] [0] (ak 0 (IntKind.i64.wrap ((M.get 0)+1)) hM) ?_)
   rintro _ T44 hM45
   refine RD.fin<|ae 7 [] λ _=>RN.loop (σ:=Nat × HL) (λ ⟨n,T_⟩=>⟨[(0,vP tb 0),(4,vI ((n+1:Nat):Int))],[(tb,.lit [.iface 96 (vP mb 0),vI t.S.players,vS t.S.bb (t.S.bo * 9) t.S.nb t.S.bc,vI t.S.box.x0,vI t.S.box.y0,vI t.S.box.x1,vI t.S.box.y1,.slice t.S.rA t.S.rn t.S.rc,.slice t.S.dA t.S.dn t.S.dc,vI t.S.fog,vI t.S.g.x,vI t.S.g.y,vI t.S.push,vI t.S.drag,vI t.S.rest,vI t.S.rounds,vI t.S.fuel,.slice t.cA t.cn t.cc,vI t.e0,vI t.e1,vI t.e2,vI t.version,vS t.ib (t.io * 3) t.ni t.ic,vI t.i,vI t.j,.bool true,vI t.f0,vI t.f1,vI t.f2,vI t.f3,.bool t.emitted] 275 (0,0))],[T_],n <= 10 /\ MemH mb (cD (M.set 0 (IntKind.i64.wrap ((M.get 0)+1))) n) (k+10 - n) T_,10 - n⟩) (0,T44) [0] [0] (⟨by omega,hM45.weak (by omega)⟩) ?_
   rintro ⟨n,T_⟩ ⟨hn_,hM_⟩ mt47
   refine ae 7 [] λ _=>RN.em (((n+1:Nat):Int) <= 10) 92 (λ h48=>?_) λ h48=>?_
   ·obtain ⟨e_,he_⟩:∃ e,k+10 - n=e+1:=⟨k+9 - n,by omega⟩
    have hM_2:MemH mb (cD (M.set 0 (IntKind.i64.wrap ((M.get 0)+1))) n) (e_+1) T_:=he_ ▸ hM_
    refine ae 11 [.own 0] λ _=>RN.ct [] [0] (ak ((n+1:Nat):Int) 0 hM_2) ?_
    rintro _ T49 hM50
    refine ai 8 [.nw] [bd (((n+1:Nat):Int)+1)] λ _=>?_
    refine mt47 (n+1,T49) [0] [0] ?_
    try dsimp only
    refine ⟨⟨by omega,hM50.cast (by rw [cD]) (by omega)⟩,by omega⟩
   ·refine ae 5 [] λ _=>RN.ret [] [0] [0] (v:=.tuple #[]) (H':=(ap [(tb,.lit [.iface 96 (vP mb 0),vI t.S.players,vS t.S.bb (t.S.bo * 9) t.S.nb t.S.bc,vI t.S.box.x0,vI t.S.box.y0,vI t.S.box.x1,vI t.S.box.y1,.slice t.S.rA t.S.rn t.S.rc,.slice t.S.dA t.S.dn t.S.dc,vI t.S.fog,vI t.S.g.x,vI t.S.g.y,vI t.S.push,vI t.S.drag,vI t.S.rest,vI t.S.rounds,vI t.S.fuel,.slice t.cA t.cn t.cc,vI t.e0,vI t.e1,vI t.e2,vI t.version,vS t.ib (t.io * 3) t.ni t.ic,vI t.i,vI t.j,.bool true,vI t.f0,vI t.f1,vI t.f2,vI t.f3,.bool t.emitted] 275 (0,0))] [T_])) ?_
    refine ⟨T_,by simp only [fy,Stp.l,if_neg h2,if_neg h41,if_neg h48],?_⟩
    have en:n=10:=by omega
    have e:(du t M)=(cD (M.set 0 (IntKind.i64.wrap ((M.get 0)+1))) n):=by
     rw [en]
     simp only [du,fR,gL,if_neg h2,if_neg h41,if_neg h48]
    rw [e]
    exact hM_.weak (by omega)
end Go.Proofs.YtgdcbiiopbpgaaaGreatDoor
