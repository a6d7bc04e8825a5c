import Derived.Test.YtghjbimijeinfaaGreatDoorY18
set_option maxHeartbeats 4000000
set_option maxRecDepth 100000
set_option linter.unusedSimpArgs false
set_option linter.unusedVariables false
namespace Go.Proofs.YtghjbimijeinfaaGreatDoor
open Go.RowKit
def d8 (lo hi:Int) (ns:List Int):Prop:=∀ k,k < ns.length -> lo <= ns.getD k 0 /\ ns.getD k 0 <= hi
instance (lo hi:Int) (ns:List Int):Decidable (d8 lo hi ns):=inferInstanceAs (Decidable (∀ k,k < ns.length -> _))
theorem kK (lo hi:Int):d8 lo hi []:=λ k hk=>absurd hk (Nat.not_lt_zero _)
theorem ju {lo hi x:Int} {ns:List Int}:d8 lo hi (x :: ns) ↔ (lo <= x /\ x <= hi) /\ d8 lo hi ns:=by
 constructor
 ·intro h
  exact ⟨h 0 (Nat.succ_pos _),λ k hk=>h (k+1) (Nat.succ_lt_succ hk)⟩
 ·rintro ⟨h1,h2⟩ k hk
  cases k with
  | zero=>exact h1
  | succ k=>exact h2 k (Nat.lt_of_succ_lt_succ hk)
theorem dZ (lo hi:Int) (ns:List Int) (q:Nat) (F:HL) (hq:(q,.rows 1 ns.length (aL ns) 3 (0,0)) ∈ F) (hn:ns.length <= 1000000):Sp Tryz.prog 193 #[vI lo,vI hi,vS q 0 ns.length ns.length] [] F (λ u H'=>u=.bool (decide (d8 lo hi ns)) /\ H'=[]):=by
 refine Sp.run Tryz.func193 rfl (mc hq mn) (A:=[]) (Ts:=[]) rfl λ w0=>?_
 refine ae 14 [] λ _=>RN.loop (σ:=Nat) (λ k=>⟨[(0,vI lo),(1,vI hi),(9,vS q 0 ns.length ns.length),(10,vI (ns.length:Int)),(11,vI (k:Int))],[],[],k <= ns.length /\ ∀ t,t < k -> lo <= ns.getD t 0 /\ ns.getD t 0 <= hi,ns.length - k⟩) 0 [] [] (⟨Nat.zero_le _,λ t ht=>absurd ht (Nat.not_lt_zero _)⟩) ?_
 rintro k ⟨hkl,hwk⟩ mt2
 refine ae 6 [] λ _=>RN.em ((k:Int) < (ns.length:Int)) 12 (λ h3=>?_) λ h3=>?_
 ·refine al 18 [.ix k,.rorow 0 k 0] [(0+k * 1)=k * 1+0 /\ k < ns.length,(k:Int)=((k:Nat):Int) /\ k < ns.length] λ _=>RN.em (ns.getD k 0 < lo) 18 (λ h4=>?_) λ h4=>?_
  ·refine ae 12 [] λ _=>RN.ret [] [] [] (v:=.bool false) (H':=[]) ?_
   exact ⟨by rw [decide_eq_false (show ¬ d8 lo hi ns from λ h_=>by have:=h_ k (by omega);omega)],rfl⟩
  ·refine ae 6 [] λ _=>RN.em (ns.getD k 0 > hi) 22 (λ h5=>?_) λ h5=>?_
   ·refine ae 6 [] λ _=>RN.ret [] [] [] (v:=.bool false) (H':=[]) ?_
    exact ⟨by rw [decide_eq_false (show ¬ d8 lo hi ns from λ h_=>by have:=h_ k (by omega);omega)],rfl⟩
   ·refine al 8 [.nw] [br ((k:Int)+1)] λ _=>?_
    refine mt2 (k+1) [] [] ?_
    try dsimp only
    refine ⟨⟨by omega,λ t ht=>?_⟩,by omega⟩
    rcases Nat.lt_or_ge t k with h_ | h_
    ·exact hwk t h_
    ·obtain rfl:t=k:=by omega
     exact ⟨by omega,by omega⟩
 ·refine ae 11 [] λ _=>RN.ret [] [] [] (v:=.bool true) (H':=[]) ?_
  exact ⟨by rw [decide_eq_true (show d8 lo hi ns from λ t ht=>hwk t (by omega))],rfl⟩
def ge (b:Bx):Prop:=(b.x0 <= b.x1 /\ b.y0 <= b.y1) /\ d8 (-1048576) 1048576 [b.x0,b.y0,b.x1,b.y1]
instance (b:Bx):Decidable (ge b):=inferInstanceAs (Decidable (_ /\ _))
def fv (b:Bod) (x:Bx):Prop:=d8 0 4096 [b.mot.inv] /\ d8 (-16384) 16384 [b.mot.vx,b.mot.vy] /\ d8 x.x0 x.x1 [b.mot.px] /\ d8 x.y0 x.y1 [b.mot.py] /\ d8 (-2147483647) 2147483647 [b.a,b.b]
instance (b:Bod) (x:Bx):Decidable (fv b x):=inferInstanceAs (Decidable (_ /\ _))
def jv (S:Setup):Prop:=d8 1 8 [S.players] /\ d8 S.players 24 [(S.nb:Int)] /\ d8 0 4194304 [S.fog] /\ d8 (-16384) 16384 [S.g.x,S.g.y] /\ d8 0 16384 [S.push] /\ d8 0 1024 [S.drag,S.rest] /\ d8 1 4 [S.rounds] /\ d8 0 1000 [S.fuel]
instance (S:Setup):Decidable (jv S):=inferInstanceAs (Decidable (_ /\ _))
theorem qm (b:Bx)  (F:HL):Sp Tryz.prog 131 #[.agg #[vI b.x0,vI b.y0,vI b.x1,vI b.y1]] [] F (λ u H'=>u=.bool (decide (ge b)) /\ H'=[]):=by
 refine Sp.run Tryz.func131 rfl mn (A:=[]) (Ts:=[]) rfl λ w0=>?_
 refine ae 14 [.own 0,.own 0] λ n1=>RN.em (b.x0 <= b.x1) 8 (λ h2=>?_) λ h2=>?_
 ·refine ae 7 [.own 0,.own 0] λ _=>RN.em (b.y0 <= b.y1) 15 (λ h3=>?_) λ h3=>?_
  ·refine ae 9 [.own 0,.own 0,.own 0,.own 0] λ n4=>RN.dn 0 (.rows 1 4 (aL [b.x0,b.y0,b.x1,b.y1]) 3 (0,0))<|aj (dZ (-1048576) 1048576 [b.x0,b.y0,b.x1,b.y1] (n4+0) _ (aB 0) (Nat.le_of_ble_eq_true rfl))<|ae 4 [] λ _=>RN.ret [] [] [] (v:=.bool (decide (d8 (-1048576) 1048576 [b.x0,b.y0,b.x1,b.y1]))) (H':=[]) ?_
   exact ⟨by simp [ge, *],rfl⟩
  ·refine ae 14 [] λ _=>RN.ret [] [] [] (v:=.bool false) (H':=[]) ?_
   exact ⟨by simp [ge, *],rfl⟩
 ·refine ae 21 [] λ _=>RN.ret [] [] [] (v:=.bool false) (H':=[]) ?_
  exact ⟨by simp [ge, *],rfl⟩
theorem BX (b:Bod) (x:Bx) (F:HL):Sp Tryz.prog 133 #[.agg #[vI b.sh.r,.slice b.sh.A b.sh.poly.length b.sh.cap,vI b.mot.px,vI b.mot.py,vI b.mot.vx,vI b.mot.vy,vI b.mot.inv,vI b.a,vI b.b],.agg #[vI x.x0,vI x.y0,vI x.x1,vI x.y1]] [] F (λ u H'=>u=.bool (decide (fv b x)) /\ H'=[]):=by
 refine Sp.run Tryz.func133 rfl mn (A:=[]) (Ts:=[]) rfl λ w0=>?_
 refine ae 20 (ow 1 5++ow 0 6) λ n1=>RN.dn 0 (.rows 1 1 (aL [b.mot.inv]) 3 (0,0))<|aj (dZ 0 4096 [b.mot.inv] (n1+3) _ (aB 0) (Nat.le_of_ble_eq_true rfl))<|ae 1 [] λ _=>RN.em (d8 0 4096 [b.mot.inv]) 12 (λ h2=>?_) λ h2=>?_
 ·refine ae 7 [.own 1,.own 1] λ n3=>RN.dn 0 (.rows 1 2 (aL [b.mot.vx,b.mot.vy]) 3 (0,0))<|aj (dZ (-16384) 16384 [b.mot.vx,b.mot.vy] (n3+0) _ (aB 0) (Nat.le_of_ble_eq_true rfl))<|ae 2 [] λ _=>RN.em (d8 (-16384) 16384 [b.mot.vx,b.mot.vy]) 22 (λ h4=>?_) λ h4=>?_
  ·refine ae 8 [.own 3,.own 3,.own 2] λ n5=>RN.dn 0 (.rows 1 1 (aL [b.mot.px]) 3 (0,0))<|aj (dZ x.x0 x.x1 [b.mot.px] (n5+0) _ (aB 0) (Nat.le_of_ble_eq_true rfl))<|ae 2 [] λ _=>RN.em (d8 x.x0 x.x1 [b.mot.px]) 33 (λ h6=>?_) λ h6=>?_
   ·refine ae 8 [.own 4,.own 4,.own 3] λ n7=>RN.dn 0 (.rows 1 1 (aL [b.mot.py]) 3 (0,0))<|aj (dZ x.y0 x.y1 [b.mot.py] (n7+0) _ (aB 0) (Nat.le_of_ble_eq_true rfl))<|ae 2 [] λ _=>RN.em (d8 x.y0 x.y1 [b.mot.py]) 44 (λ h8=>?_) λ h8=>?_
    ·refine ae 5 [.own 6,.own 6] λ n9=>RN.dn 0 (.rows 1 2 (aL [b.a,b.b]) 3 (0,0))<|aj (dZ (-2147483647) 2147483647 [b.a,b.b] (n9+0) _ (aB 0) (Nat.le_of_ble_eq_true rfl))<|ae 4 [] λ _=>RN.ret [] [] [] (v:=.bool (decide (d8 (-2147483647) 2147483647 [b.a,b.b]))) (H':=[]) ?_
     exact ⟨by simp [fv, *],rfl⟩
    ·refine ae 10 [] λ _=>RN.ret [] [] [] (v:=.bool false) (H':=[]) ?_
     exact ⟨by simp [fv, *],rfl⟩
   ·refine ae 21 [] λ _=>RN.ret [] [] [] (v:=.bool false) (H':=[]) ?_
    exact ⟨by simp [fv, *],rfl⟩
  ·refine ae 32 [] λ _=>RN.ret [] [] [] (v:=.bool false) (H':=[]) ?_
   exact ⟨by simp [fv, *],rfl⟩
 ·refine ae 42 [] λ _=>RN.ret [] [] [] (v:=.bool false) (H':=[]) ?_
  exact ⟨by simp [fv, *],rfl⟩
theorem Eh (S:Setup) (F:HL):Sp Tryz.prog 130 #[(Setup.v S)] [] F (λ u H'=>u=.bool (decide (jv S)) /\ H'=[]):=by
 refine Sp.run Tryz.func130 rfl mn (A:=[]) (Ts:=[]) rfl λ w0=>?_
 refine ae 11 [.own 0] λ n1=>RN.dn 0 (.rows 1 1 (aL [S.players]) 3 (0,0))<|aj (dZ 1 8 [S.players] (n1+1) _ (aB 0) (Nat.le_of_ble_eq_true rfl))<|ae 1 [] λ _=>RN.em (d8 1 8 [S.players]) 7 (λ h2=>?_) λ h2=>?_
 ·refine ae 6 [.own 1,.own 1] λ n3=>RN.dn 0 (.rows 1 1 (aL [(S.nb:Int)]) 3 (0,0))<|aj (dZ S.players 24 [(S.nb:Int)] (n3+0) _ (aB 0) (Nat.le_of_ble_eq_true rfl))<|ae 2 [] λ _=>RN.em (d8 S.players 24 [(S.nb:Int)]) 16 (λ h4=>?_) λ h4=>?_
  ·refine ae 3 [.own 2] λ n5=>RN.dn 0 (.rows 1 1 (aL [S.fog]) 3 (0,0))<|aj (dZ 0 4194304 [S.fog] (n5+0) _ (aB 0) (Nat.le_of_ble_eq_true rfl))<|ae 2 [] λ _=>RN.em (d8 0 4194304 [S.fog]) 22 (λ h6=>?_) λ h6=>?_
   ·refine ae 7 [.own 3,.own 3] λ n7=>RN.dn 0 (.rows 1 2 (aL [S.g.x,S.g.y]) 3 (0,0))<|aj (dZ (-16384) 16384 [S.g.x,S.g.y] (n7+0) _ (aB 0) (Nat.le_of_ble_eq_true rfl))<|ae 2 [] λ _=>RN.em (d8 (-16384) 16384 [S.g.x,S.g.y]) 32 (λ h8=>?_) λ h8=>?_
    ·refine ae 3 [.own 4] λ n9=>RN.dn 0 (.rows 1 1 (aL [S.push]) 3 (0,0))<|aj (dZ 0 16384 [S.push] (n9+0) _ (aB 0) (Nat.le_of_ble_eq_true rfl))<|ae 2 [] λ _=>RN.em (d8 0 16384 [S.push]) 38 (λ h10=>?_) λ h10=>?_
     ·refine ae 5 [.own 5,.own 5] λ n11=>RN.dn 0 (.rows 1 2 (aL [S.drag,S.rest]) 3 (0,0))<|aj (dZ 0 1024 [S.drag,S.rest] (n11+0) _ (aB 0) (Nat.le_of_ble_eq_true rfl))<|ae 2 [] λ _=>RN.em (d8 0 1024 [S.drag,S.rest]) 46 (λ h12=>?_) λ h12=>?_
      ·refine ae 3 [.own 6] λ n13=>RN.dn 0 (.rows 1 1 (aL [S.rounds]) 3 (0,0))<|aj (dZ 1 4 [S.rounds] (n13+0) _ (aB 0) (Nat.le_of_ble_eq_true rfl))<|ae 2 [] λ _=>RN.em (d8 1 4 [S.rounds]) 52 (λ h14=>?_) λ h14=>?_
       ·refine ae 3 [.own 7] λ n15=>RN.dn 0 (.rows 1 1 (aL [S.fuel]) 3 (0,0))<|aj (dZ 0 1000 [S.fuel] (n15+0) _ (aB 0) (Nat.le_of_ble_eq_true rfl))<|ae 4 [] λ _=>RN.ret [] [] [] (v:=.bool (decide (d8 0 1000 [S.fuel]))) (H':=[]) ?_
        exact ⟨by simp [jv, *],rfl⟩
       ·refine ae 8 [] λ _=>RN.ret [] [] [] (v:=.bool false) (H':=[]) ?_
        exact ⟨by simp [jv, *],rfl⟩
      ·refine ae 14 [] λ _=>RN.ret [] [] [] (v:=.bool false) (H':=[]) ?_
       exact ⟨by simp [jv, *],rfl⟩
     ·refine ae 22 [] λ _=>RN.ret [] [] [] (v:=.bool false) (H':=[]) ?_
      exact ⟨by simp [jv, *],rfl⟩
    ·refine ae 28 [] λ _=>RN.ret [] [] [] (v:=.bool false) (H':=[]) ?_
     exact ⟨by simp [jv, *],rfl⟩
   ·refine ae 38 [] λ _=>RN.ret [] [] [] (v:=.bool false) (H':=[]) ?_
    exact ⟨by simp [jv, *],rfl⟩
  ·refine ae 44 [] λ _=>RN.ret [] [] [] (v:=.bool false) (H':=[]) ?_
   exact ⟨by simp [jv, *],rfl⟩
 ·refine ae 53 [] λ _=>RN.ret [] [] [] (v:=.bool false) (H':=[]) ?_
  exact ⟨by simp [jv, *],rfl⟩
def qn (n:Nat) (d:Dr):Prop:=d8 0 ((n:Int) - 1) [d.a,d.b] /\ ¬ d.a=d.b
instance (n:Nat) (d:Dr):Decidable (qn n d):=inferInstanceAs (Decidable (_ /\ _))
def lR (S:Setup) (rs:List Bx) (ds:List Dr):Prop:=((S.rn:Int) <= 8 /\ (S.dn:Int) <= 16) /\ (∀ k,k < S.rn -> ge (rs.getD k vN.dflt)) /\ ∀ k,k < S.dn -> qn S.rn (ds.getD k mh.dflt)
instance (S:Setup) (rs:List Bx) (ds:List Dr):Decidable (lR S rs ds):=inferInstanceAs (Decidable (_ /\ _ /\ _))
theorem Ei (S:Setup) (rs:List Bx) (ds:List Dr) (F:HL) (hM:MapIn F S rs ds):Sp Tryz.prog 132 #[(Setup.v S)] [] F (λ u H'=>u=.bool (decide (lR S rs ds)) /\ H'=[]):=by
 refine Sp.run Tryz.func132 rfl mn (A:=[]) (Ts:=[]) rfl λ w0=>?_
 refine ae 14 [.own 0] λ n1=>RN.em ((S.rn:Int) > 8) 11 (λ h2=>?_) λ h2=>?_
 ·refine ae 13 [] λ _=>RN.ret [] [] [] (v:=.bool false) (H':=[]) ?_
  exact ⟨by rw [decide_eq_false (show ¬ lR S rs ds from λ h_=>by have:=h_.1;omega)],rfl⟩
 ·refine ae 7 [.own 0] λ _=>RN.em ((S.dn:Int) > 16) 16 (λ h3=>?_) λ h3=>?_
  ·refine ae 6 [] λ _=>RN.ret [] [] [] (v:=.bool false) (H':=[]) ?_
   exact ⟨by rw [decide_eq_false (show ¬ lR S rs ds from λ h_=>by have:=h_.1;omega)],rfl⟩
  ·refine ae 13 [.own 0] λ _=>RN.loop (σ:=Nat) (λ k=>⟨[(1,vP (n1+0) 0),(18,.slice S.rA S.rn S.rc),(19,vI (S.rn:Int)),(20,vI (k:Int))],[((n1+0),.lit (Setup.l S) 31 (0,0))],[],k <= S.rn /\ ∀ t,t < k -> ge (rs.getD t vN.dflt),S.rn - k⟩) 0 [0] [] (⟨Nat.zero_le _,λ t ht=>absurd ht (Nat.not_lt_zero _)⟩) ?_
   rintro k ⟨hkl,hr1⟩ mt5
   refine ae 6 [] λ _=>RN.em ((k:Int) < (S.rn:Int)) 21 (λ h6=>?_) λ h6=>?_
   ·refine ae 7 [] λ _=>?_
    obtain ⟨qx7,ox7,Nx7,fx7,fzx7,hAx7,hqx7,hox7,hgx7⟩:=hM.rooms.at (k:=k) (by omega)
    refine bn 18 (congrArg (λ v_=>(.slice v_ S.rn S.rc:Value)) hAx7)<|RN.ro (λ _=>(mc hqx7 mn))<|al 2 [.ix k,.rorow 0 (ox7+k) 0,.rorow 0 (ox7+k) 1,.rorow 0 (ox7+k) 2,.rorow 0 (ox7+k) 3] [((ox7 * 4+k * 4)+3)=(ox7+k) * 4+3 /\ (ox7+k) < Nx7,((ox7 * 4+k * 4)+2)=(ox7+k) * 4+2 /\ (ox7+k) < Nx7,((ox7 * 4+k * 4)+1)=(ox7+k) * 4+1 /\ (ox7+k) < Nx7,(ox7 * 4+k * 4)=(ox7+k) * 4+0 /\ (ox7+k) < Nx7,(k:Int)=((k:Nat):Int) /\ k < S.rn] λ _=>bn 23 (congrArg (λ v_=>(.agg #[vI v_.x0,vI v_.y0,vI v_.x1,vI v_.y1]:Value)) hgx7)<|ae 7 (ow 0 8) λ n8=>aj (qm (rs.getD k vN.dflt)  _)<|ae 3 [] λ _=>RN.en (ge (rs.getD k vN.dflt)) 26 (λ h9=>?_) λ h9=>?_
    ·refine al 8 [.nw] [br ((k:Int)+1)] λ _=>bn 18 (congrArg (λ v_=>(.slice v_ S.rn S.rc:Value)) hAx7.symm) ?_
     refine mt5 (k+1) [1] [] ?_
     try dsimp only
     refine ⟨⟨by omega,λ t ht=>?_⟩,by omega⟩
     rcases Nat.lt_or_ge t k with h_ | h_
     ·exact hr1 t h_
     ·obtain rfl:t=k:=by omega
      exact h9
    ·refine ae 6 [] λ _=>RN.ret [] [] [] (v:=.bool false) (H':=[]) ?_
     exact ⟨by rw [decide_eq_false (show ¬ lR S rs ds from λ h_=>h9 (h_.2.1 k (by omega)))],rfl⟩
   ·refine ae 16 [.own 0] λ _=>RN.loop (σ:=Nat) (λ j=>⟨[(1,vP (n1+0) 0),(29,.slice S.dA S.dn S.dc),(30,vI (S.dn:Int)),(31,vI (j:Int))],[((n1+0),.lit (Setup.l S) 31 (0,0))],[],j <= S.dn /\ ∀ t,t < j -> qn S.rn (ds.getD t mh.dflt),S.dn - j⟩) 0 [0] [] (⟨Nat.zero_le _,λ t ht=>absurd ht (Nat.not_lt_zero _)⟩) ?_
    rintro j ⟨hjl,hd1⟩ mt11
    refine ae 6 [] λ _=>RN.em ((j:Int) < (S.dn:Int)) 32 (λ h12=>?_) λ h12=>?_
    ·refine ae 7 [] λ _=>?_
     obtain ⟨qx13,ox13,Nx13,fx13,fzx13,hAx13,hqx13,hox13,hgx13⟩:=hM.doors.at (k:=j) (by omega)
     refine bn 29 (congrArg (λ v_=>(.slice v_ S.dn S.dc:Value)) hAx13)<|RN.ro (λ _=>(mc hqx13 mn))<|al 2 [.ix j,.rorow 0 (ox13+j) 0,.rorow 0 (ox13+j) 1] [((ox13 * 2+j * 2)+1)=(ox13+j) * 2+1 /\ (ox13+j) < Nx13,(ox13 * 2+j * 2)=(ox13+j) * 2+0 /\ (ox13+j) < Nx13,(j:Int)=((j:Nat):Int) /\ j < S.dn] λ _=>bn 34 (congrArg (λ v_=>(.agg #[vI v_.a,vI v_.b]:Value)) hgx13)<|al 15 [.own 0,.own 0,.own 1,.nw,.own 0,.own 0] [br ((S.rn:Int) - 1)] λ n14=>RN.dn 0 (.rows 1 2 (aL [(ds.getD j mh.dflt).a,(ds.getD j mh.dflt).b]) 3 (0,0))<|aj (dZ 0 ((S.rn:Int) - 1) [(ds.getD j mh.dflt).a,(ds.getD j mh.dflt).b] (n14+1) _ (aB 0) (Nat.le_of_ble_eq_true rfl))<|ae 2 [] λ _=>RN.en (d8 0 ((S.rn:Int) - 1) [(ds.getD j mh.dflt).a,(ds.getD j mh.dflt).b]) 46 (λ h15=>?_) λ h15=>?_
     ·refine ae 8 [.own 1,.own 1] λ _=>RN.em ((ds.getD j mh.dflt).a=(ds.getD j mh.dflt).b) 52 (λ h16=>?_) λ h16=>?_
      ·refine ae 6 [] λ _=>RN.ret [] [] [] (v:=.bool false) (H':=[]) ?_
       exact ⟨by rw [decide_eq_false (show ¬ lR S rs ds from λ h_=>(h_.2.2 j (by omega)).2 h16)],rfl⟩
      ·refine al 8 [.nw] [br ((j:Int)+1)] λ _=>bn 29 (congrArg (λ v_=>(.slice v_ S.dn S.dc:Value)) hAx13.symm) ?_
       refine mt11 (j+1) [2] [] ?_
       try dsimp only
       refine ⟨⟨by omega,λ t ht=>?_⟩,by omega⟩
       rcases Nat.lt_or_ge t j with h_ | h_
       ·exact hd1 t h_
       ·obtain rfl:t=j:=by omega
        exact ⟨h15,h16⟩
     ·refine ae 14 [] λ _=>RN.ret [] [] [] (v:=.bool false) (H':=[]) ?_
      exact ⟨by rw [decide_eq_false (show ¬ lR S rs ds from λ h_=>h15 (h_.2.2 j (by omega)).1)],rfl⟩
    ·refine ae 11 [] λ _=>RN.ret [] [] [] (v:=.bool true) (H':=[]) ?_
     exact ⟨by rw [decide_eq_true (show lR S rs ds from ⟨⟨by omega,by omega⟩,λ t ht=>hr1 t (by omega),λ t ht=>hd1 t (by omega)⟩)],rfl⟩
def sB (v w p:V2):Int:=aY (aY (aY (w.x - v.x) * aY (p.y - v.y)) - aY (aY (w.y - v.y) * aY (p.x - v.x)))
def t7 (n:Nat):List (Int × Int):=(List.range n).map λ i:Nat=>((i:Int),((i:Int)+1) % (n:Int))
theorem qo (n:Nat):(t7 n).length=n:=by simp [t7]
theorem vR {n k:Nat} (h:k < n):(t7 n)[k]?=some ((k:Int),((k:Int)+1) % (n:Int)):=by simp [t7,h]
theorem vT {n k:Nat} {x:Int × Int} (h:(t7 n)[k]?=some x):k < n /\ x=((k:Int),((k:Int)+1) % (n:Int)):=by
 have hk:k < n:=by rw [<- qo n];exact (List.getElem?_eq_some_iff.1 h).1
 rw [vR hk] at h
 exact ⟨hk,(Option.some.inj h).symm⟩
abbrev JD (x:Int × Int):Array Value:=#[vI x.1,vI x.2]
def vU (n k:Nat):Int:=((k:Int)+1) % (n:Int)
abbrev vat (l:List V2) (k:Nat):V2:=l.getD k ⟨0,0⟩
def vV (f:Nat -> V2) (n i:Nat):Prop:=¬ sB (f i) (f (vU n i).toNat) ⟨0,0⟩ <= 0 /\ ∀ k,k < n -> ¬ (k:Int)=(i:Int) -> ¬ (k:Int)=vU n i -> ¬ sB (f i) (f (vU n i).toNat) (f k) <= 0
instance (f:Nat -> V2) (n i:Nat):Decidable (vV f n i):=inferInstanceAs (Decidable (_ /\ _))
def oN (f:Nat -> V2) (n:Nat):Prop:=∀ i,i < n -> vV f n i
instance (f:Nat -> V2) (n:Nat):Decidable (oN f n):=inferInstanceAs (Decidable (∀ i,i < n -> _))
theorem HU {n k:Nat} (h:k < n):0 <= vU n k /\ vU n k < n:=⟨Int.emod_nonneg _ (by omega),Int.emod_lt_of_pos _ (by omega)⟩
theorem vW {f g:Nat -> V2} {n:Nat} (h:∀ k,k < n -> f k=g k) (hf:oN f n):oN g n:=λ i hi=>by
 have hb:=HU hi
 have h1:=hf i hi
 unfold vV at h1 ⊢
 rw [h i hi,h (vU n i).toNat (by omega)] at h1
 refine ⟨h1.1,λ k hk a b=>?_⟩
 have:=h1.2 k hk a b
 rwa [h k hk] at this
theorem sC (v w p:V2) (qw qv:Nat) (F:HL) (hqw:(qw,.lit [vI w.x,vI w.y] 29 (0,0)) ∈ F) (hqv:(qv,.lit [vI v.x,vI v.y] 29 (0,0)) ∈ F):Sp Tryz.prog 277 #[.agg #[vI p.x,vI p.y],vP qw 0,vP qv 0] [] F (λ u H'=>u=vI (sB v w p) /\ H'=[]):=by
 refine Sp.run Tryz.func277 rfl (mc hqw (mc hqv mn)) (A:=[]) (Ts:=[]) rfl λ w0=>?_
 refine ae 34 [.ro 0,.ro 1,.own 0,.ro 1,.ro 0,.ro 1,.own 0,.ro 1] λ n1=>?_
 exact RN.ret [] [] [] ⟨rfl,rfl⟩
theorem Ej (v w:V2) (F:HL):Sp Tryz.prog 247 #[.agg #[vI v.x,vI v.y],.agg #[vI w.x,vI w.y]] [] F (λ u H'=>∃ n:Nat,H'=ap [((n+1),.lit [vI w.x,vI w.y] 29 (0,0)),((n+0),.lit [vI v.x,vI v.y] 29 (0,0))] [] /\ u=.func (.func 277) #[] #[vP (n+1) 0,vP (n+0) 0]):=by
 refine Sp.run Tryz.func247 rfl mn (A:=[]) (Ts:=[]) rfl λ w0=>?_
 refine ae 13 [] λ n1=>RN.ret [] [0,1] [] (v:=.func (.func 277) #[] #[vP (n1+1) 0,vP (n1+0) 0]) (H':=(ap [((n1+1),.lit [vI w.x,vI w.y] 29 (0,0)),((n1+0),.lit [vI v.x,vI v.y] 29 (0,0))] [])) ?_
 exact ⟨_,rfl,rfl⟩
theorem Ek (v w:V2) (F:HL):Sp Tryz.prog 247 #[.agg #[vI v.x,vI v.y],.agg #[vI w.x,vI w.y]] (ap [] []) F (λ u H'=>∃ n:Nat,H'=ap [((n+1),.lit [vI w.x,vI w.y] 29 (0,0)),((n+0),.lit [vI v.x,vI v.y] 29 (0,0))] [] /\ u=.func (.func 277) #[] #[vP (n+1) 0,vP (n+0) 0]):=Ej v w F
theorem BZ (n:Nat) (F:HL):Sp Tryz.prog 246 #[vI (n:Int)] [] F (λ u H'=>∃ q:Nat,H'=ap [(q,.lit [vI (n:Int)] 3 (0,0))] [] /\ u=.func (.func 276) #[] #[vP q 0]):=by
 refine Sp.run Tryz.func246 rfl mn (A:=[]) (Ts:=[]) rfl λ w0=>?_
 refine ae 12 [] λ n1=>RN.ret [] [0] [] (v:=.func (.func 276) #[] #[vP (n1+0) 0]) (H':=(ap [((n1+0),.lit [vI (n:Int)] 3 (0,0))] [])) ?_
 exact ⟨_,rfl,rfl⟩
theorem B0 (n:Nat) (F:HL):Sp Tryz.prog 246 #[vI (n:Int)] (ap [] []) F (λ u H'=>∃ q:Nat,H'=ap [(q,.lit [vI (n:Int)] 3 (0,0))] [] /\ u=.func (.func 276) #[] #[vP q 0]):=BZ n F
theorem yb (n q lp:Nat) (X F:HL) (J:Nat -> HL -> Prop) (Jx:HL -> Prop) (T0:HL) (hn:n <= 1000000) (hq:(q,.lit [vI (n:Int)] 3 (0,0)) ∈ F) (hY:∀ i x H Y,(t7 n)[i]?=some x -> J i H -> YL Tryz.prog lp (JD x) H (Y++(X++F)) (λ b H'=>(b=true /\ J (i+1) H') \/ (b=false /\ Jx H'))) (hJ0:J 0 T0):Sp Tryz.prog 276 #[.func (.yield lp) #[] #[],vP q 0] (ap [] [T0]) (X++F) (λ _ H'=>J (t7 n).length H' \/ Jx H'):=by
 refine Sp.run Tryz.func276 rfl (mc (List.mem_append_right X hq) mn) (A:=[]) (Ts:=[T0]) rfl λ w0=>?_
 refine ae 7 [.ro 0] λ _=>RN.loop (σ:=Nat × HL) (λ ⟨k,T_⟩=>⟨[(0,.func (.yield lp) #[] #[]),(1,vP q 0),(4,vI (n:Int)),(5,vI (k:Int))],[],[T_],k <= n /\ J k T_,n - k⟩) (0,T0) [] [0] (⟨Nat.zero_le _,hJ0⟩) ?_
 rintro ⟨k,T_⟩ ⟨hk_,hJ_⟩ mt2
 refine ae 6 [] λ _=>RN.em ((k:Int) < (n:Int)) 6 (λ h3=>?_) λ h3=>?_
 ·refine al 19 [.nw,.ro 0,.nw] [0 <= (k:Int)+1 /\ (0:Int) < (n:Int) /\ (k:Int)+1 <= 9223372036854775807,br ((k:Int)+1)] λ _=>RN.yield 0 (hY k _ _ _ (vR (by omega)) hJ_) ?_
  rintro b_ T4 (⟨rfl,hJ5⟩ | ⟨rfl,hJ5⟩)
  ·refine al 11 [.gen,.nw] [br ((k:Int)+1)] λ _=>?_
   refine mt2 (k+1,T4) [] [0] ?_
   try dsimp only
   exact ⟨⟨by omega,hJ5⟩,by omega⟩
  ·refine ae 4 [] λ _=>RN.ret [] [] [0] (v:=.tuple #[]) (H':=(ap [] [T4])) ?_
   rw [cU]
   exact .inr hJ5
 ·refine ae 5 [] λ _=>RN.ret [] [] [0] (v:=.tuple #[]) (H':=(ap [] [T_])) ?_
  rw [cU]
  obtain rfl:k=n:=by omega
  exact .inl (by rw [qo];exact hJ_)
theorem Em (n q:Nat) (F:HL) (hn:n <= 1000000) (hq:(q,.lit [vI (n:Int)] 3 (0,0)) ∈ F):It Tryz.prog 276 #[vP q 0] F JD (t7 n):=by
 intro X l J Jx H0 hY h0
 have key:=yb n q l X F J Jx H0 hn hq hY h0
 rw [cU] at key
 exact key
theorem Eo (full:List V2) (b o N n cap:Nat) (fz:Nat × Nat) (F:HL) (hb:(b,.rows 2 N (jm full) 29 fz) ∈ F) (ho:o+n <= N) (hnn:n <= 1000000):Sp Tryz.prog 192 #[vS b (o * 2) n cap] [] F (λ u H'=>u=.bool (decide (oN (λ k_=>full.getD (o+k_) ⟨0,0⟩) n)) /\ H'=[]):=by
 refine Sp.runM Tryz.func192 rfl (mc hb mn) (A:=[]) (Ts:=[]) rfl λ w0=>?_
 refine ae 9 [] λ n1=>ae 2 [.own 1] λ _=>RN.ct (Hp:=[]) (Tp:=[]) [] [] (B0 n _) ?_
 rintro _ q2 rfl
 refine ae 3 [] λ _=>RN.range (σ:=Nat) (τ:=Nat) (encs:=λ (x_:Int × Int)=>#[vI x_.1,vI x_.2]) (xs:=(t7 n)) (enters_of Tryz.func276 (by kernel_rfl) rfl) (λ m_=>([((n1+1),.lit [.bool false] 4 (0,0)),((n1+0),.lit [vS b (o * 2) n cap] 99 (0,0))],[])) (λ i_ m_=>m_=i_ /\ ∀ t,t < m_ -> vV (λ k_=>full.getD (o+k_) ⟨0,0⟩) n t) (λ c_ m_=>c_=Code.ret /\ ¬ oN (λ k_=>full.getD (o+k_) ⟨0,0⟩) n) (λ m_=>⟨[(1,vP (n1+0) 0),(2,vP (n1+1) 0),(3,vI (m_:Int)),(4,vI (((m_:Int)+1) % (n:Int)))],[((n1+1),.lit [.bool false] 4 (0,0)),((n1+0),.lit [vS b (o * 2) n cap] 99 (0,0))],[],True,0⟩) (λ i_ x_ m_=>m_=i_ /\ ∀ t,t < m_ -> vV (λ k_=>full.getD (o+k_) ⟨0,0⟩) n t) 0 (⟨rfl,λ t ht=>absurd ht (Nat.not_lt_zero _)⟩) [1,2] [] (Em n q2 _ hnn (aB 0)) ?_ ?_ ?_ ?_
 ·rintro l_ i_ x_ m_ Y3 w4 hx5 hI_ mt6
  obtain ⟨rfl,hok⟩:=hI_
  obtain ⟨hm_,rfl⟩:=vT hx5
  refine ae 8 [] λ _=>?_
  refine mt6 m_ [0,1] [] ?_
  try dsimp only
  exact ⟨rfl,hok⟩
 ·rintro l_ i_ x_ m_ Y7 w8 hx9 hI_
  obtain ⟨rfl,hok⟩:=hI_
  obtain ⟨hm_,rfl⟩:=vT hx9
  have hm1:=Int.emod_nonneg ((m_:Int)+1) (show (n:Int) ≠ 0 by omega)
  have hm2:=Int.emod_lt_of_pos ((m_:Int)+1) (show (0:Int) < n by omega)
  refine ae 2 [] λ _=>RN.draw [] []<|aJ [] [0,1,4,5,2,6,3,7] [.own 1,.own 1,.ix m_,.ix (((((m_:Int)+1) % (n:Int))).toNat),.rorow 1 (o+m_) 0,.rorow 1 (o+m_) 1,.rorow 1 (o+(((((m_:Int)+1) % (n:Int))).toNat)) 0,.rorow 1 (o+(((((m_:Int)+1) % (n:Int))).toNat)) 1] [((o * 2+(((((m_:Int)+1) % (n:Int))).toNat) * 2)+1)=(o+(((((m_:Int)+1) % (n:Int))).toNat)) * 2+1 /\ (o+(((((m_:Int)+1) % (n:Int))).toNat)) < N,(o * 2+(((((m_:Int)+1) % (n:Int))).toNat) * 2)=(o+(((((m_:Int)+1) % (n:Int))).toNat)) * 2+0 /\ (o+(((((m_:Int)+1) % (n:Int))).toNat)) < N,((o * 2+m_ * 2)+1)=(o+m_) * 2+1 /\ (o+m_) < N,(o * 2+m_ * 2)=(o+m_) * 2+0 /\ (o+m_) < N,(((m_:Int)+1) % (n:Int))=((((((m_:Int)+1) % (n:Int))).toNat:Nat):Int) /\ ((((m_:Int)+1) % (n:Int))).toNat < n,(m_:Int)=((m_:Nat):Int) /\ m_ < n]<|RD.one 8 (RDO.ct [] (Hp:=[]) (Tp:=[]) [] [] (Ek (full.getD (o+m_) ⟨0,0⟩) (full.getD (o+(((((m_:Int)+1) % (n:Int))).toNat)) ⟨0,0⟩) _) ?_)
  rintro _ m10 rfl
  refine ag [] [9] []<|RD.fin<|ae 6 [] λ _=>aj (sC (full.getD (o+m_) ⟨0,0⟩) (full.getD (o+(((((m_:Int)+1) % (n:Int))).toNat)) ⟨0,0⟩) (⟨0,0⟩:V2) (m10+1) (m10+0) _ (aB 0) (aB 1))<|ae 3 [] λ _=>RN.em (sB (full.getD (o+m_) ⟨0,0⟩) (full.getD (o+(((((m_:Int)+1) % (n:Int))).toNat)) ⟨0,0⟩) (⟨0,0⟩:V2) <= 0) 25 (λ h11=>?_) λ h11=>?_
  ·refine ae 6 [.own 2] λ _=>RN.rr m_ [2,3] [] ?_
   try dsimp only
   exact ⟨rfl,λ hc_=>(hc_ m_ hm_).1 h11⟩
  ·refine ae 11 [.own 3] λ _=>RN.loop (σ:=Nat) (λ k=>⟨[(2,vP (n1+1) 0),(3,vI (m_:Int)),(4,vI (((m_:Int)+1) % (n:Int))),(5,.func (.func 277) #[] #[vP (m10+1) 0,vP (m10+0) 0]),(26,vS b (o * 2) n cap),(27,vI (n:Int)),(28,vI (k:Int))],[((m10+1),.lit [vI ((full.getD (o+(((((m_:Int)+1) % (n:Int))).toNat)) ⟨0,0⟩).x),vI ((full.getD (o+(((((m_:Int)+1) % (n:Int))).toNat)) ⟨0,0⟩).y)] 29 (0,0)),((m10+0),.lit [vI ((full.getD (o+m_) ⟨0,0⟩).x),vI ((full.getD (o+m_) ⟨0,0⟩).y)] 29 (0,0)),((n1+1),.lit [.bool false] 4 (0,0)),((n1+0),.lit [vS b (o * 2) n cap] 99 (0,0))],[],k <= n /\ ∀ t,t < k -> ¬ (t:Int)=(m_:Int) -> ¬ (t:Int)=vU n m_ -> ¬ sB (full.getD (o+m_) ⟨0,0⟩) (full.getD (o+(vU n m_).toNat) ⟨0,0⟩) (full.getD (o+t) ⟨0,0⟩) <= 0,n - k⟩) 0 [0,1,2,3] [] (⟨Nat.zero_le _,λ t ht=>absurd ht (Nat.not_lt_zero _)⟩) ?_
   rintro k ⟨hkl,hin⟩ mt13
   refine ae 6 [] λ _=>RN.em ((k:Int) < (n:Int)) 29 (λ h14=>?_) λ h14=>?_
   ·refine al 21 [.ix k,.rorow 1 (o+k) 0,.rorow 1 (o+k) 1,.own 0,.own 0] [((o * 2+k * 2)+1)=(o+k) * 2+1 /\ (o+k) < N,(o * 2+k * 2)=(o+k) * 2+0 /\ (o+k) < N,(k:Int)=((k:Nat):Int) /\ k < n] λ n15=>RN.en ((k:Int)=(m_:Int)) 36 (λ h16=>?_) λ h16=>?_
    ·refine al 20 [.nw] [br ((k:Int)+1)] λ _=>?_
     refine mt13 (k+1) [1,2,3,4] [] ?_
     try dsimp only
     refine ⟨⟨by omega,λ t ht e1_ e2_=>?_⟩,by omega⟩
     rcases Nat.lt_or_ge t k with h_ | h_
     ·exact hin t h_ e1_ e2_
     ·obtain rfl:t=k:=by omega
      exact absurd h16 e1_
    ·refine ae 5 [] λ _=>RN.en ((k:Int)=(((m_:Int)+1) % (n:Int))) 41 (λ h17=>?_) λ h17=>?_
     ·refine al 15 [.nw] [br ((k:Int)+1)] λ _=>?_
      refine mt13 (k+1) [1,2,3,4] [] ?_
      try dsimp only
      refine ⟨⟨by omega,λ t ht e1_ e2_=>?_⟩,by omega⟩
      rcases Nat.lt_or_ge t k with h_ | h_
      ·exact hin t h_ e1_ e2_
      ·obtain rfl:t=k:=by omega
       exact absurd h17 e2_
     ·refine ae 2 [.own 0,.own 0] λ _=>aj (sC (full.getD (o+m_) ⟨0,0⟩) (full.getD (o+(((((m_:Int)+1) % (n:Int))).toNat)) ⟨0,0⟩) (full.getD (o+k) ⟨0,0⟩) (m10+1) (m10+0) _ (aB 1) (aB 2))<|ae 4 [] λ _=>RN.em (sB (full.getD (o+m_) ⟨0,0⟩) (full.getD (o+(((((m_:Int)+1) % (n:Int))).toNat)) ⟨0,0⟩) (full.getD (o+k) ⟨0,0⟩) <= 0) 46 (λ h18=>?_) λ h18=>?_
      ·refine ae 6 [.own 3] λ _=>RN.rr m_ [3,4] [] ?_
       try dsimp only
       refine ⟨rfl,λ hc_=>?_⟩
       exact (hc_ m_ hm_).2 k (by omega) h16 h17 h18
      ·refine al 8 [.nw] [br ((k:Int)+1)] λ _=>?_
       refine mt13 (k+1) [1,2,3,4] [] ?_
       try dsimp only
       refine ⟨⟨by omega,λ t ht e1_ e2_=>?_⟩,by omega⟩
       rcases Nat.lt_or_ge t k with h_ | h_
       ·exact hin t h_ e1_ e2_
       ·obtain rfl:t=k:=by omega
        exact h18
   ·refine ae 6 [] λ _=>RN.rn (m_+1) [2,3] [] ?_
    try dsimp only
    refine ⟨rfl,λ t ht=>?_⟩
    rcases Nat.lt_or_ge t m_ with h_ | h_
    ·exact hok t h_
    ·obtain rfl:t=m_:=by omega
     exact ⟨h11,λ s_ hs_=>hin s_ (by omega)⟩
 ·rintro d19 m_  hI_
  obtain ⟨rfl,hok⟩:=hI_
  refine ae 7 [.own 1] λ _=>RN.retM [d19] [0] [.own 0] [] [] (v:=.bool true) (H':=[]) ?_
  exact ⟨by rw [decide_eq_true (show oN (λ k_=>full.getD (o+k_) ⟨0,0⟩) n from λ t ht=>hok t (by rw [qo];exact ht))],rfl⟩
 ·rintro d20 c_ m_ ⟨rfl,hno⟩
  refine RN.retM [d20] [0] [.own 0] [] [] (v:=.bool false) (H':=[]) ?_
  exact ⟨by rw [decide_eq_false hno],rfl⟩
end Go.Proofs.YtghjbimijeinfaaGreatDoor
