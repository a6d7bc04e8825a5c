import Derived.Test.YtkhifpbokgabbaaGreatDoorW36
set_option maxHeartbeats 4000000
set_option maxRecDepth 100000
set_option linter.unusedSimpArgs false
set_option linter.unusedVariables false
namespace Go.Proofs.YtkhifpbokgabbaaGreatDoor
open Go.RowKit
theorem beg_nx {S:Setup} (hS:SetV S) {g:Gm} {ins:Nat -> Inp} {M:MemS} (h:TV S ins M) (h1:1 <= M.get 1) {p:Int} (hc:CtV S.players S.nb S.rounds p 0 0 (M.get 4) (M.get 8)) (hp:M.get 1 <= p) (hl:lfV S.players S.nb S.rounds p 0 0 (M.get 4) (M.get 8) < lfM S M) (hup:p <= M.get 1+1:=by omega) :
    Nx S ins M ⟨beginM (g.step M) p 0 M,0,eff0,false⟩:=by
  have hl48:=h.l48 hS
  have hpl:=hS.pl
  refine nx_of hS h h1 ((Hi.refl (P:=S.players)).kp (by omega)) (vbeg_len (g.step M) _ _) (p:=p) (i:=0) (j:=0) (q:=M.get 4) (x:=M.get 5) (fu:=M.get 8) (λ k=>?_) rfl ((Hi.refl (P:=S.players)).ef (by omega)) hc hp hl
  exact if5 (f:=M.get) (vbeg_get hl48 (g.step M) _ _ k).symm rfl rfl
theorem q1 {S:Setup} (hS:SetV S) {g:Gm} (hg:g.S=S) {ins:Nat -> Inp} {M:MemS} (h:TV S ins M) (hp:M.get 1=1):Nx S ins M (actV (g.step M) M):=by
  have hpl:=hS.pl
  have hnb:=hS.nb
  have hro:=hS.ro
  have hc:0 <= M.get 2 /\ M.get 2 <= S.players /\ (M.get 3=0 \/ (M.get 3=1 /\ M.get 2 < S.players /\ 0 <= M.get 8 /\ M.get 8 <= 60)):=by rcases h.ct with h | h | h | h | h | h | h | h <;> omega
  unfold actV
  show Nx S ins M (if playerAt g.S (M.get 2) < 0 then ⟨beginM (g.step M) 2 0 M,0,eff0,false⟩ else _)
  rw [hg]
  rcases vplayerAt (S:=S) (M.get 2) with ⟨e,e2⟩ | ⟨e1,e2,e3⟩
  · rw [e,if_pos (by decide)]
    have ei:M.get 2=S.players:=by omega
    refine beg_nx hS h (by omega) (.inr (.inr (.inl ⟨rfl,.inl rfl⟩))) (by omega) ?_
    unfold lfM;rw [hp]
    show l2 _ _ 0 _ < l1 _ _ _ (M.get 2) (M.get 3) (M.get 8)
    have:M.get 3=0:=by omega
    rw [this,ei]
    unfold l1 l2;simp;omega
  · rw [if_neg (by omega)]
    refine turn_nx hS hg h hp (by omega) g.e0 (M.get 2) _ _ (by omega) (by omega) (λ fu=>.inr (.inl ⟨rfl,by omega,by omega,.inl rfl⟩)) (λ fu f0 f1=>.inr (.inl ⟨rfl,by omega,by omega,.inr ⟨rfl,by omega,f0,f1⟩⟩)) (λ f f'=>?_) (λ f fu hfu=>?_) (λ f f' hf=>?_) (λ f=>?_)
    all_goals (show l1 _ _ _ _ _ _ < l1 _ _ _ _ _ _;unfold l1;simp;omega)
theorem q6 {S:Setup} (hS:SetV S) {g:Gm} (hg:g.S=S) {ins:Nat -> Inp} {M:MemS} (h:TV S ins M) (hp:M.get 1=6):Nx S ins M (hitV (g.step M) M):=by
  have hpl:=hS.pl
  have hnb:=hS.nb
  have hro:=hS.ro
  have hc:0 <= M.get 2 /\ M.get 2 <= S.nb /\ (M.get 3=0 \/ (M.get 3=1 /\ M.get 2 < S.nb /\ 0 <= M.get 8 /\ M.get 8 <= 60)):=by rcases h.ct with h | h | h | h | h | h | h | h <;> omega
  unfold hitV
  show Nx S ins M (if bodyAt g.S (M.get 2) < 0 then ⟨beginM (g.step M) 7 0 M,0,eff0,false⟩ else _)
  rw [hg]
  by_cases hb:bodyAt S (M.get 2) < 0
  · rw [if_pos hb]
    have ei:M.get 2=S.nb:=by
      unfold bodyAt at hb
      rw [if_neg (by omega)] at hb
      split at hb <;> omega
    refine beg_nx hS h (by omega) (.inr (.inr (.inr (.inr (.inr (.inr (.inr ⟨rfl,by omega,by omega⟩))))))) (by omega) ?_
    unfold lfM;rw [hp]
    show (S.nb:Int) - 0 < l6 _ (M.get 2) (M.get 3) (M.get 8)
    have:M.get 3=0:=by omega
    rw [this,ei]
    unfold l6;simp;omega
  · rw [if_neg hb]
    have hi:M.get 2 < S.nb:=by
      rcases vbodyAt (S:=S) (by omega) (M.get 2) with e | ⟨_,e,_⟩ <;> omega
    refine turn_nx hS hg h hp (by omega) g.e2 (M.get 2) _ _ (by omega) (by omega) (λ fu=>.inr (.inr (.inr (.inr (.inr (.inr (.inl ⟨rfl,by omega,by omega,.inl rfl⟩))))))) (λ fu f0 f1=>.inr (.inr (.inr (.inr (.inr (.inr (.inl ⟨rfl,by omega,by omega,.inr ⟨rfl,by omega,f0,f1⟩⟩))))))) (λ f f'=>?_) (λ f fu hfu=>?_) (λ f f' hf=>?_) (λ f=>?_)
    all_goals (show l6 _ _ _ _ < l6 _ _ _ _;unfold l6;simp;omega)
theorem q2 {S:Setup} (hS:SetV S) {g:Gm} (hg:g.S=S) {ins:Nat -> Inp} {M:MemS} (h:TV S ins M) (hp:M.get 1=2):Nx S ins M (tickV (g.step M) M):=by
  have hpl:=hS.pl
  have hnb:=hS.nb
  have hro:=hS.ro
  have hl:=h.l48 hS
  have hec:0 <= M.get 11 /\ M.get 11 <= 40:=by
    rcases h.ec with e | e
    · have:=e.1;omega
    · exact e
  have hj:M.get 3=0 \/ (M.get 3=1 /\ 0 <= M.get 8 /\ M.get 8 <= 60):=by rcases h.ct with h | h | h | h | h | h | h | h <;> omega
  have done:∀ (N:MemS) (e:Eff) (em:Bool),Kp S.players M N -> Ef M ⟨N,0,e,em⟩ -> Nx S ins M ⟨beginM (g.step M) 3 0 N,0,e,em⟩:=λ N e em hN hE=>by
    have hlN:48 <= N.cs.length:=by rw [hN.len];exact hl
    refine nx_of hS h (by omega) hN (vbeg_len (g.step M) _ _) (p:=3) (i:=0) (j:=0) (q:=N.get 4) (x:=N.get 5) (fu:=N.get 8) (λ k=>if5 (f:=N.get) (vbeg_get hlN (g.step M) _ _ k).symm rfl rfl) rfl ⟨hE.yes,hE.no⟩ (.inr (.inr (.inr (.inl ⟨rfl,by omega,by omega⟩)))) (by omega) ?_
    unfold lfM;rw [hp]
    show l3 _ _ 0 < l2 _ _ (M.get 3) (M.get 8)
    unfold l2;split <;> omega
  unfold tickV run1 end1 runV runE
  show Nx S ins M (if (if M.get 3=0 then decide (g.e1 < 0) else endV g.code g.cn M)=true then ⟨beginM (g.step M) 3 0 (if M.get 3=0 then (if g.e1 < 0 then (⟨startV g.e1 g.S.fuel 0 0 M,0,eff0,false⟩:VR) else ⟨(startV g.e1 g.S.fuel 0 0 M).set 3 1,0,eff0,false⟩) else ⟨(stepV g.S g.code g.cn M).M,0,(stepV g.S g.code g.cn M).e,(stepV g.S g.code g.cn M).em⟩).M,0,(if M.get 3=0 then (if g.e1 < 0 then (⟨startV g.e1 g.S.fuel 0 0 M,0,eff0,false⟩:VR) else ⟨(startV g.e1 g.S.fuel 0 0 M).set 3 1,0,eff0,false⟩) else ⟨(stepV g.S g.code g.cn M).M,0,(stepV g.S g.code g.cn M).e,(stepV g.S g.code g.cn M).em⟩).e,(if M.get 3=0 then (if g.e1 < 0 then (⟨startV g.e1 g.S.fuel 0 0 M,0,eff0,false⟩:VR) else ⟨(startV g.e1 g.S.fuel 0 0 M).set 3 1,0,eff0,false⟩) else ⟨(stepV g.S g.code g.cn M).M,0,(stepV g.S g.code g.cn M).e,(stepV g.S g.code g.cn M).em⟩).em⟩
    else ⟨(if M.get 3=0 then (if g.e1 < 0 then (⟨startV g.e1 g.S.fuel 0 0 M,0,eff0,false⟩:VR) else ⟨(startV g.e1 g.S.fuel 0 0 M).set 3 1,0,eff0,false⟩) else ⟨(stepV g.S g.code g.cn M).M,0,(stepV g.S g.code g.cn M).e,(stepV g.S g.code g.cn M).em⟩).M,0,(if M.get 3=0 then (if g.e1 < 0 then (⟨startV g.e1 g.S.fuel 0 0 M,0,eff0,false⟩:VR) else ⟨(startV g.e1 g.S.fuel 0 0 M).set 3 1,0,eff0,false⟩) else ⟨(stepV g.S g.code g.cn M).M,0,(stepV g.S g.code g.cn M).e,(stepV g.S g.code g.cn M).em⟩).e,(if M.get 3=0 then (if g.e1 < 0 then (⟨startV g.e1 g.S.fuel 0 0 M,0,eff0,false⟩:VR) else ⟨(startV g.e1 g.S.fuel 0 0 M).set 3 1,0,eff0,false⟩) else ⟨(stepV g.S g.code g.cn M).M,0,(stepV g.S g.code g.cn M).e,(stepV g.S g.code g.cn M).em⟩).em⟩)
  by_cases hj0:M.get 3=0
  · rw [if_pos hj0,if_pos hj0]
    by_cases he:g.e1 < 0
    · rw [if_pos (by simpa using he),if_pos he]
      show Nx S ins M ⟨beginM (g.step M) 3 0 (startV g.e1 g.S.fuel 0 0 M),0,eff0,false⟩
      rw [show startV g.e1 g.S.fuel 0 0 M=M by unfold startV;rw [if_pos he]]
      exact done M eff0 false .refl ⟨λ h=>by simp at h,λ _=>rfl⟩
    · rw [if_neg (by simpa using he),if_neg he]
      show Nx S ins M ⟨(startV g.e1 g.S.fuel 0 0 M).set 3 1,0,eff0,false⟩
      rw [hg]
      obtain ⟨s1,s2,s3⟩:=start_ok (P:=S.players) (M:=M) (fu:=S.fuel) (a:=0) (b:=0) hl he
      generalize startV g.e1 S.fuel 0 0 M=N at *
      have hlN:48 <= N.cs.length:=by rw [s1.len];exact hl
      have n1:=s1.get 1 (by omega);have n2:=s1.get 2 (by omega);have n4:=s1.get 4 (by omega);have n5:=s1.get 5 (by omega)
      refine nx_of hS h (by omega) s1 (vset_len _ _ _) (p:=2) (i:=M.get 2) (j:=1) (q:=M.get 4) (x:=M.get 5) (fu:=S.fuel) (λ k=>?_) s2 ⟨λ h=>by simp at h,λ _=>s3⟩ (.inr (.inr (.inl ⟨rfl,.inr ⟨rfl,by have:=hS.fu;omega,by have:=hS.fu;omega⟩⟩))) (by omega) ?_
      · show (N.set 3 1).get k=_
        rw [vget_lo hlN (by omega) (by omega)]
        by_cases k1:k=1
        · subst k1;simp;omega
        by_cases k2:k=2
        · subst k2;simp;omega
        by_cases k3:k=3
        · subst k3;simp
        by_cases k4:k=4
        · subst k4;simp;omega
        by_cases k5:k=5
        · subst k5;simp;omega
        simp [k1,k2,k3,k4,k5]
      · have hfu:=hS.fu.2
        unfold lfM;rw [hp,hj0]
        show l2 _ _ 1 S.fuel < l2 _ _ 0 _
        unfold l2;first | (simp;done) | (simp;omega)
  · rw [if_neg hj0,if_neg hj0]
    obtain ⟨hj1,hf⟩:M.get 3=1 /\ (0 <= M.get 8 /\ M.get 8 <= 60):=by omega
    obtain ⟨s1,s2,s3⟩:=stepV_ok hS (M:=M) (code:=g.code) (n:=g.cn) hl hec hf
    rw [hg]
    generalize stepV S g.code g.cn M=r at *
    have n1:=s1.get 1 (by omega);have n2:=s1.get 2 (by omega);have n3:=s1.get 3 (by omega);have n4:=s1.get 4 (by omega);have n5:=s1.get 5 (by omega)
    by_cases he:endV g.code g.cn M=true
    · rw [if_pos he]
      exact done r.M r.e r.em s1 ⟨s2.yes,s2.no⟩
    · rw [if_neg he]
      show Nx S ins M ⟨r.M,0,r.e,r.em⟩
      rcases s3 with ⟨s4,s5,s6⟩ | ⟨s4,s5,s6⟩
      · refine nx_of hS h (by omega) s1 rfl (p:=2) (i:=M.get 2) (j:=1) (q:=M.get 4) (x:=M.get 5) (fu:=M.get 8 - 1) (λ k=>?_) s5 ⟨s2.yes,s2.no⟩ (.inr (.inr (.inl ⟨rfl,.inr ⟨rfl,by omega,by omega⟩⟩))) (by omega) ?_
        · show r.M.get k=_
          by_cases k1:k=1
          · subst k1;simp;omega
          by_cases k2:k=2
          · subst k2;simp;omega
          by_cases k3:k=3
          · subst k3;simp;omega
          by_cases k4:k=4
          · subst k4;simp;omega
          by_cases k5:k=5
          · subst k5;simp;omega
          simp [k1,k2,k3,k4,k5]
        · unfold lfM;rw [hp,hj1]
          show l2 _ _ 1 _ < l2 _ _ 1 _
          unfold l2;first | (simp;done) | (simp;omega)
      · exact absurd s5 he
structure En (S:Setup) (ins:Nat -> Inp) (M N:MemS):Prop where
  len:(N.cs.length:Int)=sizeOf S
  z:∀ k:Int,1 <= k -> k <= 10 -> N.get k=0
  t0:N.get 0=M.get 0+1
  pl:∀ q:Nat,(q:Int) < S.players -> N.get (48+4 * q)=(ins q).dx /\ N.get (48+4 * q+1)=(ins q).dy /\ N.get (48+4 * q+2)=(ins q).act
  n11:N.get 11=M.get 11
theorem zeroTo_get {M:MemS} (hl:48 <= M.cs.length):∀ (n:Nat),n <= 10 -> (∀ k:Int,(zeroTo M n).get k=if 1 <= k /\ k <= n then 0 else M.get k) /\ (zeroTo M n).cs.length=M.cs.length
  | 0,_=>⟨λ k=>by rw [if_neg (by omega)];rfl,rfl⟩
  | n+1,hn=>by
    obtain ⟨h1,h2⟩:=zeroTo_get hl n (by omega)
    refine ⟨λ k=>?_,?_⟩
    · rw [zeroTo,vget_lo (by rw [h2];exact hl) (by omega) (by omega),h1]
      by_cases e:k=((n+1:Nat):Int)
      · rw [if_pos e,if_pos (by omega)]
      · rw [if_neg e]
        by_cases e2:1 <= k /\ k <= n
        · rw [if_pos e2,if_pos (by omega)]
        · rw [if_neg e2,if_neg (by omega)]
    · rw [zeroTo,vset_len];exact h2
theorem rest_hi {S:Setup} (hp:0 <= S.players) {t:Stp} (ht:t.S=S) (M:MemS):Hi S.players M (restA t M):=by
  subst ht
  unfold restA
  split
  · next hb=>exact (Hi.refl).setB hp hb (by omega) _
  · exact .refl
theorem q7 {S:Setup} (hS:SetV S) {g:Gm} (hg:g.S=S) {ins:Nat -> Inp} {M:MemS} (h:TV S ins M) (hp:M.get 1=7):(restB (g.step M)=false /\ Nx S ins M ⟨restM (g.step M) M,0,eff0,false⟩) \/ (restB (g.step M)=true /\ En S ins M (restM (g.step M) M)):=by
  have hpl:=hS.pl
  have hnb:=hS.nb
  have hc:0 <= M.get 2 /\ M.get 2 < S.nb:=by rcases h.ct with h | h | h | h | h | h | h | h <;> omega
  have hl:=h.l48 hS
  have ht0:=h.t0
  have hh:=rest_hi (S:=S) (by omega) (t:=g.step M) hg M
  unfold restB restM restC
  generalize restA (g.step M) M=N at *
  have hlN:48 <= N.cs.length:=by rw [hh.len];exact hl
  have e0:=hh.get 0 (by omega);have e1:=hh.get 1 (by omega);have e3:=hh.get 3 (by omega);have e4:=hh.get 4 (by omega);have e8:=hh.get 8 (by omega)
  show ((if w64 (M.get 2+1) < g.S.nb then false else true)=false /\ Nx S ins M ⟨if w64 (M.get 2+1) < g.S.nb then N.set 2 (w64 (M.get 2+1)) else zeroTo (N.set 0 (w64 (N.get 0+1))) 10,0,eff0,false⟩) \/ ((if w64 (M.get 2+1) < g.S.nb then false else true)=true /\ En S ins M (if w64 (M.get 2+1) < g.S.nb then N.set 2 (w64 (M.get 2+1)) else zeroTo (N.set 0 (w64 (N.get 0+1))) 10))
  rw [w64_id (by omega),w64_id (by omega),hg]
  by_cases hi:M.get 2+1 < S.nb
  · rw [if_pos hi,if_pos hi]
    refine .inl ⟨rfl,nx_of hS h (by omega) (hh.kp (by omega)) (vset_len _ _ _) (λ k=>if2 (f:=N.get) (vget_lo hlN (by omega) (by omega) k).symm) e8 (hh.ef (by omega)) ?_ (by omega) ?_⟩
    · rw [e1,e3,e4,hp];exact .inr (.inr (.inr (.inr (.inr (.inr (.inr ⟨rfl,by omega,by omega⟩))))))
    · unfold lfM;rw [e1,e3,e4,hp]
      show (S.nb:Int) - (M.get 2+1) < (S.nb:Int) - M.get 2
      omega
  · rw [if_neg hi,if_neg hi]
    obtain ⟨z1,z2⟩:=zeroTo_get (M:=N.set 0 (N.get 0+1)) (by rw [vset_len];exact hlN) 10 (Nat.le_refl _)
    have g0:=vget_lo (M:=N) (i:=0) (v:=N.get 0+1) hlN (by omega) (by omega)
    refine .inr ⟨rfl,⟨by rw [z2,vset_len,hh.len];exact h.len,λ k k1 k2=>by rw [z1,if_pos (by omega)],by rw [z1,if_neg (by omega),g0,if_pos rfl,e0],λ q hq=>?_,by rw [z1,if_neg (by omega),g0,if_neg (by omega)];exact hh.get 11 (by omega)⟩⟩
    have:=h.pl q (by rw [hp,if_neg (by omega)];exact hq)
    rw [z1,if_neg (by omega),g0,if_neg (by omega),hh.get _ (by omega),z1,if_neg (by omega),g0,if_neg (by omega),hh.get _ (by omega),z1,if_neg (by omega),g0,if_neg (by omega),hh.get _ (by omega)]
    exact this
theorem q0 {S:Setup} (hS:SetV S) {g:Gm} (hg:g.S=S) {ins:Nat -> Inp} (hi:∀ q:Nat,(q:Int) < S.players -> g.ins.getD (g.io+q) dI=ins q) (hni:S.players <= g.ni) {M:MemS} (h:TV S ins M) (hp:M.get 1=0):Nx S ins M ⟨inputM (g.step M) M,0,eff0,false⟩:=by
  have hpl:=hS.pl
  have hnb:=hS.nb
  have hc:0 <= M.get 2 /\ M.get 2 < S.players:=by rcases h.ct with h | h | h | h | h | h | h | h <;> omega
  have hl:=h.l48 hS
  obtain ⟨i,hii⟩:=Int.eq_ofNat_of_zero_le hc.1
  have hpa:playerAt S (M.get 2)=48+4 * (i:Int):=by
    rcases vplayerAt (S:=S) (M.get 2) with ⟨e,e2⟩ | ⟨e1,e2,e3⟩
    · omega
    · rw [e3,hii]
  have hlen:=h.len
  have hA:(inputA (g.step M) M).cs.length=M.cs.length /\ ∀ k,(k <= 10 \/ 48 <= k \/ k=11) -> (inputA (g.step M) M).get k=if k=11 then (if M.get 2=0 then 0 else M.get 11) else M.get k:=by
    unfold inputA
    show (if M.get 2=0 then (M.set 13 g.version).set 11 0 else M).cs.length=_ /\ _
    by_cases h0:M.get 2=0
    · rw [if_pos h0]
      refine ⟨by simp only [vset_len],λ k hk=>?_⟩
      rw [if_pos h0,vget_lo (by rw [vset_len];exact hl) (by omega) (by omega),vget_lo hl (by omega) (by omega)]
      by_cases e:k=11
      · rw [if_pos e,if_pos e]
      · rw [if_neg e,if_neg e,if_neg (by omega)]
    · rw [if_neg h0]
      refine ⟨rfl,λ k hk=>?_⟩
      rw [if_neg h0]
      by_cases e:k=11
      · rw [if_pos e,e]
      · rw [if_neg e]
  have hB:(inputB (g.step M) (inputA (g.step M) M)).cs.length=M.cs.length /\ (∀ k,(k <= 11 \/ (48 <= k /\ (k < 48+4 * (i:Int) \/ 51+4 * (i:Int) <= k))) -> (inputB (g.step M) (inputA (g.step M) M)).get k=if k=11 then (if M.get 2=0 then 0 else M.get 11) else M.get k) /\
      (inputB (g.step M) (inputA (g.step M) M)).get (48+4 * (i:Int))=(ins i).dx /\ (inputB (g.step M) (inputA (g.step M) M)).get (48+4 * (i:Int)+1)=(ins i).dy /\ (inputB (g.step M) (inputA (g.step M) M)).get (48+4 * (i:Int)+2)=(ins i).act:=by
    generalize inputA (g.step M) M=A at *
    obtain ⟨a1,a2⟩:=hA
    have e:inputB (g.step M) A=((A.set (48+4 * (i:Int)+0) (ins i).dx).set (48+4 * (i:Int)+1) (ins i).dy).set (48+4 * (i:Int)+2) (ins i).act:=by
      unfold inputB Stp.inp
      show (if playerAt g.S (M.get 2) >= 0 then if M.get 2 < (g.ni:Int) then ((A.set (playerAt g.S (M.get 2)+0) (g.ins.getD (g.io+(M.get 2).toNat) dI).dx).set (playerAt g.S (M.get 2)+1) (g.ins.getD (g.io+(M.get 2).toNat) dI).dy).set (playerAt g.S (M.get 2)+2) (g.ins.getD (g.io+(M.get 2).toNat) dI).act else A else A)=_
      rw [hg,hpa,if_pos (by omega),if_pos (by omega),hii,Int.toNat_natCast,hi i (by omega)]
    rw [e]
    have hal:48+4 * (i:Int)+2 < A.cs.length:=by rw [a1];unfold sizeOf at hlen;omega
    refine ⟨by simp only [vset_len];exact a1,λ k hk=>?_,?_,?_,?_⟩
    · rw [vget_ne (by omega),vget_ne (by omega),vget_ne (by omega)]
      exact a2 k (by omega)
    · rw [vget_ne (by omega),vget_ne (by omega),Int.add_zero,vget_eq (by omega)]
    · rw [vget_ne (by omega),vget_eq (by rw [vset_len];omega)]
    · rw [vget_eq (by simp only [vset_len];omega)]
  unfold inputM
  generalize inputB (g.step M) (inputA (g.step M) M)=N at *
  obtain ⟨b1,b2,b3,b4,b5⟩:=hB
  have hlN:48 <= N.cs.length:=by rw [b1];exact hl
  have n0:=b2 0 (by omega);have n1:=b2 1 (by omega);have n2:=b2 2 (by omega);have n3:=b2 3 (by omega);have n4:=b2 4 (by omega);have n8:=b2 8 (by omega);have n11:=b2 11 (by omega)
  simp only [show ¬ ((0:Int)=11) by decide,show ¬ ((1:Int)=11) by decide,show ¬ ((2:Int)=11) by decide,show ¬ ((3:Int)=11) by decide,show ¬ ((4:Int)=11) by decide,show ¬ ((8:Int)=11) by decide,if_false,if_true] at n0 n1 n2 n3 n4 n8 n11
  have hpN:∀ q:Nat,(q:Int) < (i:Int)+1 -> N.get (48+4 * q)=(ins q).dx /\ N.get (48+4 * q+1)=(ins q).dy /\ N.get (48+4 * q+2)=(ins q).act:=λ q hq=>by
    by_cases e:q=i
    · subst e;exact ⟨b3,b4,b5⟩
    · have h2:=h.pl q (by rw [if_pos hp,hii];omega)
      rw [b2 _ (by omega),b2 _ (by omega),b2 _ (by omega),if_neg (by omega),if_neg (by omega),if_neg (by omega)]
      exact h2
  have hsv:stV M ↔ M.get 2=0:=⟨λ e=>e.2,λ e=>⟨hp,e⟩⟩
  have h11:N.get 11=if stV M then 0 else M.get 11:=by
    rw [n11]
    by_cases e:M.get 2=0
    · rw [if_pos e,if_pos (hsv.2 e)]
    · rw [if_neg e,if_neg (λ x=>e (hsv.1 x))]
  have hec:0 <= N.get 11 /\ N.get 11 <= 40:=by
    rw [h11]
    split
    · omega
    · rcases h.ec with e | e
      · contradiction
      · exact e
  unfold inputC
  show Nx S ins M ⟨if w64 (M.get 2+1) < g.S.players then N.set 2 (w64 (M.get 2+1)) else beginM (g.step M) 1 0 N,0,eff0,false⟩
  rw [w64_id (by omega),hg]
  split
  · have gg:=vget_lo (M:=N) (i:=2) (v:=M.get 2+1) hlN (by omega) (by omega)
    have g1:(N.set 2 (M.get 2+1)).get 1=0:=by rw [gg,if_neg (by decide),n1,hp]
    have g2:(N.set 2 (M.get 2+1)).get 2=M.get 2+1:=by rw [gg,if_pos rfl]
    refine ⟨⟨by rw [vset_len,b1];exact hlen,by rw [gg,if_neg (by decide),n0];exact h.t0,by rw [g1,g2];exact .inl ⟨rfl,by omega,by omega⟩,λ q hq=>?_,.inr (by rw [gg,if_neg (by decide)];exact hec)⟩,?_,by rw [g1,hp];exact Int.le_refl _,by rw [gg,if_neg (by decide),n0],λ e=>by have:=e.2;rw [g2] at this;omega,λ e=>by simp at e,λ _=>by rw [gg,if_neg (by decide)];exact h11,by rw [g1,hp];decide⟩
    · rw [g1,if_pos rfl,g2,hii] at hq
      rw [gg,if_neg (by omega),gg,if_neg (by omega),gg,if_neg (by omega)]
      exact hpN q hq
    · unfold lfM;rw [g1,g2,hp]
      show l0 _ _ _ (M.get 2+1) < l0 _ _ _ (M.get 2)
      unfold l0;omega
  · have gg:=vbeg_get hlN (g.step M) 1 0
    have g1:(beginM (g.step M) 1 0 N).get 1=1:=by rw [gg];simp
    have g2:(beginM (g.step M) 1 0 N).get 2=0:=by rw [gg];simp
    have g3:(beginM (g.step M) 1 0 N).get 3=0:=by rw [gg];simp
    have gk:∀ k,3 < k -> (beginM (g.step M) 1 0 N).get k=N.get k:=λ k hk=>by rw [gg,if_neg (by omega),if_neg (by omega),if_neg (by omega)]
    refine ⟨⟨by rw [vbeg_len,b1];exact hlen,by rw [gg,if_neg (by decide),if_neg (by decide),if_neg (by decide),n0];exact h.t0,by rw [g1,g2,g3];exact .inr (.inl ⟨rfl,by omega,by omega,.inl rfl⟩),λ q hq=>?_,.inr (by rw [gk 11 (by omega)];exact hec)⟩,?_,by rw [g1,hp];decide,by rw [gg,if_neg (by decide),if_neg (by decide),if_neg (by decide),n0],λ e=>by have:=e.1;rw [g1] at this;omega,λ e=>by simp at e,λ _=>by rw [gk 11 (by omega)];exact h11,by rw [g1,hp];decide⟩
    · rw [g1,if_neg (by decide)] at hq
      rw [gk _ (by omega),gk _ (by omega),gk _ (by omega)]
      exact hpN q (by omega)
    · unfold lfM;rw [g1,g2,g3,hp]
      show l1 _ _ _ 0 0 _ < l0 _ _ _ (M.get 2)
      unfold l0 l1;simp;omega
theorem tr_ok {S:Setup} (hS:SetV S) {g:Gm} (hg:g.S=S) {ins:Nat -> Inp} (hi:∀ q:Nat,(q:Int) < S.players -> g.ins.getD (g.io+q) dI=ins q) (hni:S.players <= g.ni) {M:MemS} (h:TV S ins M) :
    phOk M /\ ((trE g M=false /\ Nx S ins M (trV g M)) \/ (trE g M=true /\ En S ins M (trM g M) /\ (trV g M).em=false /\ ¬ stV M /\ (0 <= M.get 11 /\ M.get 11 <= 40))):=by
  have hph:phOk M:=by
    rcases h.ct with h | h | h | h | h | h | h | h <;> (refine ⟨?_,?_⟩ <;> omega)
  refine ⟨hph,?_⟩
  by_cases h0:M.get 1=0
  · left;rw [show trV g M=⟨inputM (g.step M) M,0,eff0,false⟩ by simp [trV,h0]];exact ⟨by simp [trE,h0],q0 hS hg hi hni h h0⟩
  by_cases h1:M.get 1=1
  · left;rw [show trV g M=actV (g.step M) M by simp [trV,h1]];exact ⟨by simp [trE,h1],q1 hS hg h h1⟩
  by_cases h2:M.get 1=2
  · left;rw [show trV g M=tickV (g.step M) M by simp [trV,h2]];exact ⟨by simp [trE,h2],q2 hS hg h h2⟩
  by_cases h3:M.get 1=3
  · left;rw [show trV g M=⟨forceM (g.step M) M,0,eff0,false⟩ by simp [trV,h3]];exact ⟨by simp [trE,h3],q3 hS hg h h3⟩
  by_cases h4:M.get 1=4
  · left;rw [show trV g M=⟨contactF (g.step M) M,0,eff0,false⟩ by simp [trV,h4]];exact ⟨by simp [trE,h4],q4 hS hg h h4⟩
  by_cases h5:M.get 1=5
  · left;rw [show trV g M=⟨moveF (g.step M) M,0,eff0,false⟩ by simp [trV,h5]];exact ⟨by simp [trE,h5],q5 hS hg h h5⟩
  by_cases h6:M.get 1=6
  · left;rw [show trV g M=hitV (g.step M) M by simp [trV,h6]];exact ⟨by simp [trE,h6],q6 hS hg h h6⟩
  have h7:M.get 1=7:=by have:=hph.1;have:=hph.2;omega
  have e:trV g M=⟨restM (g.step M) M,0,eff0,false⟩:=by simp [trV,h7]
  rw [trM,e]
  have e2:trE g M=restB (g.step M):=by simp [trE,h7]
  rw [e2]
  rcases q7 hS hg h h7 with ⟨a,b⟩ | ⟨a,b⟩
  · exact .inl ⟨a,b⟩
  · refine .inr ⟨a,b,rfl,λ e=>by have:=e.1;omega,?_⟩
    rcases h.ec with e | e
    · have:=e.1;omega
    · exact e
end Go.Proofs.YtkhifpbokgabbaaGreatDoor
