import Derived.Test.YtkhifpbokgabbaaGreatDoorW35
set_option maxHeartbeats 4000000
set_option maxRecDepth 100000
set_option linter.unusedSimpArgs false
set_option linter.unusedVariables false
namespace Go.Proofs.YtkhifpbokgabbaaGreatDoor
open Go.RowKit
theorem vbody_pos {S:Setup} (hp:0 <= S.players) {k:Int} (h:0 <= k /\ k < S.nb):bodyAt S k >= 0:=by
  unfold bodyAt
  rw [if_neg (by omega),if_neg (by omega)];omega
theorem Hi.setMot {S:Setup} (hp:0 <= S.players) {A M:MemS} (h:Hi S.players A M) {t:Stp} (ht:t.S=S) {k:Int} (hb:bodyAt S k >= 0) (m:Mot):Hi S.players A (setMotM t k m M):=by
  subst ht
  unfold setMotM
  exact (((h.setB hp hb (by omega) _).setB hp hb (by omega) _).setB hp hb (by omega) _).setB hp hb (by omega) _
theorem touch_hi {S:Setup} (hS:SetV S) {t:Stp} (ht:t.S=S) (M:MemS):Hi S.players M (touchF t M):=by
  have hp:0 <= S.players:=by have:=hS.pl;omega
  unfold touchF
  rw [ht]
  split
  · next h1 =>
    split
    · next h2 =>
      split
      · have b1:=vbody_pos hp h1
        have b2:=vbody_pos hp h2
        unfold touchSet
        rw [ht]
        exact (((((Hi.refl).setMot hp ht b1 _).setMot hp ht b2 _).setB hp b1 (by omega) _).setB hp b2 (by omega) _)
      · exact .refl
    · exact .refl
  · exact .refl
theorem q4 {S:Setup} (hS:SetV S) {g:Gm} (hg:g.S=S) {ins:Nat -> Inp} {M:MemS} (h:TV S ins M) (hp:M.get 1=4):Nx S ins M ⟨contactF (g.step M) M,0,eff0,false⟩:=by
  have hpl:=hS.pl
  have hnb:=hS.nb
  have hro:=hS.ro
  have hc:0 <= M.get 4 /\ M.get 4 <= S.rounds /\ (2 <= (S.nb:Int) -> 0 <= M.get 2 /\ M.get 2 < M.get 3 /\ M.get 3 < S.nb /\ (M.get 4=S.rounds -> M.get 2=0 /\ M.get 3=1)):=by rcases h.ct with h | h | h | h | h | h | h | h <;> omega
  have hl:=h.l48 hS
  have hh:=touch_hi hS (t:=g.step M) hg M
  have fin:lfM S M > l5 S.nb 0 0 -> Nx S ins M ⟨(beginM (g.step M) 5 0 M).set 5 1024,0,eff0,false⟩:=λ hlt=>by
    refine nx_of hS h (by omega) ((Hi.refl (P:=S.players)).kp (by omega)) ((vset_len _ _ _).trans (vbeg_len _ _ _)) (p:=5) (i:=0) (j:=0) (q:=M.get 4) (x:=1024) (fu:=M.get 8) (λ k=>?_) rfl ((Hi.refl (P:=S.players)).ef (by omega)) (.inr (.inr (.inr (.inr (.inr (.inl ⟨rfl,by omega,by omega,by omega,by omega⟩)))))) (by omega) hlt
    rw [vget_lo (by rw [vbeg_len];exact hl) (by omega) (by omega),vbeg_get hl]
    by_cases k5:k=5
    · subst k5;simp
    · rw [if_neg k5]
      by_cases k1:k=1
      · subst k1;simp
      by_cases k2:k=2
      · subst k2;simp
      by_cases k3:k=3
      · subst k3;simp
      by_cases k4:k=4
      · subst k4;simp
      simp [k1,k2,k3,k4,k5]
  have e4l:lfM S M=l4 S.nb S.rounds (M.get 2) (M.get 3) (M.get 4):=by unfold lfM;rw [hp];rfl
  unfold contactF
  show Nx S ins M ⟨if (g.S.nb:Int) < 2 then _ else if M.get 4 >= g.S.rounds then _ else _,0,eff0,false⟩
  rw [hg]
  split
  · next h2=>exact fin (by rw [e4l];unfold l4;rw [if_pos h2];omega)
  split
  · next h2 h3 =>
    refine fin ?_
    have e:M.get 4=S.rounds:=by omega
    obtain ⟨c1,c2,c3,c4⟩:=hc.2.2 (by omega)
    obtain ⟨d1,d2⟩:=c4 e
    rw [e4l,e,d1,d2]
    unfold l4
    rw [if_neg (by omega),Int.sub_self,Int.zero_mul]
    show _ > _
    unfold ixP
    simp only [if_true]
    omega
  next h2 h3 =>
  obtain ⟨c1,c2,c3,-⟩:=hc.2.2 (by omega)
  show Nx S ins M ⟨(((touchF (g.step M) M).set 4 (nextI (M.get 2) (M.get 3) g.S.nb (M.get 4)).1).set 2 (nextI (M.get 2) (M.get 3) g.S.nb (M.get 4)).2.1).set 3 (nextI (M.get 2) (M.get 3) g.S.nb (M.get 4)).2.2,0,eff0,false⟩
  rw [hg]
  generalize touchF (g.step M) M=N at *
  have hlN:48 <= N.cs.length:=by rw [hh.len];exact hl
  have e1:=hh.get 1 (by omega);have e5:=hh.get 5 (by omega);have e8:=hh.get 8 (by omega)
  have hq:(0 <= (nextI (M.get 2) (M.get 3) S.nb (M.get 4)).1 /\ (nextI (M.get 2) (M.get 3) S.nb (M.get 4)).1 <= S.rounds) /\ (0 <= (nextI (M.get 2) (M.get 3) S.nb (M.get 4)).2.1 /\ (nextI (M.get 2) (M.get 3) S.nb (M.get 4)).2.1 < (nextI (M.get 2) (M.get 3) S.nb (M.get 4)).2.2 /\ (nextI (M.get 2) (M.get 3) S.nb (M.get 4)).2.2 < S.nb /\ ((nextI (M.get 2) (M.get 3) S.nb (M.get 4)).1=S.rounds -> (nextI (M.get 2) (M.get 3) S.nb (M.get 4)).2.1=0 /\ (nextI (M.get 2) (M.get 3) S.nb (M.get 4)).2.2=1)) /\
      l4 S.nb S.rounds (nextI (M.get 2) (M.get 3) S.nb (M.get 4)).2.1 (nextI (M.get 2) (M.get 3) S.nb (M.get 4)).2.2 (nextI (M.get 2) (M.get 3) S.nb (M.get 4)).1 < l4 S.nb S.rounds (M.get 2) (M.get 3) (M.get 4):=by
    have hn2:(2:Int) <= S.nb /\ (S.nb:Int) <= 5:=by omega
    have hq4:M.get 4 < S.rounds:=by omega
    have hq0:=hc.1
    unfold nextI
    rw [w64_id (by omega),w64_id (by omega),w64_id (by omega),w64_id (by omega)]
    clear e1 e5 e8 e4l fin hc h
    generalize M.get 2=i at *
    generalize M.get 3=j at *
    generalize M.get 4=q at *
    generalize S.rounds=R at *
    generalize (S.nb:Int)=n at *
    split
    · simp only
      refine ⟨⟨by omega,by omega⟩,⟨by omega,by omega,by omega,λ e=>by omega⟩,?_⟩
      unfold l4;rw [if_neg (by omega),if_neg (by omega)];omega
    · split
      · refine ⟨⟨by simp only;omega,by simp only;omega⟩,⟨by simp only;omega,by simp only;omega,by simp only;omega,λ e=>by simp only at e;omega⟩,?_⟩
        simp only
        unfold l4 ixP npP
        obtain h | h | h | h:n=2 \/ n=3 \/ n=4 \/ n=5:=by omega
        all_goals subst h
        all_goals (have:i=0 \/ i=1 \/ i=2:=by omega)
        all_goals (rcases this with rfl | rfl | rfl)
        all_goals first | omega | (simp;omega)
      · refine ⟨⟨by simp only;omega,by simp only;omega⟩,⟨by simp only;omega,by simp only;omega,by simp only;omega,λ e=>⟨rfl,rfl⟩⟩,?_⟩
        simp only
        unfold l4 ixP npP
        obtain h | h | h | h:n=2 \/ n=3 \/ n=4 \/ n=5:=by omega
        all_goals subst h
        all_goals (have:i=0 \/ i=1 \/ i=2 \/ i=3:=by omega)
        all_goals (rcases this with rfl | rfl | rfl | rfl)
        all_goals first | omega | (simp;omega)
  generalize nextI (M.get 2) (M.get 3) S.nb (M.get 4)=z at *
  refine nx_of hS h (by omega) (hh.kp (by omega)) (by simp only [vset_len]) (p:=4) (i:=z.2.1) (j:=z.2.2) (q:=z.1) (x:=N.get 5) (λ k=>?_) e8 (hh.ef (by omega)) (.inr (.inr (.inr (.inr (.inl ⟨rfl,hq.1.1,hq.1.2,λ _=>hq.2.1⟩))))) (by omega) (by rw [e4l];exact hq.2.2)
  rw [vget_lo (by simp only [vset_len];exact hlN) (by omega) (by omega),vget_lo (by simp only [vset_len];exact hlN) (by omega) (by omega),vget_lo hlN (by omega) (by omega)]
  by_cases k1:k=1
  · subst k1;simp;omega
  by_cases k2:k=2
  · subst k2;simp
  by_cases k3:k=3
  · subst k3;simp
  by_cases k4:k=4
  · subst k4;simp
  by_cases k5:k=5
  · subst k5;simp
  simp [k1,k2,k3,k4,k5]
theorem place_hi {S:Setup} (hp:0 <= S.players) {A M:MemS} (h:Hi S.players A M) {t:Stp} {k c d:Int} (hb:bodyAt S k >= 0) (hc:0 <= c) (hd:0 <= d) (pos lo hi:Int):Hi S.players A (placeM t (bodyAt S k+c) (bodyAt S k+d) pos lo hi M):=by
  unfold placeM
  split
  · exact h.setB hp hb hc _
  · exact (h.setB hp hb hc _).setB hp hb hd _
theorem travel_hi {S:Setup} (hp:0 <= S.players) {t:Stp} (ht:t.S=S) (M:MemS) (hb:bodyAt S t.i >= 0):Hi S.players M (travelM t M):=by
  subst ht
  unfold travelM
  exact place_hi hp (place_hi hp .refl hb (by omega) (by omega) _ _ _) hb (by omega) (by omega) _ _ _
theorem test_get (t:Stp) {M:MemS} (hl:48 <= M.cs.length) (k:Int):(testF t M).get k=(if k=5 then (testF t M).get 5 else M.get k) /\ (testF t M).cs.length=M.cs.length:=by
  have id5:M.get k=if k=5 then M.get 5 else M.get k:=by
    by_cases e:k=5
    · rw [if_pos e,e]
    · rw [if_neg e]
  unfold testF
  split
  · exact ⟨id5,rfl⟩
  · split
    · split
      · refine ⟨?_,vset_len _ _ _⟩
        rw [vget_lo hl (by omega) (by omega),vget_lo hl (by omega) (by omega)]
        split <;> simp
      · exact ⟨id5,rfl⟩
    · exact ⟨id5,rfl⟩
theorem q5 {S:Setup} (hS:SetV S) {g:Gm} (hg:g.S=S) {ins:Nat -> Inp} {M:MemS} (h:TV S ins M) (hp:M.get 1=5):Nx S ins M ⟨moveF (g.step M) M,0,eff0,false⟩:=by
  have hpl:=hS.pl
  have hnb:=hS.nb
  have hro:=hS.ro
  have hc:(0 <= M.get 2 /\ M.get 2 < S.nb) /\ 0 <= M.get 3 /\ M.get 3 <= S.nb:=by rcases h.ct with h | h | h | h | h | h | h | h <;> omega
  have hl:=h.l48 hS
  have e5l:lfM S M=l5 S.nb (M.get 2) (M.get 3):=by unfold lfM;rw [hp];rfl
  unfold moveF
  show Nx S ins M ⟨if 0 <= M.get 3 /\ M.get 3 < g.S.nb then (testF (g.step M) M).set 3 (w64 (M.get 3+1)) else moveA (g.step M) (if movP g.S (M.get 2) then travelM (g.step M) M else M),0,eff0,false⟩
  rw [hg]
  split
  · next hj =>
    rw [w64_id (by omega)]
    have ht:=test_get (g.step M) hl
    refine nx_of hS h (by omega) ((Hi.refl (P:=S.players)).kp (by omega)) ((vset_len _ _ _).trans (ht 0).2) (p:=5) (i:=M.get 2) (j:=M.get 3+1) (q:=M.get 4) (x:=(testF (g.step M) M).get 5) (fu:=M.get 8) (λ k=>?_) rfl ((Hi.refl (P:=S.players)).ef (by omega)) (.inr (.inr (.inr (.inr (.inr (.inl ⟨rfl,by omega,by omega,by omega,by omega⟩)))))) (by omega) ?_
    · rw [vget_lo (by rw [(ht 0).2];exact hl) (by omega) (by omega),(ht k).1]
      by_cases k1:k=1
      · subst k1;simp;omega
      by_cases k2:k=2
      · subst k2;simp
      by_cases k3:k=3
      · subst k3;simp
      by_cases k4:k=4
      · subst k4;simp
      by_cases k5:k=5
      · subst k5;simp
      simp [k1,k2,k3,k4,k5]
    · rw [e5l]
      show l5 S.nb (M.get 2) (M.get 3+1) < _
      unfold l5;omega
  · next hj =>
    have ej:M.get 3=S.nb:=by omega
    have hh:Hi S.players M (if movP S (M.get 2) then travelM (g.step M) M else M):=by
      split
      · next hm=>exact travel_hi (by omega) hg M (vbody_pos (by omega) hc.1)
      · exact .refl
    generalize (if movP S (M.get 2) then travelM (g.step M) M else M)=N at *
    have hlN:48 <= N.cs.length:=by rw [hh.len];exact hl
    have e1:=hh.get 1 (by omega);have e4:=hh.get 4 (by omega);have e8:=hh.get 8 (by omega)
    unfold moveA
    show Nx S ins M ⟨if w64 (M.get 2+1) < g.S.nb then ((N.set 2 (w64 (M.get 2+1))).set 3 0).set 5 1024 else (beginM (g.step M) 6 0 N).set 5 0,0,eff0,false⟩
    rw [w64_id (by omega),hg]
    split
    · refine nx_of hS h (by omega) (hh.kp (by omega)) (by simp only [vset_len]) (p:=5) (i:=M.get 2+1) (j:=0) (q:=N.get 4) (x:=1024) (λ k=>?_) e8 (hh.ef (by omega)) (.inr (.inr (.inr (.inr (.inr (.inl ⟨rfl,by omega,by omega,by omega,by omega⟩)))))) (by omega) ?_
      · rw [vget_lo (by simp only [vset_len];exact hlN) (by omega) (by omega),vget_lo (by simp only [vset_len];exact hlN) (by omega) (by omega),vget_lo hlN (by omega) (by omega)]
        by_cases k1:k=1
        · subst k1;simp;omega
        by_cases k2:k=2
        · subst k2;simp
        by_cases k3:k=3
        · subst k3;simp
        by_cases k4:k=4
        · subst k4;simp
        by_cases k5:k=5
        · subst k5;simp
        simp [k1,k2,k3,k4,k5]
      · rw [e5l,ej]
        show l5 S.nb (M.get 2+1) 0 < _
        unfold l5
        generalize M.get 2=i at *
        obtain h | h | h | h | h:(S.nb:Int)=1 \/ (S.nb:Int)=2 \/ (S.nb:Int)=3 \/ (S.nb:Int)=4 \/ (S.nb:Int)=5:=by omega
        all_goals rw [h];omega
    · refine nx_of hS h (by omega) (hh.kp (by omega)) ((vset_len _ _ _).trans (vbeg_len _ _ _)) (p:=6) (i:=0) (j:=0) (q:=N.get 4) (x:=0) (λ k=>?_) e8 (hh.ef (by omega)) (.inr (.inr (.inr (.inr (.inr (.inr (.inl ⟨rfl,by omega,by omega,.inl rfl⟩))))))) (by omega) ?_
      · rw [vget_lo (by rw [vbeg_len];exact hlN) (by omega) (by omega),vbeg_get hlN]
        by_cases k1:k=1
        · subst k1;simp
        by_cases k2:k=2
        · subst k2;simp
        by_cases k3:k=3
        · subst k3;simp
        by_cases k4:k=4
        · subst k4;simp
        by_cases k5:k=5
        · subst k5;simp
        simp [k1,k2,k3,k4,k5]
      · rw [e5l,ej]
        show l6 S.nb 0 0 _ < _
        unfold l5 l6
        generalize M.get 2=i at *
        obtain h | h | h | h | h:(S.nb:Int)=1 \/ (S.nb:Int)=2 \/ (S.nb:Int)=3 \/ (S.nb:Int)=4 \/ (S.nb:Int)=5:=by omega
        all_goals rw [h];simp;omega
theorem start_ok {P:Int} {M:MemS} {e fu a b:Int} (hl:48 <= M.cs.length) (he:¬ e < 0):Kp P M (startV e fu a b M) /\ (startV e fu a b M).get 8=fu /\ (startV e fu a b M).get 11=M.get 11:=by
  unfold startV
  rw [if_neg he]
  refine ⟨(((((Kp.refl).set (by omega) _).set (by omega) _).set (by omega) _).set (by omega) _).set (by omega) _,?_,?_⟩
  · rw [vget_ne (by decide),vget_ne (by decide),vget_eq (by simp only [vset_len];omega)]
  · rw [vget_ne (by decide),vget_ne (by decide),vget_ne (by decide),vget_ne (by decide),vget_ne (by decide)]
theorem turn_nx {S:Setup} (hS:SetV S) {g:Gm} (hg:g.S=S) {ins:Nat -> Inp} {M:MemS} (h:TV S ins M) {p:Int} (hp:M.get 1=p) (hp1:1 <= p) (e a o:Int) (c:Bool) (hi:0 <= M.get 2 /\ M.get 2 <= 5) (hj:M.get 3=0 \/ (M.get 3=1 /\ 0 <= M.get 8 /\ M.get 8 <= 60))
    (hc0:∀ fu,CtV S.players S.nb S.rounds p (M.get 2+1) 0 (M.get 4) fu) (hc1:∀ fu,0 <= fu -> fu <= 60 -> CtV S.players S.nb S.rounds p (M.get 2) 1 (M.get 4) fu)
    (l0:∀ f f',lfV S.players S.nb S.rounds p (M.get 2+1) 0 (M.get 4) f < lfV S.players S.nb S.rounds p (M.get 2) 0 (M.get 4) f') (l1:∀ f fu,fu <= 60 -> lfV S.players S.nb S.rounds p (M.get 2) 1 (M.get 4) fu < lfV S.players S.nb S.rounds p (M.get 2) 0 (M.get 4) f)
    (l2:∀ f f',0 <= f' -> lfV S.players S.nb S.rounds p (M.get 2+1) 0 (M.get 4) f < lfV S.players S.nb S.rounds p (M.get 2) 1 (M.get 4) f') (l3:∀ f,lfV S.players S.nb S.rounds p (M.get 2) 1 (M.get 4) (f - 1) < lfV S.players S.nb S.rounds p (M.get 2) 1 (M.get 4) f) :
    Nx S ins M (turnV (runV e (g.step M) a o M) (runE e (g.step M) a o M) (g.step M) c M).z:=by
  have hl:=h.l48 hS
  have hpl:=hS.pl
  have hec:0 <= M.get 11 /\ M.get 11 <= 40:=by
    rcases h.ec with e | e
    · have:=e.1;omega
    · exact e
  have skip:M.get 3=0 -> Nx S ins M ⟨M.set 2 (w64 (M.get 2+1)),0,eff0,false⟩:=λ hj0=>by
    rw [w64_id (by omega)]
    refine nx_of hS h (by omega) ((Hi.refl (P:=S.players)).kp (by omega)) (vset_len _ _ _) (p:=M.get 1) (i:=M.get 2+1) (j:=M.get 3) (q:=M.get 4) (x:=M.get 5) (fu:=M.get 8) (λ k=>if2 (f:=M.get) (vget_lo hl (by omega) (by omega) k).symm) rfl ((Hi.refl (P:=S.players)).ef (by omega)) ?_ (by omega) ?_
    · rw [hp,hj0];exact hc0 _
    · unfold lfM;rw [hp,hj0];exact l0 _ _
  unfold turnV runV runE
  show Nx S ins M (VR.z (if M.get 3=0 then _ else _))
  by_cases hj0:M.get 3=0
  · rw [if_pos hj0]
    cases c with
    | false=>exact skip hj0
    | true =>
      rw [if_pos rfl]
      by_cases he:e < 0
      · show Nx S ins M (VR.z (if (if M.get 3=0 then decide (e < 0) else _)=true then _ else _))
        rw [if_pos hj0,if_pos (by simpa using he)]
        show Nx S ins M ⟨(if M.get 3=0 then (if e < 0 then (⟨startV e _ a o M,0,_,_⟩:VR) else _) else _).M.set 2 _,0,(if M.get 3=0 then (if e < 0 then (⟨startV e _ a o M,0,_,_⟩:VR) else _) else _).e,(if M.get 3=0 then (if e < 0 then (⟨startV e _ a o M,0,_,_⟩:VR) else _) else _).em⟩
        rw [if_pos hj0,if_pos he]
        show Nx S ins M ⟨(startV e _ a o M).set 2 _,0,eff0,false⟩
        rw [show startV e g.S.fuel a o M=M by unfold startV;rw [if_pos he]]
        exact skip hj0
      · show Nx S ins M (VR.z (if (if M.get 3=0 then decide (e < 0) else _)=true then _ else _))
        rw [if_pos hj0,if_neg (by simpa using he)]
        show Nx S ins M ⟨(if M.get 3=0 then (if e < 0 then _ else (⟨(startV e g.S.fuel a o M).set 3 1,0,eff0,false⟩:VR)) else _).M,0,(if M.get 3=0 then (if e < 0 then _ else (⟨(startV e g.S.fuel a o M).set 3 1,0,eff0,false⟩:VR)) else _).e,(if M.get 3=0 then (if e < 0 then _ else (⟨(startV e g.S.fuel a o M).set 3 1,0,eff0,false⟩:VR)) else _).em⟩
        rw [if_pos hj0,if_neg he,hg]
        obtain ⟨s1,s2,s3⟩:=start_ok (P:=S.players) (M:=M) (fu:=S.fuel) (a:=a) (b:=o) hl he
        generalize startV e S.fuel a o M=N at *
        have hlN:48 <= N.cs.length:=by rw [s1.len];exact hl
        refine nx_of hS h (by omega) s1 (vset_len _ _ _) (p:=p) (i:=M.get 2) (j:=1) (q:=M.get 4) (x:=M.get 5) (fu:=S.fuel) (λ k=>?_) s2 ⟨λ h=>by simp at h,λ _=>s3⟩ ?_ (by omega) ?_
        · rw [vget_lo hlN (by omega) (by omega)]
          have n1:=s1.get 1 (by omega);have n2:=s1.get 2 (by omega);have n4:=s1.get 4 (by omega);have n5:=s1.get 5 (by omega)
          by_cases k1:k=1
          · subst k1;simp;omega
          by_cases k2:k=2
          · subst k2;simp;omega
          by_cases k3:k=3
          · subst k3;simp
          by_cases k4:k=4
          · subst k4;simp;omega
          by_cases k5:k=5
          · subst k5;simp;omega
          simp [k1,k2,k3,k4,k5]
        · exact hc1 S.fuel hS.fu.1 hS.fu.2
        · unfold lfM;rw [hp,hj0];exact l1 _ _ hS.fu.2
  · rw [if_neg hj0]
    obtain ⟨hj1,hf⟩:M.get 3=1 /\ (0 <= M.get 8 /\ M.get 8 <= 60):=by omega
    obtain ⟨s1,s2,s3⟩:=stepV_ok hS (M:=M) (code:=g.code) (n:=g.cn) hl hec hf
    show Nx S ins M (VR.z (if (if M.get 3=0 then _ else endV g.code g.cn M)=true then _ else _))
    rw [if_neg hj0]
    show Nx S ins M (VR.z (if endV g.code g.cn M=true then ⟨((if M.get 3=0 then _ else (⟨(stepV g.S g.code g.cn M).M,0,(stepV g.S g.code g.cn M).e,(stepV g.S g.code g.cn M).em⟩:VR)).M.set 3 0).set 2 _,0,(if M.get 3=0 then _ else (⟨(stepV g.S g.code g.cn M).M,0,(stepV g.S g.code g.cn M).e,(stepV g.S g.code g.cn M).em⟩:VR)).e,(if M.get 3=0 then _ else (⟨(stepV g.S g.code g.cn M).M,0,(stepV g.S g.code g.cn M).e,(stepV g.S g.code g.cn M).em⟩:VR)).em⟩ else ⟨(if M.get 3=0 then _ else (⟨(stepV g.S g.code g.cn M).M,0,(stepV g.S g.code g.cn M).e,(stepV g.S g.code g.cn M).em⟩:VR)).M,0,(if M.get 3=0 then _ else (⟨(stepV g.S g.code g.cn M).M,0,(stepV g.S g.code g.cn M).e,(stepV g.S g.code g.cn M).em⟩:VR)).e,(if M.get 3=0 then _ else (⟨(stepV g.S g.code g.cn M).M,0,(stepV g.S g.code g.cn M).e,(stepV g.S g.code g.cn M).em⟩:VR)).em⟩))
    rw [if_neg hj0,hg]
    generalize stepV S g.code g.cn M=r at *
    have hlN:48 <= r.M.cs.length:=by rw [s1.len];exact hl
    have n1:=s1.get 1 (by omega);have n2:=s1.get 2 (by omega);have n3:=s1.get 3 (by omega);have n4:=s1.get 4 (by omega);have n5:=s1.get 5 (by omega)
    by_cases he:endV g.code g.cn M=true
    · rw [if_pos he]
      show Nx S ins M ⟨(r.M.set 3 0).set 2 (w64 (M.get 2+1)),0,r.e,r.em⟩
      rw [w64_id (by omega)]
      refine nx_of hS h (by omega) s1 (by simp only [vset_len]) (p:=p) (i:=M.get 2+1) (j:=0) (q:=M.get 4) (x:=M.get 5) (fu:=r.M.get 8) (λ k=>?_) rfl ⟨s2.yes,s2.no⟩ (hc0 _) (by omega) ?_
      · rw [vget_lo (by simp only [vset_len];exact hlN) (by omega) (by omega),vget_lo hlN (by omega) (by omega)]
        by_cases k1:k=1
        · subst k1;simp;omega
        by_cases k2:k=2
        · subst k2;simp
        by_cases k3:k=3
        · subst k3;simp
        by_cases k4:k=4
        · subst k4;simp;omega
        by_cases k5:k=5
        · subst k5;simp;omega
        simp [k1,k2,k3,k4,k5]
      · unfold lfM;rw [hp,hj1];exact l2 _ _ hf.1
    · rw [if_neg he]
      show Nx S ins M ⟨r.M,0,r.e,r.em⟩
      rcases s3 with ⟨s4,s5,s6⟩ | ⟨s4,s5,s6⟩
      · refine nx_of hS h (by omega) s1 rfl (p:=p) (i:=M.get 2) (j:=1) (q:=M.get 4) (x:=M.get 5) (fu:=M.get 8 - 1) (λ k=>?_) s5 ⟨s2.yes,s2.no⟩ (hc1 _ (by omega) (by omega)) (by omega) ?_
        · show r.M.get k=_
          by_cases k1:k=1
          · subst k1;simp;omega
          by_cases k2:k=2
          · subst k2;simp;omega
          by_cases k3:k=3
          · subst k3;simp;omega
          by_cases k4:k=4
          · subst k4;simp;omega
          by_cases k5:k=5
          · subst k5;simp;omega
          simp [k1,k2,k3,k4,k5]
        · unfold lfM;rw [hp,hj1];exact l3 _
      · exact absurd s5 he
end Go.Proofs.YtkhifpbokgabbaaGreatDoor
