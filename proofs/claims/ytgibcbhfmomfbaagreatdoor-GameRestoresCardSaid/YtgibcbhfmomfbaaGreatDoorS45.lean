import Derived.Test.YtgibcbhfmomfbaaGreatDoorS44
set_option maxHeartbeats 4000000
set_option maxRecDepth 100000
set_option linter.unusedSimpArgs false
set_option linter.unusedVariables false
namespace Go.Proofs.YtgibcbhfmomfbaaGreatDoor
open Go.RowKit
def l6 (n i j fu:Int):Int:=(if j=0 then (n - i) * 62 else (n - i - 1) * 62+fu+1)+1+n
def l5 (n i j:Int):Int:=n * (n+1) - (i * (n+1)+j)+l6 n 0 0 0
def ixP (n i:Int):Int:=if i=0 then 0 else if i=1 then n - 1 else if i=2 then 2 * n - 3 else 3 * n - 6
def npP (n:Int):Int:=if n=2 then 1 else if n=3 then 3 else if n=4 then 6 else if n=5 then 10 else 0
def l4 (n R i j r:Int):Int:=(if n < 2 then 0 else (R - r) * npP n - (ixP n i+(j - i - 1)))+1+l5 n 0 0
def l3 (n R i:Int):Int:=n - i+l4 n R 0 1 0
def l2 (n R j fu:Int):Int:=(if j=0 then 62 else fu+1)+l3 n R 0
def l1 (P n R i j fu:Int):Int:=(if j=0 then (P - i) * 62 else (P - i - 1) * 62+fu+1)+1+l2 n R 0 0
def l0 (P n R i:Int):Int:=P - i+l1 P n R 0 0 0
def lfV (P n R p i j r fu:Int):Int:=if p=0 then l0 P n R i else if p=1 then l1 P n R i j fu else if p=2 then l2 n R j fu else if p=3 then l3 n R i else if p=4 then l4 n R i j r else if p=5 then l5 n i j else if p=6 then l6 n i j fu else n - i
def CtV (P n R p i j r fu:Int):Prop :=
  (p=0 /\ 0 <= i /\ i < P) \/ (p=1 /\ 0 <= i /\ i <= P /\ (j=0 \/ (j=1 /\ i < P /\ 0 <= fu /\ fu <= 60))) \/ (p=2 /\ (j=0 \/ (j=1 /\ 0 <= fu /\ fu <= 60))) \/ (p=3 /\ 0 <= i /\ i < n) \/
  (p=4 /\ 0 <= r /\ r <= R /\ (2 <= n -> 0 <= i /\ i < j /\ j < n /\ (r=R -> i=0 /\ j=1))) \/ (p=5 /\ 0 <= i /\ i < n /\ 0 <= j /\ j <= n) \/ (p=6 /\ 0 <= i /\ i <= n /\ (j=0 \/ (j=1 /\ i < n /\ 0 <= fu /\ fu <= 60))) \/ (p=7 /\ 0 <= i /\ i < n)
theorem l5_pos {n i j:Int} (hn:1 <= n /\ n <= 5) (hi:0 <= i /\ i < n) (hj:0 <= j /\ j <= n):0 < l5 n i j:=by
  unfold l5 l6
  obtain h | h | h | h | h:n=1 \/ n=2 \/ n=3 \/ n=4 \/ n=5:=by omega
  all_goals subst h;simp;omega
theorem lfV_pos {P n R p i j r fu:Int} (hP:1 <= P /\ P <= 3) (hn:1 <= n /\ n <= 5) (hR:1 <= R /\ R <= 3) (h:CtV P n R p i j r fu):0 < lfV P n R p i j r fu:=by
  have h5:=l5_pos hn (i:=0) (j:=0) (by omega) (by omega)
  have h4:∀ i j r,0 <= r -> r <= R -> (2 <= n -> 0 <= i /\ i < j /\ j < n) -> -9 <= (if n < 2 then 0 else (R - r) * npP n - (ixP n i+(j - i - 1))) -> 0 < l4 n R i j r+9:=λ i j r _ _ _ h=>by unfold l4;omega
  have k4:0 < l4 n R 0 1 0:=by
    unfold l4 npP ixP
    obtain h | h | h | h | h:n=1 \/ n=2 \/ n=3 \/ n=4 \/ n=5:=by omega
    all_goals subst h;simp;omega
  have k3:0 < l3 n R 0:=by unfold l3;omega
  have k2:∀ j fu,(j=0 \/ (j=1 /\ 0 <= fu /\ fu <= 60)) -> 0 < l2 n R j fu:=λ j fu h=>by unfold l2;split <;> omega
  have k20:=k2 0 0 (.inl rfl)
  have k1:∀ i j fu,0 <= i -> i <= P -> (j=0 \/ (j=1 /\ i < P /\ 0 <= fu /\ fu <= 60)) -> 0 < l1 P n R i j fu:=λ i j fu _ _ h=>by unfold l1;split <;> omega
  have k10:=k1 0 0 0 (by omega) (by omega) (.inl rfl)
  rcases h with h | h | h | h | h | h | h | h <;> obtain ⟨rfl,h⟩:=h
  · show 0 < l0 P n R i
    unfold l0;omega
  · exact k1 i j fu h.1 h.2.1 h.2.2
  · exact k2 j fu h
  · show 0 < l3 n R i
    unfold l3;omega
  · show 0 < l4 n R i j r
    unfold l4
    split
    · omega
    · obtain ⟨h1,h2,h3⟩:=h
      obtain ⟨h3,h4',h5',-⟩:=h3 (by omega)
      have:100 < l5 n 0 0:=by
        unfold l5 l6
        obtain h | h | h | h | h:n=1 \/ n=2 \/ n=3 \/ n=4 \/ n=5:=by omega
        all_goals first | omega | (subst h;simp)
      have h6:ixP n i <= 9:=by unfold ixP;(repeat' split) <;> omega
      have h7:0 <= (R - r) * npP n:=Int.mul_nonneg (by omega) (by unfold npP;(repeat' split) <;> omega)
      omega
  · exact l5_pos hn ⟨h.1,h.2.1⟩ h.2.2
  · show 0 < l6 n i j fu
    unfold l6;split <;> omega
  · show 0 < n - i
    omega
abbrev stV (M:MemS):Prop:=M.get 1=0 /\ M.get 2=0
structure TV (S:Setup) (ins:Nat -> Inp) (M:MemS):Prop where
  len:(M.cs.length:Int)=sizeOf S
  t0:0 <= M.get 0 /\ M.get 0 <= 1000000
  ct:CtV S.players S.nb S.rounds (M.get 1) (M.get 2) (M.get 3) (M.get 4) (M.get 8)
  pl:∀ q:Nat,(q:Int) < (if M.get 1=0 then M.get 2 else S.players) -> M.get (48+4 * q)=(ins q).dx /\ M.get (48+4 * q+1)=(ins q).dy /\ M.get (48+4 * q+2)=(ins q).act
  ec:stV M \/ (0 <= M.get 11 /\ M.get 11 <= 40)
abbrev lfM (S:Setup) (M:MemS):Int:=lfV S.players S.nb S.rounds (M.get 1) (M.get 2) (M.get 3) (M.get 4) (M.get 8)
structure Nx (S:Setup) (ins:Nat -> Inp) (M:MemS) (r:VR):Prop where
  tv:TV S ins r.M
  lt:lfM S r.M < lfM S M
  ph:M.get 1 <= r.M.get 1
  t0:r.M.get 0=M.get 0
  ns:¬ stV r.M
  yes:r.em=true -> ¬ stV M /\ r.e.t=M.get 0 /\ r.e.i=M.get 11 /\ r.M.get 11=M.get 11+1
  no:r.em=false -> r.M.get 11=if stV M then 0 else M.get 11
theorem TV.l48 {S:Setup} (hS:SetV S) {ins:Nat -> Inp} {M:MemS} (h:TV S ins M):48 <= M.cs.length:=by
  have:=h.len;have:=hS.pl;unfold sizeOf at *;omega
theorem nx_of {S:Setup} (hS:SetV S) {ins:Nat -> Inp} {M N:MemS} {r:VR} {p i j q x fu:Int} (h:TV S ins M) (hp:1 <= M.get 1) (hN:Kp S.players M N) (hlen:r.M.cs.length=N.cs.length)
    (g:∀ k,r.M.get k=if k=1 then p else if k=2 then i else if k=3 then j else if k=4 then q else if k=5 then x else N.get k) (h8:N.get 8=fu)
    (hE:Ef M ⟨N,r.v,r.e,r.em⟩) (hc:CtV S.players S.nb S.rounds p i j q fu) (hph:M.get 1 <= p) (hlt:lfV S.players S.nb S.rounds p i j q fu < lfM S M):Nx S ins M r:=by
  have ha:¬ stV M:=λ e=>by have:=e.1;omega
  have g0:r.M.get 0=M.get 0:=by rw [g];simp;exact hN.get 0 (by omega)
  have g1:r.M.get 1=p:=by rw [g];simp
  have g2:r.M.get 2=i:=by rw [g];simp
  have g3:r.M.get 3=j:=by rw [g];simp
  have g4:r.M.get 4=q:=by rw [g];simp
  have g8:r.M.get 8=fu:=by rw [g];simp;exact h8
  have g11:r.M.get 11=N.get 11:=by rw [g];simp
  have gp:∀ k,48 <= k -> k < 48+4 * S.players -> r.M.get k=M.get k:=λ k h1 h2=>by
    rw [g,if_neg (by omega),if_neg (by omega),if_neg (by omega),if_neg (by omega),if_neg (by omega)]
    exact hN.get k (by omega)
  have hec:0 <= M.get 11 /\ M.get 11 <= 40:=by
    rcases h.ec with e | e
    · exact absurd e ha
    · exact e
  refine ⟨⟨by rw [hlen,hN.len];exact h.len,by rw [g0];exact h.t0,by rw [g1,g2,g3,g4,g8];exact hc,λ k hk=>?_,.inr ?_⟩,?_,by rw [g1];exact hph,g0,λ e=>by rw [stV,g1] at e;have:=e.1;omega,λ e=>?_,λ e=>?_⟩
  · rw [g1,if_neg (by omega)] at hk
    have:=h.pl k (by rw [if_neg (by omega)];exact hk)
    rw [gp _ (by omega) (by omega),gp _ (by omega) (by omega),gp _ (by omega) (by omega)]
    exact this
  · rw [g11]
    cases he:r.em with
    | true=>obtain ⟨a,b,c,d⟩:=hE.yes he;simp only at d;omega
    | false=>have:=hE.no he;simp only at this;omega
  · unfold lfM;rw [g1,g2,g3,g4,g8];exact hlt
  · obtain ⟨a,b,c,d⟩:=hE.yes e
    exact ⟨ha,a,b,by rw [g11];exact d⟩
  · rw [if_neg ha,g11];exact hE.no e
theorem Hi.kp {P:Int} {M N:MemS} (h:Hi P M N) (hP:0 <= P):Kp P M N:=⟨h.len,λ j hj=>h.get j (by omega)⟩
theorem Hi.ef {P:Int} {M N:MemS} (h:Hi P M N) (hP:0 <= P) {v:Int} {e:Eff}:Ef M ⟨N,v,e,false⟩:=⟨λ h=>by simp at h,λ _=>h.get 11 (by omega)⟩
theorem vbeg_get {M:MemS} (h:48 <= M.cs.length) (t:Stp) (a b j:Int):(beginM t a b M).get j=if j=3 then b else if j=2 then 0 else if j=1 then a else M.get j:=by
  unfold beginM
  rw [vget_lo (by simp only [vset_len];exact h) (by omega) (by omega),vget_lo (by simp only [vset_len];exact h) (by omega) (by omega),vget_lo h (by omega) (by omega)]
theorem vbeg_len {M:MemS} (t:Stp) (a b:Int):(beginM t a b M).cs.length=M.cs.length:=by unfold beginM;simp only [vset_len]
theorem if5 {k p i j q x z:Int} {f:Int -> Int} (h:(if k=3 then j else if k=2 then i else if k=1 then p else f k)=z) (hq:q=f 4) (hx:x=f 5):z=if k=1 then p else if k=2 then i else if k=3 then j else if k=4 then q else if k=5 then x else f k:=by
  subst h hq hx
  by_cases e1:k=1
  · subst e1;simp
  by_cases e2:k=2
  · subst e2;simp
  by_cases e3:k=3
  · subst e3;simp
  by_cases e4:k=4
  · subst e4;simp
  by_cases e5:k=5
  · subst e5;simp
  simp [e1,e2,e3,e4,e5]
theorem if2 {k i z:Int} {f:Int -> Int} (h:(if k=2 then i else f k)=z):z=if k=1 then f 1 else if k=2 then i else if k=3 then f 3 else if k=4 then f 4 else if k=5 then f 5 else f k:=by
  subst h
  by_cases e1:k=1
  · subst e1;simp
  by_cases e2:k=2
  · subst e2;simp
  by_cases e3:k=3
  · subst e3;simp
  by_cases e4:k=4
  · subst e4;simp
  by_cases e5:k=5
  · subst e5;simp
  simp [e1,e2,e3,e4,e5]
theorem force_hi {S:Setup} (hS:SetV S) {t:Stp} (ht:t.S=S) (M:MemS):Hi S.players M (forceB t (forceA t M)):=by
  have hp:0 <= S.players:=by have:=hS.pl;omega
  subst ht
  have ha:Hi t.S.players M (forceA t M):=by
    unfold forceA
    split
    · exact (Hi.refl).setB hp (by omega) (by omega) _
    · exact .refl
  unfold forceB
  split
  · next hm =>
    have hb:bodyAt t.S t.i >= 0:=by
      rcases vbodyAt hp t.i with e | ⟨_,_,e⟩
      · unfold bodyAt at e
        rw [if_neg (by have:=hm.1;omega),if_neg (by have:=hm.1;omega)] at e
        have:=hm.1;omega
      · omega
    exact (ha.setB hp hb (by omega) _).setB hp hb (by omega) _
  · exact ha
theorem q3 {S:Setup} (hS:SetV S) {g:Gm} (hg:g.S=S) {ins:Nat -> Inp} {M:MemS} (h:TV S ins M) (hp:M.get 1=3):Nx S ins M ⟨forceM (g.step M) M,0,eff0,false⟩:=by
  have hpl:=hS.pl
  have hnb:=hS.nb
  have hro:=hS.ro
  have hc:0 <= M.get 2 /\ M.get 2 < S.nb:=by rcases h.ct with h | h | h | h | h | h | h | h <;> omega
  have hh:=force_hi hS (t:=g.step M) hg M
  have hl:=h.l48 hS
  unfold forceM forceC
  generalize forceB (g.step M) (forceA (g.step M) M)=N at *
  have hlN:48 <= N.cs.length:=by rw [hh.len];exact hl
  have e1:=hh.get 1 (by omega);have e2:=hh.get 2 (by omega);have e3:=hh.get 3 (by omega);have e4:=hh.get 4 (by omega);have e8:=hh.get 8 (by omega)
  show Nx S ins M ⟨if w64 (M.get 2+1) < g.S.nb then N.set 2 (w64 (M.get 2+1)) else _,0,eff0,false⟩
  rw [w64_id (by omega),hg]
  split
  · refine nx_of hS h (by omega) (hh.kp (by omega)) (vset_len _ _ _) (λ k=>if2 (f:=N.get) (vget_lo hlN (by omega) (by omega) k).symm) e8 (hh.ef (by omega)) ?_ (by omega) ?_
    · rw [e1,e3,e4,hp];exact .inr (.inr (.inr (.inl ⟨rfl,by omega,by omega⟩)))
    · unfold lfM;rw [e1,e3,e4,hp]
      show l3 S.nb S.rounds (M.get 2+1) < l3 S.nb S.rounds (M.get 2)
      unfold l3;omega
  · refine nx_of hS h (by omega) (hh.kp (by omega)) ((vset_len _ _ _).trans (vbeg_len _ _ _)) (p:=4) (i:=0) (j:=1) (q:=0) (x:=N.get 5) (λ k=>?_) e8 (hh.ef (by omega)) ?_ (by omega) ?_
    · rw [vget_lo (by rw [vbeg_len];exact hlN) (by omega) (by omega),vbeg_get hlN]
      by_cases k4:k=4
      · subst k4;simp
      · rw [if_neg k4]
        by_cases k1:k=1
        · subst k1;simp
        by_cases k2:k=2
        · subst k2;simp
        by_cases k3:k=3
        · subst k3;simp
        by_cases k5:k=5
        · subst k5;simp
        simp [k1,k2,k3,k4,k5]
    · exact .inr (.inr (.inr (.inr (.inl ⟨rfl,by omega,by omega,λ _=>by omega⟩))))
    · unfold lfM;rw [hp]
      show l4 S.nb S.rounds 0 1 0 < l3 S.nb S.rounds (M.get 2)
      unfold l3;omega
theorem vbody_pos {S:Setup} (hp:0 <= S.players) {k:Int} (h:0 <= k /\ k < S.nb):bodyAt S k >= 0:=by
  unfold bodyAt
  rw [if_neg (by omega),if_neg (by omega)];omega
theorem Hi.setMot {S:Setup} (hp:0 <= S.players) {A M:MemS} (h:Hi S.players A M) {t:Stp} (ht:t.S=S) {k:Int} (hb:bodyAt S k >= 0) (m:Mot):Hi S.players A (setMotM t k m M):=by
  subst ht
  unfold setMotM
  exact (((h.setB hp hb (by omega) _).setB hp hb (by omega) _).setB hp hb (by omega) _).setB hp hb (by omega) _
theorem touch_hi {S:Setup} (hS:SetV S) {t:Stp} (ht:t.S=S) (M:MemS):Hi S.players M (touchF t M):=by
  have hp:0 <= S.players:=by have:=hS.pl;omega
  unfold touchF
  rw [ht]
  split
  · next h1 =>
    split
    · next h2 =>
      split
      · have b1:=vbody_pos hp h1
        have b2:=vbody_pos hp h2
        unfold touchSet
        rw [ht]
        exact (((((Hi.refl).setMot hp ht b1 _).setMot hp ht b2 _).setB hp b1 (by omega) _).setB hp b2 (by omega) _)
      · exact .refl
    · exact .refl
  · exact .refl
theorem q4 {S:Setup} (hS:SetV S) {g:Gm} (hg:g.S=S) {ins:Nat -> Inp} {M:MemS} (h:TV S ins M) (hp:M.get 1=4):Nx S ins M ⟨contactF (g.step M) M,0,eff0,false⟩:=by
  have hpl:=hS.pl
  have hnb:=hS.nb
  have hro:=hS.ro
  have hc:0 <= M.get 4 /\ M.get 4 <= S.rounds /\ (2 <= (S.nb:Int) -> 0 <= M.get 2 /\ M.get 2 < M.get 3 /\ M.get 3 < S.nb /\ (M.get 4=S.rounds -> M.get 2=0 /\ M.get 3=1)):=by rcases h.ct with h | h | h | h | h | h | h | h <;> omega
  have hl:=h.l48 hS
  have hh:=touch_hi hS (t:=g.step M) hg M
  have fin:lfM S M > l5 S.nb 0 0 -> Nx S ins M ⟨(beginM (g.step M) 5 0 M).set 5 1024,0,eff0,false⟩:=λ hlt=>by
    refine nx_of hS h (by omega) ((Hi.refl (P:=S.players)).kp (by omega)) ((vset_len _ _ _).trans (vbeg_len _ _ _)) (p:=5) (i:=0) (j:=0) (q:=M.get 4) (x:=1024) (fu:=M.get 8) (λ k=>?_) rfl ((Hi.refl (P:=S.players)).ef (by omega)) (.inr (.inr (.inr (.inr (.inr (.inl ⟨rfl,by omega,by omega,by omega,by omega⟩)))))) (by omega) hlt
    rw [vget_lo (by rw [vbeg_len];exact hl) (by omega) (by omega),vbeg_get hl]
    by_cases k5:k=5
    · subst k5;simp
    · rw [if_neg k5]
      by_cases k1:k=1
      · subst k1;simp
      by_cases k2:k=2
      · subst k2;simp
      by_cases k3:k=3
      · subst k3;simp
      by_cases k4:k=4
      · subst k4;simp
      simp [k1,k2,k3,k4,k5]
  have e4l:lfM S M=l4 S.nb S.rounds (M.get 2) (M.get 3) (M.get 4):=by unfold lfM;rw [hp];rfl
  unfold contactF
  show Nx S ins M ⟨if (g.S.nb:Int) < 2 then _ else if M.get 4 >= g.S.rounds then _ else _,0,eff0,false⟩
  rw [hg]
  split
  · next h2=>exact fin (by rw [e4l];unfold l4;rw [if_pos h2];omega)
  split
  · next h2 h3 =>
    refine fin ?_
    have e:M.get 4=S.rounds:=by omega
    obtain ⟨c1,c2,c3,c4⟩:=hc.2.2 (by omega)
    obtain ⟨d1,d2⟩:=c4 e
    rw [e4l,e,d1,d2]
    unfold l4
    rw [if_neg (by omega),Int.sub_self,Int.zero_mul]
    show _ > _
    unfold ixP
    simp only [if_true]
    omega
  next h2 h3 =>
  obtain ⟨c1,c2,c3,-⟩:=hc.2.2 (by omega)
  show Nx S ins M ⟨(((touchF (g.step M) M).set 4 (nextI (M.get 2) (M.get 3) g.S.nb (M.get 4)).1).set 2 (nextI (M.get 2) (M.get 3) g.S.nb (M.get 4)).2.1).set 3 (nextI (M.get 2) (M.get 3) g.S.nb (M.get 4)).2.2,0,eff0,false⟩
  rw [hg]
  generalize touchF (g.step M) M=N at *
  have hlN:48 <= N.cs.length:=by rw [hh.len];exact hl
  have e1:=hh.get 1 (by omega);have e5:=hh.get 5 (by omega);have e8:=hh.get 8 (by omega)
  have hq:(0 <= (nextI (M.get 2) (M.get 3) S.nb (M.get 4)).1 /\ (nextI (M.get 2) (M.get 3) S.nb (M.get 4)).1 <= S.rounds) /\ (0 <= (nextI (M.get 2) (M.get 3) S.nb (M.get 4)).2.1 /\ (nextI (M.get 2) (M.get 3) S.nb (M.get 4)).2.1 < (nextI (M.get 2) (M.get 3) S.nb (M.get 4)).2.2 /\ (nextI (M.get 2) (M.get 3) S.nb (M.get 4)).2.2 < S.nb /\ ((nextI (M.get 2) (M.get 3) S.nb (M.get 4)).1=S.rounds -> (nextI (M.get 2) (M.get 3) S.nb (M.get 4)).2.1=0 /\ (nextI (M.get 2) (M.get 3) S.nb (M.get 4)).2.2=1)) /\
      l4 S.nb S.rounds (nextI (M.get 2) (M.get 3) S.nb (M.get 4)).2.1 (nextI (M.get 2) (M.get 3) S.nb (M.get 4)).2.2 (nextI (M.get 2) (M.get 3) S.nb (M.get 4)).1 < l4 S.nb S.rounds (M.get 2) (M.get 3) (M.get 4):=by
    have hn2:(2:Int) <= S.nb /\ (S.nb:Int) <= 5:=by omega
    have hq4:M.get 4 < S.rounds:=by omega
    have hq0:=hc.1
    unfold nextI
    rw [w64_id (by omega),w64_id (by omega),w64_id (by omega),w64_id (by omega)]
    clear e1 e5 e8 e4l fin hc h
    generalize M.get 2=i at *
    generalize M.get 3=j at *
    generalize M.get 4=q at *
    generalize S.rounds=R at *
    generalize (S.nb:Int)=n at *
    split
    · simp only
      refine ⟨⟨by omega,by omega⟩,⟨by omega,by omega,by omega,λ e=>by omega⟩,?_⟩
      unfold l4;rw [if_neg (by omega),if_neg (by omega)];omega
    · split
      · refine ⟨⟨by simp only;omega,by simp only;omega⟩,⟨by simp only;omega,by simp only;omega,by simp only;omega,λ e=>by simp only at e;omega⟩,?_⟩
        simp only
        unfold l4 ixP npP
        obtain h | h | h | h:n=2 \/ n=3 \/ n=4 \/ n=5:=by omega
        all_goals subst h
        all_goals (have:i=0 \/ i=1 \/ i=2:=by omega)
        all_goals (rcases this with rfl | rfl | rfl)
        all_goals first | omega | (simp;omega)
      · refine ⟨⟨by simp only;omega,by simp only;omega⟩,⟨by simp only;omega,by simp only;omega,by simp only;omega,λ e=>⟨rfl,rfl⟩⟩,?_⟩
        simp only
        unfold l4 ixP npP
        obtain h | h | h | h:n=2 \/ n=3 \/ n=4 \/ n=5:=by omega
        all_goals subst h
        all_goals (have:i=0 \/ i=1 \/ i=2 \/ i=3:=by omega)
        all_goals (rcases this with rfl | rfl | rfl | rfl)
        all_goals first | omega | (simp;omega)
  generalize nextI (M.get 2) (M.get 3) S.nb (M.get 4)=z at *
  refine nx_of hS h (by omega) (hh.kp (by omega)) (by simp only [vset_len]) (p:=4) (i:=z.2.1) (j:=z.2.2) (q:=z.1) (x:=N.get 5) (λ k=>?_) e8 (hh.ef (by omega)) (.inr (.inr (.inr (.inr (.inl ⟨rfl,hq.1.1,hq.1.2,λ _=>hq.2.1⟩))))) (by omega) (by rw [e4l];exact hq.2.2)
  rw [vget_lo (by simp only [vset_len];exact hlN) (by omega) (by omega),vget_lo (by simp only [vset_len];exact hlN) (by omega) (by omega),vget_lo hlN (by omega) (by omega)]
  by_cases k1:k=1
  · subst k1;simp;omega
  by_cases k2:k=2
  · subst k2;simp
  by_cases k3:k=3
  · subst k3;simp
  by_cases k4:k=4
  · subst k4;simp
  by_cases k5:k=5
  · subst k5;simp
  simp [k1,k2,k3,k4,k5]
theorem place_hi {S:Setup} (hp:0 <= S.players) {A M:MemS} (h:Hi S.players A M) {t:Stp} {k c d:Int} (hb:bodyAt S k >= 0) (hc:0 <= c) (hd:0 <= d) (pos lo hi:Int):Hi S.players A (placeM t (bodyAt S k+c) (bodyAt S k+d) pos lo hi M):=by
  unfold placeM
  split
  · exact h.setB hp hb hc _
  · exact (h.setB hp hb hc _).setB hp hb hd _
theorem travel_hi {S:Setup} (hp:0 <= S.players) {t:Stp} (ht:t.S=S) (M:MemS) (hb:bodyAt S t.i >= 0):Hi S.players M (travelM t M):=by
  subst ht
  unfold travelM
  exact place_hi hp (place_hi hp .refl hb (by omega) (by omega) _ _ _) hb (by omega) (by omega) _ _ _
theorem test_get (t:Stp) {M:MemS} (hl:48 <= M.cs.length) (k:Int):(testF t M).get k=(if k=5 then (testF t M).get 5 else M.get k) /\ (testF t M).cs.length=M.cs.length:=by
  have id5:M.get k=if k=5 then M.get 5 else M.get k:=by
    by_cases e:k=5
    · rw [if_pos e,e]
    · rw [if_neg e]
  unfold testF
  split
  · exact ⟨id5,rfl⟩
  · split
    · split
      · refine ⟨?_,vset_len _ _ _⟩
        rw [vget_lo hl (by omega) (by omega),vget_lo hl (by omega) (by omega)]
        split <;> simp
      · exact ⟨id5,rfl⟩
    · exact ⟨id5,rfl⟩
theorem q5 {S:Setup} (hS:SetV S) {g:Gm} (hg:g.S=S) {ins:Nat -> Inp} {M:MemS} (h:TV S ins M) (hp:M.get 1=5):Nx S ins M ⟨moveF (g.step M) M,0,eff0,false⟩:=by
  have hpl:=hS.pl
  have hnb:=hS.nb
  have hro:=hS.ro
  have hc:(0 <= M.get 2 /\ M.get 2 < S.nb) /\ 0 <= M.get 3 /\ M.get 3 <= S.nb:=by rcases h.ct with h | h | h | h | h | h | h | h <;> omega
  have hl:=h.l48 hS
  have e5l:lfM S M=l5 S.nb (M.get 2) (M.get 3):=by unfold lfM;rw [hp];rfl
  unfold moveF
  show Nx S ins M ⟨if 0 <= M.get 3 /\ M.get 3 < g.S.nb then (testF (g.step M) M).set 3 (w64 (M.get 3+1)) else moveA (g.step M) (if movP g.S (M.get 2) then travelM (g.step M) M else M),0,eff0,false⟩
  rw [hg]
  split
  · next hj =>
    rw [w64_id (by omega)]
    have ht:=test_get (g.step M) hl
    refine nx_of hS h (by omega) ((Hi.refl (P:=S.players)).kp (by omega)) ((vset_len _ _ _).trans (ht 0).2) (p:=5) (i:=M.get 2) (j:=M.get 3+1) (q:=M.get 4) (x:=(testF (g.step M) M).get 5) (fu:=M.get 8) (λ k=>?_) rfl ((Hi.refl (P:=S.players)).ef (by omega)) (.inr (.inr (.inr (.inr (.inr (.inl ⟨rfl,by omega,by omega,by omega,by omega⟩)))))) (by omega) ?_
    · rw [vget_lo (by rw [(ht 0).2];exact hl) (by omega) (by omega),(ht k).1]
      by_cases k1:k=1
      · subst k1;simp;omega
      by_cases k2:k=2
      · subst k2;simp
      by_cases k3:k=3
      · subst k3;simp
      by_cases k4:k=4
      · subst k4;simp
      by_cases k5:k=5
      · subst k5;simp
      simp [k1,k2,k3,k4,k5]
    · rw [e5l]
      show l5 S.nb (M.get 2) (M.get 3+1) < _
      unfold l5;omega
  · next hj =>
    have ej:M.get 3=S.nb:=by omega
    have hh:Hi S.players M (if movP S (M.get 2) then travelM (g.step M) M else M):=by
      split
      · next hm=>exact travel_hi (by omega) hg M (vbody_pos (by omega) hc.1)
      · exact .refl
    generalize (if movP S (M.get 2) then travelM (g.step M) M else M)=N at *
    have hlN:48 <= N.cs.length:=by rw [hh.len];exact hl
    have e1:=hh.get 1 (by omega);have e4:=hh.get 4 (by omega);have e8:=hh.get 8 (by omega)
    unfold moveA
    show Nx S ins M ⟨if w64 (M.get 2+1) < g.S.nb then ((N.set 2 (w64 (M.get 2+1))).set 3 0).set 5 1024 else (beginM (g.step M) 6 0 N).set 5 0,0,eff0,false⟩
    rw [w64_id (by omega),hg]
    split
    · refine nx_of hS h (by omega) (hh.kp (by omega)) (by simp only [vset_len]) (p:=5) (i:=M.get 2+1) (j:=0) (q:=N.get 4) (x:=1024) (λ k=>?_) e8 (hh.ef (by omega)) (.inr (.inr (.inr (.inr (.inr (.inl ⟨rfl,by omega,by omega,by omega,by omega⟩)))))) (by omega) ?_
      · rw [vget_lo (by simp only [vset_len];exact hlN) (by omega) (by omega),vget_lo (by simp only [vset_len];exact hlN) (by omega) (by omega),vget_lo hlN (by omega) (by omega)]
        by_cases k1:k=1
        · subst k1;simp;omega
        by_cases k2:k=2
        · subst k2;simp
        by_cases k3:k=3
        · subst k3;simp
        by_cases k4:k=4
        · subst k4;simp
        by_cases k5:k=5
        · subst k5;simp
        simp [k1,k2,k3,k4,k5]
      · rw [e5l,ej]
        show l5 S.nb (M.get 2+1) 0 < _
        unfold l5
        generalize M.get 2=i at *
        obtain h | h | h | h | h:(S.nb:Int)=1 \/ (S.nb:Int)=2 \/ (S.nb:Int)=3 \/ (S.nb:Int)=4 \/ (S.nb:Int)=5:=by omega
        all_goals rw [h];omega
    · refine nx_of hS h (by omega) (hh.kp (by omega)) ((vset_len _ _ _).trans (vbeg_len _ _ _)) (p:=6) (i:=0) (j:=0) (q:=N.get 4) (x:=0) (λ k=>?_) e8 (hh.ef (by omega)) (.inr (.inr (.inr (.inr (.inr (.inr (.inl ⟨rfl,by omega,by omega,.inl rfl⟩))))))) (by omega) ?_
      · rw [vget_lo (by rw [vbeg_len];exact hlN) (by omega) (by omega),vbeg_get hlN]
        by_cases k1:k=1
        · subst k1;simp
        by_cases k2:k=2
        · subst k2;simp
        by_cases k3:k=3
        · subst k3;simp
        by_cases k4:k=4
        · subst k4;simp
        by_cases k5:k=5
        · subst k5;simp
        simp [k1,k2,k3,k4,k5]
      · rw [e5l,ej]
        show l6 S.nb 0 0 _ < _
        unfold l5 l6
        generalize M.get 2=i at *
        obtain h | h | h | h | h:(S.nb:Int)=1 \/ (S.nb:Int)=2 \/ (S.nb:Int)=3 \/ (S.nb:Int)=4 \/ (S.nb:Int)=5:=by omega
        all_goals rw [h];simp;omega
theorem start_ok {P:Int} {M:MemS} {e fu a b:Int} (hl:48 <= M.cs.length) (he:¬ e < 0):Kp P M (startV e fu a b M) /\ (startV e fu a b M).get 8=fu /\ (startV e fu a b M).get 11=M.get 11:=by
  unfold startV
  rw [if_neg he]
  refine ⟨(((((Kp.refl).set (by omega) _).set (by omega) _).set (by omega) _).set (by omega) _).set (by omega) _,?_,?_⟩
  · rw [vget_ne (by decide),vget_ne (by decide),vget_eq (by simp only [vset_len];omega)]
  · rw [vget_ne (by decide),vget_ne (by decide),vget_ne (by decide),vget_ne (by decide),vget_ne (by decide)]
theorem turn_nx {S:Setup} (hS:SetV S) {g:Gm} (hg:g.S=S) {ins:Nat -> Inp} {M:MemS} (h:TV S ins M) {p:Int} (hp:M.get 1=p) (hp1:1 <= p) (e a o:Int) (c:Bool) (hi:0 <= M.get 2 /\ M.get 2 <= 5) (hj:M.get 3=0 \/ (M.get 3=1 /\ 0 <= M.get 8 /\ M.get 8 <= 60))
    (hc0:∀ fu,CtV S.players S.nb S.rounds p (M.get 2+1) 0 (M.get 4) fu) (hc1:∀ fu,0 <= fu -> fu <= 60 -> CtV S.players S.nb S.rounds p (M.get 2) 1 (M.get 4) fu)
    (l0:∀ f f',lfV S.players S.nb S.rounds p (M.get 2+1) 0 (M.get 4) f < lfV S.players S.nb S.rounds p (M.get 2) 0 (M.get 4) f') (l1:∀ f,lfV S.players S.nb S.rounds p (M.get 2) 1 (M.get 4) 60 < lfV S.players S.nb S.rounds p (M.get 2) 0 (M.get 4) f)
    (l2:∀ f f',0 <= f' -> lfV S.players S.nb S.rounds p (M.get 2+1) 0 (M.get 4) f < lfV S.players S.nb S.rounds p (M.get 2) 1 (M.get 4) f') (l3:∀ f,lfV S.players S.nb S.rounds p (M.get 2) 1 (M.get 4) (f - 1) < lfV S.players S.nb S.rounds p (M.get 2) 1 (M.get 4) f) :
    Nx S ins M (turnV (runV e (g.step M) a o M) (runE e (g.step M) a o M) (g.step M) c M).z:=by
  have hl:=h.l48 hS
  have hpl:=hS.pl
  have hec:0 <= M.get 11 /\ M.get 11 <= 40:=by
    rcases h.ec with e | e
    · have:=e.1;omega
    · exact e
  have skip:M.get 3=0 -> Nx S ins M ⟨M.set 2 (w64 (M.get 2+1)),0,eff0,false⟩:=λ hj0=>by
    rw [w64_id (by omega)]
    refine nx_of hS h (by omega) ((Hi.refl (P:=S.players)).kp (by omega)) (vset_len _ _ _) (p:=M.get 1) (i:=M.get 2+1) (j:=M.get 3) (q:=M.get 4) (x:=M.get 5) (fu:=M.get 8) (λ k=>if2 (f:=M.get) (vget_lo hl (by omega) (by omega) k).symm) rfl ((Hi.refl (P:=S.players)).ef (by omega)) ?_ (by omega) ?_
    · rw [hp,hj0];exact hc0 _
    · unfold lfM;rw [hp,hj0];exact l0 _ _
  unfold turnV runV runE
  show Nx S ins M (VR.z (if M.get 3=0 then _ else _))
  by_cases hj0:M.get 3=0
  · rw [if_pos hj0]
    cases c with
    | false=>exact skip hj0
    | true =>
      rw [if_pos rfl]
      by_cases he:e < 0
      · show Nx S ins M (VR.z (if (if M.get 3=0 then decide (e < 0) else _)=true then _ else _))
        rw [if_pos hj0,if_pos (by simpa using he)]
        show Nx S ins M ⟨(if M.get 3=0 then (if e < 0 then (⟨startV e _ a o M,0,_,_⟩:VR) else _) else _).M.set 2 _,0,(if M.get 3=0 then (if e < 0 then (⟨startV e _ a o M,0,_,_⟩:VR) else _) else _).e,(if M.get 3=0 then (if e < 0 then (⟨startV e _ a o M,0,_,_⟩:VR) else _) else _).em⟩
        rw [if_pos hj0,if_pos he]
        show Nx S ins M ⟨(startV e _ a o M).set 2 _,0,eff0,false⟩
        rw [show startV e g.S.fuel a o M=M by unfold startV;rw [if_pos he]]
        exact skip hj0
      · show Nx S ins M (VR.z (if (if M.get 3=0 then decide (e < 0) else _)=true then _ else _))
        rw [if_pos hj0,if_neg (by simpa using he)]
        show Nx S ins M ⟨(if M.get 3=0 then (if e < 0 then _ else (⟨(startV e g.S.fuel a o M).set 3 1,0,eff0,false⟩:VR)) else _).M,0,(if M.get 3=0 then (if e < 0 then _ else (⟨(startV e g.S.fuel a o M).set 3 1,0,eff0,false⟩:VR)) else _).e,(if M.get 3=0 then (if e < 0 then _ else (⟨(startV e g.S.fuel a o M).set 3 1,0,eff0,false⟩:VR)) else _).em⟩
        rw [if_pos hj0,if_neg he,hg]
        obtain ⟨s1,s2,s3⟩:=start_ok (P:=S.players) (M:=M) (fu:=S.fuel) (a:=a) (b:=o) hl he
        generalize startV e S.fuel a o M=N at *
        have hlN:48 <= N.cs.length:=by rw [s1.len];exact hl
        refine nx_of hS h (by omega) s1 (vset_len _ _ _) (p:=p) (i:=M.get 2) (j:=1) (q:=M.get 4) (x:=M.get 5) (fu:=S.fuel) (λ k=>?_) s2 ⟨λ h=>by simp at h,λ _=>s3⟩ ?_ (by omega) ?_
        · rw [vget_lo hlN (by omega) (by omega)]
          have n1:=s1.get 1 (by omega);have n2:=s1.get 2 (by omega);have n4:=s1.get 4 (by omega);have n5:=s1.get 5 (by omega)
          by_cases k1:k=1
          · subst k1;simp;omega
          by_cases k2:k=2
          · subst k2;simp;omega
          by_cases k3:k=3
          · subst k3;simp
          by_cases k4:k=4
          · subst k4;simp;omega
          by_cases k5:k=5
          · subst k5;simp;omega
          simp [k1,k2,k3,k4,k5]
        · rw [hS.fu];exact hc1 60 (by omega) (by omega)
        · rw [hS.fu];unfold lfM;rw [hp,hj0];exact l1 _
  · rw [if_neg hj0]
    obtain ⟨hj1,hf⟩:M.get 3=1 /\ (0 <= M.get 8 /\ M.get 8 <= 60):=by omega
    obtain ⟨s1,s2,s3⟩:=stepV_ok hS (M:=M) (code:=g.code) (n:=g.cn) hl hec hf
    show Nx S ins M (VR.z (if (if M.get 3=0 then _ else endV g.code g.cn M)=true then _ else _))
    rw [if_neg hj0]
    show Nx S ins M (VR.z (if endV g.code g.cn M=true then ⟨((if M.get 3=0 then _ else (⟨(stepV g.S g.code g.cn M).M,0,(stepV g.S g.code g.cn M).e,(stepV g.S g.code g.cn M).em⟩:VR)).M.set 3 0).set 2 _,0,(if M.get 3=0 then _ else (⟨(stepV g.S g.code g.cn M).M,0,(stepV g.S g.code g.cn M).e,(stepV g.S g.code g.cn M).em⟩:VR)).e,(if M.get 3=0 then _ else (⟨(stepV g.S g.code g.cn M).M,0,(stepV g.S g.code g.cn M).e,(stepV g.S g.code g.cn M).em⟩:VR)).em⟩ else ⟨(if M.get 3=0 then _ else (⟨(stepV g.S g.code g.cn M).M,0,(stepV g.S g.code g.cn M).e,(stepV g.S g.code g.cn M).em⟩:VR)).M,0,(if M.get 3=0 then _ else (⟨(stepV g.S g.code g.cn M).M,0,(stepV g.S g.code g.cn M).e,(stepV g.S g.code g.cn M).em⟩:VR)).e,(if M.get 3=0 then _ else (⟨(stepV g.S g.code g.cn M).M,0,(stepV g.S g.code g.cn M).e,(stepV g.S g.code g.cn M).em⟩:VR)).em⟩))
    rw [if_neg hj0,hg]
    generalize stepV S g.code g.cn M=r at *
    have hlN:48 <= r.M.cs.length:=by rw [s1.len];exact hl
    have n1:=s1.get 1 (by omega);have n2:=s1.get 2 (by omega);have n3:=s1.get 3 (by omega);have n4:=s1.get 4 (by omega);have n5:=s1.get 5 (by omega)
    by_cases he:endV g.code g.cn M=true
    · rw [if_pos he]
      show Nx S ins M ⟨(r.M.set 3 0).set 2 (w64 (M.get 2+1)),0,r.e,r.em⟩
      rw [w64_id (by omega)]
      refine nx_of hS h (by omega) s1 (by simp only [vset_len]) (p:=p) (i:=M.get 2+1) (j:=0) (q:=M.get 4) (x:=M.get 5) (fu:=r.M.get 8) (λ k=>?_) rfl ⟨s2.yes,s2.no⟩ (hc0 _) (by omega) ?_
      · rw [vget_lo (by simp only [vset_len];exact hlN) (by omega) (by omega),vget_lo hlN (by omega) (by omega)]
        by_cases k1:k=1
        · subst k1;simp;omega
        by_cases k2:k=2
        · subst k2;simp
        by_cases k3:k=3
        · subst k3;simp
        by_cases k4:k=4
        · subst k4;simp;omega
        by_cases k5:k=5
        · subst k5;simp;omega
        simp [k1,k2,k3,k4,k5]
      · unfold lfM;rw [hp,hj1];exact l2 _ _ hf.1
    · rw [if_neg he]
      show Nx S ins M ⟨r.M,0,r.e,r.em⟩
      rcases s3 with ⟨s4,s5,s6⟩ | ⟨s4,s5,s6⟩
      · refine nx_of hS h (by omega) s1 rfl (p:=p) (i:=M.get 2) (j:=1) (q:=M.get 4) (x:=M.get 5) (fu:=M.get 8 - 1) (λ k=>?_) s5 ⟨s2.yes,s2.no⟩ (hc1 _ (by omega) (by omega)) (by omega) ?_
        · show r.M.get k=_
          by_cases k1:k=1
          · subst k1;simp;omega
          by_cases k2:k=2
          · subst k2;simp;omega
          by_cases k3:k=3
          · subst k3;simp;omega
          by_cases k4:k=4
          · subst k4;simp;omega
          by_cases k5:k=5
          · subst k5;simp;omega
          simp [k1,k2,k3,k4,k5]
        · unfold lfM;rw [hp,hj1];exact l3 _
      · exact absurd s5 he
end Go.Proofs.YtgibcbhfmomfbaaGreatDoor
