import Derived.Test.YtghjbimijeinfaaGreatDoorZ34
import Derived.Test.YtghjbimijeinfaaGreatDoorZ19
import Derived.Test.YtghjbimijeinfaaGreatDoorZ33
import Derived.Laws.IdiomCopy
set_option maxHeartbeats 4000000
set_option maxRecDepth 100000
set_option linter.unusedSimpArgs false
set_option linter.unusedVariables false
namespace Go.Proofs.YtghjbimijeinfaaGreatDoor
open Go.RowKit
theorem FQ {S:Setup} (hS:SetV S) {g:Gm} {ins:Nat -> Inp} {M:MemS} (h:TV S ins M) (h1:1 <= M.get 1) {p:Int} (hc:Lw S.players S.nb S.rounds p 0 0 (M.get 4) (M.get 8)) (hp:M.get 1 <= p) (hl:CJ S.players S.nb S.rounds p 0 0 (M.get 4) (M.get 8) < jE S M) :
  Nx S ins M ⟨aL (g.step M) p 0 M,0,bk,false⟩:=by
 have hl48:=h.l48 hS
 have hpl:=hS.pl
 refine gK hS h h1 ((Hi.refl (P:=S.players)).kp (by omega)) (fI (g.step M) _ _) (p:=p) (i:=0) (j:=0) (q:=M.get 4) (x:=M.get 5) (fu:=M.get 8) (λ k=>?_) rfl ((Hi.refl (P:=S.players)).ef (by omega)) hc hp hl
 exact if5 (f:=M.get) (jF hl48 (g.step M) _ _ k).symm rfl rfl
theorem q1 {S:Setup} (hS:SetV S) {g:Gm} (hg:g.S=S) {ins:Nat -> Inp} {M:MemS} (h:TV S ins M) (hp:M.get 1=1):Nx S ins M (eS (g.step M) M):=by
 have hpl:=hS.pl
 have hnb:=hS.nb
 have hro:=hS.ro
 have hc:0 <= M.get 2 /\ M.get 2 <= S.players /\ (M.get 3=0 \/ (M.get 3=1 /\ M.get 2 < S.players /\ 0 <= M.get 8 /\ M.get 8 <= 60)):=by rcases h.ct with h | h | h | h | h | h | h | h <;> omega
 unfold eS
 show Nx S ins M (if ah g.S (M.get 2) < 0 then ⟨aL (g.step M) 2 0 M,0,bk,false⟩ else _)
 rw [hg]
 rcases sS (S:=S) (M.get 2) with ⟨e,e2⟩ | ⟨e1,e2,e3⟩
 ·rw [e,if_pos (by decide)]
  have ei:M.get 2=S.players:=by omega
  refine FQ hS h (by omega) (.inr (.inr (.inl ⟨rfl,.inl rfl⟩))) (by omega) ?_
  unfold jE;rw [hp]
  show l2 _ _ 0 _ < l1 _ _ _ (M.get 2) (M.get 3) (M.get 8)
  have:M.get 3=0:=by omega
  rw [this,ei]
  unfold l1 l2;simp;omega
 ·rw [if_neg (by omega)]
  refine An hS hg h hp (by omega) g.e0 (M.get 2) _ _ (by omega) (by omega) (λ fu=>.inr (.inl ⟨rfl,by omega,by omega,.inl rfl⟩)) (λ fu f0 f1=>.inr (.inl ⟨rfl,by omega,by omega,.inr ⟨rfl,by omega,f0,f1⟩⟩)) (λ f f'=>?_) (λ f fu hfu=>?_) (λ f f' hf=>?_) (λ f=>?_)
  all_goals (show l1 _ _ _ _ _ _ < l1 _ _ _ _ _ _;unfold l1;simp;omega)
theorem q6 {S:Setup} (hS:SetV S) {g:Gm} (hg:g.S=S) {ins:Nat -> Inp} {M:MemS} (h:TV S ins M) (hp:M.get 1=6):Nx S ins M (eT (g.step M) M):=by
 have hpl:=hS.pl
 have hnb:=hS.nb
 have hro:=hS.ro
 have hc:0 <= M.get 2 /\ M.get 2 <= S.nb /\ (M.get 3=0 \/ (M.get 3=1 /\ M.get 2 < S.nb /\ 0 <= M.get 8 /\ M.get 8 <= 60)):=by rcases h.ct with h | h | h | h | h | h | h | h <;> omega
 unfold eT
 show Nx S ins M (if af g.S (M.get 2) < 0 then ⟨aL (g.step M) 7 0 M,0,bk,false⟩ else _)
 rw [hg]
 by_cases hb:af S (M.get 2) < 0
 ·rw [if_pos hb]
  have ei:M.get 2=S.nb:=by
   unfold af at hb
   rw [if_neg (by omega)] at hb
   split at hb <;> omega
  refine FQ hS h (by omega) (.inr (.inr (.inr (.inr (.inr (.inr (.inr ⟨rfl,by omega,by omega⟩))))))) (by omega) ?_
  unfold jE;rw [hp]
  show (S.nb:Int) - 0 < l6 _ (M.get 2) (M.get 3) (M.get 8)
  have:M.get 3=0:=by omega
  rw [this,ei]
  unfold l6;simp;omega
 ·rw [if_neg hb]
  have hi:M.get 2 < S.nb:=by
   rcases ly (S:=S) (by omega) (M.get 2) with e | ⟨_,e,_⟩ <;> omega
  refine An hS hg h hp (by omega) g.e2 (M.get 2) _ _ (by omega) (by omega) (λ fu=>.inr (.inr (.inr (.inr (.inr (.inr (.inl ⟨rfl,by omega,by omega,.inl rfl⟩))))))) (λ fu f0 f1=>.inr (.inr (.inr (.inr (.inr (.inr (.inl ⟨rfl,by omega,by omega,.inr ⟨rfl,by omega,f0,f1⟩⟩))))))) (λ f f'=>?_) (λ f fu hfu=>?_) (λ f f' hf=>?_) (λ f=>?_)
  all_goals (show l6 _ _ _ _ < l6 _ _ _ _;unfold l6;simp;omega)
theorem q2 {S:Setup} (hS:SetV S) {g:Gm} (hg:g.S=S) {ins:Nat -> Inp} {M:MemS} (h:TV S ins M) (hp:M.get 1=2):Nx S ins M (cO (g.step M) M):=by
 have hpl:=hS.pl
 have hnb:=hS.nb
 have hro:=hS.ro
 have hl:=h.l48 hS
 have hec:0 <= M.get 11 /\ M.get 11 <= 40:=by
  rcases h.ec with e | e
  ·have:=e.1;omega
  ·exact e
 have hj:M.get 3=0 \/ (M.get 3=1 /\ 0 <= M.get 8 /\ M.get 8 <= 60):=by rcases h.ct with h | h | h | h | h | h | h | h <;> omega
 have done:∀ (N:MemS) (e:Eff) (em:Bool),Kp S.players M N -> Ef M ⟨N,0,e,em⟩ -> Nx S ins M ⟨aL (g.step M) 3 0 N,0,e,em⟩:=λ N e em hN hE=>by
  have hlN:48 <= N.cs.length:=by rw [hN.len];exact hl
  refine gK hS h (by omega) hN (fI (g.step M) _ _) (p:=3) (i:=0) (j:=0) (q:=N.get 4) (x:=N.get 5) (fu:=N.get 8) (λ k=>if5 (f:=N.get) (jF hlN (g.step M) _ _ k).symm rfl rfl) rfl ⟨hE.yes,hE.no⟩ (.inr (.inr (.inr (.inl ⟨rfl,by omega,by omega⟩)))) (by omega) ?_
  unfold jE;rw [hp]
  show l3 _ _ 0 < l2 _ _ (M.get 3) (M.get 8)
  unfold l2;split <;> omega
 unfold cO cT jk ez c9
 show Nx S ins M (if (if M.get 3=0 then decide (g.e1 < 0) else bg g.code g.cn M)=true then ⟨aL (g.step M) 3 0 (if M.get 3=0 then (if g.e1 < 0 then (⟨aM g.e1 g.S.fuel 0 0 M,0,bk,false⟩:VR) else ⟨(aM g.e1 g.S.fuel 0 0 M).set 3 1,0,bk,false⟩) else ⟨(ak g.S g.code g.cn M).M,0,(ak g.S g.code g.cn M).e,(ak g.S g.code g.cn M).em⟩).M,0,(if M.get 3=0 then (if g.e1 < 0 then (⟨aM g.e1 g.S.fuel 0 0 M,0,bk,false⟩:VR) else ⟨(aM g.e1 g.S.fuel 0 0 M).set 3 1,0,bk,false⟩) else ⟨(ak g.S g.code g.cn M).M,0,(ak g.S g.code g.cn M).e,(ak g.S g.code g.cn M).em⟩).e,(if M.get 3=0 then (if g.e1 < 0 then (⟨aM g.e1 g.S.fuel 0 0 M,0,bk,false⟩:VR) else ⟨(aM g.e1 g.S.fuel 0 0 M).set 3 1,0,bk,false⟩) else ⟨(ak g.S g.code g.cn M).M,0,(ak g.S g.code g.cn M).e,(ak g.S g.code g.cn M).em⟩).em⟩
  else ⟨(if M.get 3=0 then (if g.e1 < 0 then (⟨aM g.e1 g.S.fuel 0 0 M,0,bk,false⟩:VR) else ⟨(aM g.e1 g.S.fuel 0 0 M).set 3 1,0,bk,false⟩) else ⟨(ak g.S g.code g.cn M).M,0,(ak g.S g.code g.cn M).e,(ak g.S g.code g.cn M).em⟩).M,0,(if M.get 3=0 then (if g.e1 < 0 then (⟨aM g.e1 g.S.fuel 0 0 M,0,bk,false⟩:VR) else ⟨(aM g.e1 g.S.fuel 0 0 M).set 3 1,0,bk,false⟩) else ⟨(ak g.S g.code g.cn M).M,0,(ak g.S g.code g.cn M).e,(ak g.S g.code g.cn M).em⟩).e,(if M.get 3=0 then (if g.e1 < 0 then (⟨aM g.e1 g.S.fuel 0 0 M,0,bk,false⟩:VR) else ⟨(aM g.e1 g.S.fuel 0 0 M).set 3 1,0,bk,false⟩) else ⟨(ak g.S g.code g.cn M).M,0,(ak g.S g.code g.cn M).e,(ak g.S g.code g.cn M).em⟩).em⟩)
 by_cases hj0:M.get 3=0
 ·rw [if_pos hj0,if_pos hj0]
  by_cases he:g.e1 < 0
  ·rw [if_pos (by simpa using he),if_pos he]
   show Nx S ins M ⟨aL (g.step M) 3 0 (aM g.e1 g.S.fuel 0 0 M),0,bk,false⟩
   rw [show aM g.e1 g.S.fuel 0 0 M=M by unfold aM;rw [if_pos he]]
   exact done M bk false .refl ⟨λ h=>by simp at h,λ _=>rfl⟩
  ·rw [if_neg (by simpa using he),if_neg he]
   show Nx S ins M ⟨(aM g.e1 g.S.fuel 0 0 M).set 3 1,0,bk,false⟩
   rw [hg]
   obtain ⟨s1,s2,s3⟩:=wO (P:=S.players) (M:=M) (fu:=S.fuel) (a:=0) (b:=0) hl he
   generalize aM g.e1 S.fuel 0 0 M=N at *
   have hlN:48 <= N.cs.length:=by rw [s1.len];exact hl
   have n1:=s1.get 1 (by omega);have n2:=s1.get 2 (by omega);have n4:=s1.get 4 (by omega);have n5:=s1.get 5 (by omega)
   refine gK hS h (by omega) s1 (aI _ _ _) (p:=2) (i:=M.get 2) (j:=1) (q:=M.get 4) (x:=M.get 5) (fu:=S.fuel) (λ k=>?_) s2 ⟨λ h=>by simp at h,λ _=>s3⟩ (.inr (.inr (.inl ⟨rfl,.inr ⟨rfl,by have:=hS.fu;omega,by have:=hS.fu;omega⟩⟩))) (by omega) ?_
   ·show (N.set 3 1).get k=_
    rw [bI hlN (by omega) (by omega)]
    by_cases k1:k=1
    ·subst k1;simp;omega
    by_cases k2:k=2
    ·subst k2;simp;omega
    by_cases k3:k=3
    ·subst k3;simp
    by_cases k4:k=4
    ·subst k4;simp;omega
    by_cases k5:k=5
    ·subst k5;simp;omega
    simp [k1,k2,k3,k4,k5]
   ·have hfu:=hS.fu.2
    unfold jE;rw [hp,hj0]
    show l2 _ _ 1 S.fuel < l2 _ _ 0 _
    unfold l2;first | (simp;done) | (simp;omega)
 ·rw [if_neg hj0,if_neg hj0]
  obtain ⟨hj1,hf⟩:M.get 3=1 /\ (0 <= M.get 8 /\ M.get 8 <= 60):=by omega
  obtain ⟨s1,s2,s3⟩:=wM hS (M:=M) (code:=g.code) (n:=g.cn) hl hec hf
  rw [hg]
  generalize ak S g.code g.cn M=r at *
  have n1:=s1.get 1 (by omega);have n2:=s1.get 2 (by omega);have n3:=s1.get 3 (by omega);have n4:=s1.get 4 (by omega);have n5:=s1.get 5 (by omega)
  by_cases he:bg g.code g.cn M=true
  ·rw [if_pos he]
   exact done r.M r.e r.em s1 ⟨s2.yes,s2.no⟩
  ·rw [if_neg he]
   show Nx S ins M ⟨r.M,0,r.e,r.em⟩
   rcases s3 with ⟨s4,s5,s6⟩ | ⟨s4,s5,s6⟩
   ·refine gK hS h (by omega) s1 rfl (p:=2) (i:=M.get 2) (j:=1) (q:=M.get 4) (x:=M.get 5) (fu:=M.get 8 - 1) (λ k=>?_) s5 ⟨s2.yes,s2.no⟩ (.inr (.inr (.inl ⟨rfl,.inr ⟨rfl,by omega,by omega⟩⟩))) (by omega) ?_
    ·show r.M.get k=_
     by_cases k1:k=1
     ·subst k1;simp;omega
     by_cases k2:k=2
     ·subst k2;simp;omega
     by_cases k3:k=3
     ·subst k3;simp;omega
     by_cases k4:k=4
     ·subst k4;simp;omega
     by_cases k5:k=5
     ·subst k5;simp;omega
     simp [k1,k2,k3,k4,k5]
    ·unfold jE;rw [hp,hj1]
     show l2 _ _ 1 _ < l2 _ _ 1 _
     unfold l2;first | (simp;done) | (simp;omega)
   ·exact absurd s5 he
structure En (S:Setup) (ins:Nat -> Inp) (M N:MemS):Prop where
 len:(N.cs.length:Int)=sizeOf S
 z:∀ k:Int,1 <= k -> k <= 10 -> N.get k=0
 t0:N.get 0=M.get 0+1
 pl:∀ q:Nat,(q:Int) < S.players -> N.get (48+4 * q)=(ins q).dx /\ N.get (48+4 * q+1)=(ins q).dy /\ N.get (48+4 * q+2)=(ins q).act
 n11:N.get 11=M.get 11
theorem qJ {M:MemS} (hl:48 <= M.cs.length):∀ (n:Nat),n <= 10 -> (∀ k:Int,(cz M n).get k=if 1 <= k /\ k <= n then 0 else M.get k) /\ (cz M n).cs.length=M.cs.length
 | 0,_=>⟨λ k=>by rw [if_neg (by omega)];rfl,rfl⟩
 | n+1,hn=>by
  obtain ⟨h1,h2⟩:=qJ hl n (by omega)
  refine ⟨λ k=>?_,?_⟩
  ·rw [cz,bI (by rw [h2];exact hl) (by omega) (by omega),h1]
   by_cases e:k=((n+1:Nat):Int)
   ·rw [if_pos e,if_pos (by omega)]
   ·rw [if_neg e]
    by_cases e2:1 <= k /\ k <= n
    ·rw [if_pos e2,if_pos (by omega)]
    ·rw [if_neg e2,if_neg (by omega)]
  ·rw [cz,aI];exact h2
theorem IA {S:Setup} (hp:0 <= S.players) {t:Stp} (ht:t.S=S) (M:MemS):Hi S.players M (fO t M):=by
 subst ht
 unfold fO
 split
 ·next hb=>exact (Hi.refl).setB hp hb (by omega) _
 ·exact .refl
theorem q7 {S:Setup} (hS:SetV S) {g:Gm} (hg:g.S=S) {ins:Nat -> Inp} {M:MemS} (h:TV S ins M) (hp:M.get 1=7):(fv (g.step M)=false /\ Nx S ins M ⟨dk (g.step M) M,0,bk,false⟩) \/ (fv (g.step M)=true /\ En S ins M (dk (g.step M) M)):=by
 have hpl:=hS.pl
 have hnb:=hS.nb
 have hc:0 <= M.get 2 /\ M.get 2 < S.nb:=by rcases h.ct with h | h | h | h | h | h | h | h <;> omega
 have hl:=h.l48 hS
 have ht0:=h.t0
 have hh:=IA (S:=S) (by omega) (t:=g.step M) hg M
 unfold fv dk gF
 generalize fO (g.step M) M=N at *
 have hlN:48 <= N.cs.length:=by rw [hh.len];exact hl
 have e0:=hh.get 0 (by omega);have e1:=hh.get 1 (by omega);have e3:=hh.get 3 (by omega);have e4:=hh.get 4 (by omega);have e8:=hh.get 8 (by omega)
 show ((if aY (M.get 2+1) < g.S.nb then false else true)=false /\ Nx S ins M ⟨if aY (M.get 2+1) < g.S.nb then N.set 2 (aY (M.get 2+1)) else cz (N.set 0 (aY (N.get 0+1))) 10,0,bk,false⟩) \/ ((if aY (M.get 2+1) < g.S.nb then false else true)=true /\ En S ins M (if aY (M.get 2+1) < g.S.nb then N.set 2 (aY (M.get 2+1)) else cz (N.set 0 (aY (N.get 0+1))) 10))
 rw [cP (by omega),cP (by omega),hg]
 by_cases hi:M.get 2+1 < S.nb
 ·rw [if_pos hi,if_pos hi]
  refine .inl ⟨rfl,gK hS h (by omega) (hh.kp (by omega)) (aI _ _ _) (λ k=>N4 (f:=N.get) (bI hlN (by omega) (by omega) k).symm) e8 (hh.ef (by omega)) ?_ (by omega) ?_⟩
  ·rw [e1,e3,e4,hp];exact .inr (.inr (.inr (.inr (.inr (.inr (.inr ⟨rfl,by omega,by omega⟩))))))
  ·unfold jE;rw [e1,e3,e4,hp]
   show (S.nb:Int) - (M.get 2+1) < (S.nb:Int) - M.get 2
   omega
 ·rw [if_neg hi,if_neg hi]
  obtain ⟨z1,z2⟩:=qJ (M:=N.set 0 (N.get 0+1)) (by rw [aI];exact hlN) 10 (Nat.le_refl _)
  have g0:=bI (M:=N) (i:=0) (v:=N.get 0+1) hlN (by omega) (by omega)
  refine .inr ⟨rfl,⟨by rw [z2,aI,hh.len];exact h.len,λ k k1 k2=>by rw [z1,if_pos (by omega)],by rw [z1,if_neg (by omega),g0,if_pos rfl,e0],λ q hq=>?_,by rw [z1,if_neg (by omega),g0,if_neg (by omega)];exact hh.get 11 (by omega)⟩⟩
  have:=h.pl q (by rw [hp,if_neg (by omega)];exact hq)
  rw [z1,if_neg (by omega),g0,if_neg (by omega),hh.get _ (by omega),z1,if_neg (by omega),g0,if_neg (by omega),hh.get _ (by omega),z1,if_neg (by omega),g0,if_neg (by omega),hh.get _ (by omega)]
  exact this
theorem q0 {S:Setup} (hS:SetV S) {g:Gm} (hg:g.S=S) {ins:Nat -> Inp} (hi:∀ q:Nat,(q:Int) < S.players -> g.ins.getD (g.io+q) dI=ins q) (hni:S.players <= g.ni) {M:MemS} (h:TV S ins M) (hp:M.get 1=0):Nx S ins M ⟨aO (g.step M) M,0,bk,false⟩:=by
 have hpl:=hS.pl
 have hnb:=hS.nb
 have hc:0 <= M.get 2 /\ M.get 2 < S.players:=by rcases h.ct with h | h | h | h | h | h | h | h <;> omega
 have hl:=h.l48 hS
 obtain ⟨i,hii⟩:=Int.eq_ofNat_of_zero_le hc.1
 have hpa:ah S (M.get 2)=48+4 * (i:Int):=by
  rcases sS (S:=S) (M.get 2) with ⟨e,e2⟩ | ⟨e1,e2,e3⟩
  ·omega
  ·rw [e3,hii]
 have hlen:=h.len
 have hA:(bd (g.step M) M).cs.length=M.cs.length /\ ∀ k,(k <= 10 \/ 48 <= k \/ k=11) -> (bd (g.step M) M).get k=if k=11 then (if M.get 2=0 then 0 else M.get 11) else M.get k:=by
  unfold bd
  show (if M.get 2=0 then (M.set 13 g.version).set 11 0 else M).cs.length=_ /\ _
  by_cases h0:M.get 2=0
  ·rw [if_pos h0]
   refine ⟨by simp only [aI],λ k hk=>?_⟩
   rw [if_pos h0,bI (by rw [aI];exact hl) (by omega) (by omega),bI hl (by omega) (by omega)]
   by_cases e:k=11
   ·rw [if_pos e,if_pos e]
   ·rw [if_neg e,if_neg e,if_neg (by omega)]
  ·rw [if_neg h0]
   refine ⟨rfl,λ k hk=>?_⟩
   rw [if_neg h0]
   by_cases e:k=11
   ·rw [if_pos e,e]
   ·rw [if_neg e]
 have hB:(bn (g.step M) (bd (g.step M) M)).cs.length=M.cs.length /\ (∀ k,(k <= 11 \/ (48 <= k /\ (k < 48+4 * (i:Int) \/ 51+4 * (i:Int) <= k))) -> (bn (g.step M) (bd (g.step M) M)).get k=if k=11 then (if M.get 2=0 then 0 else M.get 11) else M.get k) /\
   (bn (g.step M) (bd (g.step M) M)).get (48+4 * (i:Int))=(ins i).dx /\ (bn (g.step M) (bd (g.step M) M)).get (48+4 * (i:Int)+1)=(ins i).dy /\ (bn (g.step M) (bd (g.step M) M)).get (48+4 * (i:Int)+2)=(ins i).act:=by
  generalize bd (g.step M) M=A at *
  obtain ⟨a1,a2⟩:=hA
  have e:bn (g.step M) A=((A.set (48+4 * (i:Int)+0) (ins i).dx).set (48+4 * (i:Int)+1) (ins i).dy).set (48+4 * (i:Int)+2) (ins i).act:=by
   unfold bn Stp.inp
   show (if ah g.S (M.get 2) >= 0 then if M.get 2 < (g.ni:Int) then ((A.set (ah g.S (M.get 2)+0) (g.ins.getD (g.io+(M.get 2).toNat) dI).dx).set (ah g.S (M.get 2)+1) (g.ins.getD (g.io+(M.get 2).toNat) dI).dy).set (ah g.S (M.get 2)+2) (g.ins.getD (g.io+(M.get 2).toNat) dI).act else A else A)=_
   rw [hg,hpa,if_pos (by omega),if_pos (by omega),hii,Int.toNat_natCast,hi i (by omega)]
  rw [e]
  have hal:48+4 * (i:Int)+2 < A.cs.length:=by rw [a1];unfold sizeOf at hlen;omega
  refine ⟨by simp only [aI];exact a1,λ k hk=>?_,?_,?_,?_⟩
  ·rw [bj (by omega),bj (by omega),bj (by omega)]
   exact a2 k (by omega)
  ·rw [bj (by omega),bj (by omega),Int.add_zero,iV (by omega)]
  ·rw [bj (by omega),iV (by rw [aI];omega)]
  ·rw [iV (by simp only [aI];omega)]
 unfold aO
 generalize bn (g.step M) (bd (g.step M) M)=N at *
 obtain ⟨b1,b2,b3,b4,b5⟩:=hB
 have hlN:48 <= N.cs.length:=by rw [b1];exact hl
 have n0:=b2 0 (by omega);have n1:=b2 1 (by omega);have n2:=b2 2 (by omega);have n3:=b2 3 (by omega);have n4:=b2 4 (by omega);have n8:=b2 8 (by omega);have n11:=b2 11 (by omega)
 simp only [show ¬ ((0:Int)=11) by decide,show ¬ ((1:Int)=11) by decide,show ¬ ((2:Int)=11) by decide,show ¬ ((3:Int)=11) by decide,show ¬ ((4:Int)=11) by decide,show ¬ ((8:Int)=11) by decide,if_false,if_true] at n0 n1 n2 n3 n4 n8 n11
 have hpN:∀ q:Nat,(q:Int) < (i:Int)+1 -> N.get (48+4 * q)=(ins q).dx /\ N.get (48+4 * q+1)=(ins q).dy /\ N.get (48+4 * q+2)=(ins q).act:=λ q hq=>by
  by_cases e:q=i
  ·subst e;exact ⟨b3,b4,b5⟩
  ·have h2:=h.pl q (by rw [if_pos hp,hii];omega)
   rw [b2 _ (by omega),b2 _ (by omega),b2 _ (by omega),if_neg (by omega),if_neg (by omega),if_neg (by omega)]
   exact h2
 have hsv:yD M ↔ M.get 2=0:=⟨λ e=>e.2,λ e=>⟨hp,e⟩⟩
 have h11:N.get 11=if yD M then 0 else M.get 11:=by
  rw [n11]
  by_cases e:M.get 2=0
  ·rw [if_pos e,if_pos (hsv.2 e)]
  ·rw [if_neg e,if_neg (λ x=>e (hsv.1 x))]
 have hec:0 <= N.get 11 /\ N.get 11 <= 40:=by
  rw [h11]
  split
  ·omega
  ·rcases h.ec with e | e
   ·contradiction
   ·exact e
 unfold bT
 show Nx S ins M ⟨if aY (M.get 2+1) < g.S.players then N.set 2 (aY (M.get 2+1)) else aL (g.step M) 1 0 N,0,bk,false⟩
 rw [cP (by omega),hg]
 split
 ·have gg:=bI (M:=N) (i:=2) (v:=M.get 2+1) hlN (by omega) (by omega)
  have g1:(N.set 2 (M.get 2+1)).get 1=0:=by rw [gg,if_neg (by decide),n1,hp]
  have g2:(N.set 2 (M.get 2+1)).get 2=M.get 2+1:=by rw [gg,if_pos rfl]
  refine ⟨⟨by rw [aI,b1];exact hlen,by rw [gg,if_neg (by decide),n0];exact h.t0,by rw [g1,g2];exact .inl ⟨rfl,by omega,by omega⟩,λ q hq=>?_,.inr (by rw [gg,if_neg (by decide)];exact hec)⟩,?_,by rw [g1,hp];exact Int.le_refl _,by rw [gg,if_neg (by decide),n0],λ e=>by have:=e.2;rw [g2] at this;omega,λ e=>by simp at e,λ _=>by rw [gg,if_neg (by decide)];exact h11⟩
  ·rw [g1,if_pos rfl,g2,hii] at hq
   rw [gg,if_neg (by omega),gg,if_neg (by omega),gg,if_neg (by omega)]
   exact hpN q hq
  ·unfold jE;rw [g1,g2,hp]
   show l0 _ _ _ (M.get 2+1) < l0 _ _ _ (M.get 2)
   unfold l0;omega
 ·have gg:=jF hlN (g.step M) 1 0
  have g1:(aL (g.step M) 1 0 N).get 1=1:=by rw [gg];simp
  have g2:(aL (g.step M) 1 0 N).get 2=0:=by rw [gg];simp
  have g3:(aL (g.step M) 1 0 N).get 3=0:=by rw [gg];simp
  have gk:∀ k,3 < k -> (aL (g.step M) 1 0 N).get k=N.get k:=λ k hk=>by rw [gg,if_neg (by omega),if_neg (by omega),if_neg (by omega)]
  refine ⟨⟨by rw [fI,b1];exact hlen,by rw [gg,if_neg (by decide),if_neg (by decide),if_neg (by decide),n0];exact h.t0,by rw [g1,g2,g3];exact .inr (.inl ⟨rfl,by omega,by omega,.inl rfl⟩),λ q hq=>?_,.inr (by rw [gk 11 (by omega)];exact hec)⟩,?_,by rw [g1,hp];decide,by rw [gg,if_neg (by decide),if_neg (by decide),if_neg (by decide),n0],λ e=>by have:=e.1;rw [g1] at this;omega,λ e=>by simp at e,λ _=>by rw [gk 11 (by omega)];exact h11⟩
  ·rw [g1,if_neg (by decide)] at hq
   rw [gk _ (by omega),gk _ (by omega),gk _ (by omega)]
   exact hpN q (by omega)
  ·unfold jE;rw [g1,g2,g3,hp]
   show l1 _ _ _ 0 0 _ < l0 _ _ _ (M.get 2)
   unfold l0 l1;simp;omega
theorem JA {S:Setup} (hS:SetV S) {g:Gm} (hg:g.S=S) {ins:Nat -> Inp} (hi:∀ q:Nat,(q:Int) < S.players -> g.ins.getD (g.io+q) dI=ins q) (hni:S.players <= g.ni) {M:MemS} (h:TV S ins M) :
  Bi M /\ ((gH g M=false /\ Nx S ins M (eA g M)) \/ (gH g M=true /\ En S ins M (fJ g M) /\ (eA g M).em=false /\ ¬ yD M /\ (0 <= M.get 11 /\ M.get 11 <= 40))):=by
 have hph:Bi M:=by
  rcases h.ct with h | h | h | h | h | h | h | h <;> (refine ⟨?_,?_⟩ <;> omega)
 refine ⟨hph,?_⟩
 by_cases h0:M.get 1=0
 ·left;rw [show eA g M=⟨aO (g.step M) M,0,bk,false⟩ by simp [eA,h0]];exact ⟨by simp [gH,h0],q0 hS hg hi hni h h0⟩
 by_cases h1:M.get 1=1
 ·left;rw [show eA g M=eS (g.step M) M by simp [eA,h1]];exact ⟨by simp [gH,h1],q1 hS hg h h1⟩
 by_cases h2:M.get 1=2
 ·left;rw [show eA g M=cO (g.step M) M by simp [eA,h2]];exact ⟨by simp [gH,h2],q2 hS hg h h2⟩
 by_cases h3:M.get 1=3
 ·left;rw [show eA g M=⟨aP (g.step M) M,0,bk,false⟩ by simp [eA,h3]];exact ⟨by simp [gH,h3],q3 hS hg h h3⟩
 by_cases h4:M.get 1=4
 ·left;rw [show eA g M=⟨bK (g.step M) M,0,bk,false⟩ by simp [eA,h4]];exact ⟨by simp [gH,h4],q4 hS hg h h4⟩
 by_cases h5:M.get 1=5
 ·left;rw [show eA g M=⟨dL (g.step M) M,0,bk,false⟩ by simp [eA,h5]];exact ⟨by simp [gH,h5],q5 hS hg h h5⟩
 by_cases h6:M.get 1=6
 ·left;rw [show eA g M=eT (g.step M) M by simp [eA,h6]];exact ⟨by simp [gH,h6],q6 hS hg h h6⟩
 have h7:M.get 1=7:=by have:=hph.1;have:=hph.2;omega
 have e:eA g M=⟨dk (g.step M) M,0,bk,false⟩:=by simp [eA,h7]
 rw [fJ,e]
 have e2:gH g M=fv (g.step M):=by simp [gH,h7]
 rw [e2]
 rcases q7 hS hg h h7 with ⟨a,b⟩ | ⟨a,b⟩
 ·exact .inl ⟨a,b⟩
 ·refine .inr ⟨a,b,rfl,λ e=>by have:=e.1;omega,?_⟩
  rcases h.ec with e | e
  ·have:=e.1;omega
  ·exact e
def Numb (t c:Int) (es:List Eff):Prop:=∀ k,k < es.length -> (es.getD k bk).t=t /\ (es.getD k bk).i=c+k
theorem Numb.nil {t c:Int}:Numb t c []:=λ k hk=>by simp at hk
theorem Numb.cons {t c:Int} {e:Eff} {es:List Eff} (h1:e.t=t) (h2:e.i=c) (h:Numb t (c+1) es):Numb t c (e :: es):=λ k hk=>by
 rcases k with _ | k
 ·exact ⟨h1,by rw [List.getD_cons_zero,h2];omega⟩
 ·have:=h k (by simpa using hk)
  rw [List.getD_cons_succ]
  exact ⟨this.1,by rw [this.2];omega⟩
theorem Ao {S:Setup} (hS:SetV S) {g:Gm} (hg:g.S=S) {ins:Nat -> Inp} (hi:∀ q:Nat,(q:Int) < S.players -> g.ins.getD (g.io+q) dI=ins q) (hni:S.players <= g.ni):∀ (n:Nat) (M:MemS),TV S ins M -> jE S M <= n ->
  ∃ m,m+1 <= n /\ dD g (m+1) M /\ (∀ k:Int,1 <= k -> k <= 10 -> (fE g (m+1) M).get k=0) /\ ((fE g (m+1) M).cs.length:Int)=sizeOf S /\ (fE g (m+1) M).get 0=M.get 0+1 /\
   Numb (M.get 0) (if yD M then 0 else M.get 11) (dp g (m+1) M) /\ (fE g (m+1) M).get 11=(if yD M then 0 else M.get 11)+(dp g (m+1) M).length /\ (fE g (m+1) M).get 11 <= 40
 | 0,M,h,hl=>by
  have:=ua hS.pl ⟨by have:=hS.nb;omega,by have:=hS.nb;omega⟩ hS.ro h.ct
  unfold jE at hl;omega
 | n+1,M,h,hl=>by
  obtain ⟨hph,⟨e1,hx⟩ | ⟨e1,hx,hem,hst,h11⟩⟩:=JA hS hg hi hni h
  ·obtain ⟨m,hm,k1,k2,k3,k4,k5,k6,k7⟩:=Ao hS hg hi hni n (eA g M).M hx.tv (by have:=hx.lt;omega)
   rw [if_neg hx.ns] at k5 k6
   have er:fE g (m+1+1) M=fE g (m+1) (eA g M).M:=rfl
   refine ⟨m+1,by omega,⟨hph,.inr ⟨e1,k1⟩⟩,by rw [er];exact k2,by rw [er];exact k3,by rw [er,k4,hx.t0],?_,?_,by rw [er];exact k7⟩
   ·cases he:(eA g M).em with
    | true =>
     obtain ⟨a1,a2,a3,a4⟩:=hx.yes he
     rw [rU he,if_neg a1]
     refine Numb.cons a2 a3 ?_
     rw [hx.t0,a4] at k5;exact k5
    | false =>
     rw [mR (by rw [he];decide)]
     have:=hx.no he
     rw [hx.t0,this] at k5;exact k5
   ·rw [er]
    cases he:(eA g M).em with
    | true =>
     obtain ⟨a1,a2,a3,a4⟩:=hx.yes he
     rw [rU he,if_neg a1,List.length_cons,k6,a4];show _+(List.length (dp g (m+1) (fJ g M)):Int)=_;omega
    | false =>
     rw [mR (by rw [he];decide),k6,hx.no he]
  ·refine ⟨0,by omega,⟨hph,.inl ⟨rfl,e1⟩⟩,hx.z,hx.len,hx.t0,?_,?_,?_⟩
   ·rw [mR (by rw [hem];decide)];exact .nil
   ·rw [mR (by rw [hem];decide),if_neg hst]
    show (fJ g M).get 11=M.get 11+(([]:List Eff).length:Int)
    rw [hx.n11];simp
   ·show (fJ g M).get 11 <= 40
    rw [hx.n11];exact h11.2
def FR (p n r f:Int):Int:=IntKind.i64.wrap ((IntKind.i64.wrap ((IntKind.i64.wrap ((IntKind.i64.wrap ((IntKind.i64.wrap (p+(IntKind.i64.wrap ((IntKind.i64.wrap ((IntKind.i64.wrap (p+1))+n)) * (IntKind.i64.wrap (f+3))))))+(IntKind.i64.wrap (2 * n))))+3))+(IntKind.i64.wrap ((IntKind.i64.wrap ((IntKind.i64.wrap (r * n)) * (IntKind.i64.wrap (n - 1)))).tdiv 2))))+(IntKind.i64.wrap (n * (IntKind.i64.wrap (n+1)))))
theorem qK {S:Setup} (hS:SetV S):l0 S.players S.nb S.rounds 0 <= FR S.players S.nb S.rounds 60 /\ FR S.players S.nb S.rounds 60 <= 650:=by
 have hp:=hS.pl
 have hn:=hS.nb
 have hr:=hS.ro
 have key:∀ p:Fin 3,∀ n:Fin 5,∀ r:Fin 3,l0 ((p.1+1:Nat):Int) ((n.1+1:Nat):Int) ((r.1+1:Nat):Int) 0 <= FR ((p.1+1:Nat):Int) ((n.1+1:Nat):Int) ((r.1+1:Nat):Int) 60 /\ FR ((p.1+1:Nat):Int) ((n.1+1:Nat):Int) ((r.1+1:Nat):Int) 60 <= 650:=by decide +kernel
 have:=key ⟨S.players.toNat - 1,by omega⟩ ⟨S.nb - 1,by omega⟩ ⟨S.rounds.toNat - 1,by omega⟩
 dsimp only at this
 rwa [show ((S.players.toNat - 1+1:Nat):Int)=S.players by omega,show S.nb - 1+1=S.nb by omega,show ((S.rounds.toNat - 1+1:Nat):Int)=S.rounds by omega] at this
theorem setV {xs:List Int} {F:HL} {A:Option Addr} {n:Nat} (hl:ArgL F A n xs) {S:Setup} {T:HL} (h:SetG xs S T):SetV S:=by
 have h1:=mV hl
 have h2:=pW hl
 have hn:=h.nb
 have k2:=gI hl 2
 obtain ⟨e1,e2,e3,e4,e5,e6,e7,e8⟩:=h.nums
 exact ⟨by rw [h.pl];exact h2,by omega,by rw [e7];omega,by rw [e8];omega⟩
theorem jG {l:List Int} {i j:Nat} {v:Int} (h:i ≠ j):(l.set i v).getD j 0=l.getD j 0:=by
 rw [List.getD_eq_getElem?_getD,List.getD_eq_getElem?_getD,List.getElem?_set_ne h]
theorem sT {S:Setup} (hp:0 <= S.players) {j:Nat} (hj:j < 48):∀ i,i <= S.nb -> (aX S i).getD j 0=0
 | 0,_=>by
  rw [aX,List.getD_eq_getElem?_getD,List.getElem?_replicate]
  split <;> rfl
 | i+1,hi=>by
  have hb:af S (i:Int)=48+4 * S.players+8 * (i:Int):=by
   rcases ly hp (i:Int) with e | ⟨_,_,e⟩
   ·unfold af at e
    rw [if_neg (by omega),if_neg (by omega)] at e;omega
   ·exact e
  rw [aX,jG (by omega),jG (by omega),jG (by omega),jG (by omega),jG (by omega),jG (by omega)]
  exact sT hp hj i (by omega)
structure TE2 (S:Setup) (t:Int) (M:MemS):Prop where
 len:(M.cs.length:Int)=sizeOf S
 z:∀ k:Int,1 <= k -> k <= 10 -> M.get k=0
 t0:M.get 0=t
theorem IB {S:Setup} (hS:SetV S):TE2 S 0 ⟨aX S S.nb,[],0⟩:=by
 have hp:=hS.pl
 have hlen:(((⟨aX S S.nb,[],0⟩:MemS).cs.length:Nat):Int)=sizeOf S:=by
  show ((aX S S.nb).length:Int)=_
  rw [fg];unfold sizeOf;omega
 have g:∀ k:Int,0 <= k -> k < 48 -> (⟨aX S S.nb,[],0⟩:MemS).get k=0:=λ k h0 h1=>by
  unfold MemS.get
  split
  ·exact sT (by omega) (by omega) S.nb (Nat.le_refl _)
  ·rfl
 exact ⟨hlen,λ k h1 h2=>g k (by omega) (by omega),g 0 (by omega) (by omega)⟩
theorem TE2.tv {S:Setup} (hS:SetV S) {t:Int} (ht:0 <= t /\ t <= 1000) {M:MemS} (h:TE2 S t M) (ins:Nat -> Inp):TV S ins M /\ jE S M=l0 S.players S.nb S.rounds 0 /\ yD M:=by
 have h1:=h.z 1 (by omega) (by omega)
 have h2:=h.z 2 (by omega) (by omega)
 have hp:=hS.pl
 refine ⟨⟨h.len,by rw [h.t0];omega,by rw [h1,h2];exact .inl ⟨rfl,by omega,by omega⟩,λ q hq=>by rw [h1,if_pos rfl,h2] at hq;omega,.inl ⟨h1,h2⟩⟩,?_,h1,h2⟩
 unfold jE
 rw [h1,h2];rfl
theorem MQ {S:Setup} (hS:SetV S) {g:Gm} (hg:g.S=S) (hni:S.players <= g.ni) {t:Int} (ht:0 <= t /\ t <= 1000) {M:MemS} (h:TE2 S t M):∃ m,((m+1:Nat):Int) <= FR S.players S.nb S.rounds 60 /\ dD g (m+1) M /\ TE2 S (t+1) (fE g (m+1) M) /\
  Numb t 0 (dp g (m+1) M) /\ (fE g (m+1) M).get 11=((dp g (m+1) M).length:Int) /\ ((dp g (m+1) M).length:Int) <= 40:=by
 obtain ⟨h1,h2,h3⟩:=h.tv hS ht (λ q=>g.ins.getD (g.io+q) dI)
 have hb:=qK hS
 have hpos:=ua hS.pl ⟨by have:=hS.nb;omega,by have:=hS.nb;omega⟩ hS.ro h1.ct
 unfold jE at h2
 obtain ⟨m,a1,a2,a3,a4,a5,a6,a7,a8⟩:=Ao hS hg (λ _ _=>rfl) hni (l0 S.players S.nb S.rounds 0).toNat M h1 (by unfold jE;omega)
 rw [if_pos h3] at a6 a7
 rw [h.t0] at a5 a6
 exact ⟨m,by omega,a2,⟨a4,a3,a5⟩,a6,by rw [a7];omega,by omega⟩
theorem SetEq.pl {S S1:Setup} (h:SetEq S S1):S1.players=S.players:=h.nums.1
theorem SetEq.nb {S S1:Setup} (h:SetEq S S1):S1.nb=S.nb:=h.nums.2.1
theorem SetEq.size {S S1:Setup} (h:SetEq S S1):sizeOf S1=sizeOf S:=by unfold sizeOf;rw [h.pl,h.nb]
theorem SetEq.setV {S S1:Setup} (h:SetEq S S1) (hV:SetV S):SetV S1:=by
 obtain ⟨e1,e2,_,_,_,_,_,_,_,_,e3,e4⟩:=h.nums
 exact ⟨by rw [e1];exact hV.pl,by rw [e2];exact hV.nb,by rw [e3];exact hV.ro,by rw [e4];exact hV.fu⟩
theorem TE2.eq {S S1:Setup} (h:SetEq S S1) {t:Int} {M:MemS} (hT:TE2 S t M):TE2 S1 t M:=⟨by rw [h.size];exact hT.len,hT.z,hT.t0⟩
theorem Ap {S S':Setup} (h:SetEq S S'):(S'.bods.drop S'.bo).map Bod.nm=(List.range S.nb).map λ k=>(S.body k).nm:=by
 rw [h.whole.1,List.drop_zero]
 apply List.ext_getElem?
 intro k
 by_cases hk:k < S.nb
 ·obtain ⟨A,c,e⟩:=h.bod k hk
  have hl:k < S'.bods.length:=by rw [h.whole.2];exact hk
  have e2:S'.bods[k]?=some (S'.body k):=by
   show _=some (S'.bods.getD (S'.bo+k) dB)
   rw [h.whole.1,Nat.zero_add,List.getD_eq_getElem?_getD,List.getElem?_eq_getElem hl];rfl
  rw [List.getElem?_map,e2,e]
  simp [hk]
  rfl
 ·rw [List.getElem?_eq_none (by rw [List.length_map,h.whole.2];omega),List.getElem?_eq_none (by simp;omega)]
theorem SetEq.nm2 {S S1 S2:Setup} (h1:SetEq S S1) (h2:SetEq S S2):S1.nm=S2.nm:=by
 have b1:=Ap h1
 have b2:=Ap h2
 obtain ⟨x1,x2,x3,x4,x5,x6,x7,x8,x9,x10,x11,x12⟩:=h1.nums
 obtain ⟨y1,y2,y3,y4,y5,y6,y7,y8,y9,y10,y11,y12⟩:=h2.nums
 unfold Setup.nm
 rw [b1,b2,x1,x2,x3,x4,x5,x6,x7,x8,x9,x10,x11,x12,y1,y2,y3,y4,y5,y6,y7,y8,y9,y10,y11,y12]
theorem IC {S1 S2:Setup} (h:S1.nm=S2.nm) (j:Nat × Int) (n:Nat) (xs:List Inp):GEq (f5 S1 j n xs) (f5 S2 j n xs):=by
 refine ⟨?_,λ k hk=>rfl⟩
 unfold Gm.nm
 simp only [h]
theorem yE {G G':Nat -> Gm} (h:∀ k,GEq (G k) (G' k)) (M:MemS):∀ k,ja G M k=ja G' M k
 | 0=>rfl
 | k+1=>by rw [ja,ja,yE h M k,Kh (h k)]
theorem FS {G G':Nat -> Gm} (h:∀ k,GEq (G k) (G' k)) (M:MemS):∀ k,t6 G M k=t6 G' M k
 | 0=>rfl
 | k+1=>by rw [t6,t6,FS h M k,yE h M k,Ki (h k)]
theorem FT {S S1 S2:Setup} (h1:SetEq S S1) (h2:SetEq S S2) (J:Nat -> Nat × Int) (xss:List (List Inp)):∀ k,GEq (rG S1 J xss k) (rG S2 J xss k):=λ k=>IC (h1.nm2 h2) _ _ _
theorem Lb {pl:Int} {n:Nat} {xs:List Inp} {now:Int} (h1:(n:Int)=pl) (h2:∀ k,k < n -> mX (xs.getD k dI)) (h3:now < 6000):cX pl n xs now=0:=by
 unfold cX
 rw [if_pos h1,if_pos h2,if_neg (by omega)]
theorem FU {S1:Setup} (hV:SetV S1) {t:Int} (ht:0 <= t /\ t <= 1000) {M:MemS} (hT:TE2 S1 t M) {xs:List Inp} (h1:(xs.length:Int)=S1.players) (h2:∀ k,k < xs.length -> mX (xs.getD k dI)) (j:Nat × Int):TkOk S1 j xs M /\ TE2 S1 (t+1) (oM (gu S1 j xs) M):=by
 obtain ⟨m,a1,a2,a3,_⟩:=MQ hV (g:=gu S1 j xs) rfl (by show S1.players <= (xs.length:Int);omega) ht hT
 have hb:=(qK hV).2
 refine ⟨⟨⟨m,by omega,a2⟩,by rw [hT.t0];exact ht.1,by rw [hT.t0];exact Lb h1 h2 (by omega)⟩,?_⟩
 rw [<- (Jy (by omega) a2).1]
 exact a3
def gL (pl:Int) (xs:List Inp):Prop:=(xs.length:Int)=pl /\ ∀ k,k < xs.length -> mX (xs.getD k dI)
theorem JB {S1:Setup} (hV:SetV S1) {M0:MemS} (hT:TE2 S1 0 M0) {xss:List (List Inp)} (J:Nat -> Nat × Int) (n:Nat) (hn:n <= 50) (hr:∀ i,i < n -> gL S1.players (xss.getD i [])):∀ i,i <= n -> TE2 S1 (i:Int) (ja (rG S1 J xss) M0 i)
 | 0,_=>hT
 | i+1,h=>by
  have ih:=JB hV hT J n hn hr i (by omega)
  have:=(FU hV (t:=(i:Int)) (by omega) ih (hr i (by omega)).1 (hr i (by omega)).2 (J i)).2
  rw [ja]
  exact_mod_cast this
theorem MR {S1:Setup} (hV:SetV S1) {M0:MemS} (hT:TE2 S1 0 M0) {xss:List (List Inp)} (J:Nat -> Nat × Int) (n:Nat) (hn:n <= 50) (hr:∀ i,i < n -> gL S1.players (xss.getD i [])) (i:Nat) (hi:i < n):TkOk S1 (J i) (xss.getD i []) (ja (rG S1 J xss) M0 i) :=
 (FU hV (t:=(i:Int)) (by omega) (JB hV hT J n hn hr i (by omega)) (hr i hi).1 (hr i hi).2 (J i)).1
theorem FV {n:Int} (h:0 <= n):mX (vz n):=by
 unfold mX vz
 dsimp only
 split <;> omega
theorem IE {F:HL} {A:Option Addr} {n:Nat} {xs:List Int} (hl:ArgL F A n xs) {pl:Int} (hp:0 <= pl) (t:Int):gL pl (rowL pl xs t pl.toNat):=by
 refine ⟨by rw [fh];omega,λ k hk=>?_⟩
 rw [fh] at hk
 rw [D7 hk]
 exact FV (Hz hl pl t k).1
theorem qL {F:HL} {A:Option Addr} {n:Nat} {xs:List Int} (hl:ArgL F A n xs) {pl:Int} (hp:0 <= pl) (cnt i:Nat) (hi:i < cnt):gL pl ((fH pl xs cnt).getD i []):=by
 rw [Ci hi]
 exact IE hl hp _
theorem yF {S S1:Setup} (hV:SetV S) (he:SetEq S S1):TE2 S1 0 ⟨aX S S.nb,[],0⟩:=(IB hV).eq he
section
variable {S S1:Setup} {rs_:List Bx} {ds_:List Dr} {bp n cap:Nat} {j:Nat × Int} {A:Option Addr} {rs:List Rw} {xss:List (List Inp)} {F:HL}
theorem FW (hS:SetIn F S) (hM:MapIn F S rs_ ds_) (hV:SetV S) (hrn:S.rn <= 1000000) (hdn:S.dn <= 1000000) (hsz:(sizeOf S).toNat <= 1000000) (hv:iu S rs_ ds_=0) (hj:j.1 < 5) (hA:∀ t,0 <= t -> AtOk F bp t j) (hE:cN F) (hr:RowL jJ 56 F A n rs) (hw:RwsIn F rs xss) (h9:n <= 9) (hrow:∀ i,i < n -> gL S.players (xss.getD i [])) (he:SetEq S S1) :
  Sp Tryz.prog 66 #[Setup.v S,vP bp 0,.slice A n cap] (ap [] []) F (λ u H'=>∃ x:(Nat × Option Addr × Nat) × HL,H'=ap [(x.1.1,.rows 1 (ja (rG S1 (λ _=>j) xss) ⟨aX S S.nb,[],0⟩ n).cs.length (aK (ja (rG S1 (λ _=>j) xss) ⟨aX S S.nb,[],0⟩ n).cs) 3 (0,0))] [x.2] /\
   (SlIs pQ 53 (t6 (rG S1 (λ _=>j) xss) ⟨aX S S.nb,[],0⟩ n) x.1.2.1 x.1.2.2 x.2 /\ u=.tuple #[vS x.1.1 0 (ja (rG S1 (λ _=>j) xss) ⟨aX S S.nb,[],0⟩ n).cs.length (ja (rG S1 (λ _=>j) xss) ⟨aX S S.nb,[],0⟩ n).cs.length,.slice x.1.2.1 (t6 (rG S1 (λ _=>j) xss) ⟨aX S S.nb,[],0⟩ n).length x.1.2.2,vI 0])):=by
 have hp:=hV.pl
 have htk:∀ S2,SetEq S S2 -> ∀ i,i < n -> TkOk S2 j (xss.getD i []) (ja (rG S2 (λ _=>j) xss) ⟨aX S S.nb,[],0⟩ i):=λ S2 h2 i hi=>MR (h2.setV hV) (yF hV h2) (λ _=>j) n (by omega) (λ i hi=>by rw [h2.pl];exact hrow i hi) i hi
 refine (Iu S rs_ ds_ bp n cap (λ _=>j) A rs xss F hS hM (by have:=hV.nb;omega) hrn hdn hsz hv hE hr hw (λ k hk=>by have:=(hrow k hk).1;omega) (by omega) (by omega) (λ S2 h2 i hi _=>⟨.inl (htk S2 h2 i hi),hj,hA _ (htk S2 h2 i hi).now⟩)).mono λ u H' h=>?_
 obtain ⟨⟨⟨S2,q,A2,c2⟩,C,E⟩,rfl,h2,h3⟩:=h
 dsimp only at h2 h3
 rcases h3 with ⟨_,h4,h5,h6⟩ | ⟨i,hi,_,h4,_⟩
 ·have e1:=yE (FT h2 he (λ _=>j) xss) ⟨aX S S.nb,[],0⟩ n
  have e2:=FS (FT h2 he (λ _=>j) xss) ⟨aX S S.nb,[],0⟩ n
  rw [e1] at h4 h6
  rw [e2] at h5 h6
  subst h4
  exact ⟨((q,A2,c2),E),by simp [ap],h5,h6⟩
 ·exact absurd (htk S2 h2 i hi).ok h4
end
theorem SlIs.rowN {α:Type} {e:Enc α} {T:TypeId} {l:List α} {A:Option Addr} {cap n:Nat} {Hl F:HL} (h:SlIs e T l A cap Hl) (hF:∀ x ∈ Hl,x ∈ F) (hn:l.length=n):RowL e T F A n l:=hn ▸ h.toRowL hF
theorem FX {n m k:Int} (e:au n m=k) (hm:0 < m) (F:HL):Sp Tryz.prog 11 #[vI n,vI m] [] F (λ u H'=>u=vI k /\ H'=[]):=e ▸ eJ n m (by omega) F
open Go.Shelf
theorem yG {cs vs:List Value} (h:cs.length=vs.length):iZ cs 0 vs=vs:=by
 apply List.ext_getElem?
 intro j
 rw [lW vs cs 0 (by omega) j]
 split
 ·rfl
 ·next h1=>rw [List.getElem?_eq_none (by omega),List.getElem?_eq_none (by omega)]
theorem m9 {b:Nat} {ty:TypeId} {fz:Nat × Nat}:∀ (vs:List Value) (o:Nat) (W:World) (cs:List Value),W.heap[b]?=some (Blk.lit cs ty fz).den -> (W.setCells b o vs).heap[b]?=some (Blk.lit (iZ cs o vs) ty fz).den
 | [],o,W,cs,h=>h
 | v :: r,o,W,cs,h=>by
  rw [World.setCells,iZ]
  have h1:=od (v:=v) (a:=⟨b,o,none⟩) rfl rfl h
  rw [gW] at h1
  exact m9 r (o+1) _ _ h1
theorem ne {b k:Nat} (hk:k ≠ b):∀ (vs:List Value) (o:Nat) (W:World),(W.setCells b o vs).heap[k]?=W.heap[k]?
 | [],_,_=>rfl
 | v :: r,o,W=>by
  rw [World.setCells,ne hk r (o+1)]
  exact Below.heap_setCell _ _ _ _ hk
def Lc (P:Program) (o:Oper) (L:FL):Option (Addr × Nat × Nat × Addr × Nat × Nat × TypeId × TypeId × TypeId):=match o.guard,o.op with
 | none,.call c=>match c.callee,c.args.toList,c.argTypes.toList with
  | .builtin .copy,[a1,a2],[t,tx]=>match mw L a1 && mw L a2,iW L a1,iW L a2 with
   | true,.slice (some d) n cap,.slice (some a) m c'=>match P.underlying t with
    | some (.slice T)=>some (d,n,cap,a,m,c',T,t,tx)
    | _=>none
   | _,_,_=>none
  | _,_,_=>none
 | _,_=>none
section
variable {r:Option Nat} {P:Program} {N:Nat} {D:List Deferred} {F:HL} {w0:World} {R:HL} {s:Cfg} {Q:Exit -> Act -> World -> Prop}
theorem Cp {o:Oper} {L:FL} {d:Addr} {n cap:Nat} {a:Addr} {m c':Nat} {T t tx:TypeId} (h:Lc P o L=some (d,n,cap,a,m,c',T,t,tx)) :
  ∃ a1 a2,o.guard=none /\ o.op=.call { callee:=.builtin .copy,args:=#[a1,a2],argTypes:=#[t,tx] } /\ (mw L a1 && mw L a2)=true /\ iW L a1=.slice (some d) n cap /\ iW L a2=.slice (some a) m c' /\ P.underlying t=some (.slice T):=by
 unfold Lc at h
 split at h
 case h_2=>cases h
 rename_i c hg hop
 split at h
 case h_2=>cases h
 rename_i a1 a2 t' tx' h1 h2 h3
 split at h
 case h_2=>cases h
 rename_i d' n' cap' a' m' c2 h4 h5 h6
 split at h
 case h_2=>cases h
 rename_i T' h7
 simp only [Option.some.injEq,Prod.mk.injEq] at h
 obtain ⟨e1,e2,e3,e4,e5,e6,e7,e8,e9⟩:=h
 subst e1;subst e2;subst e3;subst e4;subst e5;subst e6;subst e7;subst e8;subst e9
 refine ⟨a1,a2,hg,?_,h4,h5,h6,h7⟩
 obtain ⟨cal,args,ats⟩:=c
 simp only at h1 h2 h3
 subst h1
 have e1:args=#[a1,a2]:=by cases args;simp_all
 have e2:ats=#[t',tx']:=by cases ats;simp_all
 rw [hop,e1,e2]
def MS (P:Program) (N i:Nat) (oo:Option Oper) (s:Cfg):Option (Addr × Nat × Nat × Addr × Nat × Nat × TypeId × TypeId × TypeId × (Nat × Blk)):=match oo with
 | some o=>match Lc P o s.L,s.A[i]?,(fe N o.dst undef s.L).isSome with
  | some (d,n,cap,a,m,c',T,t,tx),some x,true=>some (d,n,cap,a,m,c',T,t,tx,x)
  | _,_,_=>none
 | none=>none
theorem RN.cpy (i:Nat) (X:Blk) {b n cap m c':Nat} {a:Addr} {T t tx ty:TypeId} {g:Nat -> Nat -> Value} (vs:List Value) (hl:vs.length=n) (hm:m=n) (h1:∀ v ∈ vs,v.oneCell'=true) (hsz:(P.info? T).map (·.size)=some 1)
  (hs:∀ w,Rel (ap s.A s.Ts++F) w -> ∀ j v,vs[j]?=some v -> w.cell? (a.add j)=some v)
  (hX:X.den=(Blk.lit vs ty (0,0)).den) (hk:RN r P N D F w0 R (LM i X (fK N (vI (n:Int)) s)) Q)
  (h:MS P N i (rf s) s=some (⟨b,0,none⟩,n,cap,a,m,c',T,t,tx,(b,.rows 1 n g ty (0,0))):=by kernel_rfl):RN r P N D F w0 R s Q:=by
 unfold MS at h
 split at h
 case h_2=>cases h
 rename_i o q0
 split at h
 case h_2=>cases h
 rename_i d' n' cap' a' m' c2 T' t' tx' x hv hx hp
 simp only [Option.some.injEq,Prod.mk.injEq] at h
 obtain ⟨e1,e2,e3,e4,e5,e6,e7,e8,e9,e10⟩:=h
 subst e1;subst e2;subst e3;subst e4;subst e5;subst e6;subst e7;subst e8;subst e9;subst e10
 obtain ⟨a1,a2,q1,q2,q3,q4,q5,q6⟩:=Cp hv
 refine ⟨λ hR aa w hF hRel hB=>?_⟩
 obtain ⟨c,k,L,Bs,Ts⟩:=s
 unfold rf at q0
 cases c with
 | code c=>cases q0
 | ex c=>cases q0
 | drw _ _=>cases q0
 | ops ops pc =>
  simp only at q0 q3 q4 q5 hx hp hF hRel hs
  have hdrop:ops.toList.drop pc=o :: ops.toList.drop (pc+1):=by
   have hlt:pc < ops.toList.length:=(List.getElem?_eq_some_iff.1 q0).1
   rw [List.drop_eq_getElem_cons hlt,(List.getElem?_eq_some_iff.1 q0).2]
  show wpListIn _ _ _ _ _ _ _ _
  rw [hdrop,wpListIn,if_pos (by simp [Region.wanted,q1])]
  refine ⟨λ _ _=>trivial,?_⟩
  subst hm
  have hx2:(ap Bs Ts)[i]?=some (b,Blk.rows 1 m' g ty (0,0)):=by
   show (Bs++Ts.flatten)[i]?=_
   rw [List.getElem?_append_left (List.getElem?_eq_some_iff.1 hx).1];exact hx
  have hblk:w.heap[b]?=some (Blk.lit (bz 1 g m') ty (0,0)).den:=hRel.holds (b,.rows 1 m' g ty (0,0)) (List.mem_append_left _ (List.mem_of_getElem? hx2))
  have hrl:(bz 1 g m').length=m':=by rw [cG];omega
  have key:eh P o aa w λ u w'=>u=vI (m':Int) /\ Rel (bm (ap Bs Ts) i (b,X)++F) w' /\ Below 0 w w':=by
   simp only [Bool.and_eq_true] at q3
   have e1:=(hF.eval q3.1).trans q4
   have e2:=(hF.eval q3.2).trans q5
   have hrun:=run_copy_cells (P:=P) w t' tx' o.type T' b 0 m' cap' a' m' c2 vs q6 hsz (by simp [hl]) (hs w hRel) (λ j hj=>by
     have hj2:j < (bz 1 g m').length:=by omega
     rw [Nat.zero_add,mA (v:=(bz 1 g m')[j]) hblk rfl rfl (by simp [hj2])];rfl) (λ j hj=>nj hblk rfl rfl) h1
   unfold eh
   have he:(execOp aa.eval o).run P w=.ok (.value (vI (m':Int))) (w.setCells b 0 vs):=by
    simp [execOp,q2,resolve,invoke,builtin,Sem.run_bind,e1,e2,hrun,goInt,hl]
   rw [he]
   refine ⟨rfl,?_,hO b vs 0 w⟩
   have hd:=m9 vs 0 w _ hblk
   rw [yG (by omega),<- hX] at hd
   exact hRel.upd hx2 hd (λ k hk=>ne hk vs 0 w)
  refine gZ (by rw [q2];intro c hc;cases hc) key ?_
  rintro u w' ⟨rfl,hR',hB'⟩
  obtain ⟨L',p1⟩:=eR hp (vI (m':Int))
  have hh:=hk.h hR
  have hpc:LM i X (fK N (vI (m':Int)) ⟨.ops ops pc,k,L,Bs,Ts⟩)=⟨.ops ops (pc+1),k,L',bm Bs i (b,X),Ts⟩:=by
   unfold fK
   simp only [q0,p1]
   unfold LM
   simp only [hx]
  rw [hpc] at hh
  refine hh _ w' (hF.put p1) ?_ (hB.trans hB')
  have e3:bm (ap Bs Ts) i (b,X)=ap (bm Bs i (b,X)) Ts:=by
   show bm (Bs++Ts.flatten) i _=bm Bs i _++Ts.flatten
   rw [gW,gW,List.set_append_left _ _ (List.getElem?_eq_some_iff.1 hx).1]
  rw [<- e3]
  exact hR'
end
end Go.Proofs.YtghjbimijeinfaaGreatDoor
