import Derived.Test.YtdppjkjbghbnjaaGreatDoorZ17
set_option maxHeartbeats 4000000
set_option maxRecDepth 100000
set_option linter.all false
namespace Go.Proofs.YtdppjkjbghbnjaaGreatDoor
open IntKind
open Go.RowKit
theorem pk{S:Setup}(hp:0 <= S.players){k:Int}(h:0 <= k /\ k<S.nb):af S k >= 0:=by
 unfold af;rw[if_neg (by omega),if_neg (by omega)];omega
theorem Hi.setMot{S:Setup}(hp:0 <= S.players){A M:MemS}(h:Hi S.players A M){t:Stp}(ht:t.S=S){k:Int}(hb:af S k >= 0)(m:Mot):Hi S.players A (dm t k m M):=by
 subst ht;unfold dm;exact(((h.setB hp hb (by omega) _).setB hp hb (by omega) _).setB hp hb (by omega) _).setB hp hb (by omega) _
theorem Jn{S:Setup}(hS:SetV S){t:Stp}(ht:t.S=S)(M:MemS):Hi S.players M (dK t M):=by
 have hp:0 <= S.players:=by have:=hS.pl;omega
 unfold dK;rw[ht];split
 ·next h1 =>
  split
  ·next h2 =>
   split
   ·have b1:=pk hp h1;have b2:=pk hp h2;unfold fE;rw[ht];exact(((((Hi.refl).setMot hp ht b1 _).setMot hp ht b2 _).setB hp b1 (by omega) _).setB hp b2 (by omega) _)
   ·exact .refl
  ·exact .refl
 ·exact .refl
theorem q4{S:Setup}(hS:SetV S){g:Gm}(hg:g.S=S){ins:Nat -> Inp}{M:MemS}(h:TV S ins M)(hp:M.get 1=4):Nx S ins M ⟨bH (g.step M) M,0,bB,false⟩:=by
 have hpl:=hS.pl;have VF:=hS.nb;have Sh:=hS.ro;have hc:0 <= M.get 4 /\ M.get 4 <= S.rounds /\ (2 <= (S.nb:Int) -> 0 <= M.get 2 /\ M.get 2<M.get 3 /\ M.get 3<S.nb /\ (M.get 4=S.rounds -> M.get 2=0 /\ M.get 3=1)):=by rcases h.ct with h|h|h|h|h|h|h|h <;> omega
 have hl:=h.l48 hS;have hh:=Jn hS (t:=g.step M) hg M;have fin:nz S M>l5 S.nb 0 0 -> Nx S ins M ⟨(aL (g.step M) 5 0 M).set 5 1024,0,bB,false⟩:=λ iN=>by
  refine iu hS h (by omega) ((Hi.refl (P:=S.players)).kp (by omega)) ((aN _ _ _).trans (f6 _ _ _)) (p:=5) (i:=0) (j:=0) (q:=M.get 4) (x:=1024) (fu:=M.get 8) (λ k=>?_) rfl ((Hi.refl (P:=S.players)).ef (by omega)) (.inr (.inr (.inr (.inr (.inr (.inl ⟨rfl,by omega,by omega,by omega,by omega⟩)))))) (by omega) iN;rw[bX (by rw[f6];exact hl) (by omega) (by omega),ke hl]
  by_cases k5:k=5
  ·subst k5;simp
  ·rw[if_neg k5]
   by_cases k1:k=1
   ·subst k1;simp
   by_cases k2:k=2
   ·subst k2;simp
   by_cases k3:k=3
   ·subst k3;simp
   by_cases k4:k=4
   ·subst k4;simp
   simp[k1,k2,k3,k4,k5]
 have e4l:nz S M=l4 S.nb S.rounds (M.get 2) (M.get 3) (M.get 4):=by unfold nz;rw[hp];rfl
 unfold bH;show Nx S ins M ⟨if (g.S.nb:Int)<2 then _ else if M.get 4 >= g.S.rounds then _ else _,0,bB,false⟩;rw[hg];split
 ·next h2=>exact fin (by rw[e4l];unfold l4;rw[if_pos h2];omega)
 split
 ·next h2 h3 =>
  refine fin ?_;have e:M.get 4=S.rounds:=by omega
  obtain⟨c1,c2,c3,c4⟩:=hc.2.2 (by omega);obtain⟨d1,d2⟩:=c4 e;rw[e4l,e,d1,d2];unfold l4;rw[if_neg (by omega),Int.sub_self,Int.zero_mul];show _>_;unfold MG;simp only[if_true];omega
 next h2 h3 =>
 obtain⟨c1,c2,c3,-⟩:=hc.2.2 (by omega);show Nx S ins M ⟨(((dK (g.step M) M).set 4 (dz (M.get 2) (M.get 3) g.S.nb (M.get 4)).1).set 2 (dz (M.get 2) (M.get 3) g.S.nb (M.get 4)).2.1).set 3 (dz (M.get 2) (M.get 3) g.S.nb (M.get 4)).2.2,0,bB,false⟩;rw[hg];generalize dK (g.step M) M=N at *;have Sa:48 <= N.cs.length:=by rw[hh.len];exact hl
 have e1:=hh.get 1 (by omega);have e5:=hh.get 5 (by omega);have e8:=hh.get 8 (by omega);have hq:(0 <= (dz (M.get 2) (M.get 3) S.nb (M.get 4)).1 /\ (dz (M.get 2) (M.get 3) S.nb (M.get 4)).1 <= S.rounds) /\ (0 <= (dz (M.get 2) (M.get 3) S.nb (M.get 4)).2.1 /\ (dz (M.get 2) (M.get 3) S.nb (M.get 4)).2.1<(dz (M.get 2) (M.get 3) S.nb (M.get 4)).2.2 /\ (dz (M.get 2) (M.get 3) S.nb (M.get 4)).2.2<S.nb /\ ((dz (M.get 2) (M.get 3) S.nb (M.get 4)).1=S.rounds -> (dz (M.get 2) (M.get 3) S.nb (M.get 4)).2.1=0 /\ (dz (M.get 2) (M.get 3) S.nb (M.get 4)).2.2=1)) /\
   l4 S.nb S.rounds (dz (M.get 2) (M.get 3) S.nb (M.get 4)).2.1 (dz (M.get 2) (M.get 3) S.nb (M.get 4)).2.2 (dz (M.get 2) (M.get 3) S.nb (M.get 4)).1<l4 S.nb S.rounds (M.get 2) (M.get 3) (M.get 4):=by
  have hn2:(2:Int) <= S.nb /\ (S.nb:Int) <= 5:=by omega
  have UT:M.get 4<S.rounds:=by omega
  have hq0:=hc.1;unfold dz;rw[dg (by omega),dg (by omega),dg (by omega),dg (by omega)];clear e1 e5 e8 e4l fin hc h;generalize M.get 2=i at *;generalize M.get 3=j at *;generalize M.get 4=q at *;generalize S.rounds=R at *;generalize (S.nb:Int)=n at *;split
  ·simp only;refine⟨⟨by omega,by omega⟩,⟨by omega,by omega,by omega,λ e=>by omega⟩,?_⟩;unfold l4;rw[if_neg (by omega),if_neg (by omega)];omega
  ·split
   ·refine⟨⟨by simp only;omega,by simp only;omega⟩,⟨by simp only;omega,by simp only;omega,by simp only;omega,λ e=>by simp only at e;omega⟩,?_⟩;simp only;unfold l4 MG Ou;obtain h|h|h|h:n=2 \/ n=3 \/ n=4 \/ n=5:=by omega
    all_goals subst h
    all_goals (have:i=0 \/ i=1 \/ i=2:=by omega)
    all_goals (rcases this with rfl|rfl|rfl)
    all_goals first|omega|(simp;omega)
   ·refine⟨⟨by simp only;omega,by simp only;omega⟩,⟨by simp only;omega,by simp only;omega,by simp only;omega,λ e=>⟨rfl,rfl⟩⟩,?_⟩;simp only;unfold l4 MG Ou;obtain h|h|h|h:n=2 \/ n=3 \/ n=4 \/ n=5:=by omega
    all_goals subst h
    all_goals (have:i=0 \/ i=1 \/ i=2 \/ i=3:=by omega)
    all_goals (rcases this with rfl|rfl|rfl|rfl)
    all_goals first|omega|(simp;omega)
 generalize dz (M.get 2) (M.get 3) S.nb (M.get 4)=z at *;refine iu hS h (by omega) (hh.kp (by omega)) (by simp only[aN]) (p:=4) (i:=z.2.1) (j:=z.2.2) (q:=z.1) (x:=N.get 5) (λ k=>?_) e8 (hh.ef (by omega)) (.inr (.inr (.inr (.inr (.inl ⟨rfl,hq.1.1,hq.1.2,λ _=>hq.2.1⟩))))) (by omega) (by rw[e4l];exact hq.2.2);rw[bX (by simp only[aN];exact Sa) (by omega) (by omega),bX (by simp only[aN];exact Sa) (by omega) (by omega),bX Sa (by omega) (by omega)]
 by_cases k1:k=1
 ·subst k1;simp;omega
 by_cases k2:k=2
 ·subst k2;simp
 by_cases k3:k=3
 ·subst k3;simp
 by_cases k4:k=4
 ·subst k4;simp
 by_cases k5:k=5
 ·subst k5;simp
 simp[k1,k2,k3,k4,k5]
theorem yY{S:Setup}(hp:0 <= S.players){A M:MemS}(h:Hi S.players A M){t:Stp}{k c d:Int}(hb:af S k >= 0)(hc:0 <= c)(hd:0 <= d)(pos lo hi:Int):Hi S.players A (dQ t (af S k+c) (af S k+d) pos lo hi M):=by
 unfold dQ;split
 ·exact h.setB hp hb hc _
 ·exact(h.setB hp hb hc _).setB hp hb hd _
theorem E6{S:Setup}(hp:0 <= S.players){t:Stp}(ht:t.S=S)(M:MemS)(hb:af S t.i >= 0):Hi S.players M (cW t M):=by
 subst ht;unfold cW;exact yY hp (yY hp .refl hb (by omega) (by omega) _ _ _) hb (by omega) (by omega) _ _ _
theorem Jo(t:Stp){M:MemS}(hl:48 <= M.cs.length)(k:Int):(eL t M).get k=(if k=5 then (eL t M).get 5 else M.get k) /\ (eL t M).cs.length=M.cs.length:=by
 have id5:M.get k=if k=5 then M.get 5 else M.get k:=by
  by_cases e:k=5
  ·rw[if_pos e,e]
  ·rw[if_neg e]
 unfold eL;split
 ·exact⟨id5,rfl⟩
 ·split
  ·split
   ·refine⟨?_,aN _ _ _⟩;rw[bX hl (by omega) (by omega),bX hl (by omega) (by omega)];split <;> simp
   ·exact⟨id5,rfl⟩
  ·exact⟨id5,rfl⟩
theorem q5{S:Setup}(hS:SetV S){g:Gm}(hg:g.S=S){ins:Nat -> Inp}{M:MemS}(h:TV S ins M)(hp:M.get 1=5):Nx S ins M ⟨dP (g.step M) M,0,bB,false⟩:=by
 have hpl:=hS.pl;have VF:=hS.nb;have Sh:=hS.ro;have hc:(0 <= M.get 2 /\ M.get 2<S.nb) /\ 0 <= M.get 3 /\ M.get 3 <= S.nb:=by rcases h.ct with h|h|h|h|h|h|h|h <;> omega
 have hl:=h.l48 hS;have e5l:nz S M=l5 S.nb (M.get 2) (M.get 3):=by unfold nz;rw[hp];rfl
 unfold dP;show Nx S ins M ⟨if 0 <= M.get 3 /\ M.get 3<g.S.nb then (eL (g.step M) M).set 3 (bd (M.get 3+1)) else fF (g.step M) (if movP g.S (M.get 2) then cW (g.step M) M else M),0,bB,false⟩;rw[hg];split
 ·next hj =>
  rw[dg (by omega)];have ht:=Jo (g.step M) hl;refine iu hS h (by omega) ((Hi.refl (P:=S.players)).kp (by omega)) ((aN _ _ _).trans (ht 0).2) (p:=5) (i:=M.get 2) (j:=M.get 3+1) (q:=M.get 4) (x:=(eL (g.step M) M).get 5) (fu:=M.get 8) (λ k=>?_) rfl ((Hi.refl (P:=S.players)).ef (by omega)) (.inr (.inr (.inr (.inr (.inr (.inl ⟨rfl,by omega,by omega,by omega,by omega⟩)))))) (by omega) ?_
  ·rw[bX (by rw[(ht 0).2];exact hl) (by omega) (by omega),(ht k).1]
   by_cases k1:k=1
   ·subst k1;simp;omega
   by_cases k2:k=2
   ·subst k2;simp
   by_cases k3:k=3
   ·subst k3;simp
   by_cases k4:k=4
   ·subst k4;simp
   by_cases k5:k=5
   ·subst k5;simp
   simp[k1,k2,k3,k4,k5]
  ·rw[e5l];show l5 S.nb (M.get 2) (M.get 3+1)<_;unfold l5;omega
 ·next hj =>
  have ej:M.get 3=S.nb:=by omega
  have hh:Hi S.players M (if movP S (M.get 2) then cW (g.step M) M else M):=by
   split
   ·next hm=>exact E6 (by omega) hg M (pk (by omega) hc.1)
   ·exact .refl
  generalize (if movP S (M.get 2) then cW (g.step M) M else M)=N at *;have Sa:48 <= N.cs.length:=by rw[hh.len];exact hl
  have e1:=hh.get 1 (by omega);have e4:=hh.get 4 (by omega);have e8:=hh.get 8 (by omega);unfold fF;show Nx S ins M ⟨if bd (M.get 2+1)<g.S.nb then ((N.set 2 (bd (M.get 2+1))).set 3 0).set 5 1024 else (aL (g.step M) 6 0 N).set 5 0,0,bB,false⟩;rw[dg (by omega),hg];split
  ·refine iu hS h (by omega) (hh.kp (by omega)) (by simp only[aN]) (p:=5) (i:=M.get 2+1) (j:=0) (q:=N.get 4) (x:=1024) (λ k=>?_) e8 (hh.ef (by omega)) (.inr (.inr (.inr (.inr (.inr (.inl ⟨rfl,by omega,by omega,by omega,by omega⟩)))))) (by omega) ?_
   ·rw[bX (by simp only[aN];exact Sa) (by omega) (by omega),bX (by simp only[aN];exact Sa) (by omega) (by omega),bX Sa (by omega) (by omega)]
    by_cases k1:k=1
    ·subst k1;simp;omega
    by_cases k2:k=2
    ·subst k2;simp
    by_cases k3:k=3
    ·subst k3;simp
    by_cases k4:k=4
    ·subst k4;simp
    by_cases k5:k=5
    ·subst k5;simp
    simp[k1,k2,k3,k4,k5]
   ·rw[e5l,ej];show l5 S.nb (M.get 2+1) 0<_;unfold l5;generalize M.get 2=i at *;obtain h|h|h|h|h:(S.nb:Int)=1 \/ (S.nb:Int)=2 \/ (S.nb:Int)=3 \/ (S.nb:Int)=4 \/ (S.nb:Int)=5:=by omega
    all_goals rw[h];omega
  ·refine iu hS h (by omega) (hh.kp (by omega)) ((aN _ _ _).trans (f6 _ _ _)) (p:=6) (i:=0) (j:=0) (q:=N.get 4) (x:=0) (λ k=>?_) e8 (hh.ef (by omega)) (.inr (.inr (.inr (.inr (.inr (.inr (.inl ⟨rfl,by omega,by omega,.inl rfl⟩))))))) (by omega) ?_
   ·rw[bX (by rw[f6];exact Sa) (by omega) (by omega),ke Sa]
    by_cases k1:k=1
    ·subst k1;simp
    by_cases k2:k=2
    ·subst k2;simp
    by_cases k3:k=3
    ·subst k3;simp
    by_cases k4:k=4
    ·subst k4;simp
    by_cases k5:k=5
    ·subst k5;simp
    simp[k1,k2,k3,k4,k5]
   ·rw[e5l,ej];show l6 S.nb 0 0 _<_;unfold l5 l6;generalize M.get 2=i at *;obtain h|h|h|h|h:(S.nb:Int)=1 \/ (S.nb:Int)=2 \/ (S.nb:Int)=3 \/ (S.nb:Int)=4 \/ (S.nb:Int)=5:=by omega
    all_goals rw[h];simp;omega
theorem yZ{P:Int}{M:MemS}{e fu a b:Int}(hl:48 <= M.cs.length)(he:¬ e<0):Kp P M (aM e fu a b M) /\ (aM e fu a b M).get 8=fu /\ (aM e fu a b M).get 11=M.get 11:=by
 unfold aM;rw[if_neg he];refine⟨(((((Kp.refl).set (by omega) _).set (by omega) _).set (by omega) _).set (by omega) _).set (by omega) _,?_,?_⟩
 ·rw[bD (by decide),bD (by decide),jC (by simp only[aN];omega)]
 ·rw[bD (by decide),bD (by decide),bD (by decide),bD (by decide),bD (by decide)]
theorem CP{S:Setup}(hS:SetV S){g:Gm}(hg:g.S=S){ins:Nat -> Inp}{M:MemS}(h:TV S ins M){p:Int}(hp:M.get 1=p)(hp1:1 <= p)(e a o:Int)(c:Bool)(hi:0 <= M.get 2 /\ M.get 2 <= 5)(hj:M.get 3=0 \/ (M.get 3=1 /\ 0 <= M.get 8 /\ M.get 8 <= 60))
  (hc0:∀fu,OP S.players S.nb S.rounds p (M.get 2+1) 0 (M.get 4) fu) (hc1:∀fu,0 <= fu -> fu <= 60 -> OP S.players S.nb S.rounds p (M.get 2) 1 (M.get 4) fu)
  (l0:∀f f',FD S.players S.nb S.rounds p (M.get 2+1) 0 (M.get 4) f<FD S.players S.nb S.rounds p (M.get 2) 0 (M.get 4) f') (l1:∀f fu,fu <= 60 -> FD S.players S.nb S.rounds p (M.get 2) 1 (M.get 4) fu<FD S.players S.nb S.rounds p (M.get 2) 0 (M.get 4) f)
  (l2:∀f f',0 <= f' -> FD S.players S.nb S.rounds p (M.get 2+1) 0 (M.get 4) f<FD S.players S.nb S.rounds p (M.get 2) 1 (M.get 4) f') (l3:∀f,FD S.players S.nb S.rounds p (M.get 2) 1 (M.get 4) (f-1)<FD S.players S.nb S.rounds p (M.get 2) 1 (M.get 4) f) :
  Nx S ins M (dw (eK e (g.step M) a o M) (dE e (g.step M) a o M) (g.step M) c M).z:=by
 have hl:=h.l48 hS;have hpl:=hS.pl;have ZK:0 <= M.get 11 /\ M.get 11 <= 40:=by
  rcases h.ec with e|e
  ·have:=e.1;omega
  ·exact e
 have skip:M.get 3=0 -> Nx S ins M ⟨M.set 2 (bd (M.get 2+1)),0,bB,false⟩:=λ SQ=>by
  rw[dg (by omega)];refine iu hS h (by omega) ((Hi.refl (P:=S.players)).kp (by omega)) (aN _ _ _) (p:=M.get 1) (i:=M.get 2+1) (j:=M.get 3) (q:=M.get 4) (x:=M.get 5) (fu:=M.get 8) (λ k=>Rz (f:=M.get) (bX hl (by omega) (by omega) k).symm) rfl ((Hi.refl (P:=S.players)).ef (by omega)) ?_ (by omega) ?_
  ·rw[hp,SQ];exact hc0 _
  ·unfold nz;rw[hp,SQ];exact l0 _ _
 unfold dw eK dE;show Nx S ins M (VR.z (if M.get 3=0 then _ else _))
 by_cases SQ:M.get 3=0
 ·rw[if_pos SQ];cases c with
  | false=>exact skip SQ
  | true =>
   rw[if_pos rfl]
   by_cases he:e<0
   ·show Nx S ins M (VR.z (if (if M.get 3=0 then decide (e<0) else _)=true then _ else _));rw[if_pos SQ,if_pos (by simpa using he)];show Nx S ins M ⟨(if M.get 3=0 then (if e<0 then (⟨aM e _ a o M,0,_,_⟩:VR) else _) else _).M.set 2 _,0,(if M.get 3=0 then (if e<0 then (⟨aM e _ a o M,0,_,_⟩:VR) else _) else _).e,(if M.get 3=0 then (if e<0 then (⟨aM e _ a o M,0,_,_⟩:VR) else _) else _).em⟩;rw[if_pos SQ,if_pos he];show Nx S ins M ⟨(aM e _ a o M).set 2 _,0,bB,false⟩;rw[show aM e g.S.fuel a o M=M by unfold aM;rw[if_pos he]];exact skip SQ
   ·show Nx S ins M (VR.z (if (if M.get 3=0 then decide (e<0) else _)=true then _ else _));rw[if_pos SQ,if_neg (by simpa using he)];show Nx S ins M ⟨(if M.get 3=0 then (if e<0 then _ else (⟨(aM e g.S.fuel a o M).set 3 1,0,bB,false⟩:VR)) else _).M,0,(if M.get 3=0 then (if e<0 then _ else (⟨(aM e g.S.fuel a o M).set 3 1,0,bB,false⟩:VR)) else _).e,(if M.get 3=0 then (if e<0 then _ else (⟨(aM e g.S.fuel a o M).set 3 1,0,bB,false⟩:VR)) else _).em⟩;rw[if_pos SQ,if_neg he,hg];obtain⟨s1,s2,s3⟩:=yZ (P:=S.players) (M:=M) (fu:=S.fuel) (a:=a) (b:=o) hl he;generalize aM e S.fuel a o M=N at *;have Sa:48 <= N.cs.length:=by rw[s1.len];exact hl
    refine iu hS h (by omega) s1 (aN _ _ _) (p:=p) (i:=M.get 2) (j:=1) (q:=M.get 4) (x:=M.get 5) (fu:=S.fuel) (λ k=>?_) s2 ⟨λ h=>by simp at h,λ _=>s3⟩ ?_ (by omega) ?_
    ·rw[bX Sa (by omega) (by omega)];have n1:=s1.get 1 (by omega);have n2:=s1.get 2 (by omega);have n4:=s1.get 4 (by omega);have n5:=s1.get 5 (by omega)
     by_cases k1:k=1
     ·subst k1;simp;omega
     by_cases k2:k=2
     ·subst k2;simp;omega
     by_cases k3:k=3
     ·subst k3;simp
     by_cases k4:k=4
     ·subst k4;simp;omega
     by_cases k5:k=5
     ·subst k5;simp;omega
     simp[k1,k2,k3,k4,k5]
    ·exact hc1 S.fuel hS.fu.1 hS.fu.2
    ·unfold nz;rw[hp,SQ];exact l1 _ _ hS.fu.2
 ·rw[if_neg SQ];obtain⟨XD,hf⟩:M.get 3=1 /\ (0 <= M.get 8 /\ M.get 8 <= 60):=by omega
  obtain⟨s1,s2,s3⟩:=yX hS (M:=M) (code:=g.code) (n:=g.cn) hl ZK hf;show Nx S ins M (VR.z (if (if M.get 3=0 then _ else bz g.code g.cn M)=true then _ else _));rw[if_neg SQ];show Nx S ins M (VR.z (if bz g.code g.cn M=true then ⟨((if M.get 3=0 then _ else (⟨(ak g.S g.code g.cn M).M,0,(ak g.S g.code g.cn M).e,(ak g.S g.code g.cn M).em⟩:VR)).M.set 3 0).set 2 _,0,(if M.get 3=0 then _ else (⟨(ak g.S g.code g.cn M).M,0,(ak g.S g.code g.cn M).e,(ak g.S g.code g.cn M).em⟩:VR)).e,(if M.get 3=0 then _ else (⟨(ak g.S g.code g.cn M).M,0,(ak g.S g.code g.cn M).e,(ak g.S g.code g.cn M).em⟩:VR)).em⟩ else ⟨(if M.get 3=0 then _ else (⟨(ak g.S g.code g.cn M).M,0,(ak g.S g.code g.cn M).e,(ak g.S g.code g.cn M).em⟩:VR)).M,0,(if M.get 3=0 then _ else (⟨(ak g.S g.code g.cn M).M,0,(ak g.S g.code g.cn M).e,(ak g.S g.code g.cn M).em⟩:VR)).e,(if M.get 3=0 then _ else (⟨(ak g.S g.code g.cn M).M,0,(ak g.S g.code g.cn M).e,(ak g.S g.code g.cn M).em⟩:VR)).em⟩));rw[if_neg SQ,hg];generalize ak S g.code g.cn M=r at *;have Sa:48 <= r.M.cs.length:=by rw[s1.len];exact hl
  have n1:=s1.get 1 (by omega);have n2:=s1.get 2 (by omega);have n3:=s1.get 3 (by omega);have n4:=s1.get 4 (by omega);have n5:=s1.get 5 (by omega)
  by_cases he:bz g.code g.cn M=true
  ·rw[if_pos he];show Nx S ins M ⟨(r.M.set 3 0).set 2 (bd (M.get 2+1)),0,r.e,r.em⟩;rw[dg (by omega)];refine iu hS h (by omega) s1 (by simp only[aN]) (p:=p) (i:=M.get 2+1) (j:=0) (q:=M.get 4) (x:=M.get 5) (fu:=r.M.get 8) (λ k=>?_) rfl ⟨s2.yes,s2.no⟩ (hc0 _) (by omega) ?_
   ·rw[bX (by simp only[aN];exact Sa) (by omega) (by omega),bX Sa (by omega) (by omega)]
    by_cases k1:k=1
    ·subst k1;simp;omega
    by_cases k2:k=2
    ·subst k2;simp
    by_cases k3:k=3
    ·subst k3;simp
    by_cases k4:k=4
    ·subst k4;simp;omega
    by_cases k5:k=5
    ·subst k5;simp;omega
    simp[k1,k2,k3,k4,k5]
   ·unfold nz;rw[hp,XD];exact l2 _ _ hf.1
  ·rw[if_neg he];show Nx S ins M ⟨r.M,0,r.e,r.em⟩;rcases s3 with ⟨s4,s5,s6⟩|⟨s4,s5,s6⟩
   ·refine iu hS h (by omega) s1 rfl (p:=p) (i:=M.get 2) (j:=1) (q:=M.get 4) (x:=M.get 5) (fu:=M.get 8-1) (λ k=>?_) s5 ⟨s2.yes,s2.no⟩ (hc1 _ (by omega) (by omega)) (by omega) ?_
    ·show r.M.get k=_
     by_cases k1:k=1
     ·subst k1;simp;omega
     by_cases k2:k=2
     ·subst k2;simp;omega
     by_cases k3:k=3
     ·subst k3;simp;omega
     by_cases k4:k=4
     ·subst k4;simp;omega
     by_cases k5:k=5
     ·subst k5;simp;omega
     simp[k1,k2,k3,k4,k5]
    ·unfold nz;rw[hp,XD];exact l3 _
   ·exact absurd s5 he
theorem Jp{S:Setup}(hS:SetV S){g:Gm}{ins:Nat -> Inp}{M:MemS}(h:TV S ins M)(h1:1 <= M.get 1){p:Int}(hc:OP S.players S.nb S.rounds p 0 0 (M.get 4) (M.get 8))(hp:M.get 1 <= p)(hl:FD S.players S.nb S.rounds p 0 0 (M.get 4) (M.get 8)<nz S M) :
  Nx S ins M ⟨aL (g.step M) p 0 M,0,bB,false⟩:=by
 have af6:=h.l48 hS;have hpl:=hS.pl;refine iu hS h h1 ((Hi.refl (P:=S.players)).kp (by omega)) (f6 (g.step M) _ _) (p:=p) (i:=0) (j:=0) (q:=M.get 4) (x:=M.get 5) (fu:=M.get 8) (λ k=>?_) rfl ((Hi.refl (P:=S.players)).ef (by omega)) hc hp hl;exact if5 (f:=M.get) (ke af6 (g.step M) _ _ k).symm rfl rfl
theorem q1{S:Setup}(hS:SetV S){g:Gm}(hg:g.S=S){ins:Nat -> Inp}{M:MemS}(h:TV S ins M)(hp:M.get 1=1):Nx S ins M (eV (g.step M) M):=by
 have hpl:=hS.pl;have VF:=hS.nb;have Sh:=hS.ro;have hc:0 <= M.get 2 /\ M.get 2 <= S.players /\ (M.get 3=0 \/ (M.get 3=1 /\ M.get 2<S.players /\ 0 <= M.get 8 /\ M.get 8 <= 60)):=by rcases h.ct with h|h|h|h|h|h|h|h <;> omega
 unfold eV;show Nx S ins M (if ah g.S (M.get 2)<0 then ⟨aL (g.step M) 2 0 M,0,bB,false⟩ else _);rw[hg];rcases uw (S:=S) (M.get 2) with ⟨e,e2⟩|⟨e1,e2,e3⟩
 ·rw[e,if_pos (by decide)];have ei:M.get 2=S.players:=by omega
  refine Jp hS h (by omega) (.inr (.inr (.inl ⟨rfl,.inl rfl⟩))) (by omega) ?_;unfold nz;rw[hp];show l2 _ _ 0 _<l1 _ _ _ (M.get 2) (M.get 3) (M.get 8);have:M.get 3=0:=by omega
  rw[this,ei];unfold l1 l2;simp;omega
 ·rw[if_neg (by omega)];refine CP hS hg h hp (by omega) g.e0 (M.get 2) _ _ (by omega) (by omega) (λ fu=>.inr (.inl ⟨rfl,by omega,by omega,.inl rfl⟩)) (λ fu f0 f1=>.inr (.inl ⟨rfl,by omega,by omega,.inr ⟨rfl,by omega,f0,f1⟩⟩)) (λ f f'=>?_) (λ f fu hfu=>?_) (λ f f' hf=>?_) (λ f=>?_)
  all_goals (show l1 _ _ _ _ _ _<l1 _ _ _ _ _ _;unfold l1;simp;omega)
theorem q6{S:Setup}(hS:SetV S){g:Gm}(hg:g.S=S){ins:Nat -> Inp}{M:MemS}(h:TV S ins M)(hp:M.get 1=6):Nx S ins M (eX (g.step M) M):=by
 have hpl:=hS.pl;have VF:=hS.nb;have Sh:=hS.ro;have hc:0 <= M.get 2 /\ M.get 2 <= S.nb /\ (M.get 3=0 \/ (M.get 3=1 /\ M.get 2<S.nb /\ 0 <= M.get 8 /\ M.get 8 <= 60)):=by rcases h.ct with h|h|h|h|h|h|h|h <;> omega
 unfold eX;show Nx S ins M (if af g.S (M.get 2)<0 then ⟨aL (g.step M) 7 0 M,0,bB,false⟩ else _);rw[hg]
 by_cases hb:af S (M.get 2)<0
 ·rw[if_pos hb];have ei:M.get 2=S.nb:=by
   unfold af at hb;rw[if_neg (by omega)] at hb;split at hb <;> omega
  refine Jp hS h (by omega) (.inr (.inr (.inr (.inr (.inr (.inr (.inr ⟨rfl,by omega,by omega⟩))))))) (by omega) ?_;unfold nz;rw[hp];show (S.nb:Int)-0<l6 _ (M.get 2) (M.get 3) (M.get 8);have:M.get 3=0:=by omega
  rw[this,ei];unfold l6;simp;omega
 ·rw[if_neg hb];have hi:M.get 2<S.nb:=by
   rcases ol (S:=S) (by omega) (M.get 2) with e|⟨_,e,_⟩ <;> omega
  refine CP hS hg h hp (by omega) g.e2 (M.get 2) _ _ (by omega) (by omega) (λ fu=>.inr (.inr (.inr (.inr (.inr (.inr (.inl ⟨rfl,by omega,by omega,.inl rfl⟩))))))) (λ fu f0 f1=>.inr (.inr (.inr (.inr (.inr (.inr (.inl ⟨rfl,by omega,by omega,.inr ⟨rfl,by omega,f0,f1⟩⟩))))))) (λ f f'=>?_) (λ f fu hfu=>?_) (λ f f' hf=>?_) (λ f=>?_)
  all_goals (show l6 _ _ _ _<l6 _ _ _ _;unfold l6;simp;omega)
theorem q2{S:Setup}(hS:SetV S){g:Gm}(hg:g.S=S){ins:Nat -> Inp}{M:MemS}(h:TV S ins M)(hp:M.get 1=2):Nx S ins M (cT (g.step M) M):=by
 have hpl:=hS.pl;have VF:=hS.nb;have Sh:=hS.ro;have hl:=h.l48 hS;have ZK:0 <= M.get 11 /\ M.get 11 <= 40:=by
  rcases h.ec with e|e
  ·have:=e.1;omega
  ·exact e
 have hj:M.get 3=0 \/ (M.get 3=1 /\ 0 <= M.get 8 /\ M.get 8 <= 60):=by rcases h.ct with h|h|h|h|h|h|h|h <;> omega
 have done:∀ (N:MemS) (e:Eff) (em:Bool),Kp S.players M N -> Ef M ⟨N,0,e,em⟩ -> Nx S ins M ⟨aL (g.step M) 3 0 N,0,e,em⟩:=λ N e em hN hE=>by
  have Sa:48 <= N.cs.length:=by rw[hN.len];exact hl
  refine iu hS h (by omega) hN (f6 (g.step M) _ _) (p:=3) (i:=0) (j:=0) (q:=N.get 4) (x:=N.get 5) (fu:=N.get 8) (λ k=>if5 (f:=N.get) (ke Sa (g.step M) _ _ k).symm rfl rfl) rfl ⟨hE.yes,hE.no⟩ (.inr (.inr (.inr (.inl ⟨rfl,by omega,by omega⟩)))) (by omega) ?_;unfold nz;rw[hp];show l3 _ _ 0<l2 _ _ (M.get 3) (M.get 8);unfold l2;split <;> omega
 unfold cT di jR eK dE;show Nx S ins M (if (if M.get 3=0 then decide (g.e1<0) else bz g.code g.cn M)=true then ⟨aL (g.step M) 3 0 (if M.get 3=0 then (if g.e1<0 then (⟨aM g.e1 g.S.fuel 0 0 M,0,bB,false⟩:VR) else ⟨(aM g.e1 g.S.fuel 0 0 M).set 3 1,0,bB,false⟩) else ⟨(ak g.S g.code g.cn M).M,0,(ak g.S g.code g.cn M).e,(ak g.S g.code g.cn M).em⟩).M,0,(if M.get 3=0 then (if g.e1<0 then (⟨aM g.e1 g.S.fuel 0 0 M,0,bB,false⟩:VR) else ⟨(aM g.e1 g.S.fuel 0 0 M).set 3 1,0,bB,false⟩) else ⟨(ak g.S g.code g.cn M).M,0,(ak g.S g.code g.cn M).e,(ak g.S g.code g.cn M).em⟩).e,(if M.get 3=0 then (if g.e1<0 then (⟨aM g.e1 g.S.fuel 0 0 M,0,bB,false⟩:VR) else ⟨(aM g.e1 g.S.fuel 0 0 M).set 3 1,0,bB,false⟩) else ⟨(ak g.S g.code g.cn M).M,0,(ak g.S g.code g.cn M).e,(ak g.S g.code g.cn M).em⟩).em⟩
  else ⟨(if M.get 3=0 then (if g.e1<0 then (⟨aM g.e1 g.S.fuel 0 0 M,0,bB,false⟩:VR) else ⟨(aM g.e1 g.S.fuel 0 0 M).set 3 1,0,bB,false⟩) else ⟨(ak g.S g.code g.cn M).M,0,(ak g.S g.code g.cn M).e,(ak g.S g.code g.cn M).em⟩).M,0,(if M.get 3=0 then (if g.e1<0 then (⟨aM g.e1 g.S.fuel 0 0 M,0,bB,false⟩:VR) else ⟨(aM g.e1 g.S.fuel 0 0 M).set 3 1,0,bB,false⟩) else ⟨(ak g.S g.code g.cn M).M,0,(ak g.S g.code g.cn M).e,(ak g.S g.code g.cn M).em⟩).e,(if M.get 3=0 then (if g.e1<0 then (⟨aM g.e1 g.S.fuel 0 0 M,0,bB,false⟩:VR) else ⟨(aM g.e1 g.S.fuel 0 0 M).set 3 1,0,bB,false⟩) else ⟨(ak g.S g.code g.cn M).M,0,(ak g.S g.code g.cn M).e,(ak g.S g.code g.cn M).em⟩).em⟩)
 by_cases SQ:M.get 3=0
 ·rw[if_pos SQ,if_pos SQ]
  by_cases he:g.e1<0
  ·rw[if_pos (by simpa using he),if_pos he];show Nx S ins M ⟨aL (g.step M) 3 0 (aM g.e1 g.S.fuel 0 0 M),0,bB,false⟩;rw[show aM g.e1 g.S.fuel 0 0 M=M by unfold aM;rw[if_pos he]];exact done M bB false .refl ⟨λ h=>by simp at h,λ _=>rfl⟩
  ·rw[if_neg (by simpa using he),if_neg he];show Nx S ins M ⟨(aM g.e1 g.S.fuel 0 0 M).set 3 1,0,bB,false⟩;rw[hg];obtain⟨s1,s2,s3⟩:=yZ (P:=S.players) (M:=M) (fu:=S.fuel) (a:=0) (b:=0) hl he;generalize aM g.e1 S.fuel 0 0 M=N at *;have Sa:48 <= N.cs.length:=by rw[s1.len];exact hl
   have n1:=s1.get 1 (by omega);have n2:=s1.get 2 (by omega);have n4:=s1.get 4 (by omega);have n5:=s1.get 5 (by omega);refine iu hS h (by omega) s1 (aN _ _ _) (p:=2) (i:=M.get 2) (j:=1) (q:=M.get 4) (x:=M.get 5) (fu:=S.fuel) (λ k=>?_) s2 ⟨λ h=>by simp at h,λ _=>s3⟩ (.inr (.inr (.inl ⟨rfl,.inr ⟨rfl,by have:=hS.fu;omega,by have:=hS.fu;omega⟩⟩))) (by omega) ?_
   ·show (N.set 3 1).get k=_;rw[bX Sa (by omega) (by omega)]
    by_cases k1:k=1
    ·subst k1;simp;omega
    by_cases k2:k=2
    ·subst k2;simp;omega
    by_cases k3:k=3
    ·subst k3;simp
    by_cases k4:k=4
    ·subst k4;simp;omega
    by_cases k5:k=5
    ·subst k5;simp;omega
    simp[k1,k2,k3,k4,k5]
   ·have hfu:=hS.fu.2;unfold nz;rw[hp,SQ];show l2 _ _ 1 S.fuel<l2 _ _ 0 _;unfold l2;first|(simp;done)|(simp;omega)
 ·rw[if_neg SQ,if_neg SQ];obtain⟨XD,hf⟩:M.get 3=1 /\ (0 <= M.get 8 /\ M.get 8 <= 60):=by omega
  obtain⟨s1,s2,s3⟩:=yX hS (M:=M) (code:=g.code) (n:=g.cn) hl ZK hf;rw[hg];generalize ak S g.code g.cn M=r at *;have n1:=s1.get 1 (by omega);have n2:=s1.get 2 (by omega);have n3:=s1.get 3 (by omega);have n4:=s1.get 4 (by omega);have n5:=s1.get 5 (by omega)
  by_cases he:bz g.code g.cn M=true
  ·rw[if_pos he];exact done r.M r.e r.em s1 ⟨s2.yes,s2.no⟩
  ·rw[if_neg he];show Nx S ins M ⟨r.M,0,r.e,r.em⟩;rcases s3 with ⟨s4,s5,s6⟩|⟨s4,s5,s6⟩
   ·refine iu hS h (by omega) s1 rfl (p:=2) (i:=M.get 2) (j:=1) (q:=M.get 4) (x:=M.get 5) (fu:=M.get 8-1) (λ k=>?_) s5 ⟨s2.yes,s2.no⟩ (.inr (.inr (.inl ⟨rfl,.inr ⟨rfl,by omega,by omega⟩⟩))) (by omega) ?_
    ·show r.M.get k=_
     by_cases k1:k=1
     ·subst k1;simp;omega
     by_cases k2:k=2
     ·subst k2;simp;omega
     by_cases k3:k=3
     ·subst k3;simp;omega
     by_cases k4:k=4
     ·subst k4;simp;omega
     by_cases k5:k=5
     ·subst k5;simp;omega
     simp[k1,k2,k3,k4,k5]
    ·unfold nz;rw[hp,XD];show l2 _ _ 1 _<l2 _ _ 1 _;unfold l2;first|(simp;done)|(simp;omega)
   ·exact absurd s5 he
structure En(S:Setup)(ins:Nat -> Inp)(M N:MemS):Prop where
 len:(N.cs.length:Int)=sizeOf S
 z:∀k:Int,1 <= k -> k <= 10 -> N.get k=0
 t0:N.get 0=M.get 0+1
 pl:∀q:Nat,(q:Int)<S.players -> N.get (48+4*q)=(ins q).dx /\ N.get (48+4*q+1)=(ins q).dy /\ N.get (48+4*q+2)=(ins q).act
 n11:N.get 11=M.get 11
theorem sa{M:MemS}(hl:48 <= M.cs.length):∀ (n:Nat),n <= 10 -> (∀k:Int,(cE M n).get k=if 1 <= k /\ k <= n then 0 else M.get k) /\ (cE M n).cs.length=M.cs.length
 | 0,_=>⟨λ k=>by rw[if_neg (by omega)];rfl,rfl⟩
 | n+1,hn=>by
  obtain⟨h1,h2⟩:=sa hl n (by omega);refine⟨λ k=>?_,?_⟩
  ·rw[cE,bX (by rw[h2];exact hl) (by omega) (by omega),h1]
   by_cases e:k=((n+1:Nat):Int)
   ·rw[if_pos e,if_pos (by omega)]
   ·rw[if_neg e]
    by_cases e2:1 <= k /\ k <= n
    ·rw[if_pos e2,if_pos (by omega)]
    ·rw[if_neg e2,if_neg (by omega)]
  ·rw[cE,aN];exact h2
theorem LU{S:Setup}(hp:0 <= S.players){t:Stp}(ht:t.S=S)(M:MemS):Hi S.players M (fQ t M):=by
 subst ht;unfold fQ;split
 ·next hb=>exact(Hi.refl).setB hp hb (by omega) _
 ·exact .refl
theorem q7{S:Setup}(hS:SetV S){g:Gm}(hg:g.S=S){ins:Nat -> Inp}{M:MemS}(h:TV S ins M)(hp:M.get 1=7):(fP (g.step M)=false /\ Nx S ins M ⟨du (g.step M) M,0,bB,false⟩) \/ (fP (g.step M)=true /\ En S ins M (du (g.step M) M)):=by
 have hpl:=hS.pl;have VF:=hS.nb;have hc:0 <= M.get 2 /\ M.get 2<S.nb:=by rcases h.ct with h|h|h|h|h|h|h|h <;> omega
 have hl:=h.l48 hS;have Xl:=h.t0;have hh:=LU (S:=S) (by omega) (t:=g.step M) hg M;unfold fP du ga;generalize fQ (g.step M) M=N at *;have Sa:48 <= N.cs.length:=by rw[hh.len];exact hl
 have e0:=hh.get 0 (by omega);have e1:=hh.get 1 (by omega);have e3:=hh.get 3 (by omega);have e4:=hh.get 4 (by omega);have e8:=hh.get 8 (by omega);show ((if bd (M.get 2+1)<g.S.nb then false else true)=false /\ Nx S ins M ⟨if bd (M.get 2+1)<g.S.nb then N.set 2 (bd (M.get 2+1)) else cE (N.set 0 (bd (N.get 0+1))) 10,0,bB,false⟩) \/ ((if bd (M.get 2+1)<g.S.nb then false else true)=true /\ En S ins M (if bd (M.get 2+1)<g.S.nb then N.set 2 (bd (M.get 2+1)) else cE (N.set 0 (bd (N.get 0+1))) 10));rw[dg (by omega),dg (by omega),hg]
 by_cases hi:M.get 2+1<S.nb
 ·rw[if_pos hi,if_pos hi];refine .inl ⟨rfl,iu hS h (by omega) (hh.kp (by omega)) (aN _ _ _) (λ k=>Rz (f:=N.get) (bX Sa (by omega) (by omega) k).symm) e8 (hh.ef (by omega)) ?_ (by omega) ?_⟩
  ·rw[e1,e3,e4,hp];exact .inr (.inr (.inr (.inr (.inr (.inr (.inr ⟨rfl,by omega,by omega⟩))))))
  ·unfold nz;rw[e1,e3,e4,hp];show (S.nb:Int)-(M.get 2+1)<(S.nb:Int)-M.get 2;omega
 ·rw[if_neg hi,if_neg hi];obtain⟨z1,z2⟩:=sa (M:=N.set 0 (N.get 0+1)) (by rw[aN];exact Sa) 10 (aaI _);have g0:=bX (M:=N) (i:=0) (v:=N.get 0+1) Sa (by omega) (by omega);refine .inr ⟨rfl,⟨by rw[z2,aN,hh.len];exact h.len,λ k k1 k2=>by rw[z1,if_pos (by omega)],by rw[z1,if_neg (by omega),g0,if_pos rfl,e0],λ q hq=>?_,by rw[z1,if_neg (by omega),g0,if_neg (by omega)];exact hh.get 11 (by omega)⟩⟩;have:=h.pl q (by rw[hp,if_neg (by omega)];exact hq);rw[z1,if_neg (by omega),g0,if_neg (by omega),hh.get _ (by omega),z1,if_neg (by omega),g0,if_neg (by omega),hh.get _ (by omega),z1,if_neg (by omega),g0,if_neg (by omega),hh.get _ (by omega)];exact this
theorem q0{S:Setup}(hS:SetV S){g:Gm}(hg:g.S=S){ins:Nat -> Inp}(hi:∀q:Nat,(q:Int)<S.players -> g.ins.getD (g.io+q) dI=ins q)(Tf:S.players <= g.ni){M:MemS}(h:TV S ins M)(hp:M.get 1=0):Nx S ins M ⟨aQ (g.step M) M,0,bB,false⟩:=by
 have hpl:=hS.pl;have VF:=hS.nb;have hc:0 <= M.get 2 /\ M.get 2<S.players:=by rcases h.ct with h|h|h|h|h|h|h|h <;> omega
 have hl:=h.l48 hS;obtain⟨i,hii⟩:=Int.eq_ofNat_of_zero_le hc.1;have hpa:ah S (M.get 2)=48+4*(i:Int):=by
  rcases uw (S:=S) (M.get 2) with ⟨e,e2⟩|⟨e1,e2,e3⟩
  ·omega
  ·rw[e3,hii]
 have hlen:=h.len;have hA:(bg (g.step M) M).cs.length=M.cs.length /\ ∀k,(k <= 10 \/ 48 <= k \/ k=11) -> (bg (g.step M) M).get k=if k=11 then (if M.get 2=0 then 0 else M.get 11) else M.get k:=by
  unfold bg;show (if M.get 2=0 then (M.set 13 g.version).set 11 0 else M).cs.length=_ /\ _
  by_cases h0:M.get 2=0
  ·rw[if_pos h0];refine⟨by simp only[aN],λ k hk=>?_⟩;rw[if_pos h0,bX (by rw[aN];exact hl) (by omega) (by omega),bX hl (by omega) (by omega)]
   by_cases e:k=11
   ·rw[if_pos e,if_pos e]
   ·rw[if_neg e,if_neg e,if_neg (by omega)]
  ·rw[if_neg h0];refine⟨rfl,λ k hk=>?_⟩;rw[if_neg h0]
   by_cases e:k=11
   ·rw[if_pos e,e]
   ·rw[if_neg e]
 have hB:(bx (g.step M) (bg (g.step M) M)).cs.length=M.cs.length /\ (∀k,(k <= 11 \/ (48 <= k /\ (k<48+4*(i:Int) \/ 51+4*(i:Int) <= k))) -> (bx (g.step M) (bg (g.step M) M)).get k=if k=11 then (if M.get 2=0 then 0 else M.get 11) else M.get k) /\
   (bx (g.step M) (bg (g.step M) M)).get (48+4*(i:Int))=(ins i).dx /\ (bx (g.step M) (bg (g.step M) M)).get (48+4*(i:Int)+1)=(ins i).dy /\ (bx (g.step M) (bg (g.step M) M)).get (48+4*(i:Int)+2)=(ins i).act:=by
  generalize bg (g.step M) M=A at *;obtain⟨a1,a2⟩:=hA;have e:bx (g.step M) A=((A.set (48+4*(i:Int)+0) (ins i).dx).set (48+4*(i:Int)+1) (ins i).dy).set (48+4*(i:Int)+2) (ins i).act:=by
   unfold bx Stp.inp;show (if ah g.S (M.get 2) >= 0 then if M.get 2<(g.ni:Int) then ((A.set (ah g.S (M.get 2)+0) (g.ins.getD (g.io+(M.get 2).toNat) dI).dx).set (ah g.S (M.get 2)+1) (g.ins.getD (g.io+(M.get 2).toNat) dI).dy).set (ah g.S (M.get 2)+2) (g.ins.getD (g.io+(M.get 2).toNat) dI).act else A else A)=_;rw[hg,hpa,if_pos (by omega),if_pos (by omega),hii,Int.toNat_natCast,hi i (by omega)]
  rw[e];have hal:48+4*(i:Int)+2<A.cs.length:=by rw[a1];unfold sizeOf at hlen;omega
  refine⟨by simp only[aN];exact a1,λ k hk=>?_,?_,?_,?_⟩
  ·rw[bD (by omega),bD (by omega),bD (by omega)];exact a2 k (by omega)
  ·rw[bD (by omega),bD (by omega),Int.add_zero,jC (by omega)]
  ·rw[bD (by omega),jC (by rw[aN];omega)]
  ·rw[jC (by simp only[aN];omega)]
 unfold aQ;generalize bx (g.step M) (bg (g.step M) M)=N at *;obtain⟨b1,b2,b3,b4,b5⟩:=hB;have Sa:48 <= N.cs.length:=by rw[b1];exact hl
 have n0:=b2 0 (by omega);have n1:=b2 1 (by omega);have n2:=b2 2 (by omega);have n3:=b2 3 (by omega);have n4:=b2 4 (by omega);have n8:=b2 8 (by omega);have n11:=b2 11 (by omega);simp only[show ¬ ((0:Int)=11) by decide,show ¬ ((1:Int)=11) by decide,show ¬ ((2:Int)=11) by decide,show ¬ ((3:Int)=11) by decide,show ¬ ((4:Int)=11) by decide,show ¬ ((8:Int)=11) by decide,if_false,if_true] at n0 n1 n2 n3 n4 n8 n11;have UC:∀q:Nat,(q:Int)<(i:Int)+1 -> N.get (48+4*q)=(ins q).dx /\ N.get (48+4*q+1)=(ins q).dy /\ N.get (48+4*q+2)=(ins q).act:=λ q hq=>by
  by_cases e:q=i
  ·subst e;exact⟨b3,b4,b5⟩
  ·have h2:=h.pl q (by rw[if_pos hp,hii];omega);rw[b2 _ (by omega),b2 _ (by omega),b2 _ (by omega),if_neg (by omega),if_neg (by omega),if_neg (by omega)];exact h2
 have hsv:FF M↔M.get 2=0:=⟨λ e=>e.2,λ e=>⟨hp,e⟩⟩;have S4:N.get 11=if FF M then 0 else M.get 11:=by
  rw[n11]
  by_cases e:M.get 2=0
  ·rw[if_pos e,if_pos (hsv.2 e)]
  ·rw[if_neg e,if_neg (λ x=>e (hsv.1 x))]
 have ZK:0 <= N.get 11 /\ N.get 11 <= 40:=by
  rw[S4];split
  ·omega
  ·rcases h.ec with e|e
   ·contradiction
   ·exact e
 unfold bS;show Nx S ins M ⟨if bd (M.get 2+1)<g.S.players then N.set 2 (bd (M.get 2+1)) else aL (g.step M) 1 0 N,0,bB,false⟩;rw[dg (by omega),hg];split
 ·have gg:=bX (M:=N) (i:=2) (v:=M.get 2+1) Sa (by omega) (by omega);have g1:(N.set 2 (M.get 2+1)).get 1=0:=by rw[gg,if_neg (by decide),n1,hp]
  have g2:(N.set 2 (M.get 2+1)).get 2=M.get 2+1:=by rw[gg,if_pos rfl]
  refine⟨⟨by rw[aN,b1];exact hlen,by rw[gg,if_neg (by decide),n0];exact h.t0,by rw[g1,g2];exact .inl ⟨rfl,by omega,by omega⟩,λ q hq=>?_,.inr (by rw[gg,if_neg (by decide)];exact ZK)⟩,?_,by rw[g1,hp];exact Int.le_refl _,by rw[gg,if_neg (by decide),n0],λ e=>by have:=e.2;rw[g2] at this;omega,λ e=>by simp at e,λ _=>by rw[gg,if_neg (by decide)];exact S4⟩
  ·rw[g1,if_pos rfl,g2,hii] at hq;rw[gg,if_neg (by omega),gg,if_neg (by omega),gg,if_neg (by omega)];exact UC q hq
  ·unfold nz;rw[g1,g2,hp];show l0 _ _ _ (M.get 2+1)<l0 _ _ _ (M.get 2);unfold l0;omega
 ·have gg:=ke Sa (g.step M) 1 0;have g1:(aL (g.step M) 1 0 N).get 1=1:=by rw[gg];simp
  have g2:(aL (g.step M) 1 0 N).get 2=0:=by rw[gg];simp
  have g3:(aL (g.step M) 1 0 N).get 3=0:=by rw[gg];simp
  have gk:∀k,3<k -> (aL (g.step M) 1 0 N).get k=N.get k:=λ k hk=>by rw[gg,if_neg (by omega),if_neg (by omega),if_neg (by omega)]
  refine⟨⟨by rw[f6,b1];exact hlen,by rw[gg,if_neg (by decide),if_neg (by decide),if_neg (by decide),n0];exact h.t0,by rw[g1,g2,g3];exact .inr (.inl ⟨rfl,by omega,by omega,.inl rfl⟩),λ q hq=>?_,.inr (by rw[gk 11 (by omega)];exact ZK)⟩,?_,by rw[g1,hp];decide,by rw[gg,if_neg (by decide),if_neg (by decide),if_neg (by decide),n0],λ e=>by have:=e.1;rw[g1] at this;omega,λ e=>by simp at e,λ _=>by rw[gk 11 (by omega)];exact S4⟩
  ·rw[g1,if_neg (by decide)] at hq;rw[gk _ (by omega),gk _ (by omega),gk _ (by omega)];exact UC q (by omega)
  ·unfold nz;rw[g1,g2,g3,hp];show l1 _ _ _ 0 0 _<l0 _ _ _ (M.get 2);unfold l0 l1;simp;omega
theorem Qj{S:Setup}(hS:SetV S){g:Gm}(hg:g.S=S){ins:Nat -> Inp}(hi:∀q:Nat,(q:Int)<S.players -> g.ins.getD (g.io+q) dI=ins q)(Tf:S.players <= g.ni){M:MemS}(h:TV S ins M) :
  Gz M /\ ((jl g M=false /\ Nx S ins M (eT g M)) \/ (jl g M=true /\ En S ins M (jm g M) /\ (eT g M).em=false /\ ¬ FF M /\ (0 <= M.get 11 /\ M.get 11 <= 40))):=by
 have Yw:Gz M:=by
  rcases h.ct with h|h|h|h|h|h|h|h <;> (refine⟨?_,?_⟩ <;> omega)
 refine⟨Yw,?_⟩
 by_cases h0:M.get 1=0
 ·left;rw[show eT g M=⟨aQ (g.step M) M,0,bB,false⟩ by simp[eT,h0]];exact⟨by simp[jl,h0],q0 hS hg hi Tf h h0⟩
 by_cases h1:M.get 1=1
 ·left;rw[show eT g M=eV (g.step M) M by simp[eT,h1]];exact⟨by simp[jl,h1],q1 hS hg h h1⟩
 by_cases h2:M.get 1=2
 ·left;rw[show eT g M=cT (g.step M) M by simp[eT,h2]];exact⟨by simp[jl,h2],q2 hS hg h h2⟩
 by_cases h3:M.get 1=3
 ·left;rw[show eT g M=⟨aR (g.step M) M,0,bB,false⟩ by simp[eT,h3]];exact⟨by simp[jl,h3],q3 hS hg h h3⟩
 by_cases h4:M.get 1=4
 ·left;rw[show eT g M=⟨bH (g.step M) M,0,bB,false⟩ by simp[eT,h4]];exact⟨by simp[jl,h4],q4 hS hg h h4⟩
 by_cases h5:M.get 1=5
 ·left;rw[show eT g M=⟨dP (g.step M) M,0,bB,false⟩ by simp[eT,h5]];exact⟨by simp[jl,h5],q5 hS hg h h5⟩
 by_cases h6:M.get 1=6
 ·left;rw[show eT g M=eX (g.step M) M by simp[eT,h6]];exact⟨by simp[jl,h6],q6 hS hg h h6⟩
 have h7:M.get 1=7:=by have:=Yw.1;have:=Yw.2;omega
 have e:eT g M=⟨du (g.step M) M,0,bB,false⟩:=by simp[eT,h7]
 rw[jm,e];have e2:jl g M=fP (g.step M):=by simp[jl,h7]
 rw[e2];rcases q7 hS hg h h7 with ⟨a,b⟩|⟨a,b⟩
 ·exact .inl ⟨a,b⟩
 ·refine .inr ⟨a,b,rfl,λ e=>by have:=e.1;omega,?_⟩;rcases h.ec with e|e
  ·have:=e.1;omega
  ·exact e
def Numb(t c:Int)(es:List Eff):Prop:=∀k,k<es.length -> (es.getD k bB).t=t /\ (es.getD k bB).i=c+k
theorem Numb.nil{t c:Int}:Numb t c []:=λ k hk=>by simp at hk
theorem Numb.cons{t c:Int}{e:Eff}{es:List Eff}(h1:e.t=t)(h2:e.i=c)(h:Numb t (c+1) es):Numb t c (e::es):=λ k hk=>by
 rcases k with _|k
 ·exact⟨h1,by rw[List.getD_cons_zero,h2];omega⟩
 ·have:=h k (by simpa using hk);rw[List.getD_cons_succ];exact⟨this.1,by rw[this.2];omega⟩
theorem CQ{S:Setup}(hS:SetV S){g:Gm}(hg:g.S=S){ins:Nat -> Inp}(hi:∀q:Nat,(q:Int)<S.players -> g.ins.getD (g.io+q) dI=ins q)(Tf:S.players <= g.ni):∀ (n:Nat) (M:MemS),TV S ins M -> nz S M <= n ->
  ∃m,m+1 <= n /\ dU g (m+1) M /\ (∀k:Int,1 <= k -> k <= 10 -> (fX g (m+1) M).get k=0) /\ ((fX g (m+1) M).cs.length:Int)=sizeOf S /\ (fX g (m+1) M).get 0=M.get 0+1 /\
   Numb (M.get 0) (if FF M then 0 else M.get 11) (effsV g (m+1) M) /\ (fX g (m+1) M).get 11=(if FF M then 0 else M.get 11)+(effsV g (m+1) M).length /\ (fX g (m+1) M).get 11 <= 40
 | 0,M,h,hl=>by
  have:=CO hS.pl ⟨by have:=hS.nb;omega,by have:=hS.nb;omega⟩ hS.ro h.ct;unfold nz at hl;omega
 | n+1,M,h,hl=>by
  obtain⟨Yw,⟨e1,hx⟩|⟨e1,hx,hem,n_,S4⟩⟩:=Qj hS hg hi Tf h
  ·obtain⟨m,hm,k1,k2,k3,k4,k5,k6,k7⟩:=CQ hS hg hi Tf n (eT g M).M hx.tv (by have:=hx.lt;omega);rw[if_neg hx.ns] at k5 k6;have er:fX g (m+1+1) M=fX g (m+1) (eT g M).M:=rfl;refine⟨m+1,by omega,⟨Yw,.inr ⟨e1,k1⟩⟩,by rw[er];exact k2,by rw[er];exact k3,by rw[er,k4,hx.t0],?_,?_,by rw[er];exact k7⟩
   ·cases he:(eT g M).em with
    | true =>
     obtain⟨a1,a2,a3,a4⟩:=hx.yes he;rw[tw he,if_neg a1];refine Numb.cons a2 a3 ?_;rw[hx.t0,a4] at k5;exact k5
    | false =>
     rw[nS (by rw[he];decide)];have:=hx.no he;rw[hx.t0,this] at k5;exact k5
   ·rw[er];cases he:(eT g M).em with
    | true =>
     obtain⟨a1,a2,a3,a4⟩:=hx.yes he;rw[tw he,if_neg a1,aaN,k6,a4];show _+(List.length (effsV g (m+1) (jm g M)):Int)=_;omega
    | false =>
     rw[nS (by rw[he];decide),k6,hx.no he]
  ·refine⟨0,by omega,⟨Yw,.inl ⟨rfl,e1⟩⟩,hx.z,hx.len,hx.t0,?_,?_,?_⟩
   ·rw[nS (by rw[hem];decide)];exact .nil
   ·rw[nS (by rw[hem];decide),if_neg n_];show (jm g M).get 11=M.get 11+(([]:List Eff).length:Int);rw[hx.n11];simp
   ·show (jm g M).get 11 <= 40;rw[hx.n11];exact S4.2
def Jq(p n r f:Int):Int:=i64.wrap ((i64.wrap ((i64.wrap ((i64.wrap ((i64.wrap (p+(i64.wrap ((i64.wrap ((i64.wrap (p+1))+n))*(i64.wrap (f+3))))))+(i64.wrap (2*n))))+3))+(i64.wrap ((i64.wrap ((i64.wrap (r*n))*(i64.wrap (n-1)))).tdiv 2))))+(i64.wrap (n*(i64.wrap (n+1)))))
theorem za{S:Setup}(hS:SetV S):l0 S.players S.nb S.rounds 0 <= Jq S.players S.nb S.rounds 60 /\ Jq S.players S.nb S.rounds 60 <= 650:=by
 have hp:=hS.pl;have hn:=hS.nb;have hr:=hS.ro;have key:∀p:Fin 3,∀n:Fin 5,∀r:Fin 3,l0 ((p.1+1:Nat):Int) ((n.1+1:Nat):Int) ((r.1+1:Nat):Int) 0 <= Jq ((p.1+1:Nat):Int) ((n.1+1:Nat):Int) ((r.1+1:Nat):Int) 60 /\ Jq ((p.1+1:Nat):Int) ((n.1+1:Nat):Int) ((r.1+1:Nat):Int) 60 <= 650:=by decide +kernel
 have:=key ⟨S.players.toNat-1,by omega⟩ ⟨S.nb-1,by omega⟩ ⟨S.rounds.toNat-1,by omega⟩;dsimp only at this;rwa [show ((S.players.toNat-1+1:Nat):Int)=S.players by omega,show S.nb-1+1=S.nb by omega,show ((S.rounds.toNat-1+1:Nat):Int)=S.rounds by omega] at this
theorem setV{xs:List Int}{F:HL}{A:Option Addr}{n:Nat}(hl:ArgL F A n xs){S:Setup}{T:HL}(h:SetG xs S T):SetV S:=by
 have h1:=qt hl;have h2:=vt hl;have hn:=h.nb;have k2:=im hl 2;obtain⟨e1,e2,e3,e4,e5,e6,e7,e8⟩:=h.nums;exact⟨by rw[h.pl];exact h2,by omega,by rw[e7];omega,by rw[e8];omega⟩
theorem kf{l:List Int}{i j:Nat}{v:Int}(h:i≠j):(l.set i v).getD j 0=l.getD j 0:=by
 rw[aaE,aaE,List.getElem?_set_ne h]
theorem ux{S:Setup}(hp:0 <= S.players){j:Nat}(hj:j<48):∀i,i <= S.nb -> (bm S i).getD j 0=0
 | 0,_=>by
  rw[bm,aaE,List.getElem?_replicate];split <;> rfl
 | i+1,hi=>by
  have hb:af S (i:Int)=48+4*S.players+8*(i:Int):=by
   rcases ol hp (i:Int) with e|⟨_,_,e⟩
   ·unfold af at e;rw[if_neg (by omega),if_neg (by omega)] at e;omega
   ·exact e
  rw[bm,kf (by omega),kf (by omega),kf (by omega),kf (by omega),kf (by omega),kf (by omega)];exact ux hp hj i (by omega)
structure TE2(S:Setup)(t:Int)(M:MemS):Prop where
 len:(M.cs.length:Int)=sizeOf S
 z:∀k:Int,1 <= k -> k <= 10 -> M.get k=0
 t0:M.get 0=t
theorem LW{S:Setup}(hS:SetV S):TE2 S 0 ⟨bm S S.nb,[],0⟩:=by
 have hp:=hS.pl;have hlen:(((⟨bm S S.nb,[],0⟩:MemS).cs.length:Nat):Int)=sizeOf S:=by
  show ((bm S S.nb).length:Int)=_;rw[jT];unfold sizeOf;omega
 have g:∀k:Int,0 <= k -> k<48 -> (⟨bm S S.nb,[],0⟩:MemS).get k=0:=λ k h0 h1=>by
  unfold MemS.get;split
  ·exact ux (by omega) (by omega) S.nb (aaI _)
  ·rfl
 exact⟨hlen,λ k h1 h2=>g k (by omega) (by omega),g 0 (by omega) (by omega)⟩
theorem TE2.tv{S:Setup}(hS:SetV S){t:Int}(ht:0 <= t /\ t <= 1000){M:MemS}(h:TE2 S t M)(ins:Nat -> Inp):TV S ins M /\ nz S M=l0 S.players S.nb S.rounds 0 /\ FF M:=by
 have h1:=h.z 1 (by omega) (by omega);have h2:=h.z 2 (by omega) (by omega);have hp:=hS.pl;refine⟨⟨h.len,by rw[h.t0];omega,by rw[h1,h2];exact .inl ⟨rfl,by omega,by omega⟩,λ q hq=>by rw[h1,if_pos rfl,h2] at hq;omega,.inl ⟨h1,h2⟩⟩,?_,h1,h2⟩;unfold nz;rw[h1,h2];rfl
theorem Qk{S:Setup}(hS:SetV S){g:Gm}(hg:g.S=S)(Tf:S.players <= g.ni){t:Int}(ht:0 <= t /\ t <= 1000){M:MemS}(h:TE2 S t M):∃m,((m+1:Nat):Int) <= Jq S.players S.nb S.rounds 60 /\ dU g (m+1) M /\ TE2 S (t+1) (fX g (m+1) M) /\
  Numb t 0 (effsV g (m+1) M) /\ (fX g (m+1) M).get 11=((effsV g (m+1) M).length:Int) /\ ((effsV g (m+1) M).length:Int) <= 40:=by
 obtain⟨h1,h2,h3⟩:=h.tv hS ht (λ q=>g.ins.getD (g.io+q) dI);have hb:=za hS;have Zp:=CO hS.pl ⟨by have:=hS.nb;omega,by have:=hS.nb;omega⟩ hS.ro h1.ct;unfold nz at h2;obtain⟨m,a1,a2,a3,a4,a5,a6,a7,a8⟩:=CQ hS hg (λ _ _=>rfl) Tf (l0 S.players S.nb S.rounds 0).toNat M h1 (by unfold nz;omega);rw[if_pos h3] at a6 a7;rw[h.t0] at a5 a6;exact⟨m,by omega,a2,⟨a4,a3,a5⟩,a6,by rw[a7];omega,by omega⟩
theorem SetEq.pl{S S1:Setup}(h:SetEq S S1):S1.players=S.players:=h.nums.1
theorem SetEq.nb{S S1:Setup}(h:SetEq S S1):S1.nb=S.nb:=h.nums.2.1
theorem SetEq.size{S S1:Setup}(h:SetEq S S1):sizeOf S1=sizeOf S:=by unfold sizeOf;rw[h.pl,h.nb]
theorem SetEq.setV{S S1:Setup}(h:SetEq S S1)(hV:SetV S):SetV S1:=by
 obtain⟨e1,e2,_,_,_,_,_,_,_,_,e3,e4⟩:=h.nums;exact⟨by rw[e1];exact hV.pl,by rw[e2];exact hV.nb,by rw[e3];exact hV.ro,by rw[e4];exact hV.fu⟩
theorem TE2.eq{S S1:Setup}(h:SetEq S S1){t:Int}{M:MemS}(hT:TE2 S t M):TE2 S1 t M:=⟨by rw[h.size];exact hT.len,hT.z,hT.t0⟩
theorem CS{S S':Setup}(h:SetEq S S'):(S'.bods.drop S'.bo).map Bod.nm=(List.range S.nb).map λ k=>(S.body k).nm:=by
 rw[h.whole.1,List.drop_zero];apply List.ext_getElem?;intro k
 by_cases hk:k<S.nb
 ·obtain⟨A,c,e⟩:=h.bod k hk;have hl:k<S'.bods.length:=by rw[h.whole.2];exact hk
  have e2:S'.bods[k]?=some (S'.body k):=by
   show _=some (S'.bods.getD (S'.bo+k) dB);rw[h.whole.1,Nat.zero_add,aaE,aaO hl];rfl
  rw[List.getElem?_map,e2,e];simp[hk];rfl
 ·rw[List.getElem?_eq_none (by rw[List.length_map,h.whole.2];omega),List.getElem?_eq_none (by simp;omega)]
theorem SetEq.nm2{S S1 S2:Setup}(h1:SetEq S S1)(h2:SetEq S S2):S1.nm=S2.nm:=by
 have b1:=CS h1;have b2:=CS h2;obtain⟨x1,x2,x3,x4,x5,x6,x7,x8,x9,x10,x11,x12⟩:=h1.nums;obtain⟨y1,y2,y3,y4,y5,y6,y7,y8,y9,y10,y11,y12⟩:=h2.nums;unfold Setup.nm;rw[b1,b2,x1,x2,x3,x4,x5,x6,x7,x8,x9,x10,x11,x12,y1,y2,y3,y4,y5,y6,y7,y8,y9,y10,y11,y12]
theorem v8{S1 S2:Setup}(h:S1.nm=S2.nm)(j:Nat × Int)(n:Nat)(xs:List Inp):GEq (gE S1 j n xs) (gE S2 j n xs):=by
 refine⟨?_,λ k hk=>rfl⟩;unfold Gm.nm;simp only[h]
theorem sc{G G':Nat -> Gm}(h:∀k,GEq (G k) (G' k))(M:MemS):∀k,kX G M k=kX G' M k
 | 0=>rfl
 | k+1=>by rw[kX,kX,sc h M k,Aj (h k)]
theorem Jr{G G':Nat -> Gm}(h:∀k,GEq (G k) (G' k))(M:MemS):∀k,plE G M k=plE G' M k
 | 0=>rfl
 | k+1=>by rw[plE,plE,Jr h M k,sc h M k,G3 (h k)]
theorem Js{S S1 S2:Setup}(h1:SetEq S S1)(h2:SetEq S S2)(J:Nat -> Nat × Int)(xss:List (List Inp)):∀k,GEq (rG S1 J xss k) (rG S2 J xss k):=λ k=>v8 (h1.nm2 h2) _ _ _
theorem Ov{pl:Int}{n:Nat}{xs:List Inp}{now:Int}(h1:(n:Int)=pl)(h2:∀k,k<n -> fg (xs.getD k dI))(h3:now<6000):dL pl n xs now=0:=by
 unfold dL;rw[if_pos h1,if_pos h2,if_neg (by omega)]
theorem Jt{S1:Setup}(hV:SetV S1){t:Int}(ht:0 <= t /\ t <= 1000){M:MemS}(hT:TE2 S1 t M){xs:List Inp}(h1:(xs.length:Int)=S1.players)(h2:∀k,k<xs.length -> fg (xs.getD k dI))(j:Nat × Int):TkOk S1 j xs M /\ TE2 S1 (t+1) (gn (kT S1 j xs) M):=by
 obtain⟨m,a1,a2,a3,_⟩:=Qk hV (g:=kT S1 j xs) rfl (by show S1.players <= (xs.length:Int);omega) ht hT;have hb:=(za hV).2;refine⟨⟨⟨m,by omega,a2⟩,by rw[hT.t0];exact ht.1,by rw[hT.t0];exact Ov h1 h2 (by omega)⟩,?_⟩;rw[<- (I0 (by omega) a2).1];exact a3
def RowOk(pl:Int)(xs:List Inp):Prop:=(xs.length:Int)=pl /\ ∀k,k<xs.length -> fg (xs.getD k dI)
theorem CT{S1:Setup}(hV:SetV S1){M0:MemS}(hT:TE2 S1 0 M0){xss:List (List Inp)}(J:Nat -> Nat × Int)(n:Nat)(hn:n <= 50)(hr:∀i,i<n -> RowOk S1.players (xss.getD i [])):∀i,i <= n -> TE2 S1 (i:Int) (kX (rG S1 J xss) M0 i)
 | 0,_=>hT
 | i+1,h=>by
  have ih:=CT hV hT J n hn hr i (by omega);have:=(Jt hV (t:=(i:Int)) (by omega) ih (hr i (by omega)).1 (hr i (by omega)).2 (J i)).2;rw[kX]
  exact_mod_cast this
theorem MH{S1:Setup}(hV:SetV S1){M0:MemS}(hT:TE2 S1 0 M0){xss:List (List Inp)}(J:Nat -> Nat × Int)(n:Nat)(hn:n <= 50)(hr:∀i,i<n -> RowOk S1.players (xss.getD i []))(i:Nat)(hi:i<n):TkOk S1 (J i) (xss.getD i []) (kX (rG S1 J xss) M0 i) :=
 (Jt hV (t:=(i:Int)) (by omega) (CT hV hT J n hn hr i (by omega)) (hr i hi).1 (hr i hi).2 (J i)).1
theorem Ju{n:Int}(h:0 <= n):fg (xL n):=by
 unfold fg xL;dsimp only;split <;> omega
theorem CU{F:HL}{A:Option Addr}{n:Nat}{xs:List Int}(hl:ArgL F A n xs){pl:Int}(hp:0 <= pl)(t:Int):RowOk pl (rowL pl xs t pl.toNat):=by
 refine⟨by rw[ez];omega,λ k hk=>?_⟩;rw[ez] at hk;rw[Hv hk];exact Ju (KX hl pl t k).1
theorem wa{S S1:Setup}(hV:SetV S)(he:SetEq S S1):TE2 S1 0 ⟨bm S S.nb,[],0⟩:=(LW hV).eq he
theorem SlIs.rowN{α:Type}{e:Enc α}{T:TypeId}{l:List α}{A:Option Addr}{cap n:Nat}{Hl F:HL}(h:SlIs e T l A cap Hl)(hF:∀x∈Hl,x∈F)(hn:l.length=n):RowL e T F A n l:=hn ▸ h.toRowL hF
theorem sd{n m k:Int}(e:aq n m=k)(hm:0<m)(F:HL):Sp Tryz.prog 11 #[vI n,vI m] [] F (λ u H'=>u=vI k /\ H'=[]):=e ▸ fL n m (by omega) F
theorem mK{α:Type}{l r:List α}{o:Nat}(h:(l.drop o).take r.length=r){k:Nat}(hk:k<r.length)(d:α):l.getD (o+k) d=r.getD k d:=by
 have h1:((l.drop o).take r.length)[k]?=r[k]?:=by rw[h]
 rw[aa2,if_pos hk,aa1] at h1;rw[aaE,aaE,h1]
structure Ver where (t:Int) (A:Option Addr) (n c:Nat) (e0 e1 e2:Int)
def fN:Enc Ver:=⟨5,λ p k=>match k with|0=>vI p.t|1=>.slice p.A p.n p.c|2=>vI p.e0|3=>vI p.e1|_=>vI p.e2,⟨0,none,0,0,0,0,0⟩⟩
noncomputable def MI:TypeInfo:=match Tryz.prog.info? 146 with | some i=>i | none=>⟨.bool,"",0,0,false,0,0,none,false,#[]⟩
noncomputable def MJ:Value:=match MI.zero with|some z=>z|none=>.bool false
theorem Ow:EncOk fN Tryz.prog 146 MI MJ where
 info:=by kernel_rfl
 zero:=by kernel_rfl
 size:=by kernel_rfl
 zsize:=by kernel_rfl
 zcell:=λ k hk=>by
  have h:∀k<5,MJ.cells[k]?=some (fN.cell fN.dflt k):=by intro k hk;(iterate 5 (rcases k with _|k;· kernel_rfl));omega
  exact h k hk
 one:=λ x k=>by unfold fN;dsimp only;split <;> rfl
 bytes:=aaF (by kernel_rfl)
abbrev kF(t:Int)(j:Nat)(A:Option Addr)(c:Nat):Ver:=⟨t,A,fS j,c,cq j 0,cq j 1,cq j 2⟩
inductive Book2(tk:Int)(j1 j2 bp:Nat):HL -> Prop
 | mk (A:Option Addr) (c:Nat) (A1 A2:Option Addr) (c1 c2:Nat) (Hl T1 T2:HL) (hs:SlIs fN 146 [kF 0 j1 A1 c1,kF tk j2 A2 c2] A c Hl) (h1:CodT j1 A1 T1) (h2:CodT j2 A2 T2):Book2 tk j1 j2 bp (ap [(bp,.lit [.slice A 2 c] 149 (0,0))] [Hl,T1,T2])
theorem LX(tk:Int)(htk:0<tk)(j1 j2 bp q:Nat)(Aa:Option Addr)(ca:Nat)(Tz F:HL)(VG:j2<5)(hE:pP F)(h1:CodT j1 Aa Tz):Sp Tryz.prog 43 #[vP bp 0,vI tk,.string (pO j2)] (ap [(bp,.lit [vS q 0 1 1] 149 (0,0)),(q,.lit [vI 0,.slice Aa (fS j1) ca,vI (cq j1 0),vI (cq j1 1),vI (cq j1 2)] 146 (0,0))] [Tz]) F (λ u H'=>∃x:HL,H'=ap [] [x] /\ (u=vI 0 /\ Book2 tk j1 j2 bp x)):=by
 refine aat Tryz.func43 rfl mn (A:=[(bp,.lit [vS q 0 1 1] 149 (0,0)),(q,.lit [vI 0,.slice Aa (fS j1) ca,vI (cq j1 0),vI (cq j1 1),vI (cq j1 2)] 146 (0,0))]) (Ts:=[Tz]) rfl λ w0=>?_;refine ae 21 [.own 0] λ _=>aak [] []<|ag [] [0,1,5,2,6,3,7,4,8,9,10,11,12,13,14] [.own 0,.own 0,.own 1]<|aad<|ae 1 [] λ _=>cL 29 (aa4 (show ¬ tk <= 0 by omega))<|ae 6 [] λ _=>aai (Hp:=[]) (Tp:=[]) [] [] (IU VG _ (av hE)) ?_;rintro _ ⟨A1,c2,T3⟩ ⟨rfl,hC4⟩;dsimp only at hC4;refine ae 19 (aab 4) λ n5=>aak [9,12] []<|ag [] [0,1,5,6,2,7,3,4] [.own 0,.own 0,.own 0,.own 0,.own 1]<|aae 8 (aag [] [] λ n7=>?_);refine RD.dn 3 (.rows 5 1 (aP fN [kF 0 j1 Aa ca]) 146 (0,0))<|Pe 3<|aae 9 (uP [] Ow ([kF 0 j1 Aa ca]) [kF tk j2 A1 c2] 0 0 rfl (SlIs.one (b:=q)) (aaF rfl) ?_);rintro A8 c9 Tc ⟨Vr,abn⟩;refine ag [] [10,11] []<|aae 12 (aag [] [.own 2] λ _=>?_);refine aad<|ae 6 [] λ _=>aap [] [2] [0,2,1] (v:=vI 0) (H':=(ap [(bp,.lit [.slice A8 2 c9] 149 (0,0))] [Tc,Tz,T3])) ?_;exact⟨ap [(bp,.lit [.slice A8 2 c9] 149 (0,0))] [Tc,Tz,T3],by simp[ap],rfl,.mk _ _ _ _ _ _ _ _ _ Vr h1 hC4⟩
theorem LY{j1 bp:Nat}{TB:HL}(hB:Book1 j1 bp TB)(tk:Int)(htk:0<tk)(j2:Nat)(F:HL)(VG:j2<5)(hE:pP F):Sp Tryz.prog 43 #[vP bp 0,vI tk,.string (pO j2)] (ap [] [TB]) F (λ u H'=>∃x:HL,H'=ap [] [x] /\ (u=vI 0 /\ Book2 tk j1 j2 bp x)):=by
 cases hB with
 | mk q A c T h =>
  rw[bj];exact LX tk htk j1 j2 bp q A c T F VG hE h
theorem Ql(q2 q3:Nat)(tk:Int)(bp b o c j1 j2:Nat)(full:List Ver)(Aa Ab:Option Addr)(ca cb:Nat)(t:Int)(F:HL)(hb:(bp,.lit [vS b (o*5) 2 c] 149 (0,0))∈F)(hq:(b,.rows 5 (o+c) (aP fN full) 146 (0,0))∈F)(hc:2 <= c)(U0:full.getD o fN.dflt=kF 0 j1 Aa ca)(Ur:full.getD (1+o) fN.dflt=kF tk j2 Ab cb)(ht:0 <= t)(h2:(q2,.lit [vP bp 0] 36 (0,0))∈F)(h3:(q3,.lit [vI t] 3 (0,0))∈F):Sp Tryz.prog 129 #[vI 0,vP q2 0,vP q3 0] [] F (λ u H'=>u=.bool false /\ H'=[]):=by
 refine aat Tryz.func129 rfl (mc h2 (mc h3 (mc hb (mc hq mn)))) (A:=[]) (Ts:=[]) rfl λ w0=>?_;refine ae 6 [] λ _=>aak [] []<|aw [] [0,4,8,1,2,3,5,6,7] [.ro 0,.ro 1,.ro 2,.rorow 3 o 0] [o*5=o*5+0 /\ o<(o+c)]<|fV 12 (congrArg (λ v_:Ver=>vI v_.t) U0)<|ag [] [9,10] []<|aad<|ae 1 [] λ _=>aap [] [] [] (v:=.bool (decide (0>t))) (H':=[]) ?_;exact⟨congrArg Value.bool (aa4 (by omega)),rfl⟩
theorem MK(q2 q3:Nat)(tk:Int)(bp b o c j1 j2:Nat)(full:List Ver)(Aa Ab:Option Addr)(ca cb:Nat)(t:Int)(F:HL)(hb:(bp,.lit [vS b (o*5) 2 c] 149 (0,0))∈F)(hq:(b,.rows 5 (o+c) (aP fN full) 146 (0,0))∈F)(hc:2 <= c)(U0:full.getD o fN.dflt=kF 0 j1 Aa ca)(Ur:full.getD (1+o) fN.dflt=kF tk j2 Ab cb)(ht:0 <= t)(h2:(q2,.lit [vP bp 0] 36 (0,0))∈F)(h3:(q3,.lit [vI t] 3 (0,0))∈F):Sp Tryz.prog 129 #[vI 1,vP q2 0,vP q3 0] [] F (λ u H'=>u=.bool (decide (tk>t)) /\ H'=[]):=by
 refine aat Tryz.func129 rfl (mc h2 (mc h3 (mc hb (mc hq mn)))) (A:=[]) (Ts:=[]) rfl λ w0=>?_;refine ae 6 [] λ _=>aak [] []<|aw [] [0,4,8,1,2,3,5,6,7] [.ro 0,.ro 1,.ro 2,.rorow 3 (1+o) 0] [(o*5+5)=(1+o)*5+0 /\ (1+o)<(o+c)]<|fV 12 (congrArg (λ v_:Ver=>vI v_.t) Ur)<|ag [] [9,10] []<|aad<|ae 1 [] λ _=>?_;exact aap [] [] [] ⟨rfl,rfl⟩
theorem Jv(q2 q3:Nat)(tk:Int)(bp b o c j1 j2:Nat)(full:List Ver)(Aa Ab:Option Addr)(ca cb:Nat)(t:Int)(F:HL)(hb:(bp,.lit [vS b (o*5) 2 c] 149 (0,0))∈F)(hq:(b,.rows 5 (o+c) (aP fN full) 146 (0,0))∈F)(hc:2 <= c)(U0:full.getD o fN.dflt=kF 0 j1 Aa ca)(Ur:full.getD (1+o) fN.dflt=kF tk j2 Ab cb)(ht:0 <= t)(h2:(q2,.lit [vP bp 0] 36 (0,0))∈F)(h3:(q3,.lit [vI t] 3 (0,0))∈F)(VJ:tk>t):Sp Tryz.prog 128 #[vI 2,.func (.func 129) #[] #[vP q2 0,vP q3 0]] [] F (λ u H'=>u=vI 1 /\ H'=[]):=by
 refine aat Tryz.func128 rfl (mc h2 (mc h3 (mc hb (mc hq mn)))) (A:=[]) (Ts:=[]) rfl λ w0=>?_;refine ae 14 [] λ _=>aaq 4<|ae 27 [] λ _=>aah (MK q2 q3 tk bp b o c j1 j2 full Aa Ab ca cb t _ (av hb) (av hq) hc U0 Ur ht (av h2) (av h3))<|ae 3 [] λ _=>cL 21 (nt (aa5 VJ))<|ae 34 [] λ _=>aah (Ql q2 q3 tk bp b o c j1 j2 full Aa Ab ca cb t _ (av hb) (av hq) hc U0 Ur ht (av h2) (av h3))<|ae 31 [] λ _=>?_;exact aap [] [] [] ⟨rfl,rfl⟩
theorem Jw(q2 q3:Nat)(tk:Int)(bp b o c j1 j2:Nat)(full:List Ver)(Aa Ab:Option Addr)(ca cb:Nat)(t:Int)(F:HL)(hb:(bp,.lit [vS b (o*5) 2 c] 149 (0,0))∈F)(hq:(b,.rows 5 (o+c) (aP fN full) 146 (0,0))∈F)(hc:2 <= c)(U0:full.getD o fN.dflt=kF 0 j1 Aa ca)(Ur:full.getD (1+o) fN.dflt=kF tk j2 Ab cb)(ht:0 <= t)(h2:(q2,.lit [vP bp 0] 36 (0,0))∈F)(h3:(q3,.lit [vI t] 3 (0,0))∈F)(VJ:¬ tk>t):Sp Tryz.prog 128 #[vI 2,.func (.func 129) #[] #[vP q2 0,vP q3 0]] [] F (λ u H'=>u=vI 2 /\ H'=[]):=by
 refine aat Tryz.func128 rfl (mc h2 (mc h3 (mc hb (mc hq mn)))) (A:=[]) (Ts:=[]) rfl λ w0=>?_;refine ae 14 [] λ _=>aaq 4<|ae 27 [] λ _=>aah (MK q2 q3 tk bp b o c j1 j2 full Aa Ab ca cb t _ (av hb) (av hq) hc U0 Ur ht (av h2) (av h3))<|ae 3 [] λ _=>cL 21 (nf (aa4 VJ))<|ae 28 [] λ _=>?_;exact aap [] [] [] ⟨rfl,rfl⟩
theorem RA(tk:Int)(bp b o c j1 j2:Nat)(full:List Ver)(Aa Ab:Option Addr)(ca cb:Nat)(t:Int)(F:HL)(hb:(bp,.lit [vS b (o*5) 2 c] 149 (0,0))∈F)(hq:(b,.rows 5 (o+c) (aP fN full) 146 (0,0))∈F)(hc:2 <= c)(U0:full.getD o fN.dflt=kF 0 j1 Aa ca)(Ur:full.getD (1+o) fN.dflt=kF tk j2 Ab cb)(ht:0 <= t)(hj:j1<5)(hC:SrcIn Tryz.prog kW F Aa (fS j1) (kD j1))(VJ:tk>t):Sp Tryz.prog 106 #[vP bp 0,vI t] [] F (λ u H'=>∃x:Option Addr × Nat × HL,H'=ap [] [x.2.2] /\ (u=.tuple #[vI 0,.agg #[.slice x.1 (fS j1) x.2.1,vI (cq j1 0),vI (cq j1 1),vI (cq j1 2)]] /\ ClS kW 231 (kD j1) x.1 x.2.1 x.2.2)):=by
 refine aat Tryz.func106 rfl (mc hb (mc hq mn)) (A:=[]) (Ts:=[]) rfl λ w0=>?_;refine ae 16 [.own 2,.ro 0] λ n1=>aah (Jv (n1+0) (n1+1) tk bp b o c j1 j2 full Aa Ab ca cb t _ (av hb) (av hq) hc U0 Ur ht (aA 2) (aA 1) VJ)<|ai 21 [.own 2,.ro 0,.rorow 1 o 1,.rorow 1 o 2,.rorow 1 o 3,.rorow 1 o 4] [(o*5+4)=o*5+4 /\ o<(o+c),(o*5+3)=o*5+3 /\ o<(o+c),(o*5+2)=o*5+2 /\ o<(o+c),(o*5+1)=o*5+1 /\ o<(o+c)] λ _=>aK 26 (congrArg (λ v_:Ver=>(.agg #[.slice v_.A v_.n v_.c,vI v_.e0,vI v_.e1,vI v_.e2]:Value)) U0)<|ae 5 (aab 4) λ n2=>aak [8] []<|ag [] [0,1,4,2,5] (aab 4)<|aae 3 (aaf [] (Hp:=[]) (Tp:=[]) [] [] (mD Aa (fS j1) ca (kD j1) _ hC.up (by have:=vQ hj;omega)) ?_);rintro _ ⟨A3,c4,T5⟩ ⟨rfl,hc6⟩;dsimp only at hc6;refine ag [] [6,7] []<|aae 8 (aag [] [.own 1,.own 1,.own 1,.own 1] λ _=>?_);refine aad<|ae 1 [] λ _=>aap [.own 1,.own 1,.own 1,.own 1] [] [0] (v:=.tuple #[vI 0,.agg #[.slice A3 (fS j1) c4,vI (cq j1 0),vI (cq j1 1),vI (cq j1 2)]]) (H':=(ap [] [T5])) ?_;exact⟨(A3,c4,T5),rfl,rfl,hc6⟩
theorem RB(tk:Int)(bp b o c j1 j2:Nat)(full:List Ver)(Aa Ab:Option Addr)(ca cb:Nat)(t:Int)(F:HL)(hb:(bp,.lit [vS b (o*5) 2 c] 149 (0,0))∈F)(hq:(b,.rows 5 (o+c) (aP fN full) 146 (0,0))∈F)(hc:2 <= c)(U0:full.getD o fN.dflt=kF 0 j1 Aa ca)(Ur:full.getD (1+o) fN.dflt=kF tk j2 Ab cb)(ht:0 <= t)(hj:j2<5)(hC:SrcIn Tryz.prog kW F Ab (fS j2) (kD j2))(VJ:¬ tk>t):Sp Tryz.prog 106 #[vP bp 0,vI t] [] F (λ u H'=>∃x:Option Addr × Nat × HL,H'=ap [] [x.2.2] /\ (u=.tuple #[vI 1,.agg #[.slice x.1 (fS j2) x.2.1,vI (cq j2 0),vI (cq j2 1),vI (cq j2 2)]] /\ ClS kW 231 (kD j2) x.1 x.2.1 x.2.2)):=by
 refine aat Tryz.func106 rfl (mc hb (mc hq mn)) (A:=[]) (Ts:=[]) rfl λ w0=>?_;refine ae 16 [.own 2,.ro 0] λ n1=>aah (Jw (n1+0) (n1+1) tk bp b o c j1 j2 full Aa Ab ca cb t _ (av hb) (av hq) hc U0 Ur ht (aA 2) (aA 1) VJ)<|ai 21 [.own 2,.ro 0,.rorow 1 (1+o) 1,.rorow 1 (1+o) 2,.rorow 1 (1+o) 3,.rorow 1 (1+o) 4] [(o*5+9)=(1+o)*5+4 /\ (1+o)<(o+c),(o*5+8)=(1+o)*5+3 /\ (1+o)<(o+c),(o*5+7)=(1+o)*5+2 /\ (1+o)<(o+c),(o*5+6)=(1+o)*5+1 /\ (1+o)<(o+c)] λ _=>aK 26 (congrArg (λ v_:Ver=>(.agg #[.slice v_.A v_.n v_.c,vI v_.e0,vI v_.e1,vI v_.e2]:Value)) Ur)<|ae 5 (aab 4) λ n2=>aak [8] []<|ag [] [0,1,4,2,5] (aab 4)<|aae 3 (aaf [] (Hp:=[]) (Tp:=[]) [] [] (mD Ab (fS j2) cb (kD j2) _ hC.up (by have:=vQ hj;omega)) ?_);rintro _ ⟨A3,c4,T5⟩ ⟨rfl,hc6⟩;dsimp only at hc6;refine ag [] [6,7] []<|aae 8 (aag [] [.own 1,.own 1,.own 1,.own 1] λ _=>?_);refine aad<|ae 1 [] λ _=>aap [.own 1,.own 1,.own 1,.own 1] [] [0] (v:=.tuple #[vI 1,.agg #[.slice A3 (fS j2) c4,vI (cq j2 0),vI (cq j2 1),vI (cq j2 2)]]) (H':=(ap [] [T5])) ?_;exact⟨(A3,c4,T5),rfl,rfl,hc6⟩
theorem Book2.at{tk:Int}{j1 j2 bp:Nat}{TB F:HL}(hB:Book2 tk j1 j2 bp TB)(hT:∀x∈TB,x∈F)(XD:j1<5)(VG:j2<5)(t:Int)(ht:0 <= t):AtOk F bp t (if tk>t then (j1,0) else (j2,1)):=λ F' hF=>by
 cases hB with
 | mk A c A1 A2 c1 c2 Hl T1 T2 hs h1 h2 =>
  rcases hs with ⟨_,_,h,_⟩|⟨b,o,full,rfl,rfl,e1,e2,e3⟩
  ·cases h
  ·have hc:2 <= c:=e2;have U0:full.getD o fN.dflt=kF 0 j1 A1 c1:=by have:=mK e3 (k:=0) (by simp) fN.dflt;rw[Nat.add_zero] at this;exact this
   have Ur:full.getD (1+o) fN.dflt=kF tk j2 A2 c2:=by have:=mK e3 (k:=1) (by simp) fN.dflt;rw[Nat.add_comm o 1] at this;exact this
   have hm:∀x,x∈ap [(bp,Blk.lit [.slice (some ⟨b,o*fN.w,none⟩) 2 c] 149 (0,0))] [[(b,.rows fN.w (o+c) (aP fN full) 146 (0,0))],T1,T2] -> x∈F':=λ x hx=>hF x (hT x hx)
   by_cases VJ:tk>t
   ·rw[if_pos VJ];exact RA tk bp b o c j1 j2 full A1 A2 c1 c2 t F' (hm _ (aax _ aay)) (hm _ (aav _ aay)) hc U0 Ur ht XD (h1.src F' λ x hx=>hm x (by simp[ap,hx])) VJ
   ·rw[if_neg VJ];exact RB tk bp b o c j1 j2 full A1 A2 c1 c2 t F' (hm _ (aax _ aay)) (hm _ (aav _ aay)) hc U0 Ur ht VG (h2.src F' λ x hx=>hm x (by simp[ap,hx])) VJ
def J2(tk:Int)(j1 j2 i:Nat):Nat × Int:=if tk>(i:Int) then (j1,0) else (j2,1)
theorem pQ{tk:Int}{j1 j2 bp:Nat}{TB F:HL}(hB:Book2 tk j1 j2 bp TB)(hT:∀x∈TB,x∈F)(XD:j1<5)(VG:j2<5){t:Nat}{v:Int}(e:v=(t:Int)):(J2 tk j1 j2 t).1<5 /\ AtOk F bp v (J2 tk j1 j2 t):=by
 subst e;refine⟨?_,hB.at hT XD VG _ (by omega)⟩;unfold J2;split
 ·exact XD
 ·exact VG
theorem TE2.cs{S:Setup}{t:Int}{M N:MemS}(h:M.cs=N.cs)(hT:TE2 S t M):TE2 S t N:=by
 have hg:∀k,N.get k=M.get k:=λ k=>by unfold MemS.get;rw[h]
 exact⟨by rw[<- h];exact hT.len,λ k h1 h2=>by rw[hg];exact hT.z k h1 h2,by rw[hg];exact hT.t0⟩
theorem RwsIn.take{F:HL}{rs:List Rw}{xss:List (List Inp)}(h:RwsIn F rs xss)(k:Nat):RwsIn F (rs.take k) (xss.take k):=by
 refine⟨by rw[aaL,aaL,h.len],λ i hi=>?_⟩;rw[aaL] at hi;have e1:(xss.take k).getD i []=xss.getD i []:=by rw[aaE,aaE,aa2,if_pos (by omega)]
 have e2:(rs.take k).getD i jK.dflt=rs.getD i jK.dflt:=by rw[aaE,aaE,aa2,if_pos (by omega)]
 rw[e1,e2];exact h.row i (by omega)
theorem RwsIn.drop{F:HL}{rs:List Rw}{xss:List (List Inp)}(h:RwsIn F rs xss)(k:Nat):RwsIn F (rs.drop k) (xss.drop k):=by
 refine⟨by rw[aaM,aaM,h.len],λ i hi=>?_⟩;rw[aaM] at hi;have e1:(xss.drop k).getD i []=xss.getD (k+i) []:=by rw[aaE,aaE,aa1]
 have e2:(rs.drop k).getD i jK.dflt=rs.getD (k+i) jK.dflt:=by rw[aaE,aaE,aa1]
 rw[e1,e2];exact h.row (k+i) (by omega)
abbrev uy(tk:Int)(j1 j2 t:Nat):Nat -> Nat × Int:=λ i=>J2 tk j1 j2 (t+i)
def Setup.std(S:Setup):Setup:={ S with bo:=0,bods:=lw S }
theorem je(S:Setup):SetEq S S.std:=⟨⟨rfl,rfl,rfl,rfl,rfl,rfl,rfl,rfl,rfl,rfl,rfl,rfl⟩,λ k hk=>⟨(S.body k).sh.A,(S.body k).sh.cap,by
 show (lw S).getD (0+k) dB=_;rw[Nat.zero_add,lS hk];rfl⟩,rfl,jW S⟩
def WS(S:Setup)(J:Nat -> Nat × Int)(xss:List (List Inp))(i:Nat):List Int:=(kX (rG S.std J xss) ⟨bm S S.nb,[],0⟩ i).cs
theorem SetEq.refl0{S S2:Setup}(h:SetEq S S2)(J:Nat -> Nat × Int)(xss:List (List Inp)):∀k,GEq (rG S.std J xss k) (rG S2 J xss k):=Js (je S) h J xss
section
variable {S S2:Setup} {J:Nat -> Nat × Int} {xss:List (List Inp)} {n:Nat}
theorem Jy(hV:SetV S)(he:SetEq S S2)(hn:n <= 50)(I_:∀i,i<n -> RowOk S.players (xss.getD i [])){i:Nat}(hi:i <= n):TE2 S2 (i:Int) ⟨WS S J xss i,[],0⟩:=by
 have h:=CT (he.setV hV) (wa hV he) (xss:=xss) J n hn (λ i hi=>by rw[he.pl];exact I_ i hi) i hi;exact TE2.cs (show (kX (rG S2 J xss) _ i).cs=(⟨WS S J xss i,[],0⟩:MemS).cs by rw[<- sc (he.refl0 J xss)];rfl) h
theorem ML(hV:SetV S)(he:SetEq S S2)(hn:n <= 50)(I_:∀i,i<n -> RowOk S.players (xss.getD i [])){i:Nat}(hi:i<n):TkOk S2 (J i) (xss.getD i []) ⟨WS S J xss i,[],0⟩:=by
 have h:=MH (he.setV hV) (wa hV he) (xss:=xss) J n hn (λ i hi=>by rw[he.pl];exact I_ i hi) i hi;exact TkOk.cs (show (kX (rG S2 J xss) _ i).cs=(⟨WS S J xss i,[],0⟩:MemS).cs by rw[<- sc (he.refl0 J xss)];rfl) h
theorem CV(he:SetEq S S2)(i:Nat):WS S J xss (i+1)=(gn (kT S2 (J i) (xss.getD i [])) ⟨WS S J xss i,[],0⟩).cs:=by
 unfold WS;rw[kX,Aj (he.refl0 J xss i)];exact vk _ rfl
theorem Ox(hV:SetV S)(he:SetEq S S2)(hn:n <= 50)(I_:∀i,i<n -> RowOk S.players (xss.getD i [])){i:Nat}(hi:i <= n):((WS S J xss i).length:Int)=sizeOf S:=by
 have h:=(Jy (J:=J) hV he hn I_ hi).len;rw[he.size] at h;exact h
theorem pm{α:Type}{l:List α}{i:Nat}(h:i<l.length)(d:α):l.take (i+1)=l.take i++[l.getD i d]:=by
 rw[List.take_add_one,aaO h,aaE,aaO h];rfl
end
theorem CW{G G':Nat -> Gm}{M:MemS}:∀k,(∀i,i<k -> G i=G' i) -> kX G M k=kX G' M k
 | 0,_=>rfl
 | k+1,h=>by rw[kX,kX,CW k λ i hi=>h i (by omega),h k (by omega)]
theorem CX(S:Setup)(J:Nat -> Nat × Int)(xss:List (List Inp))(k:Nat):WS S J (xss.take k) k=WS S J xss k:=by
 unfold WS;refine congrArg MemS.cs (CW k λ i hi=>?_);show kT _ _ _=kT _ _ _;rw[show (xss.take k).getD i []=xss.getD i [] by rw[aaE,aaE,aa2,if_pos hi]]
def wb(pl:Nat)(rows:List (List Inp)):List Inp:=match rows.getLast? with
 | none=>List.replicate pl dI
 | some r=>r.map kc
def f7(pl SI:Nat)(rows:List (List Inp))(loc:Int -> Option Inp)(t:Nat):List Inp :=
 if t<rows.length then rows.getD t [] else match loc (t:Int) with
 | none=>wb pl rows
 | some x=>(wb pl rows).set SI x
theorem uz:fg dI:=by decide
theorem Jz{x:Inp}(h:fg x):fg (kc x):=by
 obtain⟨h1,h2,h3⟩:=h;exact⟨h1,h2,by show ¬ (0:Int)<0;decide,by show ¬ (0:Int)>3;decide⟩
theorem lF{pl:Int}{r:List Inp}(h1:(r.length:Int)=pl)(h2:∀x∈r,fg x):RowOk pl r:=⟨h1,λ k hk=>h2 _ (iH hk _)⟩
theorem RowOk.mem{pl:Int}{r:List Inp}(h:RowOk pl r):∀x∈r,fg x:=λ x hx=>by
 obtain⟨i,hi,rfl⟩:=List.mem_iff_getElem.1 hx;have:=h.2 i hi;rwa [aaE,aaO hi] at this
theorem CY{pl:Nat}{rows:List (List Inp)}(h:∀r∈rows,RowOk pl r):RowOk pl (wb pl rows):=by
 unfold wb;split
 ·exact lF (by simp) (λ x hx=>by rw[(List.mem_replicate.1 hx).2];exact uz)
 ·next r hr =>
  have h1:=h r (List.mem_of_getLast? hr);refine lF (by rw[List.length_map];exact h1.1) λ x hx=>?_;obtain⟨y,hy,rfl⟩:=List.mem_map.1 hx;exact Jz (h1.mem y hy)
theorem wc{pl SI:Nat}{rows:List (List Inp)}{loc:Int -> Option Inp}(h:∀r∈rows,RowOk pl r)(hk:∀t x,loc t=some x -> fg x)(t:Nat):RowOk pl (f7 pl SI rows loc t):=by
 unfold f7;split
 ·next ht=>exact h _ (iH ht _)
 ·split
  ·exact CY h
  ·next x hx =>
   have hb:=CY h;refine lF (by rw[List.length_set];exact hb.1) λ y hy=>?_;rcases List.mem_or_eq_of_mem_set hy with h1|rfl
   ·exact hb.mem y h1
   ·exact hk _ _ hx
theorem pn{pl SI:Nat}{rows:List (List Inp)}{loc:Int -> Option Inp}{t:Nat}(h:t<rows.length):rows[t]?=some (f7 pl SI rows loc t):=by
 unfold f7;rw[if_pos h,aaE,aaO h];rfl
def gP(S:Setup)(J:Nat -> Nat × Int):Nat -> List Inp -> Gm:=λ t xs=>kT S.std (J t) xs
theorem Bh(S:Setup)(J:Nat -> Nat × Int)(V:List (List Inp)):∀n,n <= V.length -> Be (gP S J) 0 (bm S S.nb) (V.take n)=WS S J V n
 | 0,_=>rfl
 | n+1,h=>by
  have hl:(V.take n).length=n:=by rw[aaL];omega
  rw[pm (by omega) [],rZ,hl,Bh S J V n (by omega),CV (je S) n,Nat.zero_add];rfl
theorem Bi(S:Setup)(J:Nat -> Nat × Int)(V:List (List Inp)):Be (gP S J) 0 (bm S S.nb) V=WS S J V V.length:=by
 have h:=Bh S J V V.length (aaI _);rwa [List.take_length] at h
theorem Bj(S:Setup)(J:Nat -> Nat × Int)(V:List (List Inp)):∀n,n <= V.length -> (wv (gP S J) 0 (bm S S.nb) (V.take n)).flatten=plE (rG S.std J V) ⟨bm S S.nb,[],0⟩ n
 | 0,_=>rfl
 | n+1,h=>by
  have hl:(V.take n).length=n:=by rw[aaL];omega
  rw[pm (by omega) [],r7,List.flatten_append,Bj S J V n (by omega),hl,Bh S J V n (by omega),Nat.zero_add,plE];congr 1;simp only[aaX,List.flatten_nil,List.append_nil];exact vn _ rfl
section
variable {ρ:Type} {g:Nat -> ρ -> Gm} {c0:List Int} {w m:Nat} {P:PS ρ} {V:List ρ}
theorem PInv.far(h:PInv g c0 w P V m):V.length <= m+w:=by
 have h1:=h.room;rcases h.ring with ⟨_,e⟩|⟨e,h2⟩
 ·rw[e];simp
 ·have h3:=h.back e;omega
theorem PInv.len_cs(h:PInv g c0 w P V m):P.effs.length=V.length:=by rw[h.effs,vX]
end
section
variable {S S2:Setup} {J:Nat -> Nat × Int} {w m:Nat} {P:PS (List Inp)} {V:List (List Inp)}
theorem PInv.ws(h:PInv (gP S J) (bm S S.nb) w P V m):P.M.cs=(⟨WS S J V V.length,[],0⟩:MemS).cs:=by rw[h.cs,Bi]
theorem PInv.te(h:PInv (gP S J) (bm S S.nb) w P V m)(hV:SetV S)(he:SetEq S S2)(hn:V.length <= 50)(hr:∀r∈V,RowOk S.players r):TE2 S2 (V.length:Int) P.M :=
 TE2.cs h.ws.symm (Jy hV he (n:=V.length) hn (λ i hi=>hr _ (iH hi _)) (aaI _))
theorem CZ{i:Nat}(r:List Inp)(hi:i <= V.length):WS S J (V++[r]) i=WS S J V i:=by
 rw[<- CX S J (V++[r]) i,List.take_append_of_le_length hi,CX]
theorem PInv.tk(h:PInv (gP S J) (bm S S.nb) w P V m)(hV:SetV S)(he:SetEq S S2)(hn:V.length<50)(hr:∀r∈V,RowOk S.players r){r:List Inp}(h1:RowOk S.players r):TkOk S2 (J V.length) r P.M:=by
 have h2:=ML (J:=J) (xss:=V++[r]) hV he (n:=V.length+1) (by omega) (λ i hi=>by
  refine(show ∀x∈V++[r],RowOk S.players x from λ x hx=>?_) _ (iH (by simpa using hi) _);rcases List.mem_append.1 hx with hx|hx
  ·exact hr x hx
  ·rw[List.mem_singleton.1 hx];exact h1) (i:=V.length) (by omega)
 rw[CZ r (aaI _),gy,if_neg (by omega),if_pos rfl] at h2;exact h2.cs h.ws.symm
theorem LZ(he:SetEq S S2)(t:Nat)(r:List Inp)(M:MemS):gn (kT S2 (J t) r) M=gn (gP S J t r) M:=Aj (v8 (he.nm2 (je S)) _ _ _) M
theorem L0(he:SetEq S S2)(t:Nat)(r:List Inp)(M:MemS):mC (kT S2 (J t) r) M=mC (gP S J t r) M:=G3 (v8 (he.nm2 (je S)) _ _ _) M
end
theorem Sp.fr{P:Program}{f:FuncId}{args:Array Value}{H H2 X F:HL}{R R2:Value -> HL -> Prop}(hp:H2.Perm (H++X))(h:Sp P f args H (X++F) R)(hr:∀u Y,R u Y -> ∃H',R2 u H' /\ H'.Perm (Y++X)):Sp P f args H2 F R2:=λ w hR =>
 (h w (by rw[<- aaD];exact hR.perm (hp.symm.append_right F))).mono λ e w' ⟨v,Y,h1,h2,h3,h4⟩=>by
  obtain⟨H',h5,h6⟩:=hr v Y h2;exact⟨v,H',h1,h5,(by rw[<- aaD] at h3;exact h3.perm (h6.append_right F)),h4⟩
inductive GameX(rs:List Bx)(ds:List Dr)(bp gb mb:Nat)(S:Setup)(M:MemS)(k:Nat):HL -> Prop
 | mk (T U:HL) (hM:MemH mb M k T) (hU:tR S rs ds U):GameX rs ds bp gb mb S M k (ap [(gb,.lit (dC S bp mb) 121 (0,0))] [T,U])
section
variable {rs:List Bx} {ds:List Dr} {bp gb mb:Nat} {S:Setup} {M:MemS} {k:Nat} {G0:HL}
theorem GameH.x(h:GameH rs ds bp gb S M k G0):∃mb,GameX rs ds bp gb mb S M k G0:=by
 cases h with
 | mk mb T U hM hU=>exact⟨mb,.mk T U hM hU⟩
theorem GameX.h(h:GameX rs ds bp gb mb S M k G0):GameH rs ds bp gb S M k G0:=by
 cases h with
 | mk T U hM hU=>exact .mk mb T U hM hU
theorem GameX.weak(h:GameX rs ds bp gb mb S M k G0){k':Nat}(hk:k' <= k):GameX rs ds bp gb mb S M k' G0:=by
 cases h with
 | mk T U hM hU=>exact .mk T U (hM.weak hk) hU
theorem GameX.mem(h:GameX rs ds bp gb mb S M k G0):∃T,MemH mb M k T /\ ∀x∈T,x∈G0:=by
 cases h with
 | mk T U hM hU=>exact⟨T,hM,λ x hx=>by simp[ap,hx]⟩
theorem JA(h:GameX rs ds bp gb mb S M k G0){F:HL}(hF:∀x∈G0,x∈F):Sp Tryz.prog 55 #[vP gb 0] [] F (λ u H'=>u=vP mb 0 /\ H'=[]):=by
 cases h with
 | mk T U hM hU=>exact HE S bp gb mb F (hF _ (by simp[ap]))
theorem JB(h:GameX rs ds bp gb mb S M k G0){F:HL}(hF:∀x∈G0,x∈F):Sp Tryz.prog 56 #[vP mb 0] (ap [] []) F (λ u H'=>∃q,H'=ap [(q,.rows 1 M.cs.length (aS M.cs) 3 (0,0))] [] /\ u=vS q 0 M.cs.length M.cs.length):=by
 obtain⟨T,hM,hT⟩:=h.mem;exact tK mb M k T F hM λ x hx=>hF x (hT x hx)
end
theorem zb{rs:List Bx}{ds:List Dr}{S:Setup}{bp gb mb b o N c k:Nat}{j:Nat × Int}{full xs:List Inp}{M:MemS}{G0 F:HL}(hG:GameX rs ds bp gb mb S M (k+20000) G0)(hj:j.1<5)(hA:AtOk F bp (M.get 0) j)(hE:cz F)(hI:(b,.rows 3 N (kM full) 40 (0,0))∈F)(hir:o+xs.length <= N)(Tf:xs.length <= 1000000)(hx:∀k,k<xs.length -> full.getD (o+k) dI=xs.getD k dI)(hk:TkOk S j xs M) :
  Sp Tryz.prog 57 #[vP gb 0,vS b (o*3) xs.length c] (ap [] [G0]) F (λ u H'=>∃x:(Option Addr × Nat × Nat) × HL × HL,H'=ap [] [x.2.1,x.2.2] /\ (GameX rs ds bp gb mb S (gn (kT S j xs) M) k x.2.1 /\ SlIs fG 111 (mC (kT S j xs) M) x.1.1 x.1.2.1 x.2.2 /\ u=.tuple #[.slice x.1.1 (mC (kT S j xs) M).length x.1.2.1,vI ((x.1.2.2+1:Nat):Int),vI 0])):=by
 obtain⟨m,hm,hg⟩:=hk.ex;obtain⟨e1,e2⟩:=I0 hm hg;cases hG with
 | mk T U hM hU =>
  rw[bj];refine(yQ S rs ds bp gb mb b o N xs.length c m k j full xs M T U F hj hA hU hE hI hir Tf (by omega) rfl hx (hM.weak (by omega)) hk.now hg hk.ok).mono λ u H' h=>?_;obtain⟨x,rfl,h1,h2,h3⟩:=h;rw[e1] at h1;rw[e2] at h2 h3;exact⟨((x.2.1,x.2.2.1,m),ap [(gb,.lit (dC S bp mb) 121 (0,0))] [x.1,U],x.2.2.2),by simp[ap],.mk x.1 U h1 hU,h2,h3⟩
theorem Oy{rs:List Bx}{ds:List Dr}{bp gb mb:Nat}{S:Setup}{M:MemS}{k:Nat}{G0:HL}(h:GameX rs ds bp gb mb S M k G0){F:HL}(hF:∀x∈G0,x∈F)(hb:0 <= M.base /\ M.base <= 1000000000):Sp Tryz.prog 59 #[vP mb 0] [] F (λ u H'=>u=vI (M.base+(M.lg.length:Int)) /\ H'=[]):=by
 obtain⟨T,hM,hT⟩:=h.mem;exact vV hM (λ x hx=>hF x (hT x hx)) hb
theorem Qm{rs:List Bx}{ds:List Dr}{bp gb mb:Nat}{S:Setup}{M:MemS}{k:Nat}{G0:HL}(h:GameX rs ds bp gb mb S M k G0)(F:HL){k2:Nat}(hk:k2 <= 100000000)(hb:0 <= M.base /\ M.base <= 1000000000):Sp Tryz.prog 58 #[vP mb 0,vI (M.base+(M.lg.length:Int))] (ap [] [G0]) F (λ u H'=>∃x,H'=ap [] [x] /\ (u=vI 0 /\ GameX rs ds bp gb mb S ⟨M.cs,[],M.base+(M.lg.length:Int)⟩ k2 x)):=by
 cases h with
 | mk T U hM hU =>
  have h1:=yR (k2:=k2) ([(gb,Blk.lit (dC S bp mb) 121 (0,0))]++(U++F)) hM hb hk;refine Sp.fr (X:=[(gb,Blk.lit (dC S bp mb) 121 (0,0))]++U) ?_ (F:=F) (by rw[aaD];exact h1) ?_
  ·rw[bj,bj];show (([(gb,Blk.lit (dC S bp mb) 121 (0,0))]++[T,U].flatten)).Perm _;simp only[aaX,List.flatten_nil,List.append_nil];exact(List.perm_append_comm_assoc _ _ _)
  ·rintro u Y ⟨x,rfl,rfl,h4⟩;refine⟨ap [(gb,Blk.lit (dC S bp mb) 121 (0,0))] [x,U],⟨_,(bj _).symm,rfl,.mk x U h4 hU⟩,?_⟩;rw[bj];show (([(gb,Blk.lit (dC S bp mb) 121 (0,0))]++[x,U].flatten)).Perm _;simp only[aaX,List.flatten_nil,List.append_nil];exact(List.perm_append_comm_assoc _ _ _)
section
variable {r:Option Nat} {P:Program} {N:Nat} {D:List Deferred} {F:HL} {w0:World} {R:HL} {s:Cfg} {Q:Exit -> Act -> World -> Prop} {hards:List Nat} {Rd:HL}
def Qn(p:Nat)(O:Obj)(s:Cfg):Cfg:=match s with
 | ⟨c,k,L,A,Ts⟩=>⟨c,k,L,match A[p]? with|some x=>bq A p (x.1,.obj O)|none=>A,Ts⟩
end
open Go.Shelf
def sR(x:Int × Value × Nat):MapEntry:={ key:=vI x.1,val:=x.2.1,born:=x.2.2 }
abbrev bE(kv:List (Int × Value × Nat))(c:Nat):Obj:=.map ⟨kv.map sR⟩ c
def om:List (Int × Value × Nat) -> Int -> Nat -> Option (Nat × Value)
 | [],_,_=>none
 | x::l,k,i=>if (k == x.1)=true then some (i,x.2.1) else om l k (i+1)
def sS(kv:List (Int × Value × Nat))(k:Int):Option Value:=(om kv k 0).map (·.2)
def lG(kv:List (Int × Value × Nat))(c:Nat)(k:Int)(v:Value):List (Int × Value × Nat):=match om kv k 0 with
 | some (i,_)=>kv.modify i (λ x=>(k,v,x.2.2))
 | none=>kv++[(k,v,c)]
def jf(kv:List (Int × Value × Nat))(c:Nat)(k:Int):Nat:=match om kv k 0 with
 | some _=>c
 | none=>c+1
def my(kv:List (Int × Value × Nat))(k:Int):List (Int × Value × Nat):=match om kv k 0 with
 | some (i,_)=>kv.eraseIdx i
 | none=>kv
theorem mg(k:Int):∀ (kv:List (Int × Value × Nat)) (i j:Nat) (v:Value),om kv k i=some (j,v) -> i <= j /\ ∃n,kv[j-i]?=some (k,v,n)
 | [],_,_,_,h=>by cases h
 | x::l,i,j,v,h=>by
  rw[om] at h;split at h
  ·rename_i hk;simp only[Option.some.injEq,Prod.mk.injEq] at h;obtain⟨rfl,rfl⟩:=h;have e:k=x.1:=by simpa using hk
   subst e;exact⟨aaI _,x.2.2,by simp⟩
  ·obtain⟨h1,n,h2⟩:=mg k l (i+1) j v h;refine⟨by omega,n,?_⟩;rw[show j-i=(j-(i+1))+1 by omega,List.getElem?_cons_succ];exact h2
theorem uB(ik:IntKind)(k:Int):∀ (kv:List (Int × Value × Nat)) (i:Nat),Instr.findNow (.int ik) (vI k) (kv.map sR) i=some (om kv k i)
 | [],_=>rfl
 | x::l,i=>by
  rw[List.map_cons,Instr.findNow,om];simp only[Instr.sameNow,sR,if_true];cases h:(k == x.1) with
  | true=>simp
  | false=>simp[uB ik k l (i+1)]
theorem po{P:Program}{kt:TypeId}{ik:IntKind}(hk:P.underlying kt=some (.int ik))(k:Int)(kv:List (Int × Value × Nat))(w:World):(Instr.findKey kt (vI k) (kv.map sR)).run P w=.ok (om kv k 0) w:=by
 unfold Instr.findKey;rw[aaZ,aF hk];simp only[Result.andThen,uB];rfl
theorem nu{P:Program}{kt:TypeId}{ik:IntKind}(hk:P.underlying kt=some (.int ik))(e:Bool)(k:Int)(w:World):(Instr.checkKey e 10000 kt (vI k)).run P w=.ok () w:=by
 rw[show (10000:Nat)=9999+1 from rfl,Instr.checkKey.eq_def];simp only;rw[aaZ,aF hk];rfl
abbrev FG(kv:List (Int × Value × Nat))(k:Int)(ok:Bool)(z:Value):Value:=if ok=true then .tuple #[(sS kv k).getD z,.bool (sS kv k).isSome] else (sS kv k).getD z
theorem zc{P:Program}{w:World}{t kt et:TypeId}{ik:IntKind}{b c:Nat}{kv:List (Int × Value × Nat)}{k:Int}{z:Value}{i:TypeInfo}(ok:Bool)(ht:P.underlying t=some (.map kt et))(hk:P.underlying kt=some (.int ik))(hi:P.info? et=some i)(hz:i.zero=some z)(hb:w.heap[b]?=some (bE kv c)) :
  (Instr.lookup t (.map (some b)) (vI k) ok).run P w=.ok (FG kv k ok z) w:=by
 unfold Instr.lookup;rw[aaZ,aF ht];simp only[Result.andThen,aaZ,ge hb,cD,nu hk,po hk];unfold FG sS;cases h:om kv k 0 with
 | some x =>
  obtain⟨j,v⟩:=x;cases ok <;> rfl
 | none =>
  simp only[zeroValue,aaZ,cZ hi,Result.andThen,hz,cD];cases ok <;> rfl
theorem kG{P:Program}{w:World}{b n:Nat}{es:Array MapEntry}(hb:w.heap[b]?=some (.map es n))(o:Obj):(setObj b o).run P w=.ok () { w with heap:=w.heap.setIfInBounds b o }:=by
 unfold setObj;rw[Sem.run.eq_def];simp only[hb];rfl
theorem pR{P:Program}{w:World}{t kt et:TypeId}{ik:IntKind}{b c:Nat}{kv:List (Int × Value × Nat)}{k:Int}{v:Value}(ht:P.underlying t=some (.map kt et))(hk:P.underlying kt=some (.int ik))(hb:w.heap[b]?=some (bE kv c)) :
  (Instr.mapUpdate t (.map (some b)) (vI k) v).run P w=.ok () { w with heap:=w.heap.setIfInBounds b (bE (lG kv c k v) (jf kv c k)) }:=by
 unfold Instr.mapUpdate;rw[aaZ,aF ht];simp only[Result.andThen,aaZ,ge hb,nu hk,po hk];unfold lG jf;cases h:om kv k 0 with
 | none =>
  simp only[kG hb];congr 3;simp[sR]
 | some x =>
  obtain⟨j,u⟩:=x;obtain⟨h1,n,h2⟩:=mg k kv 0 j u h;rw[Nat.sub_zero] at h2;have hks:((⟨kv.map sR⟩:Array MapEntry)[j]?).map (·.key)=some (vI k):=by simp[h2,sR]
  simp only[aaZ,hks,Option.getD_some];have abB:(Instr.keyThatStays (vI k) (vI k)).run P w=.ok (vI k) w:=by
   unfold Instr.keyThatStays;rw[show (10000:Nat)=9999+1 from rfl,if_pos (by simp[Instr.sameBits])];rfl
  rw[abB];refine(kG hb _).trans ?_;congr 3;simp only[Obj.map.injEq,and_true];apply Array.toList_inj.1;simp only[Array.toList_modify];apply List.ext_getElem?;intro m;simp only[List.getElem?_modify,List.getElem?_map]
  by_cases e:j=m
  ·subst e;simp[h2,sR]
  ·simp[e]
theorem mL{α β:Type}(f:α -> β):∀ (l:List α) (j:Nat),(l.map f).eraseIdx j=(l.eraseIdx j).map f
 | [],_=>rfl
 | _::_,0=>rfl
 | x::l,j+1=>by simp[mL f l j]
theorem zd{P:Program}{w:World}{t kt et ty x:TypeId}{ik:IntKind}{b c:Nat}{kv:List (Int × Value × Nat)}{k:Int}(ht:P.underlying t=some (.map kt et))(hk:P.underlying kt=some (.int ik))(hb:w.heap[b]?=some (bE kv c)) :
  (Builtin.delete_ #[t,x] ty #[.map (some b),vI k]).run P w=.ok (.tuple #[]) { w with heap:=w.heap.setIfInBounds b (bE (my kv k) c) }:=by
 unfold Builtin.delete_;simp only[List.getElem?_toArray,List.getElem?_cons_zero,List.getElem?_cons_succ];rw[aaZ,aF ht];simp only[Result.andThen,aaZ,ge hb,nu hk,po hk];unfold my;cases h:om kv k 0 with
 | none =>
  simp only[aaZ,kG hb];rfl
 | some x =>
  obtain⟨j,u⟩:=x;obtain⟨h1,n,h2⟩:=mg k kv 0 j u h;rw[Nat.sub_zero] at h2;have hj:j<kv.length:=(List.getElem?_eq_some_iff.1 h2).1;simp only[aaZ,kG hb];show Result.ok _ _=_;congr 3;simp only[Obj.map.injEq,and_true];apply Array.toList_inj.1;rw[Array.eraseIdxIfInBounds,dif_pos (by simpa using hj)];show ((kv.map sR).toArray.eraseIdx j _).toList=_;rw[List.eraseIdx_toArray];exact mL sR kv j
def JC(P:Program)(N p:Nat)(oo:Option Oper)(s:Cfg):Option (Int × Bool × Value × Nat × Nat × Obj):=match oo with
 | some o=>match o.guard,o.op,(ee N o.dst undef s.L).isSome with
  | none,.lookup t x ix ok,true=>match gB s.L x && gB s.L ix,fy s.L x,fy s.L ix,P.underlying t,s.A[p]? with
   | true,.map (some b),.int .i64 k,some (.map kt et),some (b',.obj O)=>match P.underlying kt,(P.info? et).bind (·.zero) with
    | some (.int _),some z=>some (k,ok,z,b,b',O)
    | _,_=>none
   | _,_,_,_,_=>none
  | _,_,_=>none
 | none=>none
def Qo(x:Option (Int × Bool × Value × Nat × Nat × Obj)):Nat:=match x with
 | some (_,_,_,_,b,_)=>b
 | none=>0
theorem E7{P:Program}{N p:Nat}{oo:Option Oper}{s:Cfg}{k:Int}{ok:Bool}{z:Value}{b:Nat}{O:Obj}(h:JC P N p oo s=some (k,ok,z,b,b,O)) :
  ∃o t x ix kt et i ik,oo=some o /\ o.guard=none /\ o.op=.lookup t x ix ok /\ (gB s.L x && gB s.L ix)=true /\ fy s.L x=.map (some b) /\ fy s.L ix=.int .i64 k /\ P.underlying t=some (.map kt et) /\ P.underlying kt=some (.int ik) /\ P.info? et=some i /\ i.zero=some z /\ s.A[p]?=some (b,.obj O) /\ (ee N o.dst undef s.L).isSome=true:=by
 unfold JC at h;split at h
 case h_2=>cases h
 rename_i o;split at h
 case h_2=>cases h
 rename_i t x ix ok' h1 h2 h3;split at h
 case h_2=>cases h
 rename_i b1 k1 kt et b2 O1 h4 h5 h6 h7 h8;split at h
 case h_2=>cases h
 rename_i ik z1 h9 TO;simp only[Option.some.injEq,Prod.mk.injEq] at h;obtain⟨e1,e2,e3,e4,e5,e6⟩:=h;subst e1;subst e2;subst e3;subst e4;subst e5;subst e6;rw[Option.bind_eq_some_iff] at TO;obtain⟨i,hi,hz⟩:=TO;exact⟨o,t,x,ix,kt,et,i,ik,rfl,h1,h2,h4,h5,h6,h7,h9,hi,hz,h8,h3⟩
section
variable {r:Option Nat} {P:Program} {N:Nat} {D:List Deferred} {F:HL} {w0:World} {R:HL} {s:Cfg} {Q:Exit -> Act -> World -> Prop} {hards:List Nat} {Rd:HL}
theorem pq(p:Nat){kv:List (Int × Value × Nat)}{cl:Nat}{k:Int}{ok:Bool}{z v:Value}(ev:FG kv k ok z=v)(hk:RN r P N D F w0 R (dW N v s) Q)
  (h:JC P N p (gI s) s=some (k,ok,z,Qo (JC P N p (gI s) s),Qo (JC P N p (gI s) s),bE kv cl):=by kernel_rfl):RN r P N D F w0 R s Q:=by
 subst ev;obtain⟨o,t,x,ix,kt,et,i,ik,q0,q1,q2,q3,q4,q5,q6,q7,q8,q9,IF,R8⟩:=E7 h;refine⟨λ hR a w hF f_ hB=>?_⟩;obtain⟨c,kk,L,A,Ts⟩:=s;unfold gI at q0;cases c with
 | code c=>cases q0
 | ex c=>cases q0
 | drw _ _=>cases q0
 | ops ops j =>
  simp only at q0 q3 q4 q5 IF R8 hF f_;have oR:ops.toList.drop j=o::ops.toList.drop (j+1):=by
   have iN:j<ops.toList.length:=(List.getElem?_eq_some_iff.1 q0).1;rw[List.drop_eq_getElem_cons iN,(List.getElem?_eq_some_iff.1 q0).2]
  show wpListIn _ _ _ _ _ _ _ _;rw[oR,wpListIn,if_pos (by simp[Region.wanted,q1])];refine⟨λ _ _=>trivial,?_⟩;rw[aaV] at q3;have hb:=f_.holds _ (aax _ (aax _ (List.mem_of_getElem? IF)));simp only[Blk.den] at hb;obtain⟨L',hl⟩:=db R8 (FG kv k ok z);have RU:dW N (FG kv k ok z) ⟨.ops ops j,kk,L,A,Ts⟩=⟨.ops ops (j+1),kk,L',A,Ts⟩:=by
   unfold dW;simp only[q0,hl]
  have hh:=hk.h hR;rw[RU] at hh;have hex:(execOp a.eval o).run P w=.ok (.value (FG kv k ok z)) w:=by
   have e1:a.eval x=.map (some _):=(hF.eval q3.1).trans q4;have e2:a.eval ix=.int .i64 k:=(hF.eval q3.2).trans q5;have:=zc (P:=P) (w:=w) (k:=k) ok q6 q7 q8 q9 hb;simp only[execOp,q2,e1,e2,aaZ,this,Result.andThen];rfl
  rw[Oper.semAt_eq _ _ _ (by rw[q2];intro c hc;cases hc),hex,Oper.uponIn_value];exact hh _ w (hF.put hl) f_ hB
def sT(P:Program)(N p:Nat)(oo:Option Oper)(s:Cfg):Option (Int × Value × Nat × Nat × Obj):=match oo with
 | some o=>match o.guard,o.op,(ee N o.dst undef s.L).isSome with
  | none,.mapUpdate t m x v,true=>match gB s.L m && (gB s.L x && gB s.L v),fy s.L m,fy s.L x,P.underlying t,s.A[p]? with
   | true,.map (some b),.int .i64 k,some (.map kt _),some (b',.obj O)=>match P.underlying kt with
    | some (.int _)=>some (k,fy s.L v,b,b',O)
    | _=>none
   | _,_,_,_,_=>none
  | none,.insert t m x v,true=>match gB s.L m && (gB s.L x && gB s.L v),fy s.L m,fy s.L x,P.underlying t,s.A[p]? with
   | true,.map (some b),.int .i64 k,some (.map kt _),some (b',.obj O)=>match P.underlying kt with
    | some (.int _)=>some (k,fy s.L v,b,b',O)
    | _=>none
   | _,_,_,_,_=>none
  | _,_,_=>none
 | none=>none
def E8(x:Option (Int × Value × Nat × Nat × Obj)):Nat:=match x with
 | some (_,_,_,b,_)=>b
 | none=>0
theorem uC{P:Program}{N p:Nat}{oo:Option Oper}{s:Cfg}{k:Int}{v:Value}{b:Nat}{O:Obj}(h:sT P N p oo s=some (k,v,b,b,O)) :
  ∃o t m x y kt et ik,oo=some o /\ o.guard=none /\ (o.op=.mapUpdate t m x y \/ o.op=.insert t m x y) /\ gB s.L m=true /\ gB s.L x=true /\ gB s.L y=true /\ fy s.L m=.map (some b) /\ fy s.L x=.int .i64 k /\ fy s.L y=v /\ P.underlying t=some (.map kt et) /\ P.underlying kt=some (.int ik) /\ s.A[p]?=some (b,.obj O) /\ (ee N o.dst undef s.L).isSome=true:=by
 unfold sT at h;split at h
 case h_2=>cases h
 rename_i o;split at h
 case h_3=>cases h
 all_goals
  rename_i t m x y h1 h2 h3;split at h
  case h_2=>cases h
  rename_i b1 k1 kt et b2 O1 h4 h5 h6 h7 h8;split at h
  case h_2=>cases h
  rename_i ik h9;simp only[Option.some.injEq,Prod.mk.injEq] at h;obtain⟨e1,e2,e3,e4,e5⟩:=h;subst e1;subst e3;subst e4;subst e5;rw[aaV,aaV] at h4
 ·exact⟨o,t,m,x,y,kt,et,ik,rfl,h1,.inl h2,h4.1,h4.2.1,h4.2.2,h5,h6,e2,h7,h9,h8,h3⟩
 ·exact⟨o,t,m,x,y,kt,et,ik,rfl,h1,.inr h2,h4.1,h4.2.1,h4.2.2,h5,h6,e2,h7,h9,h8,h3⟩
theorem RC(p:Nat){kv:List (Int × Value × Nat)}{cl:Nat}{k:Int}{v:Value}(hk:RN r P N D F w0 R (Qn p (bE (lG kv cl k v) (jf kv cl k)) (dW N undef s)) Q)
  (h:sT P N p (gI s) s=some (k,v,E8 (sT P N p (gI s) s),E8 (sT P N p (gI s) s),bE kv cl):=by kernel_rfl):RN r P N D F w0 R s Q:=by
 obtain⟨o,t,m,x,y,kt,et,ik,q0,q1,q2,q3,Yd,VQ,q4,q5,q5',q6,q7,IF,R8⟩:=uC h;refine⟨λ hR a w hF f_ hB=>?_⟩;generalize E8 (sT P N p (gI s) s)=b at *;obtain⟨c,kk,L,A,Ts⟩:=s;unfold gI at q0;cases c with
 | code c=>cases q0
 | ex c=>cases q0
 | drw _ _=>cases q0
 | ops ops j =>
  simp only at q0 q3 Yd VQ q4 q5 q5' IF R8 hF f_;have oR:ops.toList.drop j=o::ops.toList.drop (j+1):=by
   have iN:j<ops.toList.length:=(List.getElem?_eq_some_iff.1 q0).1;rw[List.drop_eq_getElem_cons iN,(List.getElem?_eq_some_iff.1 q0).2]
  show wpListIn _ _ _ _ _ _ _ _;rw[oR,wpListIn,if_pos (by simp[Region.wanted,q1])];refine⟨λ _ _=>trivial,?_⟩;have hb:=f_.holds _ (aax _ (aax _ (List.mem_of_getElem? IF)));simp only[Blk.den] at hb;obtain⟨L',hl⟩:=db R8 undef;have RU:dW N undef ⟨.ops ops j,kk,L,A,Ts⟩=⟨.ops ops (j+1),kk,L',A,Ts⟩:=by
   unfold dW;simp only[q0,hl]
  have hh:=hk.h hR;rw[RU] at hh;have e1:a.eval m=.map (some b):=(hF.eval q3).trans q4;have e2:a.eval x=.int .i64 k:=(hF.eval Yd).trans q5;have e3:a.eval y=v:=(hF.eval VQ).trans q5';have Ym:=pR (P:=P) (w:=w) (k:=k) (v:=v) q6 q7 hb;have hex:(execOp a.eval o).run P w=.ok .skip { w with heap:=w.heap.setIfInBounds b (bE (lG kv cl k v) (jf kv cl k)) }:=by
   rcases q2 with q2|q2
   ·simp only[execOp,q2,e1,e2,e3,aaZ,Ym,Result.andThen];rfl
   ·simp only[execOp,q2,e1,e2,e3,aaZ,Ym,Result.andThen];rfl
  have Ue:∀c,o.op ≠ .defer c:=by
   intro c hc;rcases q2 with q2|q2 <;> rw[q2] at hc <;> cases hc
  rw[Oper.semAt_eq _ _ _ Ue,hex,Oper.uponIn_skip];have iN:=cr hb;rw[eJ] at f_;have C_:=f_.upd (w':={ w with heap:=w.heap.setIfInBounds b (bE (lG kv cl k v) (jf kv cl k)) }) (bl':=.obj (bE (lG kv cl k v) (jf kv cl k))) IF (by
   show (w.heap.setIfInBounds b _)[b]?=_;rw[Array.getElem?_setIfInBounds_self_of_lt iN];rfl) (λ k' UF=>by
   show (w.heap.setIfInBounds b _)[k']?=_;rw[Array.getElem?_setIfInBounds_ne (λ e=>UF e.symm)])
  refine hh _ _ (hF.put hl) ?_ (hB.trans ⟨rfl,rfl,rfl,by simp,λ k hk=>by omega⟩);show Rel (ap (match A[p]? with|some x=>bq A p (x.1,.obj (bE (lG kv cl k v) (jf kv cl k)))|none=>A) Ts++F) _;rw[IF,eJ];exact C_
end
def Fa(P:Program)(N p:Nat)(s:Cfg):Option (Int × Nat × Nat × Obj):=match gI s with
 | some o=>match o.guard,o.op,(ee N o.dst undef s.L).isSome with
  | none,.call c,true=>match c.callee,c.args.toList,c.argTypes.toList with
   | .builtin .delete,[m,x],[t,_]=>match gB s.L m && gB s.L x,fy s.L m,fy s.L x,P.underlying t,s.A[p]? with
    | true,.map (some b),.int .i64 k,some (.map kt _),some (b',.obj O)=>match P.underlying kt with
     | some (.int _)=>some (k,b,b',O)
     | _=>none
    | _,_,_,_,_=>none
   | _,_,_=>none
  | _,_,_=>none
 | none=>none
def Oz(x:Option (Int × Nat × Nat × Obj)):Nat:=match x with
 | some (_,b,_,_)=>b
 | none=>0
theorem Fb{P:Program}{N p:Nat}{s:Cfg}{k:Int}{b:Nat}{O:Obj}(h:Fa P N p s=some (k,b,b,O)) :
  ∃o t tx m x kt et ik,gI s=some o /\ o.guard=none /\ o.op=.call { callee:=.builtin .delete,args:=#[m,x],argTypes:=#[t,tx] } /\ gB s.L m=true /\ gB s.L x=true /\ fy s.L m=.map (some b) /\ fy s.L x=vI k /\ P.underlying t=some (.map kt et) /\ P.underlying kt=some (.int ik) /\ s.A[p]?=some (b,.obj O) /\ (ee N o.dst undef s.L).isSome=true:=by
 unfold Fa at h;split at h
 case h_2=>cases h
 rename_i o ho;split at h
 case h_2=>cases h
 rename_i c h1 h2 h3;split at h
 case h_2=>cases h
 rename_i m x t tx g1 g2 g3;split at h
 case h_2=>cases h
 rename_i b1 k1 kt et b2 O1 h4 h5 h6 h7 h8;split at h
 case h_2=>cases h
 rename_i ik h9;simp only[Option.some.injEq,Prod.mk.injEq] at h;obtain⟨e1,e2,e3,e4⟩:=h;subst e1;subst e2;subst e3;subst e4;rw[aaV] at h4;refine⟨o,t,tx,m,x,kt,et,ik,ho,h1,?_,h4.1,h4.2,h5,h6,h7,h9,h8,h3⟩;obtain⟨cal,args,ats⟩:=c;simp only at g1 g2 g3;subst g1;have e1:args=#[m,x]:=by cases args;simp_all
 have e2:ats=#[t,tx]:=by cases ats;simp_all
 rw[h2,e1,e2]
section
variable {r:Option Nat} {P:Program} {N:Nat} {D:List Deferred} {F:HL} {w0:World} {R:HL} {s:Cfg} {Q:Exit -> Act -> World -> Prop}
theorem OA(p:Nat){kv:List (Int × Value × Nat)}{cl:Nat}{k:Int}(hk:RN r P N D F w0 R (Qn p (bE (my kv k) cl) (dW N (.tuple #[]) s)) Q)
  (h:Fa P N p s=some (k,Oz (Fa P N p s),Oz (Fa P N p s),bE kv cl):=by kernel_rfl):RN r P N D F w0 R s Q:=by
 obtain⟨o,t,tx,m,x,kt,et,ik,q0,q1,q2,q3,Yd,q4,q5,q6,q7,IF,R8⟩:=Fb h;refine⟨λ hR a w hF f_ hB=>?_⟩;generalize Oz (Fa P N p s)=b at *;obtain⟨c,kk,L,A,Ts⟩:=s;unfold gI at q0;cases c with
 | code c=>cases q0
 | ex c=>cases q0
 | drw _ _=>cases q0
 | ops ops j =>
  simp only at q0 q3 Yd q4 q5 IF R8 hF f_;have oR:ops.toList.drop j=o::ops.toList.drop (j+1):=by
   have iN:j<ops.toList.length:=(List.getElem?_eq_some_iff.1 q0).1;rw[List.drop_eq_getElem_cons iN,(List.getElem?_eq_some_iff.1 q0).2]
  show wpListIn _ _ _ _ _ _ _ _;rw[oR,wpListIn,if_pos (by simp[Region.wanted,q1])];refine⟨λ _ _=>trivial,?_⟩;have hb:=f_.holds _ (aax _ (aax _ (List.mem_of_getElem? IF)));simp only[Blk.den] at hb;have iN:=cr hb;have key:dt P o a w λ u w'=>u=.tuple #[] /\ Rel (ap (match A[p]? with|some x=>bq A p (x.1,.obj (bE (my kv k) cl))|none=>A) Ts++F) w' /\ Below 0 w w':=by
   have e1:a.eval m=.map (some b):=(hF.eval q3).trans q4;have e2:a.eval x=vI k:=(hF.eval Yd).trans q5;have iF:=zd (P:=P) (w:=w) (x:=tx) (ty:=o.type) (k:=k) q6 q7 hb;unfold dt;have he:(execOp a.eval o).run P w=.ok (.value (.tuple #[])) { w with heap:=w.heap.setIfInBounds b (bE (my kv k) cl) }:=by
    simp[execOp,q2,resolve,invoke,builtin,aaZ,e1,e2,iF]
   rw[he];rw[eJ] at f_;have C_:=f_.upd (w':={ w with heap:=w.heap.setIfInBounds b (bE (my kv k) cl) }) (bl':=.obj (bE (my kv k) cl)) IF (by
    show (w.heap.setIfInBounds b _)[b]?=_;rw[Array.getElem?_setIfInBounds_self_of_lt iN];rfl) (λ k' UF=>by
    show (w.heap.setIfInBounds b _)[k']?=_;rw[Array.getElem?_setIfInBounds_ne (λ e=>UF e.symm)])
   refine⟨rfl,?_,⟨rfl,rfl,rfl,by simp,λ k hk=>by omega⟩⟩;rw[IF,eJ];exact C_
  refine eZ (by rw[q2];intro c hc;cases hc) key ?_;rintro u w' ⟨rfl,C_,TF⟩;obtain⟨L',hl⟩:=db R8 (.tuple #[]);have hh:=hk.h hR;have RU:dW N (.tuple #[]) ⟨.ops ops j,kk,L,A,Ts⟩=⟨.ops ops (j+1),kk,L',A,Ts⟩:=by
   unfold dW;simp only[q0,hl]
  rw[RU] at hh;exact hh _ w' (hF.put hl) C_ (hB.trans TF)
end
end Go.Proofs.YtdppjkjbghbnjaaGreatDoor
