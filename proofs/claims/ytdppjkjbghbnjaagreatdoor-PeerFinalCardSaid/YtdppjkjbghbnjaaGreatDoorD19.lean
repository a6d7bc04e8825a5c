import Derived.Test.YtdppjkjbghbnjaaGreatDoorD18
set_option maxHeartbeats 4000000
set_option maxRecDepth 100000
set_option linter.all false
namespace Go.Proofs.YtdppjkjbghbnjaaGreatDoor
open IntKind
open Go.RowKit
theorem o9{S:Setup}(hp:0 <= S.players){k:Int}(h:0 <= k /\ k<S.nb):af S k >= 0:=by
 unfold af;rw[if_neg (by omega),if_neg (by omega)];omega
theorem Hi.setMot{S:Setup}(hp:0 <= S.players){A M:MemS}(h:Hi S.players A M){t:Stp}(ht:t.S=S){k:Int}(hb:af S k >= 0)(m:Mot):Hi S.players A (dp t k m M):=by
 subst ht;unfold dp;exact(((h.setB hp hb (by omega) _).setB hp hb (by omega) _).setB hp hb (by omega) _).setB hp hb (by omega) _
theorem I7{S:Setup}(hS:SetV S){t:Stp}(ht:t.S=S)(M:MemS):Hi S.players M (dK t M):=by
 have hp:0 <= S.players:=by have:=hS.pl;omega
 unfold dK;rw[ht];split
 ·next h1 =>
  split
  ·next h2 =>
   split
   ·have b1:=o9 hp h1;have b2:=o9 hp h2;unfold fE;rw[ht];exact(((((Hi.refl).setMot hp ht b1 _).setMot hp ht b2 _).setB hp b1 (by omega) _).setB hp b2 (by omega) _)
   ·exact .refl
  ·exact .refl
 ·exact .refl
theorem q4{S:Setup}(hS:SetV S){g:Gm}(hg:g.S=S){ins:Nat -> Inp}{M:MemS}(h:TV S ins M)(hp:M.get 1=4):Nx S ins M ⟨bI (g.step M) M,0,bC,false⟩:=by
 have hpl:=hS.pl;have Vh:=hS.nb;have RU:=hS.ro;have hc:0 <= M.get 4 /\ M.get 4 <= S.rounds /\ (2 <= (S.nb:Int) -> 0 <= M.get 2 /\ M.get 2<M.get 3 /\ M.get 3<S.nb /\ (M.get 4=S.rounds -> M.get 2=0 /\ M.get 3=1)):=by rcases h.ct with h|h|h|h|h|h|h|h <;> omega
 have hl:=h.l48 hS;have hh:=I7 hS (t:=g.step M) hg M;have fin:nr S M>l5 S.nb 0 0 -> Nx S ins M ⟨(aL (g.step M) 5 0 M).set 5 1024,0,bC,false⟩:=λ iF=>by
  refine iu hS h (by omega) ((Hi.refl (P:=S.players)).kp (by omega)) ((aO _ _ _).trans (fZ _ _ _)) (p:=5) (i:=0) (j:=0) (q:=M.get 4) (x:=1024) (fu:=M.get 8) (λ k=>?_) rfl ((Hi.refl (P:=S.players)).ef (by omega)) (.inr (.inr (.inr (.inr (.inr (.inl ⟨rfl,by omega,by omega,by omega,by omega⟩)))))) (by omega) iF;rw[bX (by rw[fZ];exact hl) (by omega) (by omega),j7 hl]
  by_cases k5:k=5
  ·subst k5;simp
  ·rw[if_neg k5]
   by_cases k1:k=1
   ·subst k1;simp
   by_cases k2:k=2
   ·subst k2;simp
   by_cases k3:k=3
   ·subst k3;simp
   by_cases k4:k=4
   ·subst k4;simp
   simp[k1,k2,k3,k4,k5]
 have e4l:nr S M=l4 S.nb S.rounds (M.get 2) (M.get 3) (M.get 4):=by unfold nr;rw[hp];rfl
 unfold bI;show Nx S ins M ⟨if (g.S.nb:Int)<2 then _ else if M.get 4 >= g.S.rounds then _ else _,0,bC,false⟩;rw[hg];split
 ·next h2=>exact fin (by rw[e4l];unfold l4;rw[if_pos h2];omega)
 split
 ·next h2 h3 =>
  refine fin ?_;have e:M.get 4=S.rounds:=by omega
  obtain⟨c1,c2,c3,c4⟩:=hc.2.2 (by omega);obtain⟨d1,d2⟩:=c4 e;rw[e4l,e,d1,d2];unfold l4;rw[if_neg (by omega),Int.sub_self,Int.zero_mul];show _>_;unfold Mm;simp only[if_true];omega
 next h2 h3 =>
 obtain⟨c1,c2,c3,-⟩:=hc.2.2 (by omega);show Nx S ins M ⟨(((dK (g.step M) M).set 4 (dz (M.get 2) (M.get 3) g.S.nb (M.get 4)).1).set 2 (dz (M.get 2) (M.get 3) g.S.nb (M.get 4)).2.1).set 3 (dz (M.get 2) (M.get 3) g.S.nb (M.get 4)).2.2,0,bC,false⟩;rw[hg];generalize dK (g.step M) M=N at *;have RM:48 <= N.cs.length:=by rw[hh.len];exact hl
 have e1:=hh.get 1 (by omega);have e5:=hh.get 5 (by omega);have e8:=hh.get 8 (by omega);have hq:(0 <= (dz (M.get 2) (M.get 3) S.nb (M.get 4)).1 /\ (dz (M.get 2) (M.get 3) S.nb (M.get 4)).1 <= S.rounds) /\ (0 <= (dz (M.get 2) (M.get 3) S.nb (M.get 4)).2.1 /\ (dz (M.get 2) (M.get 3) S.nb (M.get 4)).2.1<(dz (M.get 2) (M.get 3) S.nb (M.get 4)).2.2 /\ (dz (M.get 2) (M.get 3) S.nb (M.get 4)).2.2<S.nb /\ ((dz (M.get 2) (M.get 3) S.nb (M.get 4)).1=S.rounds -> (dz (M.get 2) (M.get 3) S.nb (M.get 4)).2.1=0 /\ (dz (M.get 2) (M.get 3) S.nb (M.get 4)).2.2=1)) /\
   l4 S.nb S.rounds (dz (M.get 2) (M.get 3) S.nb (M.get 4)).2.1 (dz (M.get 2) (M.get 3) S.nb (M.get 4)).2.2 (dz (M.get 2) (M.get 3) S.nb (M.get 4)).1<l4 S.nb S.rounds (M.get 2) (M.get 3) (M.get 4):=by
  have hn2:(2:Int) <= S.nb /\ (S.nb:Int) <= 5:=by omega
  have Um:M.get 4<S.rounds:=by omega
  have hq0:=hc.1;unfold dz;rw[dh (by omega),dh (by omega),dh (by omega),dh (by omega)];clear e1 e5 e8 e4l fin hc h;generalize M.get 2=i at *;generalize M.get 3=j at *;generalize M.get 4=q at *;generalize S.rounds=R at *;generalize (S.nb:Int)=n at *;split
  ·simp only;refine⟨⟨by omega,by omega⟩,⟨by omega,by omega,by omega,λ e=>by omega⟩,?_⟩;unfold l4;rw[if_neg (by omega),if_neg (by omega)];omega
  ·split
   ·refine⟨⟨by simp only;omega,by simp only;omega⟩,⟨by simp only;omega,by simp only;omega,by simp only;omega,λ e=>by simp only at e;omega⟩,?_⟩;simp only;unfold l4 Mm N5;obtain h|h|h|h:n=2 \/ n=3 \/ n=4 \/ n=5:=by omega
    all_goals subst h
    all_goals (have:i=0 \/ i=1 \/ i=2:=by omega)
    all_goals (rcases this with rfl|rfl|rfl)
    all_goals first|omega|(simp;omega)
   ·refine⟨⟨by simp only;omega,by simp only;omega⟩,⟨by simp only;omega,by simp only;omega,by simp only;omega,λ e=>⟨rfl,rfl⟩⟩,?_⟩;simp only;unfold l4 Mm N5;obtain h|h|h|h:n=2 \/ n=3 \/ n=4 \/ n=5:=by omega
    all_goals subst h
    all_goals (have:i=0 \/ i=1 \/ i=2 \/ i=3:=by omega)
    all_goals (rcases this with rfl|rfl|rfl|rfl)
    all_goals first|omega|(simp;omega)
 generalize dz (M.get 2) (M.get 3) S.nb (M.get 4)=z at *;refine iu hS h (by omega) (hh.kp (by omega)) (by simp only[aO]) (p:=4) (i:=z.2.1) (j:=z.2.2) (q:=z.1) (x:=N.get 5) (λ k=>?_) e8 (hh.ef (by omega)) (.inr (.inr (.inr (.inr (.inl ⟨rfl,hq.1.1,hq.1.2,λ _=>hq.2.1⟩))))) (by omega) (by rw[e4l];exact hq.2.2);rw[bX (by simp only[aO];exact RM) (by omega) (by omega),bX (by simp only[aO];exact RM) (by omega) (by omega),bX RM (by omega) (by omega)]
 by_cases k1:k=1
 ·subst k1;simp;omega
 by_cases k2:k=2
 ·subst k2;simp
 by_cases k3:k=3
 ·subst k3;simp
 by_cases k4:k=4
 ·subst k4;simp
 by_cases k5:k=5
 ·subst k5;simp
 simp[k1,k2,k3,k4,k5]
theorem yG{S:Setup}(hp:0 <= S.players){A M:MemS}(h:Hi S.players A M){t:Stp}{k c d:Int}(hb:af S k >= 0)(hc:0 <= c)(hd:0 <= d)(pos lo hi:Int):Hi S.players A (dR t (af S k+c) (af S k+d) pos lo hi M):=by
 unfold dR;split
 ·exact h.setB hp hb hc _
 ·exact(h.setB hp hb hc _).setB hp hb hd _
theorem EN{S:Setup}(hp:0 <= S.players){t:Stp}(ht:t.S=S)(M:MemS)(hb:af S t.i >= 0):Hi S.players M (cW t M):=by
 subst ht;unfold cW;exact yG hp (yG hp .refl hb (by omega) (by omega) _ _ _) hb (by omega) (by omega) _ _ _
theorem I8(t:Stp){M:MemS}(hl:48 <= M.cs.length)(k:Int):(eL t M).get k=(if k=5 then (eL t M).get 5 else M.get k) /\ (eL t M).cs.length=M.cs.length:=by
 have id5:M.get k=if k=5 then M.get 5 else M.get k:=by
  by_cases e:k=5
  ·rw[if_pos e,e]
  ·rw[if_neg e]
 unfold eL;split
 ·exact⟨id5,rfl⟩
 ·split
  ·split
   ·refine⟨?_,aO _ _ _⟩;rw[bX hl (by omega) (by omega),bX hl (by omega) (by omega)];split <;> simp
   ·exact⟨id5,rfl⟩
  ·exact⟨id5,rfl⟩
theorem q5{S:Setup}(hS:SetV S){g:Gm}(hg:g.S=S){ins:Nat -> Inp}{M:MemS}(h:TV S ins M)(hp:M.get 1=5):Nx S ins M ⟨dP (g.step M) M,0,bC,false⟩:=by
 have hpl:=hS.pl;have Vh:=hS.nb;have RU:=hS.ro;have hc:(0 <= M.get 2 /\ M.get 2<S.nb) /\ 0 <= M.get 3 /\ M.get 3 <= S.nb:=by rcases h.ct with h|h|h|h|h|h|h|h <;> omega
 have hl:=h.l48 hS;have e5l:nr S M=l5 S.nb (M.get 2) (M.get 3):=by unfold nr;rw[hp];rfl
 unfold dP;show Nx S ins M ⟨if 0 <= M.get 3 /\ M.get 3<g.S.nb then (eL (g.step M) M).set 3 (bd (M.get 3+1)) else fF (g.step M) (if movP g.S (M.get 2) then cW (g.step M) M else M),0,bC,false⟩;rw[hg];split
 ·next hj =>
  rw[dh (by omega)];have ht:=I8 (g.step M) hl;refine iu hS h (by omega) ((Hi.refl (P:=S.players)).kp (by omega)) ((aO _ _ _).trans (ht 0).2) (p:=5) (i:=M.get 2) (j:=M.get 3+1) (q:=M.get 4) (x:=(eL (g.step M) M).get 5) (fu:=M.get 8) (λ k=>?_) rfl ((Hi.refl (P:=S.players)).ef (by omega)) (.inr (.inr (.inr (.inr (.inr (.inl ⟨rfl,by omega,by omega,by omega,by omega⟩)))))) (by omega) ?_
  ·rw[bX (by rw[(ht 0).2];exact hl) (by omega) (by omega),(ht k).1]
   by_cases k1:k=1
   ·subst k1;simp;omega
   by_cases k2:k=2
   ·subst k2;simp
   by_cases k3:k=3
   ·subst k3;simp
   by_cases k4:k=4
   ·subst k4;simp
   by_cases k5:k=5
   ·subst k5;simp
   simp[k1,k2,k3,k4,k5]
  ·rw[e5l];show l5 S.nb (M.get 2) (M.get 3+1)<_;unfold l5;omega
 ·next hj =>
  have ej:M.get 3=S.nb:=by omega
  have hh:Hi S.players M (if movP S (M.get 2) then cW (g.step M) M else M):=by
   split
   ·next hm=>exact EN (by omega) hg M (o9 (by omega) hc.1)
   ·exact .refl
  generalize (if movP S (M.get 2) then cW (g.step M) M else M)=N at *;have RM:48 <= N.cs.length:=by rw[hh.len];exact hl
  have e1:=hh.get 1 (by omega);have e4:=hh.get 4 (by omega);have e8:=hh.get 8 (by omega);unfold fF;show Nx S ins M ⟨if bd (M.get 2+1)<g.S.nb then ((N.set 2 (bd (M.get 2+1))).set 3 0).set 5 1024 else (aL (g.step M) 6 0 N).set 5 0,0,bC,false⟩;rw[dh (by omega),hg];split
  ·refine iu hS h (by omega) (hh.kp (by omega)) (by simp only[aO]) (p:=5) (i:=M.get 2+1) (j:=0) (q:=N.get 4) (x:=1024) (λ k=>?_) e8 (hh.ef (by omega)) (.inr (.inr (.inr (.inr (.inr (.inl ⟨rfl,by omega,by omega,by omega,by omega⟩)))))) (by omega) ?_
   ·rw[bX (by simp only[aO];exact RM) (by omega) (by omega),bX (by simp only[aO];exact RM) (by omega) (by omega),bX RM (by omega) (by omega)]
    by_cases k1:k=1
    ·subst k1;simp;omega
    by_cases k2:k=2
    ·subst k2;simp
    by_cases k3:k=3
    ·subst k3;simp
    by_cases k4:k=4
    ·subst k4;simp
    by_cases k5:k=5
    ·subst k5;simp
    simp[k1,k2,k3,k4,k5]
   ·rw[e5l,ej];show l5 S.nb (M.get 2+1) 0<_;unfold l5;generalize M.get 2=i at *;obtain h|h|h|h|h:(S.nb:Int)=1 \/ (S.nb:Int)=2 \/ (S.nb:Int)=3 \/ (S.nb:Int)=4 \/ (S.nb:Int)=5:=by omega
    all_goals rw[h];omega
  ·refine iu hS h (by omega) (hh.kp (by omega)) ((aO _ _ _).trans (fZ _ _ _)) (p:=6) (i:=0) (j:=0) (q:=N.get 4) (x:=0) (λ k=>?_) e8 (hh.ef (by omega)) (.inr (.inr (.inr (.inr (.inr (.inr (.inl ⟨rfl,by omega,by omega,.inl rfl⟩))))))) (by omega) ?_
   ·rw[bX (by rw[fZ];exact RM) (by omega) (by omega),j7 RM]
    by_cases k1:k=1
    ·subst k1;simp
    by_cases k2:k=2
    ·subst k2;simp
    by_cases k3:k=3
    ·subst k3;simp
    by_cases k4:k=4
    ·subst k4;simp
    by_cases k5:k=5
    ·subst k5;simp
    simp[k1,k2,k3,k4,k5]
   ·rw[e5l,ej];show l6 S.nb 0 0 _<_;unfold l5 l6;generalize M.get 2=i at *;obtain h|h|h|h|h:(S.nb:Int)=1 \/ (S.nb:Int)=2 \/ (S.nb:Int)=3 \/ (S.nb:Int)=4 \/ (S.nb:Int)=5:=by omega
    all_goals rw[h];simp;omega
theorem yH{P:Int}{M:MemS}{e fu a b:Int}(hl:48 <= M.cs.length)(he:¬ e<0):Kp P M (aM e fu a b M) /\ (aM e fu a b M).get 8=fu /\ (aM e fu a b M).get 11=M.get 11:=by
 unfold aM;rw[if_neg he];refine⟨(((((Kp.refl).set (by omega) _).set (by omega) _).set (by omega) _).set (by omega) _).set (by omega) _,?_,?_⟩
 ·rw[bE (by decide),bE (by decide),jz (by simp only[aO];omega)]
 ·rw[bE (by decide),bE (by decide),bE (by decide),bE (by decide),bE (by decide)]
theorem CB{S:Setup}(hS:SetV S){g:Gm}(hg:g.S=S){ins:Nat -> Inp}{M:MemS}(h:TV S ins M){p:Int}(hp:M.get 1=p)(hp1:1 <= p)(e a o:Int)(c:Bool)(hi:0 <= M.get 2 /\ M.get 2 <= 5)(hj:M.get 3=0 \/ (M.get 3=1 /\ 0 <= M.get 8 /\ M.get 8 <= 60))
  (hc0:∀fu,Ou S.players S.nb S.rounds p (M.get 2+1) 0 (M.get 4) fu) (ZS:∀fu,0 <= fu -> fu <= 60 -> Ou S.players S.nb S.rounds p (M.get 2) 1 (M.get 4) fu)
  (l0:∀f f',Fi S.players S.nb S.rounds p (M.get 2+1) 0 (M.get 4) f<Fi S.players S.nb S.rounds p (M.get 2) 0 (M.get 4) f') (l1:∀f fu,fu <= 60 -> Fi S.players S.nb S.rounds p (M.get 2) 1 (M.get 4) fu<Fi S.players S.nb S.rounds p (M.get 2) 0 (M.get 4) f)
  (l2:∀f f',0 <= f' -> Fi S.players S.nb S.rounds p (M.get 2+1) 0 (M.get 4) f<Fi S.players S.nb S.rounds p (M.get 2) 1 (M.get 4) f') (l3:∀f,Fi S.players S.nb S.rounds p (M.get 2) 1 (M.get 4) (f-1)<Fi S.players S.nb S.rounds p (M.get 2) 1 (M.get 4) f) :
  Nx S ins M (dw (eK e (g.step M) a o M) (dE e (g.step M) a o M) (g.step M) c M).z:=by
 have hl:=h.l48 hS;have hpl:=hS.pl;have YV:0 <= M.get 11 /\ M.get 11 <= 40:=by
  rcases h.ec with e|e
  ·have:=e.1;omega
  ·exact e
 have skip:M.get 3=0 -> Nx S ins M ⟨M.set 2 (bd (M.get 2+1)),0,bC,false⟩:=λ Sn=>by
  rw[dh (by omega)];refine iu hS h (by omega) ((Hi.refl (P:=S.players)).kp (by omega)) (aO _ _ _) (p:=M.get 1) (i:=M.get 2+1) (j:=M.get 3) (q:=M.get 4) (x:=M.get 5) (fu:=M.get 8) (λ k=>Rb (f:=M.get) (bX hl (by omega) (by omega) k).symm) rfl ((Hi.refl (P:=S.players)).ef (by omega)) ?_ (by omega) ?_
  ·rw[hp,Sn];exact hc0 _
  ·unfold nr;rw[hp,Sn];exact l0 _ _
 unfold dw eK dE;show Nx S ins M (VR.z (if M.get 3=0 then _ else _))
 by_cases Sn:M.get 3=0
 ·rw[if_pos Sn];cases c with
  | false=>exact skip Sn
  | true =>
   rw[if_pos rfl]
   by_cases he:e<0
   ·show Nx S ins M (VR.z (if (if M.get 3=0 then decide (e<0) else _)=true then _ else _));rw[if_pos Sn,if_pos (by simpa using he)];show Nx S ins M ⟨(if M.get 3=0 then (if e<0 then (⟨aM e _ a o M,0,_,_⟩:VR) else _) else _).M.set 2 _,0,(if M.get 3=0 then (if e<0 then (⟨aM e _ a o M,0,_,_⟩:VR) else _) else _).e,(if M.get 3=0 then (if e<0 then (⟨aM e _ a o M,0,_,_⟩:VR) else _) else _).em⟩;rw[if_pos Sn,if_pos he];show Nx S ins M ⟨(aM e _ a o M).set 2 _,0,bC,false⟩;rw[show aM e g.S.fuel a o M=M by unfold aM;rw[if_pos he]];exact skip Sn
   ·show Nx S ins M (VR.z (if (if M.get 3=0 then decide (e<0) else _)=true then _ else _));rw[if_pos Sn,if_neg (by simpa using he)];show Nx S ins M ⟨(if M.get 3=0 then (if e<0 then _ else (⟨(aM e g.S.fuel a o M).set 3 1,0,bC,false⟩:VR)) else _).M,0,(if M.get 3=0 then (if e<0 then _ else (⟨(aM e g.S.fuel a o M).set 3 1,0,bC,false⟩:VR)) else _).e,(if M.get 3=0 then (if e<0 then _ else (⟨(aM e g.S.fuel a o M).set 3 1,0,bC,false⟩:VR)) else _).em⟩;rw[if_pos Sn,if_neg he,hg];obtain⟨s1,s2,s3⟩:=yH (P:=S.players) (M:=M) (fu:=S.fuel) (a:=a) (b:=o) hl he;generalize aM e S.fuel a o M=N at *;have RM:48 <= N.cs.length:=by rw[s1.len];exact hl
    refine iu hS h (by omega) s1 (aO _ _ _) (p:=p) (i:=M.get 2) (j:=1) (q:=M.get 4) (x:=M.get 5) (fu:=S.fuel) (λ k=>?_) s2 ⟨λ h=>by simp at h,λ _=>s3⟩ ?_ (by omega) ?_
    ·rw[bX RM (by omega) (by omega)];have n1:=s1.get 1 (by omega);have n2:=s1.get 2 (by omega);have n4:=s1.get 4 (by omega);have n5:=s1.get 5 (by omega)
     by_cases k1:k=1
     ·subst k1;simp;omega
     by_cases k2:k=2
     ·subst k2;simp;omega
     by_cases k3:k=3
     ·subst k3;simp
     by_cases k4:k=4
     ·subst k4;simp;omega
     by_cases k5:k=5
     ·subst k5;simp;omega
     simp[k1,k2,k3,k4,k5]
    ·exact ZS S.fuel hS.fu.1 hS.fu.2
    ·unfold nr;rw[hp,Sn];exact l1 _ _ hS.fu.2
 ·rw[if_neg Sn];obtain⟨W_,hf⟩:M.get 3=1 /\ (0 <= M.get 8 /\ M.get 8 <= 60):=by omega
  obtain⟨s1,s2,s3⟩:=yF hS (M:=M) (code:=g.code) (n:=g.cn) hl YV hf;show Nx S ins M (VR.z (if (if M.get 3=0 then _ else bA g.code g.cn M)=true then _ else _));rw[if_neg Sn];show Nx S ins M (VR.z (if bA g.code g.cn M=true then ⟨((if M.get 3=0 then _ else (⟨(ak g.S g.code g.cn M).M,0,(ak g.S g.code g.cn M).e,(ak g.S g.code g.cn M).em⟩:VR)).M.set 3 0).set 2 _,0,(if M.get 3=0 then _ else (⟨(ak g.S g.code g.cn M).M,0,(ak g.S g.code g.cn M).e,(ak g.S g.code g.cn M).em⟩:VR)).e,(if M.get 3=0 then _ else (⟨(ak g.S g.code g.cn M).M,0,(ak g.S g.code g.cn M).e,(ak g.S g.code g.cn M).em⟩:VR)).em⟩ else ⟨(if M.get 3=0 then _ else (⟨(ak g.S g.code g.cn M).M,0,(ak g.S g.code g.cn M).e,(ak g.S g.code g.cn M).em⟩:VR)).M,0,(if M.get 3=0 then _ else (⟨(ak g.S g.code g.cn M).M,0,(ak g.S g.code g.cn M).e,(ak g.S g.code g.cn M).em⟩:VR)).e,(if M.get 3=0 then _ else (⟨(ak g.S g.code g.cn M).M,0,(ak g.S g.code g.cn M).e,(ak g.S g.code g.cn M).em⟩:VR)).em⟩));rw[if_neg Sn,hg];generalize ak S g.code g.cn M=r at *;have RM:48 <= r.M.cs.length:=by rw[s1.len];exact hl
  have n1:=s1.get 1 (by omega);have n2:=s1.get 2 (by omega);have n3:=s1.get 3 (by omega);have n4:=s1.get 4 (by omega);have n5:=s1.get 5 (by omega)
  by_cases he:bA g.code g.cn M=true
  ·rw[if_pos he];show Nx S ins M ⟨(r.M.set 3 0).set 2 (bd (M.get 2+1)),0,r.e,r.em⟩;rw[dh (by omega)];refine iu hS h (by omega) s1 (by simp only[aO]) (p:=p) (i:=M.get 2+1) (j:=0) (q:=M.get 4) (x:=M.get 5) (fu:=r.M.get 8) (λ k=>?_) rfl ⟨s2.yes,s2.no⟩ (hc0 _) (by omega) ?_
   ·rw[bX (by simp only[aO];exact RM) (by omega) (by omega),bX RM (by omega) (by omega)]
    by_cases k1:k=1
    ·subst k1;simp;omega
    by_cases k2:k=2
    ·subst k2;simp
    by_cases k3:k=3
    ·subst k3;simp
    by_cases k4:k=4
    ·subst k4;simp;omega
    by_cases k5:k=5
    ·subst k5;simp;omega
    simp[k1,k2,k3,k4,k5]
   ·unfold nr;rw[hp,W_];exact l2 _ _ hf.1
  ·rw[if_neg he];show Nx S ins M ⟨r.M,0,r.e,r.em⟩;rcases s3 with ⟨s4,s5,s6⟩|⟨s4,s5,s6⟩
   ·refine iu hS h (by omega) s1 rfl (p:=p) (i:=M.get 2) (j:=1) (q:=M.get 4) (x:=M.get 5) (fu:=M.get 8-1) (λ k=>?_) s5 ⟨s2.yes,s2.no⟩ (ZS _ (by omega) (by omega)) (by omega) ?_
    ·show r.M.get k=_
     by_cases k1:k=1
     ·subst k1;simp;omega
     by_cases k2:k=2
     ·subst k2;simp;omega
     by_cases k3:k=3
     ·subst k3;simp;omega
     by_cases k4:k=4
     ·subst k4;simp;omega
     by_cases k5:k=5
     ·subst k5;simp;omega
     simp[k1,k2,k3,k4,k5]
    ·unfold nr;rw[hp,W_];exact l3 _
   ·exact absurd s5 he
theorem I9{S:Setup}(hS:SetV S){g:Gm}{ins:Nat -> Inp}{M:MemS}(h:TV S ins M)(h1:1 <= M.get 1){p:Int}(hc:Ou S.players S.nb S.rounds p 0 0 (M.get 4) (M.get 8))(hp:M.get 1 <= p)(hl:Fi S.players S.nb S.rounds p 0 0 (M.get 4) (M.get 8)<nr S M) :
  Nx S ins M ⟨aL (g.step M) p 0 M,0,bC,false⟩:=by
 have aeV:=h.l48 hS;have hpl:=hS.pl;refine iu hS h h1 ((Hi.refl (P:=S.players)).kp (by omega)) (fZ (g.step M) _ _) (p:=p) (i:=0) (j:=0) (q:=M.get 4) (x:=M.get 5) (fu:=M.get 8) (λ k=>?_) rfl ((Hi.refl (P:=S.players)).ef (by omega)) hc hp hl;exact if5 (f:=M.get) (j7 aeV (g.step M) _ _ k).symm rfl rfl
theorem q1{S:Setup}(hS:SetV S){g:Gm}(hg:g.S=S){ins:Nat -> Inp}{M:MemS}(h:TV S ins M)(hp:M.get 1=1):Nx S ins M (eX (g.step M) M):=by
 have hpl:=hS.pl;have Vh:=hS.nb;have RU:=hS.ro;have hc:0 <= M.get 2 /\ M.get 2 <= S.players /\ (M.get 3=0 \/ (M.get 3=1 /\ M.get 2<S.players /\ 0 <= M.get 8 /\ M.get 8 <= 60)):=by rcases h.ct with h|h|h|h|h|h|h|h <;> omega
 unfold eX;show Nx S ins M (if ah g.S (M.get 2)<0 then ⟨aL (g.step M) 2 0 M,0,bC,false⟩ else _);rw[hg];rcases uf (S:=S) (M.get 2) with ⟨e,e2⟩|⟨e1,e2,e3⟩
 ·rw[e,if_pos (by decide)];have ei:M.get 2=S.players:=by omega
  refine I9 hS h (by omega) (.inr (.inr (.inl ⟨rfl,.inl rfl⟩))) (by omega) ?_;unfold nr;rw[hp];show l2 _ _ 0 _<l1 _ _ _ (M.get 2) (M.get 3) (M.get 8);have:M.get 3=0:=by omega
  rw[this,ei];unfold l1 l2;simp;omega
 ·rw[if_neg (by omega)];refine CB hS hg h hp (by omega) g.e0 (M.get 2) _ _ (by omega) (by omega) (λ fu=>.inr (.inl ⟨rfl,by omega,by omega,.inl rfl⟩)) (λ fu f0 f1=>.inr (.inl ⟨rfl,by omega,by omega,.inr ⟨rfl,by omega,f0,f1⟩⟩)) (λ f f'=>?_) (λ f fu hfu=>?_) (λ f f' hf=>?_) (λ f=>?_)
  all_goals (show l1 _ _ _ _ _ _<l1 _ _ _ _ _ _;unfold l1;simp;omega)
theorem q6{S:Setup}(hS:SetV S){g:Gm}(hg:g.S=S){ins:Nat -> Inp}{M:MemS}(h:TV S ins M)(hp:M.get 1=6):Nx S ins M (eY (g.step M) M):=by
 have hpl:=hS.pl;have Vh:=hS.nb;have RU:=hS.ro;have hc:0 <= M.get 2 /\ M.get 2 <= S.nb /\ (M.get 3=0 \/ (M.get 3=1 /\ M.get 2<S.nb /\ 0 <= M.get 8 /\ M.get 8 <= 60)):=by rcases h.ct with h|h|h|h|h|h|h|h <;> omega
 unfold eY;show Nx S ins M (if af g.S (M.get 2)<0 then ⟨aL (g.step M) 7 0 M,0,bC,false⟩ else _);rw[hg]
 by_cases hb:af S (M.get 2)<0
 ·rw[if_pos hb];have ei:M.get 2=S.nb:=by
   unfold af at hb;rw[if_neg (by omega)] at hb;split at hb <;> omega
  refine I9 hS h (by omega) (.inr (.inr (.inr (.inr (.inr (.inr (.inr ⟨rfl,by omega,by omega⟩))))))) (by omega) ?_;unfold nr;rw[hp];show (S.nb:Int)-0<l6 _ (M.get 2) (M.get 3) (M.get 8);have:M.get 3=0:=by omega
  rw[this,ei];unfold l6;simp;omega
 ·rw[if_neg hb];have hi:M.get 2<S.nb:=by
   rcases od (S:=S) (by omega) (M.get 2) with e|⟨_,e,_⟩ <;> omega
  refine CB hS hg h hp (by omega) g.e2 (M.get 2) _ _ (by omega) (by omega) (λ fu=>.inr (.inr (.inr (.inr (.inr (.inr (.inl ⟨rfl,by omega,by omega,.inl rfl⟩))))))) (λ fu f0 f1=>.inr (.inr (.inr (.inr (.inr (.inr (.inl ⟨rfl,by omega,by omega,.inr ⟨rfl,by omega,f0,f1⟩⟩))))))) (λ f f'=>?_) (λ f fu hfu=>?_) (λ f f' hf=>?_) (λ f=>?_)
  all_goals (show l6 _ _ _ _<l6 _ _ _ _;unfold l6;simp;omega)
theorem q2{S:Setup}(hS:SetV S){g:Gm}(hg:g.S=S){ins:Nat -> Inp}{M:MemS}(h:TV S ins M)(hp:M.get 1=2):Nx S ins M (cT (g.step M) M):=by
 have hpl:=hS.pl;have Vh:=hS.nb;have RU:=hS.ro;have hl:=h.l48 hS;have YV:0 <= M.get 11 /\ M.get 11 <= 40:=by
  rcases h.ec with e|e
  ·have:=e.1;omega
  ·exact e
 have hj:M.get 3=0 \/ (M.get 3=1 /\ 0 <= M.get 8 /\ M.get 8 <= 60):=by rcases h.ct with h|h|h|h|h|h|h|h <;> omega
 have done:∀ (N:MemS) (e:Eff) (em:Bool),Kp S.players M N -> Ef M ⟨N,0,e,em⟩ -> Nx S ins M ⟨aL (g.step M) 3 0 N,0,e,em⟩:=λ N e em hN hE=>by
  have RM:48 <= N.cs.length:=by rw[hN.len];exact hl
  refine iu hS h (by omega) hN (fZ (g.step M) _ _) (p:=3) (i:=0) (j:=0) (q:=N.get 4) (x:=N.get 5) (fu:=N.get 8) (λ k=>if5 (f:=N.get) (j7 RM (g.step M) _ _ k).symm rfl rfl) rfl ⟨hE.yes,hE.no⟩ (.inr (.inr (.inr (.inl ⟨rfl,by omega,by omega⟩)))) (by omega) ?_;unfold nr;rw[hp];show l3 _ _ 0<l2 _ _ (M.get 3) (M.get 8);unfold l2;split <;> omega
 unfold cT dj jN eK dE;show Nx S ins M (if (if M.get 3=0 then decide (g.e1<0) else bA g.code g.cn M)=true then ⟨aL (g.step M) 3 0 (if M.get 3=0 then (if g.e1<0 then (⟨aM g.e1 g.S.fuel 0 0 M,0,bC,false⟩:VR) else ⟨(aM g.e1 g.S.fuel 0 0 M).set 3 1,0,bC,false⟩) else ⟨(ak g.S g.code g.cn M).M,0,(ak g.S g.code g.cn M).e,(ak g.S g.code g.cn M).em⟩).M,0,(if M.get 3=0 then (if g.e1<0 then (⟨aM g.e1 g.S.fuel 0 0 M,0,bC,false⟩:VR) else ⟨(aM g.e1 g.S.fuel 0 0 M).set 3 1,0,bC,false⟩) else ⟨(ak g.S g.code g.cn M).M,0,(ak g.S g.code g.cn M).e,(ak g.S g.code g.cn M).em⟩).e,(if M.get 3=0 then (if g.e1<0 then (⟨aM g.e1 g.S.fuel 0 0 M,0,bC,false⟩:VR) else ⟨(aM g.e1 g.S.fuel 0 0 M).set 3 1,0,bC,false⟩) else ⟨(ak g.S g.code g.cn M).M,0,(ak g.S g.code g.cn M).e,(ak g.S g.code g.cn M).em⟩).em⟩
  else ⟨(if M.get 3=0 then (if g.e1<0 then (⟨aM g.e1 g.S.fuel 0 0 M,0,bC,false⟩:VR) else ⟨(aM g.e1 g.S.fuel 0 0 M).set 3 1,0,bC,false⟩) else ⟨(ak g.S g.code g.cn M).M,0,(ak g.S g.code g.cn M).e,(ak g.S g.code g.cn M).em⟩).M,0,(if M.get 3=0 then (if g.e1<0 then (⟨aM g.e1 g.S.fuel 0 0 M,0,bC,false⟩:VR) else ⟨(aM g.e1 g.S.fuel 0 0 M).set 3 1,0,bC,false⟩) else ⟨(ak g.S g.code g.cn M).M,0,(ak g.S g.code g.cn M).e,(ak g.S g.code g.cn M).em⟩).e,(if M.get 3=0 then (if g.e1<0 then (⟨aM g.e1 g.S.fuel 0 0 M,0,bC,false⟩:VR) else ⟨(aM g.e1 g.S.fuel 0 0 M).set 3 1,0,bC,false⟩) else ⟨(ak g.S g.code g.cn M).M,0,(ak g.S g.code g.cn M).e,(ak g.S g.code g.cn M).em⟩).em⟩)
 by_cases Sn:M.get 3=0
 ·rw[if_pos Sn,if_pos Sn]
  by_cases he:g.e1<0
  ·rw[if_pos (by simpa using he),if_pos he];show Nx S ins M ⟨aL (g.step M) 3 0 (aM g.e1 g.S.fuel 0 0 M),0,bC,false⟩;rw[show aM g.e1 g.S.fuel 0 0 M=M by unfold aM;rw[if_pos he]];exact done M bC false .refl ⟨λ h=>by simp at h,λ _=>rfl⟩
  ·rw[if_neg (by simpa using he),if_neg he];show Nx S ins M ⟨(aM g.e1 g.S.fuel 0 0 M).set 3 1,0,bC,false⟩;rw[hg];obtain⟨s1,s2,s3⟩:=yH (P:=S.players) (M:=M) (fu:=S.fuel) (a:=0) (b:=0) hl he;generalize aM g.e1 S.fuel 0 0 M=N at *;have RM:48 <= N.cs.length:=by rw[s1.len];exact hl
   have n1:=s1.get 1 (by omega);have n2:=s1.get 2 (by omega);have n4:=s1.get 4 (by omega);have n5:=s1.get 5 (by omega);refine iu hS h (by omega) s1 (aO _ _ _) (p:=2) (i:=M.get 2) (j:=1) (q:=M.get 4) (x:=M.get 5) (fu:=S.fuel) (λ k=>?_) s2 ⟨λ h=>by simp at h,λ _=>s3⟩ (.inr (.inr (.inl ⟨rfl,.inr ⟨rfl,by have:=hS.fu;omega,by have:=hS.fu;omega⟩⟩))) (by omega) ?_
   ·show (N.set 3 1).get k=_;rw[bX RM (by omega) (by omega)]
    by_cases k1:k=1
    ·subst k1;simp;omega
    by_cases k2:k=2
    ·subst k2;simp;omega
    by_cases k3:k=3
    ·subst k3;simp
    by_cases k4:k=4
    ·subst k4;simp;omega
    by_cases k5:k=5
    ·subst k5;simp;omega
    simp[k1,k2,k3,k4,k5]
   ·have hfu:=hS.fu.2;unfold nr;rw[hp,Sn];show l2 _ _ 1 S.fuel<l2 _ _ 0 _;unfold l2;first|(simp;done)|(simp;omega)
 ·rw[if_neg Sn,if_neg Sn];obtain⟨W_,hf⟩:M.get 3=1 /\ (0 <= M.get 8 /\ M.get 8 <= 60):=by omega
  obtain⟨s1,s2,s3⟩:=yF hS (M:=M) (code:=g.code) (n:=g.cn) hl YV hf;rw[hg];generalize ak S g.code g.cn M=r at *;have n1:=s1.get 1 (by omega);have n2:=s1.get 2 (by omega);have n3:=s1.get 3 (by omega);have n4:=s1.get 4 (by omega);have n5:=s1.get 5 (by omega)
  by_cases he:bA g.code g.cn M=true
  ·rw[if_pos he];exact done r.M r.e r.em s1 ⟨s2.yes,s2.no⟩
  ·rw[if_neg he];show Nx S ins M ⟨r.M,0,r.e,r.em⟩;rcases s3 with ⟨s4,s5,s6⟩|⟨s4,s5,s6⟩
   ·refine iu hS h (by omega) s1 rfl (p:=2) (i:=M.get 2) (j:=1) (q:=M.get 4) (x:=M.get 5) (fu:=M.get 8-1) (λ k=>?_) s5 ⟨s2.yes,s2.no⟩ (.inr (.inr (.inl ⟨rfl,.inr ⟨rfl,by omega,by omega⟩⟩))) (by omega) ?_
    ·show r.M.get k=_
     by_cases k1:k=1
     ·subst k1;simp;omega
     by_cases k2:k=2
     ·subst k2;simp;omega
     by_cases k3:k=3
     ·subst k3;simp;omega
     by_cases k4:k=4
     ·subst k4;simp;omega
     by_cases k5:k=5
     ·subst k5;simp;omega
     simp[k1,k2,k3,k4,k5]
    ·unfold nr;rw[hp,W_];show l2 _ _ 1 _<l2 _ _ 1 _;unfold l2;first|(simp;done)|(simp;omega)
   ·exact absurd s5 he
structure En(S:Setup)(ins:Nat -> Inp)(M N:MemS):Prop where
 len:(N.cs.length:Int)=sizeOf S
 z:∀k:Int,1 <= k -> k <= 10 -> N.get k=0
 t0:N.get 0=M.get 0+1
 pl:∀q:Nat,(q:Int)<S.players -> N.get (48+4*q)=(ins q).dx /\ N.get (48+4*q+1)=(ins q).dy /\ N.get (48+4*q+2)=(ins q).act
 n11:N.get 11=M.get 11
theorem rS{M:MemS}(hl:48 <= M.cs.length):∀ (n:Nat),n <= 10 -> (∀k:Int,(cE M n).get k=if 1 <= k /\ k <= n then 0 else M.get k) /\ (cE M n).cs.length=M.cs.length
 | 0,_=>⟨λ k=>by rw[if_neg (by omega)];rfl,rfl⟩
 | n+1,hn=>by
  obtain⟨h1,h2⟩:=rS hl n (by omega);refine⟨λ k=>?_,?_⟩
  ·rw[cE,bX (by rw[h2];exact hl) (by omega) (by omega),h1]
   by_cases e:k=((n+1:Nat):Int)
   ·rw[if_pos e,if_pos (by omega)]
   ·rw[if_neg e]
    by_cases e2:1 <= k /\ k <= n
    ·rw[if_pos e2,if_pos (by omega)]
    ·rw[if_neg e2,if_neg (by omega)]
  ·rw[cE,aO];exact h2
theorem LB{S:Setup}(hp:0 <= S.players){t:Stp}(ht:t.S=S)(M:MemS):Hi S.players M (fO t M):=by
 subst ht;unfold fO;split
 ·next hb=>exact(Hi.refl).setB hp hb (by omega) _
 ·exact .refl
theorem q7{S:Setup}(hS:SetV S){g:Gm}(hg:g.S=S){ins:Nat -> Inp}{M:MemS}(h:TV S ins M)(hp:M.get 1=7):(fN (g.step M)=false /\ Nx S ins M ⟨du (g.step M) M,0,bC,false⟩) \/ (fN (g.step M)=true /\ En S ins M (du (g.step M) M)):=by
 have hpl:=hS.pl;have Vh:=hS.nb;have hc:0 <= M.get 2 /\ M.get 2<S.nb:=by rcases h.ct with h|h|h|h|h|h|h|h <;> omega
 have hl:=h.l48 hS;have WT:=h.t0;have hh:=LB (S:=S) (by omega) (t:=g.step M) hg M;unfold fN du f9;generalize fO (g.step M) M=N at *;have RM:48 <= N.cs.length:=by rw[hh.len];exact hl
 have e0:=hh.get 0 (by omega);have e1:=hh.get 1 (by omega);have e3:=hh.get 3 (by omega);have e4:=hh.get 4 (by omega);have e8:=hh.get 8 (by omega);show ((if bd (M.get 2+1)<g.S.nb then false else true)=false /\ Nx S ins M ⟨if bd (M.get 2+1)<g.S.nb then N.set 2 (bd (M.get 2+1)) else cE (N.set 0 (bd (N.get 0+1))) 10,0,bC,false⟩) \/ ((if bd (M.get 2+1)<g.S.nb then false else true)=true /\ En S ins M (if bd (M.get 2+1)<g.S.nb then N.set 2 (bd (M.get 2+1)) else cE (N.set 0 (bd (N.get 0+1))) 10));rw[dh (by omega),dh (by omega),hg]
 by_cases hi:M.get 2+1<S.nb
 ·rw[if_pos hi,if_pos hi];refine .inl ⟨rfl,iu hS h (by omega) (hh.kp (by omega)) (aO _ _ _) (λ k=>Rb (f:=N.get) (bX RM (by omega) (by omega) k).symm) e8 (hh.ef (by omega)) ?_ (by omega) ?_⟩
  ·rw[e1,e3,e4,hp];exact .inr (.inr (.inr (.inr (.inr (.inr (.inr ⟨rfl,by omega,by omega⟩))))))
  ·unfold nr;rw[e1,e3,e4,hp];show (S.nb:Int)-(M.get 2+1)<(S.nb:Int)-M.get 2;omega
 ·rw[if_neg hi,if_neg hi];obtain⟨z1,z2⟩:=rS (M:=N.set 0 (N.get 0+1)) (by rw[aO];exact RM) 10 (aa0 _);have g0:=bX (M:=N) (i:=0) (v:=N.get 0+1) RM (by omega) (by omega);refine .inr ⟨rfl,⟨by rw[z2,aO,hh.len];exact h.len,λ k k1 k2=>by rw[z1,if_pos (by omega)],by rw[z1,if_neg (by omega),g0,if_pos rfl,e0],λ q hq=>?_,by rw[z1,if_neg (by omega),g0,if_neg (by omega)];exact hh.get 11 (by omega)⟩⟩;have:=h.pl q (by rw[hp,if_neg (by omega)];exact hq);rw[z1,if_neg (by omega),g0,if_neg (by omega),hh.get _ (by omega),z1,if_neg (by omega),g0,if_neg (by omega),hh.get _ (by omega),z1,if_neg (by omega),g0,if_neg (by omega),hh.get _ (by omega)];exact this
theorem q0{S:Setup}(hS:SetV S){g:Gm}(hg:g.S=S){ins:Nat -> Inp}(hi:∀q:Nat,(q:Int)<S.players -> g.ins.getD (g.io+q) dI=ins q)(SE:S.players <= g.ni){M:MemS}(h:TV S ins M)(hp:M.get 1=0):Nx S ins M ⟨aR (g.step M) M,0,bC,false⟩:=by
 have hpl:=hS.pl;have Vh:=hS.nb;have hc:0 <= M.get 2 /\ M.get 2<S.players:=by rcases h.ct with h|h|h|h|h|h|h|h <;> omega
 have hl:=h.l48 hS;obtain⟨i,hii⟩:=Int.eq_ofNat_of_zero_le hc.1;have hpa:ah S (M.get 2)=48+4*(i:Int):=by
  rcases uf (S:=S) (M.get 2) with ⟨e,e2⟩|⟨e1,e2,e3⟩
  ·omega
  ·rw[e3,hii]
 have hlen:=h.len;have hA:(bg (g.step M) M).cs.length=M.cs.length /\ ∀k,(k <= 10 \/ 48 <= k \/ k=11) -> (bg (g.step M) M).get k=if k=11 then (if M.get 2=0 then 0 else M.get 11) else M.get k:=by
  unfold bg;show (if M.get 2=0 then (M.set 13 g.version).set 11 0 else M).cs.length=_ /\ _
  by_cases h0:M.get 2=0
  ·rw[if_pos h0];refine⟨by simp only[aO],λ k hk=>?_⟩;rw[if_pos h0,bX (by rw[aO];exact hl) (by omega) (by omega),bX hl (by omega) (by omega)]
   by_cases e:k=11
   ·rw[if_pos e,if_pos e]
   ·rw[if_neg e,if_neg e,if_neg (by omega)]
  ·rw[if_neg h0];refine⟨rfl,λ k hk=>?_⟩;rw[if_neg h0]
   by_cases e:k=11
   ·rw[if_pos e,e]
   ·rw[if_neg e]
 have hB:(bz (g.step M) (bg (g.step M) M)).cs.length=M.cs.length /\ (∀k,(k <= 11 \/ (48 <= k /\ (k<48+4*(i:Int) \/ 51+4*(i:Int) <= k))) -> (bz (g.step M) (bg (g.step M) M)).get k=if k=11 then (if M.get 2=0 then 0 else M.get 11) else M.get k) /\
   (bz (g.step M) (bg (g.step M) M)).get (48+4*(i:Int))=(ins i).dx /\ (bz (g.step M) (bg (g.step M) M)).get (48+4*(i:Int)+1)=(ins i).dy /\ (bz (g.step M) (bg (g.step M) M)).get (48+4*(i:Int)+2)=(ins i).act:=by
  generalize bg (g.step M) M=A at *;obtain⟨a1,a2⟩:=hA;have e:bz (g.step M) A=((A.set (48+4*(i:Int)+0) (ins i).dx).set (48+4*(i:Int)+1) (ins i).dy).set (48+4*(i:Int)+2) (ins i).act:=by
   unfold bz Stp.inp;show (if ah g.S (M.get 2) >= 0 then if M.get 2<(g.ni:Int) then ((A.set (ah g.S (M.get 2)+0) (g.ins.getD (g.io+(M.get 2).toNat) dI).dx).set (ah g.S (M.get 2)+1) (g.ins.getD (g.io+(M.get 2).toNat) dI).dy).set (ah g.S (M.get 2)+2) (g.ins.getD (g.io+(M.get 2).toNat) dI).act else A else A)=_;rw[hg,hpa,if_pos (by omega),if_pos (by omega),hii,Int.toNat_natCast,hi i (by omega)]
  rw[e];have hal:48+4*(i:Int)+2<A.cs.length:=by rw[a1];unfold sizeOf at hlen;omega
  refine⟨by simp only[aO];exact a1,λ k hk=>?_,?_,?_,?_⟩
  ·rw[bE (by omega),bE (by omega),bE (by omega)];exact a2 k (by omega)
  ·rw[bE (by omega),bE (by omega),Int.add_zero,jz (by omega)]
  ·rw[bE (by omega),jz (by rw[aO];omega)]
  ·rw[jz (by simp only[aO];omega)]
 unfold aR;generalize bz (g.step M) (bg (g.step M) M)=N at *;obtain⟨b1,b2,b3,b4,b5⟩:=hB;have RM:48 <= N.cs.length:=by rw[b1];exact hl
 have n0:=b2 0 (by omega);have n1:=b2 1 (by omega);have n2:=b2 2 (by omega);have n3:=b2 3 (by omega);have n4:=b2 4 (by omega);have n8:=b2 8 (by omega);have n11:=b2 11 (by omega);simp only[show ¬ ((0:Int)=11) by decide,show ¬ ((1:Int)=11) by decide,show ¬ ((2:Int)=11) by decide,show ¬ ((3:Int)=11) by decide,show ¬ ((4:Int)=11) by decide,show ¬ ((8:Int)=11) by decide,if_false,if_true] at n0 n1 n2 n3 n4 n8 n11;have TX:∀q:Nat,(q:Int)<(i:Int)+1 -> N.get (48+4*q)=(ins q).dx /\ N.get (48+4*q+1)=(ins q).dy /\ N.get (48+4*q+2)=(ins q).act:=λ q hq=>by
  by_cases e:q=i
  ·subst e;exact⟨b3,b4,b5⟩
  ·have h2:=h.pl q (by rw[if_pos hp,hii];omega);rw[b2 _ (by omega),b2 _ (by omega),b2 _ (by omega),if_neg (by omega),if_neg (by omega),if_neg (by omega)];exact h2
 have hsv:Fj M↔M.get 2=0:=⟨λ e=>e.2,λ e=>⟨hp,e⟩⟩;have SW:N.get 11=if Fj M then 0 else M.get 11:=by
  rw[n11]
  by_cases e:M.get 2=0
  ·rw[if_pos e,if_pos (hsv.2 e)]
  ·rw[if_neg e,if_neg (λ x=>e (hsv.1 x))]
 have YV:0 <= N.get 11 /\ N.get 11 <= 40:=by
  rw[SW];split
  ·omega
  ·rcases h.ec with e|e
   ·contradiction
   ·exact e
 unfold bS;show Nx S ins M ⟨if bd (M.get 2+1)<g.S.players then N.set 2 (bd (M.get 2+1)) else aL (g.step M) 1 0 N,0,bC,false⟩;rw[dh (by omega),hg];split
 ·have gg:=bX (M:=N) (i:=2) (v:=M.get 2+1) RM (by omega) (by omega);have g1:(N.set 2 (M.get 2+1)).get 1=0:=by rw[gg,if_neg (by decide),n1,hp]
  have g2:(N.set 2 (M.get 2+1)).get 2=M.get 2+1:=by rw[gg,if_pos rfl]
  refine⟨⟨by rw[aO,b1];exact hlen,by rw[gg,if_neg (by decide),n0];exact h.t0,by rw[g1,g2];exact .inl ⟨rfl,by omega,by omega⟩,λ q hq=>?_,.inr (by rw[gg,if_neg (by decide)];exact YV)⟩,?_,by rw[g1,hp];exact Int.le_refl _,by rw[gg,if_neg (by decide),n0],λ e=>by have:=e.2;rw[g2] at this;omega,λ e=>by simp at e,λ _=>by rw[gg,if_neg (by decide)];exact SW⟩
  ·rw[g1,if_pos rfl,g2,hii] at hq;rw[gg,if_neg (by omega),gg,if_neg (by omega),gg,if_neg (by omega)];exact TX q hq
  ·unfold nr;rw[g1,g2,hp];show l0 _ _ _ (M.get 2+1)<l0 _ _ _ (M.get 2);unfold l0;omega
 ·have gg:=j7 RM (g.step M) 1 0;have g1:(aL (g.step M) 1 0 N).get 1=1:=by rw[gg];simp
  have g2:(aL (g.step M) 1 0 N).get 2=0:=by rw[gg];simp
  have g3:(aL (g.step M) 1 0 N).get 3=0:=by rw[gg];simp
  have gk:∀k,3<k -> (aL (g.step M) 1 0 N).get k=N.get k:=λ k hk=>by rw[gg,if_neg (by omega),if_neg (by omega),if_neg (by omega)]
  refine⟨⟨by rw[fZ,b1];exact hlen,by rw[gg,if_neg (by decide),if_neg (by decide),if_neg (by decide),n0];exact h.t0,by rw[g1,g2,g3];exact .inr (.inl ⟨rfl,by omega,by omega,.inl rfl⟩),λ q hq=>?_,.inr (by rw[gk 11 (by omega)];exact YV)⟩,?_,by rw[g1,hp];decide,by rw[gg,if_neg (by decide),if_neg (by decide),if_neg (by decide),n0],λ e=>by have:=e.1;rw[g1] at this;omega,λ e=>by simp at e,λ _=>by rw[gk 11 (by omega)];exact SW⟩
  ·rw[g1,if_neg (by decide)] at hq;rw[gk _ (by omega),gk _ (by omega),gk _ (by omega)];exact TX q (by omega)
  ·unfold nr;rw[g1,g2,g3,hp];show l1 _ _ _ 0 0 _<l0 _ _ _ (M.get 2);unfold l0 l1;simp;omega
theorem PZ{S:Setup}(hS:SetV S){g:Gm}(hg:g.S=S){ins:Nat -> Inp}(hi:∀q:Nat,(q:Int)<S.players -> g.ins.getD (g.io+q) dI=ins q)(SE:S.players <= g.ni){M:MemS}(h:TV S ins M) :
  Gh M /\ ((jh g M=false /\ Nx S ins M (eU g M)) \/ (jh g M=true /\ En S ins M (ji g M) /\ (eU g M).em=false /\ ¬ Fj M /\ (0 <= M.get 11 /\ M.get 11 <= 40))):=by
 have XR:Gh M:=by
  rcases h.ct with h|h|h|h|h|h|h|h <;> (refine⟨?_,?_⟩ <;> omega)
 refine⟨XR,?_⟩
 by_cases h0:M.get 1=0
 ·left;rw[show eU g M=⟨aR (g.step M) M,0,bC,false⟩ by simp[eU,h0]];exact⟨by simp[jh,h0],q0 hS hg hi SE h h0⟩
 by_cases h1:M.get 1=1
 ·left;rw[show eU g M=eX (g.step M) M by simp[eU,h1]];exact⟨by simp[jh,h1],q1 hS hg h h1⟩
 by_cases h2:M.get 1=2
 ·left;rw[show eU g M=cT (g.step M) M by simp[eU,h2]];exact⟨by simp[jh,h2],q2 hS hg h h2⟩
 by_cases h3:M.get 1=3
 ·left;rw[show eU g M=⟨aS (g.step M) M,0,bC,false⟩ by simp[eU,h3]];exact⟨by simp[jh,h3],q3 hS hg h h3⟩
 by_cases h4:M.get 1=4
 ·left;rw[show eU g M=⟨bI (g.step M) M,0,bC,false⟩ by simp[eU,h4]];exact⟨by simp[jh,h4],q4 hS hg h h4⟩
 by_cases h5:M.get 1=5
 ·left;rw[show eU g M=⟨dP (g.step M) M,0,bC,false⟩ by simp[eU,h5]];exact⟨by simp[jh,h5],q5 hS hg h h5⟩
 by_cases h6:M.get 1=6
 ·left;rw[show eU g M=eY (g.step M) M by simp[eU,h6]];exact⟨by simp[jh,h6],q6 hS hg h h6⟩
 have h7:M.get 1=7:=by have:=XR.1;have:=XR.2;omega
 have e:eU g M=⟨du (g.step M) M,0,bC,false⟩:=by simp[eU,h7]
 rw[ji,e];have e2:jh g M=fN (g.step M):=by simp[jh,h7]
 rw[e2];rcases q7 hS hg h h7 with ⟨a,b⟩|⟨a,b⟩
 ·exact .inl ⟨a,b⟩
 ·refine .inr ⟨a,b,rfl,λ e=>by have:=e.1;omega,?_⟩;rcases h.ec with e|e
  ·have:=e.1;omega
  ·exact e
def Numb(t c:Int)(es:List Eff):Prop:=∀k,k<es.length -> (es.getD k bC).t=t /\ (es.getD k bC).i=c+k
theorem Numb.nil{t c:Int}:Numb t c []:=λ k hk=>by simp at hk
theorem Numb.cons{t c:Int}{e:Eff}{es:List Eff}(h1:e.t=t)(h2:e.i=c)(h:Numb t (c+1) es):Numb t c (e::es):=λ k hk=>by
 rcases k with _|k
 ·exact⟨h1,by rw[List.getD_cons_zero,h2];omega⟩
 ·have:=h k (by simpa using hk);rw[List.getD_cons_succ];exact⟨this.1,by rw[this.2];omega⟩
theorem CC{S:Setup}(hS:SetV S){g:Gm}(hg:g.S=S){ins:Nat -> Inp}(hi:∀q:Nat,(q:Int)<S.players -> g.ins.getD (g.io+q) dI=ins q)(SE:S.players <= g.ni):∀ (n:Nat) (M:MemS),TV S ins M -> nr S M <= n ->
  ∃m,m+1 <= n /\ dV g (m+1) M /\ (∀k:Int,1 <= k -> k <= 10 -> (fU g (m+1) M).get k=0) /\ ((fU g (m+1) M).cs.length:Int)=sizeOf S /\ (fU g (m+1) M).get 0=M.get 0+1 /\
   Numb (M.get 0) (if Fj M then 0 else M.get 11) (dQ g (m+1) M) /\ (fU g (m+1) M).get 11=(if Fj M then 0 else M.get 11)+(dQ g (m+1) M).length /\ (fU g (m+1) M).get 11 <= 40
 | 0,M,h,hl=>by
  have:=CA hS.pl ⟨by have:=hS.nb;omega,by have:=hS.nb;omega⟩ hS.ro h.ct;unfold nr at hl;omega
 | n+1,M,h,hl=>by
  obtain⟨XR,⟨e1,hx⟩|⟨e1,hx,hem,n_,SW⟩⟩:=PZ hS hg hi SE h
  ·obtain⟨m,hm,k1,k2,k3,k4,k5,k6,k7⟩:=CC hS hg hi SE n (eU g M).M hx.tv (by have:=hx.lt;omega);rw[if_neg hx.ns] at k5 k6;have er:fU g (m+1+1) M=fU g (m+1) (eU g M).M:=rfl;refine⟨m+1,by omega,⟨XR,.inr ⟨e1,k1⟩⟩,by rw[er];exact k2,by rw[er];exact k3,by rw[er,k4,hx.t0],?_,?_,by rw[er];exact k7⟩
   ·cases he:(eU g M).em with
    | true =>
     obtain⟨a1,a2,a3,a4⟩:=hx.yes he;rw[s7 he,if_neg a1];refine Numb.cons a2 a3 ?_;rw[hx.t0,a4] at k5;exact k5
    | false =>
     rw[nQ (by rw[he];decide)];have:=hx.no he;rw[hx.t0,this] at k5;exact k5
   ·rw[er];cases he:(eU g M).em with
    | true =>
     obtain⟨a1,a2,a3,a4⟩:=hx.yes he;rw[s7 he,if_neg a1,abr,k6,a4];show _+(List.length (dQ g (m+1) (ji g M)):Int)=_;omega
    | false =>
     rw[nQ (by rw[he];decide),k6,hx.no he]
  ·refine⟨0,by omega,⟨XR,.inl ⟨rfl,e1⟩⟩,hx.z,hx.len,hx.t0,?_,?_,?_⟩
   ·rw[nQ (by rw[hem];decide)];exact .nil
   ·rw[nQ (by rw[hem];decide),if_neg n_];show (ji g M).get 11=M.get 11+(([]:List Eff).length:Int);rw[hx.n11];simp
   ·show (ji g M).get 11 <= 40;rw[hx.n11];exact SW.2
def Ja(p n r f:Int):Int:=i64.wrap ((i64.wrap ((i64.wrap ((i64.wrap ((i64.wrap (p+(i64.wrap ((i64.wrap ((i64.wrap (p+1))+n))*(i64.wrap (f+3))))))+(i64.wrap (2*n))))+3))+(i64.wrap ((i64.wrap ((i64.wrap (r*n))*(i64.wrap (n-1)))).tdiv 2))))+(i64.wrap (n*(i64.wrap (n+1)))))
theorem yI{S:Setup}(hS:SetV S):l0 S.players S.nb S.rounds 0 <= Ja S.players S.nb S.rounds 60 /\ Ja S.players S.nb S.rounds 60 <= 650:=by
 have hp:=hS.pl;have hn:=hS.nb;have hr:=hS.ro;have key:∀p:Fin 3,∀n:Fin 5,∀r:Fin 3,l0 ((p.1+1:Nat):Int) ((n.1+1:Nat):Int) ((r.1+1:Nat):Int) 0 <= Ja ((p.1+1:Nat):Int) ((n.1+1:Nat):Int) ((r.1+1:Nat):Int) 60 /\ Ja ((p.1+1:Nat):Int) ((n.1+1:Nat):Int) ((r.1+1:Nat):Int) 60 <= 650:=by decide +kernel
 have:=key ⟨S.players.toNat-1,by omega⟩ ⟨S.nb-1,by omega⟩ ⟨S.rounds.toNat-1,by omega⟩;dsimp only at this;rwa [show ((S.players.toNat-1+1:Nat):Int)=S.players by omega,show S.nb-1+1=S.nb by omega,show ((S.rounds.toNat-1+1:Nat):Int)=S.rounds by omega] at this
theorem setV{xs:List Int}{F:HL}{A:Option Addr}{n:Nat}(hl:ArgL F A n xs){S:Setup}{T:HL}(h:SetG xs S T):SetV S:=by
 have h1:=qi hl;have h2:=uX hl;have hn:=h.nb;have k2:=im hl 2;obtain⟨e1,e2,e3,e4,e5,e6,e7,e8⟩:=h.nums;exact⟨by rw[h.pl];exact h2,by omega,by rw[e7];omega,by rw[e8];omega⟩
theorem j8{l:List Int}{i j:Nat}{v:Int}(h:i≠j):(l.set i v).getD j 0=l.getD j 0:=by
 rw[aaJ,aaJ,List.getElem?_set_ne h]
theorem ug{S:Setup}(hp:0 <= S.players){j:Nat}(hj:j<48):∀i,i <= S.nb -> (br S i).getD j 0=0
 | 0,_=>by
  rw[br,aaJ,List.getElem?_replicate];split <;> rfl
 | i+1,hi=>by
  have hb:af S (i:Int)=48+4*S.players+8*(i:Int):=by
   rcases od hp (i:Int) with e|⟨_,_,e⟩
   ·unfold af at e;rw[if_neg (by omega),if_neg (by omega)] at e;omega
   ·exact e
  rw[br,j8 (by omega),j8 (by omega),j8 (by omega),j8 (by omega),j8 (by omega),j8 (by omega)];exact ug hp hj i (by omega)
structure TE2(S:Setup)(t:Int)(M:MemS):Prop where
 len:(M.cs.length:Int)=sizeOf S
 z:∀k:Int,1 <= k -> k <= 10 -> M.get k=0
 t0:M.get 0=t
theorem LC{S:Setup}(hS:SetV S):TE2 S 0 ⟨br S S.nb,[],0⟩:=by
 have hp:=hS.pl;have hlen:(((⟨br S S.nb,[],0⟩:MemS).cs.length:Nat):Int)=sizeOf S:=by
  show ((br S S.nb).length:Int)=_;rw[jP];unfold sizeOf;omega
 have g:∀k:Int,0 <= k -> k<48 -> (⟨br S S.nb,[],0⟩:MemS).get k=0:=λ k h0 h1=>by
  unfold MemS.get;split
  ·exact ug (by omega) (by omega) S.nb (aa0 _)
  ·rfl
 exact⟨hlen,λ k h1 h2=>g k (by omega) (by omega),g 0 (by omega) (by omega)⟩
theorem TE2.tv{S:Setup}(hS:SetV S){t:Int}(ht:0 <= t /\ t <= 1000){M:MemS}(h:TE2 S t M)(ins:Nat -> Inp):TV S ins M /\ nr S M=l0 S.players S.nb S.rounds 0 /\ Fj M:=by
 have h1:=h.z 1 (by omega) (by omega);have h2:=h.z 2 (by omega) (by omega);have hp:=hS.pl;refine⟨⟨h.len,by rw[h.t0];omega,by rw[h1,h2];exact .inl ⟨rfl,by omega,by omega⟩,λ q hq=>by rw[h1,if_pos rfl,h2] at hq;omega,.inl ⟨h1,h2⟩⟩,?_,h1,h2⟩;unfold nr;rw[h1,h2];rfl
theorem P0{S:Setup}(hS:SetV S){g:Gm}(hg:g.S=S)(SE:S.players <= g.ni){t:Int}(ht:0 <= t /\ t <= 1000){M:MemS}(h:TE2 S t M):∃m,((m+1:Nat):Int) <= Ja S.players S.nb S.rounds 60 /\ dV g (m+1) M /\ TE2 S (t+1) (fU g (m+1) M) /\
  Numb t 0 (dQ g (m+1) M) /\ (fU g (m+1) M).get 11=((dQ g (m+1) M).length:Int) /\ ((dQ g (m+1) M).length:Int) <= 40:=by
 obtain⟨h1,h2,h3⟩:=h.tv hS ht (λ q=>g.ins.getD (g.io+q) dI);have hb:=yI hS;have YB:=CA hS.pl ⟨by have:=hS.nb;omega,by have:=hS.nb;omega⟩ hS.ro h1.ct;unfold nr at h2;obtain⟨m,a1,a2,a3,a4,a5,a6,a7,a8⟩:=CC hS hg (λ _ _=>rfl) SE (l0 S.players S.nb S.rounds 0).toNat M h1 (by unfold nr;omega);rw[if_pos h3] at a6 a7;rw[h.t0] at a5 a6;exact⟨m,by omega,a2,⟨a4,a3,a5⟩,a6,by rw[a7];omega,by omega⟩
theorem SetEq.pl{S S1:Setup}(h:SetEq S S1):S1.players=S.players:=h.nums.1
theorem SetEq.nb{S S1:Setup}(h:SetEq S S1):S1.nb=S.nb:=h.nums.2.1
theorem SetEq.size{S S1:Setup}(h:SetEq S S1):sizeOf S1=sizeOf S:=by unfold sizeOf;rw[h.pl,h.nb]
theorem SetEq.setV{S S1:Setup}(h:SetEq S S1)(hV:SetV S):SetV S1:=by
 obtain⟨e1,e2,_,_,_,_,_,_,_,_,e3,e4⟩:=h.nums;exact⟨by rw[e1];exact hV.pl,by rw[e2];exact hV.nb,by rw[e3];exact hV.ro,by rw[e4];exact hV.fu⟩
theorem TE2.eq{S S1:Setup}(h:SetEq S S1){t:Int}{M:MemS}(hT:TE2 S t M):TE2 S1 t M:=⟨by rw[h.size];exact hT.len,hT.z,hT.t0⟩
theorem CD{S S':Setup}(h:SetEq S S'):(S'.bods.drop S'.bo).map Bod.nm=(List.range S.nb).map λ k=>(S.body k).nm:=by
 rw[h.whole.1,List.drop_zero];apply List.ext_getElem?;intro k
 by_cases hk:k<S.nb
 ·obtain⟨A,c,e⟩:=h.bod k hk;have hl:k<S'.bods.length:=by rw[h.whole.2];exact hk
  have e2:S'.bods[k]?=some (S'.body k):=by
   show _=some (S'.bods.getD (S'.bo+k) dB);rw[h.whole.1,Nat.zero_add,aaJ,abt hl];rfl
  rw[List.getElem?_map,e2,e];simp[hk];rfl
 ·rw[List.getElem?_eq_none (by rw[List.length_map,h.whole.2];omega),List.getElem?_eq_none (by simp;omega)]
theorem SetEq.nm2{S S1 S2:Setup}(h1:SetEq S S1)(h2:SetEq S S2):S1.nm=S2.nm:=by
 have b1:=CD h1;have b2:=CD h2;obtain⟨x1,x2,x3,x4,x5,x6,x7,x8,x9,x10,x11,x12⟩:=h1.nums;obtain⟨y1,y2,y3,y4,y5,y6,y7,y8,y9,y10,y11,y12⟩:=h2.nums;unfold Setup.nm;rw[b1,b2,x1,x2,x3,x4,x5,x6,x7,x8,x9,x10,x11,x12,y1,y2,y3,y4,y5,y6,y7,y8,y9,y10,y11,y12]
theorem vG{S1 S2:Setup}(h:S1.nm=S2.nm)(j:Nat × Int)(n:Nat)(xs:List Inp):GEq (gE S1 j n xs) (gE S2 j n xs):=by
 refine⟨?_,λ k hk=>rfl⟩;unfold Gm.nm;simp only[h]
theorem rT{G G':Nat -> Gm}(h:∀k,GEq (G k) (G' k))(M:MemS):∀k,kV G M k=kV G' M k
 | 0=>rfl
 | k+1=>by rw[kV,kV,rT h M k,zX (h k)]
theorem Jb{G G':Nat -> Gm}(h:∀k,GEq (G k) (G' k))(M:MemS):∀k,plE G M k=plE G' M k
 | 0=>rfl
 | k+1=>by rw[plE,plE,Jb h M k,rT h M k,GM (h k)]
theorem Jc{S S1 S2:Setup}(h1:SetEq S S1)(h2:SetEq S S2)(J:Nat -> Nat × Int)(xss:List (List Inp)):∀k,GEq (rG S1 J xss k) (rG S2 J xss k):=λ k=>vG (h1.nm2 h2) _ _ _
theorem N6{pl:Int}{n:Nat}{xs:List Inp}{now:Int}(h1:(n:Int)=pl)(h2:∀k,k<n -> fh (xs.getD k dI))(h3:now<6000):dL pl n xs now=0:=by
 unfold dL;rw[if_pos h1,if_pos h2,if_neg (by omega)]
theorem Jd{S1:Setup}(hV:SetV S1){t:Int}(ht:0 <= t /\ t <= 1000){M:MemS}(hT:TE2 S1 t M){xs:List Inp}(h1:(xs.length:Int)=S1.players)(h2:∀k,k<xs.length -> fh (xs.getD k dI))(j:Nat × Int):TkOk S1 j xs M /\ TE2 S1 (t+1) (gm (kR S1 j xs) M):=by
 obtain⟨m,a1,a2,a3,_⟩:=P0 hV (g:=kR S1 j xs) rfl (by show S1.players <= (xs.length:Int);omega) ht hT;have hb:=(yI hV).2;refine⟨⟨⟨m,by omega,a2⟩,by rw[hT.t0];exact ht.1,by rw[hT.t0];exact N6 h1 h2 (by omega)⟩,?_⟩;rw[<- (IH (by omega) a2).1];exact a3
def RowOk(pl:Int)(xs:List Inp):Prop:=(xs.length:Int)=pl /\ ∀k,k<xs.length -> fh (xs.getD k dI)
theorem CE{S1:Setup}(hV:SetV S1){M0:MemS}(hT:TE2 S1 0 M0){xss:List (List Inp)}(J:Nat -> Nat × Int)(n:Nat)(hn:n <= 50)(hr:∀i,i<n -> RowOk S1.players (xss.getD i [])):∀i,i <= n -> TE2 S1 (i:Int) (kV (rG S1 J xss) M0 i)
 | 0,_=>hT
 | i+1,h=>by
  have ih:=CE hV hT J n hn hr i (by omega);have:=(Jd hV (t:=(i:Int)) (by omega) ih (hr i (by omega)).1 (hr i (by omega)).2 (J i)).2;rw[kV]
  exact_mod_cast this
theorem Mn{S1:Setup}(hV:SetV S1){M0:MemS}(hT:TE2 S1 0 M0){xss:List (List Inp)}(J:Nat -> Nat × Int)(n:Nat)(hn:n <= 50)(hr:∀i,i<n -> RowOk S1.players (xss.getD i []))(i:Nat)(hi:i<n):TkOk S1 (J i) (xss.getD i []) (kV (rG S1 J xss) M0 i) :=
 (Jd hV (t:=(i:Int)) (by omega) (CE hV hT J n hn hr i (by omega)) (hr i hi).1 (hr i hi).2 (J i)).1
theorem Je{n:Int}(h:0 <= n):fh (xq n):=by
 unfold fh xq;dsimp only;split <;> omega
theorem CF{F:HL}{A:Option Addr}{n:Nat}{xs:List Int}(hl:ArgL F A n xs){pl:Int}(hp:0 <= pl)(t:Int):RowOk pl (rowL pl xs t pl.toNat):=by
 refine⟨by rw[eM];omega,λ k hk=>?_⟩;rw[eM] at hk;rw[G7 hk];exact Je (KD hl pl t k).1
theorem vH{S S1:Setup}(hV:SetV S)(he:SetEq S S1):TE2 S1 0 ⟨br S S.nb,[],0⟩:=(LC hV).eq he
theorem SlIs.rowN{α:Type}{e:Enc α}{T:TypeId}{l:List α}{A:Option Addr}{cap n:Nat}{Hl F:HL}(h:SlIs e T l A cap Hl)(hF:∀x∈Hl,x∈F)(hn:l.length=n):RowL e T F A n l:=hn ▸ h.toRowL hF
theorem yJ{n m k:Int}(e:aq n m=k)(hm:0<m)(F:HL):Sp Tryz.prog 11 #[vI n,vI m] [] F (λ u H'=>u=vI k /\ H'=[]):=e ▸ fJ n m (by omega) F
theorem mG{α:Type}{l r:List α}{o:Nat}(h:(l.drop o).take r.length=r){k:Nat}(hk:k<r.length)(d:α):l.getD (o+k) d=r.getD k d:=by
 have h1:((l.drop o).take r.length)[k]?=r[k]?:=by rw[h]
 rw[acm,if_pos hk,ack] at h1;rw[aaJ,aaJ,h1]
structure Ver where (t:Int) (A:Option Addr) (n c:Nat) (e0 e1 e2:Int)
def fL:Enc Ver:=⟨5,λ p k=>match k with|0=>vI p.t|1=>.slice p.A p.n p.c|2=>vI p.e0|3=>vI p.e1|_=>vI p.e2,⟨0,none,0,0,0,0,0⟩⟩
noncomputable def Mo:TypeInfo:=match Tryz.prog.info? 146 with | some i=>i | none=>⟨.bool,"",0,0,false,0,0,none,false,#[]⟩
noncomputable def Mp:Value:=match Mo.zero with|some z=>z|none=>.bool false
theorem N7:EncOk fL Tryz.prog 146 Mo Mp where
 info:=by kernel_rfl
 zero:=by kernel_rfl
 size:=by kernel_rfl
 zsize:=by kernel_rfl
 zcell:=λ k hk=>by
  have h:∀k<5,Mp.cells[k]?=some (fL.cell fL.dflt k):=by intro k hk;(iterate 5 (rcases k with _|k;· kernel_rfl));omega
  exact h k hk
 one:=λ x k=>by unfold fL;dsimp only;split <;> rfl
 bytes:=aaN (by kernel_rfl)
abbrev kD(t:Int)(j:Nat)(A:Option Addr)(c:Nat):Ver:=⟨t,A,fQ j,c,cr j 0,cr j 1,cr j 2⟩
inductive Book2(tk:Int)(j1 j2 bp:Nat):HL -> Prop
 | mk (A:Option Addr) (c:Nat) (A1 A2:Option Addr) (c1 c2:Nat) (Hl T1 T2:HL) (hs:SlIs fL 146 [kD 0 j1 A1 c1,kD tk j2 A2 c2] A c Hl) (h1:CodT j1 A1 T1) (h2:CodT j2 A2 T2):Book2 tk j1 j2 bp (ap [(bp,.lit [.slice A 2 c] 149 (0,0))] [Hl,T1,T2])
theorem LD(tk:Int)(htk:0<tk)(j1 j2 bp q:Nat)(Aa:Option Addr)(ca:Nat)(Tz F:HL)(Vj:j2<5)(hE:pH F)(h1:CodT j1 Aa Tz):Sp Tryz.prog 43 #[vP bp 0,vI tk,.string (pG j2)] (ap [(bp,.lit [vS q 0 1 1] 149 (0,0)),(q,.lit [vI 0,.slice Aa (fQ j1) ca,vI (cr j1 0),vI (cr j1 1),vI (cr j1 2)] 146 (0,0))] [Tz]) F (λ u H'=>∃x:HL,H'=ap [] [x] /\ (u=vI 0 /\ Book2 tk j1 j2 bp x)):=by
 refine aat Tryz.func43 rfl mn (A:=[(bp,.lit [vS q 0 1 1] 149 (0,0)),(q,.lit [vI 0,.slice Aa (fQ j1) ca,vI (cr j1 0),vI (cr j1 1),vI (cr j1 2)] 146 (0,0))]) (Ts:=[Tz]) rfl λ w0=>?_;refine ae 21 [.own 0] λ _=>aak [] []<|ag [] [0,1,5,2,6,3,7,4,8,9,10,11,12,13,14] [.own 0,.own 0,.own 1]<|aad<|ae 1 [] λ _=>db 29 (aco (show ¬ tk <= 0 by omega))<|ae 6 [] λ _=>aai (Hp:=[]) (Tp:=[]) [] [] (Iz Vj _ (az hE)) ?_;rintro _ ⟨A1,c2,T3⟩ ⟨rfl,hC4⟩;dsimp only at hC4;refine ae 19 (aab 4) λ n5=>aak [9,12] []<|ag [] [0,1,5,6,2,7,3,4] [.own 0,.own 0,.own 0,.own 0,.own 1]<|aae 8 (aag [] [] λ n7=>?_);refine RD.dn 3 (.rows 5 1 (aQ fL [kD 0 j1 Aa ca]) 146 (0,0))<|OU 3<|aae 9 (uB [] N7 ([kD 0 j1 Aa ca]) [kD tk j2 A1 c2] 0 0 rfl (SlIs.one (b:=q)) (aaN rfl) ?_);rintro A8 c9 SX ⟨UW,aaH⟩;refine ag [] [10,11] []<|aae 12 (aag [] [.own 2] λ _=>?_);refine aad<|ae 6 [] λ _=>aap [] [2] [0,2,1] (v:=vI 0) (H':=(ap [(bp,.lit [.slice A8 2 c9] 149 (0,0))] [SX,Tz,T3])) ?_;exact⟨ap [(bp,.lit [.slice A8 2 c9] 149 (0,0))] [SX,Tz,T3],by simp[ap],rfl,.mk _ _ _ _ _ _ _ _ _ UW h1 hC4⟩
theorem LE{j1 bp:Nat}{TB:HL}(hB:Book1 j1 bp TB)(tk:Int)(htk:0<tk)(j2:Nat)(F:HL)(Vj:j2<5)(hE:pH F):Sp Tryz.prog 43 #[vP bp 0,vI tk,.string (pG j2)] (ap [] [TB]) F (λ u H'=>∃x:HL,H'=ap [] [x] /\ (u=vI 0 /\ Book2 tk j1 j2 bp x)):=by
 cases hB with
 | mk q A c T h =>
  rw[bj];exact LD tk htk j1 j2 bp q A c T F Vj hE h
theorem P2(q2 q3:Nat)(tk:Int)(bp b o c j1 j2:Nat)(full:List Ver)(Aa Ab:Option Addr)(ca cb:Nat)(t:Int)(F:HL)(hb:(bp,.lit [vS b (o*5) 2 c] 149 (0,0))∈F)(hq:(b,.rows 5 (o+c) (aQ fL full) 146 (0,0))∈F)(hc:2 <= c)(Us:full.getD o fL.dflt=kD 0 j1 Aa ca)(TO:full.getD (1+o) fL.dflt=kD tk j2 Ab cb)(ht:0 <= t)(h2:(q2,.lit [vP bp 0] 36 (0,0))∈F)(h3:(q3,.lit [vI t] 3 (0,0))∈F):Sp Tryz.prog 129 #[vI 0,vP q2 0,vP q3 0] [] F (λ u H'=>u=.bool false /\ H'=[]):=by
 refine aat Tryz.func129 rfl (mc h2 (mc h3 (mc hb (mc hq mn)))) (A:=[]) (Ts:=[]) rfl λ w0=>?_;refine ae 6 [] λ _=>aak [] []<|aD [] [0,4,8,1,2,3,5,6,7] [.ro 0,.ro 1,.ro 2,.rorow 3 o 0] [o*5=o*5+0 /\ o<(o+c)]<|iV 12 (congrArg (λ v_:Ver=>vI v_.t) Us)<|ag [] [9,10] []<|aad<|ae 1 [] λ _=>aap [] [] [] (v:=.bool (decide (0>t))) (H':=[]) ?_;exact⟨congrArg Value.bool (aco (by omega)),rfl⟩
theorem Mq(q2 q3:Nat)(tk:Int)(bp b o c j1 j2:Nat)(full:List Ver)(Aa Ab:Option Addr)(ca cb:Nat)(t:Int)(F:HL)(hb:(bp,.lit [vS b (o*5) 2 c] 149 (0,0))∈F)(hq:(b,.rows 5 (o+c) (aQ fL full) 146 (0,0))∈F)(hc:2 <= c)(Us:full.getD o fL.dflt=kD 0 j1 Aa ca)(TO:full.getD (1+o) fL.dflt=kD tk j2 Ab cb)(ht:0 <= t)(h2:(q2,.lit [vP bp 0] 36 (0,0))∈F)(h3:(q3,.lit [vI t] 3 (0,0))∈F):Sp Tryz.prog 129 #[vI 1,vP q2 0,vP q3 0] [] F (λ u H'=>u=.bool (decide (tk>t)) /\ H'=[]):=by
 refine aat Tryz.func129 rfl (mc h2 (mc h3 (mc hb (mc hq mn)))) (A:=[]) (Ts:=[]) rfl λ w0=>?_;refine ae 6 [] λ _=>aak [] []<|aD [] [0,4,8,1,2,3,5,6,7] [.ro 0,.ro 1,.ro 2,.rorow 3 (1+o) 0] [(o*5+5)=(1+o)*5+0 /\ (1+o)<(o+c)]<|iV 12 (congrArg (λ v_:Ver=>vI v_.t) TO)<|ag [] [9,10] []<|aad<|ae 1 [] λ _=>?_;exact aap [] [] [] ⟨rfl,rfl⟩
theorem Jf(q2 q3:Nat)(tk:Int)(bp b o c j1 j2:Nat)(full:List Ver)(Aa Ab:Option Addr)(ca cb:Nat)(t:Int)(F:HL)(hb:(bp,.lit [vS b (o*5) 2 c] 149 (0,0))∈F)(hq:(b,.rows 5 (o+c) (aQ fL full) 146 (0,0))∈F)(hc:2 <= c)(Us:full.getD o fL.dflt=kD 0 j1 Aa ca)(TO:full.getD (1+o) fL.dflt=kD tk j2 Ab cb)(ht:0 <= t)(h2:(q2,.lit [vP bp 0] 36 (0,0))∈F)(h3:(q3,.lit [vI t] 3 (0,0))∈F)(Vm:tk>t):Sp Tryz.prog 128 #[vI 2,.func (.func 129) #[] #[vP q2 0,vP q3 0]] [] F (λ u H'=>u=vI 1 /\ H'=[]):=by
 refine aat Tryz.func128 rfl (mc h2 (mc h3 (mc hb (mc hq mn)))) (A:=[]) (Ts:=[]) rfl λ w0=>?_;refine ae 14 [] λ _=>aaq 4<|ae 27 [] λ _=>aah (Mq q2 q3 tk bp b o c j1 j2 full Aa Ab ca cb t _ (az hb) (az hq) hc Us TO ht (az h2) (az h3))<|ae 3 [] λ _=>db 21 (nt (acr Vm))<|ae 34 [] λ _=>aah (P2 q2 q3 tk bp b o c j1 j2 full Aa Ab ca cb t _ (az hb) (az hq) hc Us TO ht (az h2) (az h3))<|ae 31 [] λ _=>?_;exact aap [] [] [] ⟨rfl,rfl⟩
theorem Jg(q2 q3:Nat)(tk:Int)(bp b o c j1 j2:Nat)(full:List Ver)(Aa Ab:Option Addr)(ca cb:Nat)(t:Int)(F:HL)(hb:(bp,.lit [vS b (o*5) 2 c] 149 (0,0))∈F)(hq:(b,.rows 5 (o+c) (aQ fL full) 146 (0,0))∈F)(hc:2 <= c)(Us:full.getD o fL.dflt=kD 0 j1 Aa ca)(TO:full.getD (1+o) fL.dflt=kD tk j2 Ab cb)(ht:0 <= t)(h2:(q2,.lit [vP bp 0] 36 (0,0))∈F)(h3:(q3,.lit [vI t] 3 (0,0))∈F)(Vm:¬ tk>t):Sp Tryz.prog 128 #[vI 2,.func (.func 129) #[] #[vP q2 0,vP q3 0]] [] F (λ u H'=>u=vI 2 /\ H'=[]):=by
 refine aat Tryz.func128 rfl (mc h2 (mc h3 (mc hb (mc hq mn)))) (A:=[]) (Ts:=[]) rfl λ w0=>?_;refine ae 14 [] λ _=>aaq 4<|ae 27 [] λ _=>aah (Mq q2 q3 tk bp b o c j1 j2 full Aa Ab ca cb t _ (az hb) (az hq) hc Us TO ht (az h2) (az h3))<|ae 3 [] λ _=>db 21 (nf (aco Vm))<|ae 28 [] λ _=>?_;exact aap [] [] [] ⟨rfl,rfl⟩
theorem Rc(tk:Int)(bp b o c j1 j2:Nat)(full:List Ver)(Aa Ab:Option Addr)(ca cb:Nat)(t:Int)(F:HL)(hb:(bp,.lit [vS b (o*5) 2 c] 149 (0,0))∈F)(hq:(b,.rows 5 (o+c) (aQ fL full) 146 (0,0))∈F)(hc:2 <= c)(Us:full.getD o fL.dflt=kD 0 j1 Aa ca)(TO:full.getD (1+o) fL.dflt=kD tk j2 Ab cb)(ht:0 <= t)(hj:j1<5)(hC:SrcIn Tryz.prog kU F Aa (fQ j1) (kC j1))(Vm:tk>t):Sp Tryz.prog 106 #[vP bp 0,vI t] [] F (λ u H'=>∃x:Option Addr × Nat × HL,H'=ap [] [x.2.2] /\ (u=.tuple #[vI 0,.agg #[.slice x.1 (fQ j1) x.2.1,vI (cr j1 0),vI (cr j1 1),vI (cr j1 2)]] /\ ClS kU 231 (kC j1) x.1 x.2.1 x.2.2)):=by
 refine aat Tryz.func106 rfl (mc hb (mc hq mn)) (A:=[]) (Ts:=[]) rfl λ w0=>?_;refine ae 16 [.own 2,.ro 0] λ n1=>aah (Jf (n1+0) (n1+1) tk bp b o c j1 j2 full Aa Ab ca cb t _ (az hb) (az hq) hc Us TO ht (av 2) (av 1) Vm)<|aj 21 [.own 2,.ro 0,.rorow 1 o 1,.rorow 1 o 2,.rorow 1 o 3,.rorow 1 o 4] [(o*5+4)=o*5+4 /\ o<(o+c),(o*5+3)=o*5+3 /\ o<(o+c),(o*5+2)=o*5+2 /\ o<(o+c),(o*5+1)=o*5+1 /\ o<(o+c)] λ _=>aN 26 (congrArg (λ v_:Ver=>(.agg #[.slice v_.A v_.n v_.c,vI v_.e0,vI v_.e1,vI v_.e2]:Value)) Us)<|ae 5 (aab 4) λ n2=>aak [8] []<|ag [] [0,1,4,2,5] (aab 4)<|aae 3 (aaf [] (Hp:=[]) (Tp:=[]) [] [] (mz Aa (fQ j1) ca (kC j1) _ hC.up (by have:=vz hj;omega)) ?_);rintro _ ⟨A3,c4,T5⟩ ⟨rfl,hc6⟩;dsimp only at hc6;refine ag [] [6,7] []<|aae 8 (aag [] [.own 1,.own 1,.own 1,.own 1] λ _=>?_);refine aad<|ae 1 [] λ _=>aap [.own 1,.own 1,.own 1,.own 1] [] [0] (v:=.tuple #[vI 0,.agg #[.slice A3 (fQ j1) c4,vI (cr j1 0),vI (cr j1 1),vI (cr j1 2)]]) (H':=(ap [] [T5])) ?_;exact⟨(A3,c4,T5),rfl,rfl,hc6⟩
theorem Re(tk:Int)(bp b o c j1 j2:Nat)(full:List Ver)(Aa Ab:Option Addr)(ca cb:Nat)(t:Int)(F:HL)(hb:(bp,.lit [vS b (o*5) 2 c] 149 (0,0))∈F)(hq:(b,.rows 5 (o+c) (aQ fL full) 146 (0,0))∈F)(hc:2 <= c)(Us:full.getD o fL.dflt=kD 0 j1 Aa ca)(TO:full.getD (1+o) fL.dflt=kD tk j2 Ab cb)(ht:0 <= t)(hj:j2<5)(hC:SrcIn Tryz.prog kU F Ab (fQ j2) (kC j2))(Vm:¬ tk>t):Sp Tryz.prog 106 #[vP bp 0,vI t] [] F (λ u H'=>∃x:Option Addr × Nat × HL,H'=ap [] [x.2.2] /\ (u=.tuple #[vI 1,.agg #[.slice x.1 (fQ j2) x.2.1,vI (cr j2 0),vI (cr j2 1),vI (cr j2 2)]] /\ ClS kU 231 (kC j2) x.1 x.2.1 x.2.2)):=by
 refine aat Tryz.func106 rfl (mc hb (mc hq mn)) (A:=[]) (Ts:=[]) rfl λ w0=>?_;refine ae 16 [.own 2,.ro 0] λ n1=>aah (Jg (n1+0) (n1+1) tk bp b o c j1 j2 full Aa Ab ca cb t _ (az hb) (az hq) hc Us TO ht (av 2) (av 1) Vm)<|aj 21 [.own 2,.ro 0,.rorow 1 (1+o) 1,.rorow 1 (1+o) 2,.rorow 1 (1+o) 3,.rorow 1 (1+o) 4] [(o*5+9)=(1+o)*5+4 /\ (1+o)<(o+c),(o*5+8)=(1+o)*5+3 /\ (1+o)<(o+c),(o*5+7)=(1+o)*5+2 /\ (1+o)<(o+c),(o*5+6)=(1+o)*5+1 /\ (1+o)<(o+c)] λ _=>aN 26 (congrArg (λ v_:Ver=>(.agg #[.slice v_.A v_.n v_.c,vI v_.e0,vI v_.e1,vI v_.e2]:Value)) TO)<|ae 5 (aab 4) λ n2=>aak [8] []<|ag [] [0,1,4,2,5] (aab 4)<|aae 3 (aaf [] (Hp:=[]) (Tp:=[]) [] [] (mz Ab (fQ j2) cb (kC j2) _ hC.up (by have:=vz hj;omega)) ?_);rintro _ ⟨A3,c4,T5⟩ ⟨rfl,hc6⟩;dsimp only at hc6;refine ag [] [6,7] []<|aae 8 (aag [] [.own 1,.own 1,.own 1,.own 1] λ _=>?_);refine aad<|ae 1 [] λ _=>aap [.own 1,.own 1,.own 1,.own 1] [] [0] (v:=.tuple #[vI 1,.agg #[.slice A3 (fQ j2) c4,vI (cr j2 0),vI (cr j2 1),vI (cr j2 2)]]) (H':=(ap [] [T5])) ?_;exact⟨(A3,c4,T5),rfl,rfl,hc6⟩
theorem Book2.at{tk:Int}{j1 j2 bp:Nat}{TB F:HL}(hB:Book2 tk j1 j2 bp TB)(hT:∀x∈TB,x∈F)(W_:j1<5)(Vj:j2<5)(t:Int)(ht:0 <= t):AtOk F bp t (if tk>t then (j1,0) else (j2,1)):=λ F' hF=>by
 cases hB with
 | mk A c A1 A2 c1 c2 Hl T1 T2 hs h1 h2 =>
  rcases hs with ⟨_,_,h,_⟩|⟨b,o,full,rfl,rfl,e1,e2,e3⟩
  ·cases h
  ·have hc:2 <= c:=e2;have Us:full.getD o fL.dflt=kD 0 j1 A1 c1:=by have:=mG e3 (k:=0) (by simp) fL.dflt;rw[Nat.add_zero] at this;exact this
   have TO:full.getD (1+o) fL.dflt=kD tk j2 A2 c2:=by have:=mG e3 (k:=1) (by simp) fL.dflt;rw[Nat.add_comm o 1] at this;exact this
   have hm:∀x,x∈ap [(bp,Blk.lit [.slice (some ⟨b,o*fL.w,none⟩) 2 c] 149 (0,0))] [[(b,.rows fL.w (o+c) (aQ fL full) 146 (0,0))],T1,T2] -> x∈F':=λ x hx=>hF x (hT x hx)
   by_cases Vm:tk>t
   ·rw[if_pos Vm];exact Rc tk bp b o c j1 j2 full A1 A2 c1 c2 t F' (hm _ (aaw _ aax)) (hm _ (aav _ aax)) hc Us TO ht W_ (h1.src F' λ x hx=>hm x (by simp[ap,hx])) Vm
   ·rw[if_neg Vm];exact Re tk bp b o c j1 j2 full A1 A2 c1 c2 t F' (hm _ (aaw _ aax)) (hm _ (aav _ aax)) hc Us TO ht Vj (h2.src F' λ x hx=>hm x (by simp[ap,hx])) Vm
def J2(tk:Int)(j1 j2 i:Nat):Nat × Int:=if tk>(i:Int) then (j1,0) else (j2,1)
theorem lB{tk:Int}{j1 j2 bp:Nat}{TB F:HL}(hB:Book2 tk j1 j2 bp TB)(hT:∀x∈TB,x∈F)(W_:j1<5)(Vj:j2<5){t:Nat}{v:Int}(e:v=(t:Int)):(J2 tk j1 j2 t).1<5 /\ AtOk F bp v (J2 tk j1 j2 t):=by
 subst e;refine⟨?_,hB.at hT W_ Vj _ (by omega)⟩;unfold J2;split
 ·exact W_
 ·exact Vj
theorem TE2.cs{S:Setup}{t:Int}{M N:MemS}(h:M.cs=N.cs)(hT:TE2 S t M):TE2 S t N:=by
 have hg:∀k,N.get k=M.get k:=λ k=>by unfold MemS.get;rw[h]
 exact⟨by rw[<- h];exact hT.len,λ k h1 h2=>by rw[hg];exact hT.z k h1 h2,by rw[hg];exact hT.t0⟩
theorem RwsIn.take{F:HL}{rs:List Rw}{xss:List (List Inp)}(h:RwsIn F rs xss)(k:Nat):RwsIn F (rs.take k) (xss.take k):=by
 refine⟨by rw[abk,abk,h.len],λ i hi=>?_⟩;rw[abk] at hi;have e1:(xss.take k).getD i []=xss.getD i []:=by rw[aaJ,aaJ,acm,if_pos (by omega)]
 have e2:(rs.take k).getD i jH.dflt=rs.getD i jH.dflt:=by rw[aaJ,aaJ,acm,if_pos (by omega)]
 rw[e1,e2];exact h.row i (by omega)
theorem RwsIn.drop{F:HL}{rs:List Rw}{xss:List (List Inp)}(h:RwsIn F rs xss)(k:Nat):RwsIn F (rs.drop k) (xss.drop k):=by
 refine⟨by rw[abq,abq,h.len],λ i hi=>?_⟩;rw[abq] at hi;have e1:(xss.drop k).getD i []=xss.getD (k+i) []:=by rw[aaJ,aaJ,ack]
 have e2:(rs.drop k).getD i jH.dflt=rs.getD (k+i) jH.dflt:=by rw[aaJ,aaJ,ack]
 rw[e1,e2];exact h.row (k+i) (by omega)
abbrev f6(tk:Int)(j1 j2 t:Nat):Nat -> Nat × Int:=λ i=>J2 tk j1 j2 (t+i)
def Setup.std(S:Setup):Setup:={ S with bo:=0,bods:=lq S }
theorem gz(S:Setup):SetEq S S.std:=⟨⟨rfl,rfl,rfl,rfl,rfl,rfl,rfl,rfl,rfl,rfl,rfl,rfl⟩,λ k hk=>⟨(S.body k).sh.A,(S.body k).sh.cap,by
 show (lq S).getD (0+k) dB=_;rw[Nat.zero_add,lO hk];rfl⟩,rfl,jS S⟩
def WS(S:Setup)(J:Nat -> Nat × Int)(xss:List (List Inp))(i:Nat):List Int:=(kV (rG S.std J xss) ⟨br S S.nb,[],0⟩ i).cs
theorem SetEq.refl0{S S2:Setup}(h:SetEq S S2)(J:Nat -> Nat × Int)(xss:List (List Inp)):∀k,GEq (rG S.std J xss k) (rG S2 J xss k):=Jc (gz S) h J xss
section
variable {S S2:Setup} {J:Nat -> Nat × Int} {xss:List (List Inp)} {n:Nat}
theorem Jh(hV:SetV S)(he:SetEq S S2)(hn:n <= 50)(L_:∀i,i<n -> RowOk S.players (xss.getD i [])){i:Nat}(hi:i <= n):TE2 S2 (i:Int) ⟨WS S J xss i,[],0⟩:=by
 have h:=CE (he.setV hV) (vH hV he) (xss:=xss) J n hn (λ i hi=>by rw[he.pl];exact L_ i hi) i hi;exact TE2.cs (show (kV (rG S2 J xss) _ i).cs=(⟨WS S J xss i,[],0⟩:MemS).cs by rw[<- rT (he.refl0 J xss)];rfl) h
theorem Mr(hV:SetV S)(he:SetEq S S2)(hn:n <= 50)(L_:∀i,i<n -> RowOk S.players (xss.getD i [])){i:Nat}(hi:i<n):TkOk S2 (J i) (xss.getD i []) ⟨WS S J xss i,[],0⟩:=by
 have h:=Mn (he.setV hV) (vH hV he) (xss:=xss) J n hn (λ i hi=>by rw[he.pl];exact L_ i hi) i hi;exact TkOk.cs (show (kV (rG S2 J xss) _ i).cs=(⟨WS S J xss i,[],0⟩:MemS).cs by rw[<- rT (he.refl0 J xss)];rfl) h
theorem CG(he:SetEq S S2)(i:Nat):WS S J xss (i+1)=(gm (kR S2 (J i) (xss.getD i [])) ⟨WS S J xss i,[],0⟩).cs:=by
 unfold WS;rw[kV,zX (he.refl0 J xss i)];exact uV _ rfl
theorem AU(hV:SetV S)(he:SetEq S S2)(hn:n <= 50)(L_:∀i,i<n -> RowOk S.players (xss.getD i [])){i:Nat}(hi:i <= n):((WS S J xss i).length:Int)=sizeOf S:=by
 have h:=(Jh (J:=J) hV he hn L_ hi).len;rw[he.size] at h;exact h
theorem EO{α:Type}{l:List α}{i:Nat}(h:i<l.length)(d:α):l.take (i+1)=l.take i++[l.getD i d]:=by
 rw[List.take_add_one,abt h,aaJ,abt h];rfl
end
theorem CH{G G':Nat -> Gm}{M:MemS}:∀k,(∀i,i<k -> G i=G' i) -> kV G M k=kV G' M k
 | 0,_=>rfl
 | k+1,h=>by rw[kV,kV,CH k λ i hi=>h i (by omega),h k (by omega)]
theorem vJ(S:Setup)(J:Nat -> Nat × Int)(xss:List (List Inp))(k:Nat):WS S J (xss.take k) k=WS S J xss k:=by
 unfold WS;refine congrArg MemS.cs (CH k λ i hi=>?_);show kR _ _ _=kR _ _ _;rw[show (xss.take k).getD i []=xss.getD i [] by rw[aaJ,aaJ,acm,if_pos hi]]
def vK(pl:Nat)(rows:List (List Inp)):List Inp:=match rows.getLast? with
 | none=>List.replicate pl dI
 | some r=>r.map j6
def f5(pl Sh:Nat)(rows:List (List Inp))(loc:Int -> Option Inp)(t:Nat):List Inp :=
 if t<rows.length then rows.getD t [] else match loc (t:Int) with
 | none=>vK pl rows
 | some x=>(vK pl rows).set Sh x
theorem uh:fh dI:=by decide
theorem Ji{x:Inp}(h:fh x):fh (j6 x):=by
 obtain⟨h1,h2,h3⟩:=h;exact⟨h1,h2,by show ¬ (0:Int)<0;decide,by show ¬ (0:Int)>3;decide⟩
theorem lC{pl:Int}{r:List Inp}(h1:(r.length:Int)=pl)(h2:∀x∈r,fh x):RowOk pl r:=⟨h1,λ k hk=>h2 _ (iG hk _)⟩
theorem RowOk.mem{pl:Int}{r:List Inp}(h:RowOk pl r):∀x∈r,fh x:=λ x hx=>by
 obtain⟨i,hi,rfl⟩:=List.mem_iff_getElem.1 hx;have:=h.2 i hi;rwa [aaJ,abt hi] at this
theorem CI{pl:Nat}{rows:List (List Inp)}(h:∀r∈rows,RowOk pl r):RowOk pl (vK pl rows):=by
 unfold vK;split
 ·exact lC (by simp) (λ x hx=>by rw[(List.mem_replicate.1 hx).2];exact uh)
 ·next r hr =>
  have h1:=h r (List.mem_of_getLast? hr);refine lC (by rw[List.length_map];exact h1.1) λ x hx=>?_;obtain⟨y,hy,rfl⟩:=List.mem_map.1 hx;exact Ji (h1.mem y hy)
theorem vL{pl Sh:Nat}{rows:List (List Inp)}{loc:Int -> Option Inp}(h:∀r∈rows,RowOk pl r)(hk:∀t x,loc t=some x -> fh x)(t:Nat):RowOk pl (f5 pl Sh rows loc t):=by
 unfold f5;split
 ·next ht=>exact h _ (iG ht _)
 ·split
  ·exact CI h
  ·next x hx =>
   have hb:=CI h;refine lC (by rw[List.length_set];exact hb.1) λ y hy=>?_;rcases List.mem_or_eq_of_mem_set hy with h1|rfl
   ·exact hb.mem y h1
   ·exact hk _ _ hx
theorem pd{pl Sh:Nat}{rows:List (List Inp)}{loc:Int -> Option Inp}{t:Nat}(h:t<rows.length):rows[t]?=some (f5 pl Sh rows loc t):=by
 unfold f5;rw[if_pos h,aaJ,abt h];rfl
def gP(S:Setup)(J:Nat -> Nat × Int):Nat -> List Inp -> Gm:=λ t xs=>kR S.std (J t) xs
theorem Jj(S:Setup)(J:Nat -> Nat × Int)(V:List (List Inp)):∀n,n <= V.length -> AP (gP S J) 0 (br S S.nb) (V.take n)=WS S J V n
 | 0,_=>rfl
 | n+1,h=>by
  have hl:(V.take n).length=n:=by rw[abk];omega
  rw[EO (by omega) [],rP,hl,Jj S J V n (by omega),CG (gz S) n,Nat.zero_add];rfl
theorem AV(S:Setup)(J:Nat -> Nat × Int)(V:List (List Inp)):AP (gP S J) 0 (br S S.nb) V=WS S J V V.length:=by
 have h:=Jj S J V V.length (aa0 _);rwa [List.take_length] at h
section
variable {ρ:Type} {g:Nat -> ρ -> Gm} {c0:List Int} {w m:Nat} {P:PS ρ} {V:List ρ}
theorem PInv.far(h:PInv g c0 w P V m):V.length <= m+w:=by
 have h1:=h.room;rcases h.ring with ⟨_,e⟩|⟨e,h2⟩
 ·rw[e];simp
 ·have h3:=h.back e;omega
theorem PInv.len_cs(h:PInv g c0 w P V m):P.effs.length=V.length:=by rw[h.effs,Cx]
end
section
variable {S S2:Setup} {J:Nat -> Nat × Int} {w m:Nat} {P:PS (List Inp)} {V:List (List Inp)}
theorem PInv.ws(h:PInv (gP S J) (br S S.nb) w P V m):P.M.cs=(⟨WS S J V V.length,[],0⟩:MemS).cs:=by rw[h.cs,AV]
theorem PInv.te(h:PInv (gP S J) (br S S.nb) w P V m)(hV:SetV S)(he:SetEq S S2)(hn:V.length <= 50)(hr:∀r∈V,RowOk S.players r):TE2 S2 (V.length:Int) P.M :=
 TE2.cs h.ws.symm (Jh hV he (n:=V.length) hn (λ i hi=>hr _ (iG hi _)) (aa0 _))
theorem CJ{i:Nat}(r:List Inp)(hi:i <= V.length):WS S J (V++[r]) i=WS S J V i:=by
 rw[<- vJ S J (V++[r]) i,List.take_append_of_le_length hi,vJ]
theorem PInv.tk(h:PInv (gP S J) (br S S.nb) w P V m)(hV:SetV S)(he:SetEq S S2)(hn:V.length<50)(hr:∀r∈V,RowOk S.players r){r:List Inp}(h1:RowOk S.players r):TkOk S2 (J V.length) r P.M:=by
 have h2:=Mr (J:=J) (xss:=V++[r]) hV he (n:=V.length+1) (by omega) (λ i hi=>by
  refine(show ∀x∈V++[r],RowOk S.players x from λ x hx=>?_) _ (iG (by simpa using hi) _);rcases List.mem_append.1 hx with hx|hx
  ·exact hr x hx
  ·rw[List.mem_singleton.1 hx];exact h1) (i:=V.length) (by omega)
 rw[CJ r (aa0 _),gx,if_neg (by omega),if_pos rfl] at h2;exact h2.cs h.ws.symm
theorem LF(he:SetEq S S2)(t:Nat)(r:List Inp)(M:MemS):gm (kR S2 (J t) r) M=gm (gP S J t r) M:=zX (vG (he.nm2 (gz S)) _ _ _) M
theorem LG(he:SetEq S S2)(t:Nat)(r:List Inp)(M:MemS):my (kR S2 (J t) r) M=my (gP S J t r) M:=GM (vG (he.nm2 (gz S)) _ _ _) M
end
theorem Sp.fr{P:Program}{f:FuncId}{args:Array Value}{H H2 X F:HL}{R R2:Value -> HL -> Prop}(hp:H2.Perm (H++X))(h:Sp P f args H (X++F) R)(hr:∀u Y,R u Y -> ∃H',R2 u H' /\ H'.Perm (Y++X)):Sp P f args H2 F R2:=λ w hR =>
 (h w (by rw[<- aaC];exact hR.perm (hp.symm.append_right F))).mono λ e w' ⟨v,Y,h1,h2,h3,h4⟩=>by
  obtain⟨H',h5,h6⟩:=hr v Y h2;exact⟨v,H',h1,h5,(by rw[<- aaC] at h3;exact h3.perm (h6.append_right F)),h4⟩
inductive GameX(rs:List Bx)(ds:List Dr)(bp gb mb:Nat)(S:Setup)(M:MemS)(k:Nat):HL -> Prop
 | mk (T U:HL) (hM:MemH mb M k T) (hU:tC S rs ds U):GameX rs ds bp gb mb S M k (ap [(gb,.lit (dC S bp mb) 121 (0,0))] [T,U])
section
variable {rs:List Bx} {ds:List Dr} {bp gb mb:Nat} {S:Setup} {M:MemS} {k:Nat} {G0:HL}
theorem GameH.x(h:GameH rs ds bp gb S M k G0):∃mb,GameX rs ds bp gb mb S M k G0:=by
 cases h with
 | mk mb T U hM hU=>exact⟨mb,.mk T U hM hU⟩
theorem GameX.h(h:GameX rs ds bp gb mb S M k G0):GameH rs ds bp gb S M k G0:=by
 cases h with
 | mk T U hM hU=>exact .mk mb T U hM hU
theorem GameX.weak(h:GameX rs ds bp gb mb S M k G0){k':Nat}(hk:k' <= k):GameX rs ds bp gb mb S M k' G0:=by
 cases h with
 | mk T U hM hU=>exact .mk T U (hM.weak hk) hU
theorem GameX.mem(h:GameX rs ds bp gb mb S M k G0):∃T,MemH mb M k T /\ ∀x∈T,x∈G0:=by
 cases h with
 | mk T U hM hU=>exact⟨T,hM,λ x hx=>by simp[ap,hx]⟩
theorem Ms(h:GameX rs ds bp gb mb S M k G0){F:HL}(hF:∀x∈G0,x∈F):Sp Tryz.prog 55 #[vP gb 0] [] F (λ u H'=>u=vP mb 0 /\ H'=[]):=by
 cases h with
 | mk T U hM hU=>exact Hh S bp gb mb F (hF _ (by simp[ap]))
theorem N8(h:GameX rs ds bp gb mb S M k G0){F:HL}(hF:∀x∈G0,x∈F):Sp Tryz.prog 56 #[vP mb 0] (ap [] []) F (λ u H'=>∃q,H'=ap [(q,.rows 1 M.cs.length (aU M.cs) 3 (0,0))] [] /\ u=vS q 0 M.cs.length M.cs.length):=by
 obtain⟨T,hM,hT⟩:=h.mem;exact tj mb M k T F hM λ x hx=>hF x (hT x hx)
end
theorem yK{rs:List Bx}{ds:List Dr}{S:Setup}{bp gb mb b o N c k:Nat}{j:Nat × Int}{full xs:List Inp}{M:MemS}{G0 F:HL}(hG:GameX rs ds bp gb mb S M (k+20000) G0)(hj:j.1<5)(hA:AtOk F bp (M.get 0) j)(hE:cG F)(hI:(b,.rows 3 N (kK full) 40 (0,0))∈F)(hir:o+xs.length <= N)(SE:xs.length <= 1000000)(hx:∀k,k<xs.length -> full.getD (o+k) dI=xs.getD k dI)(hk:TkOk S j xs M) :
  Sp Tryz.prog 57 #[vP gb 0,vS b (o*3) xs.length c] (ap [] [G0]) F (λ u H'=>∃x:(Option Addr × Nat × Nat) × HL × HL,H'=ap [] [x.2.1,x.2.2] /\ (GameX rs ds bp gb mb S (gm (kR S j xs) M) k x.2.1 /\ SlIs nP 111 (my (kR S j xs) M) x.1.1 x.1.2.1 x.2.2 /\ u=.tuple #[.slice x.1.1 (my (kR S j xs) M).length x.1.2.1,vI ((x.1.2.2+1:Nat):Int),vI 0])):=by
 obtain⟨m,hm,hg⟩:=hk.ex;obtain⟨e1,e2⟩:=IH hm hg;cases hG with
 | mk T U hM hU =>
  rw[bj];refine(yv S rs ds bp gb mb b o N xs.length c m k j full xs M T U F hj hA hU hE hI hir SE (by omega) rfl hx (hM.weak (by omega)) hk.now hg hk.ok).mono λ u H' h=>?_;obtain⟨x,rfl,h1,h2,h3⟩:=h;rw[e1] at h1;rw[e2] at h2 h3;exact⟨((x.2.1,x.2.2.1,m),ap [(gb,.lit (dC S bp mb) 121 (0,0))] [x.1,U],x.2.2.2),by simp[ap],.mk x.1 U h1 hU,h2,h3⟩
theorem N9{rs:List Bx}{ds:List Dr}{bp gb mb:Nat}{S:Setup}{M:MemS}{k:Nat}{G0:HL}(h:GameX rs ds bp gb mb S M k G0){F:HL}(hF:∀x∈G0,x∈F)(hb:0 <= M.base /\ M.base <= 1000000000):Sp Tryz.prog 59 #[vP mb 0] [] F (λ u H'=>u=vI (M.base+(M.lg.length:Int)) /\ H'=[]):=by
 obtain⟨T,hM,hT⟩:=h.mem;exact vB hM (λ x hx=>hF x (hT x hx)) hb
theorem P3{rs:List Bx}{ds:List Dr}{bp gb mb:Nat}{S:Setup}{M:MemS}{k:Nat}{G0:HL}(h:GameX rs ds bp gb mb S M k G0)(F:HL){k2:Nat}(hk:k2 <= 100000000)(hb:0 <= M.base /\ M.base <= 1000000000):Sp Tryz.prog 58 #[vP mb 0,vI (M.base+(M.lg.length:Int))] (ap [] [G0]) F (λ u H'=>∃x,H'=ap [] [x] /\ (u=vI 0 /\ GameX rs ds bp gb mb S ⟨M.cs,[],M.base+(M.lg.length:Int)⟩ k2 x)):=by
 cases h with
 | mk T U hM hU =>
  have h1:=yw (k2:=k2) ([(gb,Blk.lit (dC S bp mb) 121 (0,0))]++(U++F)) hM hb hk;refine Sp.fr (X:=[(gb,Blk.lit (dC S bp mb) 121 (0,0))]++U) ?_ (F:=F) (by rw[aaC];exact h1) ?_
  ·rw[bj,bj];show (([(gb,Blk.lit (dC S bp mb) 121 (0,0))]++[T,U].flatten)).Perm _;simp only[acb,List.flatten_nil,List.append_nil];exact(List.perm_append_comm_assoc _ _ _)
  ·rintro u Y ⟨x,rfl,rfl,h4⟩;refine⟨ap [(gb,Blk.lit (dC S bp mb) 121 (0,0))] [x,U],⟨_,(bj _).symm,rfl,.mk x U h4 hU⟩,?_⟩;rw[bj];show (([(gb,Blk.lit (dC S bp mb) 121 (0,0))]++[x,U].flatten)).Perm _;simp only[acb,List.flatten_nil,List.append_nil];exact(List.perm_append_comm_assoc _ _ _)
section
variable {r:Option Nat} {P:Program} {N:Nat} {D:List Deferred} {F:HL} {w0:World} {R:HL} {s:Cfg} {Q:Exit -> Act -> World -> Prop} {hards:List Nat} {Rd:HL}
def P4(p:Nat)(O:Obj)(s:Cfg):Cfg:=match s with
 | ⟨c,k,L,A,Ts⟩=>⟨c,k,L,match A[p]? with|some x=>bn A p (x.1,.obj O)|none=>A,Ts⟩
end
open Go.Shelf
def sC(x:Int × Value × Nat):MapEntry:={ key:=vI x.1,val:=x.2.1,born:=x.2.2 }
abbrev bF(kv:List (Int × Value × Nat))(c:Nat):Obj:=.map ⟨kv.map sC⟩ c
def og:List (Int × Value × Nat) -> Int -> Nat -> Option (Nat × Value)
 | [],_,_=>none
 | x::l,k,i=>if (k == x.1)=true then some (i,x.2.1) else og l k (i+1)
def sD(kv:List (Int × Value × Nat))(k:Int):Option Value:=(og kv k 0).map (·.2)
def lD(kv:List (Int × Value × Nat))(c:Nat)(k:Int)(v:Value):List (Int × Value × Nat):=match og kv k 0 with
 | some (i,_)=>kv.modify i (λ x=>(k,v,x.2.2))
 | none=>kv++[(k,v,c)]
def jc(kv:List (Int × Value × Nat))(c:Nat)(k:Int):Nat:=match og kv k 0 with
 | some _=>c
 | none=>c+1
def nj(kv:List (Int × Value × Nat))(k:Int):List (Int × Value × Nat):=match og kv k 0 with
 | some (i,_)=>kv.eraseIdx i
 | none=>kv
theorem l9(k:Int):∀ (kv:List (Int × Value × Nat)) (i j:Nat) (v:Value),og kv k i=some (j,v) -> i <= j /\ ∃n,kv[j-i]?=some (k,v,n)
 | [],_,_,_,h=>by cases h
 | x::l,i,j,v,h=>by
  rw[og] at h;split at h
  ·rename_i hk;simp only[Option.some.injEq,Prod.mk.injEq] at h;obtain⟨rfl,rfl⟩:=h;have e:k=x.1:=by simpa using hk
   subst e;exact⟨aa0 _,x.2.2,by simp⟩
  ·obtain⟨h1,n,h2⟩:=l9 k l (i+1) j v h;refine⟨by omega,n,?_⟩;rw[show j-i=(j-(i+1))+1 by omega,List.getElem?_cons_succ];exact h2
theorem ui(ik:IntKind)(k:Int):∀ (kv:List (Int × Value × Nat)) (i:Nat),Instr.findNow (.int ik) (vI k) (kv.map sC) i=some (og kv k i)
 | [],_=>rfl
 | x::l,i=>by
  rw[List.map_cons,Instr.findNow,og];simp only[Instr.sameNow,sC,if_true];cases h:(k == x.1) with
  | true=>simp
  | false=>simp[ui ik k l (i+1)]
theorem pf{P:Program}{kt:TypeId}{ik:IntKind}(hk:P.underlying kt=some (.int ik))(k:Int)(kv:List (Int × Value × Nat))(w:World):(Instr.findKey kt (vI k) (kv.map sC)).run P w=.ok (og kv k 0) w:=by
 unfold Instr.findKey;rw[ace,aG hk];simp only[Result.andThen,ui];rfl
theorem nk{P:Program}{kt:TypeId}{ik:IntKind}(hk:P.underlying kt=some (.int ik))(e:Bool)(k:Int)(w:World):(Instr.checkKey e 10000 kt (vI k)).run P w=.ok () w:=by
 rw[show (10000:Nat)=9999+1 from rfl,Instr.checkKey.eq_def];simp only;rw[ace,aG hk];rfl
abbrev Fk(kv:List (Int × Value × Nat))(k:Int)(ok:Bool)(z:Value):Value:=if ok=true then .tuple #[(sD kv k).getD z,.bool (sD kv k).isSome] else (sD kv k).getD z
theorem yL{P:Program}{w:World}{t kt et:TypeId}{ik:IntKind}{b c:Nat}{kv:List (Int × Value × Nat)}{k:Int}{z:Value}{i:TypeInfo}(ok:Bool)(ht:P.underlying t=some (.map kt et))(hk:P.underlying kt=some (.int ik))(hi:P.info? et=some i)(hz:i.zero=some z)(hb:w.heap[b]?=some (bF kv c)) :
  (Instr.lookup t (.map (some b)) (vI k) ok).run P w=.ok (Fk kv k ok z) w:=by
 unfold Instr.lookup;rw[ace,aG ht];simp only[Result.andThen,ace,gc hb,cD,nk hk,pf hk];unfold Fk sD;cases h:og kv k 0 with
 | some x =>
  obtain⟨j,v⟩:=x;cases ok <;> rfl
 | none =>
  simp only[zeroValue,ace,cZ hi,Result.andThen,hz,cD];cases ok <;> rfl
theorem kF{P:Program}{w:World}{b n:Nat}{es:Array MapEntry}(hb:w.heap[b]?=some (.map es n))(o:Obj):(setObj b o).run P w=.ok () { w with heap:=w.heap.setIfInBounds b o }:=by
 unfold setObj;rw[Sem.run.eq_def];simp only[hb];rfl
theorem pI{P:Program}{w:World}{t kt et:TypeId}{ik:IntKind}{b c:Nat}{kv:List (Int × Value × Nat)}{k:Int}{v:Value}(ht:P.underlying t=some (.map kt et))(hk:P.underlying kt=some (.int ik))(hb:w.heap[b]?=some (bF kv c)) :
  (Instr.mapUpdate t (.map (some b)) (vI k) v).run P w=.ok () { w with heap:=w.heap.setIfInBounds b (bF (lD kv c k v) (jc kv c k)) }:=by
 unfold Instr.mapUpdate;rw[ace,aG ht];simp only[Result.andThen,ace,gc hb,nk hk,pf hk];unfold lD jc;cases h:og kv k 0 with
 | none =>
  simp only[kF hb];congr 3;simp[sC]
 | some x =>
  obtain⟨j,u⟩:=x;obtain⟨h1,n,h2⟩:=l9 k kv 0 j u h;rw[Nat.sub_zero] at h2;have hks:((⟨kv.map sC⟩:Array MapEntry)[j]?).map (·.key)=some (vI k):=by simp[h2,sC]
  simp only[ace,hks,Option.getD_some];have aaT:(Instr.keyThatStays (vI k) (vI k)).run P w=.ok (vI k) w:=by
   unfold Instr.keyThatStays;rw[show (10000:Nat)=9999+1 from rfl,if_pos (by simp[Instr.sameBits])];rfl
  rw[aaT];refine(kF hb _).trans ?_;congr 3;simp only[Obj.map.injEq,and_true];apply Array.toList_inj.1;simp only[Array.toList_modify];apply List.ext_getElem?;intro m;simp only[List.getElem?_modify,List.getElem?_map]
  by_cases e:j=m
  ·subst e;simp[h2,sC]
  ·simp[e]
theorem mH{α β:Type}(f:α -> β):∀ (l:List α) (j:Nat),(l.map f).eraseIdx j=(l.eraseIdx j).map f
 | [],_=>rfl
 | _::_,0=>rfl
 | x::l,j+1=>by simp[mH f l j]
theorem yM{P:Program}{w:World}{t kt et ty x:TypeId}{ik:IntKind}{b c:Nat}{kv:List (Int × Value × Nat)}{k:Int}(ht:P.underlying t=some (.map kt et))(hk:P.underlying kt=some (.int ik))(hb:w.heap[b]?=some (bF kv c)) :
  (Builtin.delete_ #[t,x] ty #[.map (some b),vI k]).run P w=.ok (.tuple #[]) { w with heap:=w.heap.setIfInBounds b (bF (nj kv k) c) }:=by
 unfold Builtin.delete_;simp only[List.getElem?_toArray,List.getElem?_cons_zero,List.getElem?_cons_succ];rw[ace,aG ht];simp only[Result.andThen,ace,gc hb,nk hk,pf hk];unfold nj;cases h:og kv k 0 with
 | none =>
  simp only[ace,kF hb];rfl
 | some x =>
  obtain⟨j,u⟩:=x;obtain⟨h1,n,h2⟩:=l9 k kv 0 j u h;rw[Nat.sub_zero] at h2;have hj:j<kv.length:=(List.getElem?_eq_some_iff.1 h2).1;simp only[ace,kF hb];show Result.ok _ _=_;congr 3;simp only[Obj.map.injEq,and_true];apply Array.toList_inj.1;rw[Array.eraseIdxIfInBounds,dif_pos (by simpa using hj)];show ((kv.map sC).toArray.eraseIdx j _).toList=_;rw[List.eraseIdx_toArray];exact mH sC kv j
def Jk(P:Program)(N p:Nat)(oo:Option Oper)(s:Cfg):Option (Int × Bool × Value × Nat × Nat × Obj):=match oo with
 | some o=>match o.guard,o.op,(eh N o.dst undef s.L).isSome with
  | none,.lookup t x ix ok,true=>match gB s.L x && gB s.L ix,fA s.L x,fA s.L ix,P.underlying t,s.A[p]? with
   | true,.map (some b),.int .i64 k,some (.map kt et),some (b',.obj O)=>match P.underlying kt,(P.info? et).bind (·.zero) with
    | some (.int _),some z=>some (k,ok,z,b,b',O)
    | _,_=>none
   | _,_,_,_,_=>none
  | _,_,_=>none
 | none=>none
def P5(x:Option (Int × Bool × Value × Nat × Nat × Obj)):Nat:=match x with
 | some (_,_,_,_,b,_)=>b
 | none=>0
theorem EP{P:Program}{N p:Nat}{oo:Option Oper}{s:Cfg}{k:Int}{ok:Bool}{z:Value}{b:Nat}{O:Obj}(h:Jk P N p oo s=some (k,ok,z,b,b,O)) :
  ∃o t x ix kt et i ik,oo=some o /\ o.guard=none /\ o.op=.lookup t x ix ok /\ (gB s.L x && gB s.L ix)=true /\ fA s.L x=.map (some b) /\ fA s.L ix=.int .i64 k /\ P.underlying t=some (.map kt et) /\ P.underlying kt=some (.int ik) /\ P.info? et=some i /\ i.zero=some z /\ s.A[p]?=some (b,.obj O) /\ (eh N o.dst undef s.L).isSome=true:=by
 unfold Jk at h;split at h
 case h_2=>cases h
 rename_i o;split at h
 case h_2=>cases h
 rename_i t x ix ok' h1 h2 h3;split at h
 case h_2=>cases h
 rename_i b1 k1 kt et b2 O1 h4 h5 h6 h7 h8;split at h
 case h_2=>cases h
 rename_i ik z1 h9 TA;simp only[Option.some.injEq,Prod.mk.injEq] at h;obtain⟨e1,e2,e3,e4,e5,e6⟩:=h;subst e1;subst e2;subst e3;subst e4;subst e5;subst e6;rw[Option.bind_eq_some_iff] at TA;obtain⟨i,hi,hz⟩:=TA;exact⟨o,t,x,ix,kt,et,i,ik,rfl,h1,h2,h4,h5,h6,h7,h9,hi,hz,h8,h3⟩
section
variable {r:Option Nat} {P:Program} {N:Nat} {D:List Deferred} {F:HL} {w0:World} {R:HL} {s:Cfg} {Q:Exit -> Act -> World -> Prop} {hards:List Nat} {Rd:HL}
theorem pg(p:Nat){kv:List (Int × Value × Nat)}{cl:Nat}{k:Int}{ok:Bool}{z v:Value}(ev:Fk kv k ok z=v)(hk:RN r P N D F w0 R (dX N v s) Q)
  (h:Jk P N p (gI s) s=some (k,ok,z,P5 (Jk P N p (gI s) s),P5 (Jk P N p (gI s) s),bF kv cl):=by kernel_rfl):RN r P N D F w0 R s Q:=by
 subst ev;obtain⟨o,t,x,ix,kt,et,i,ik,q0,q1,q2,q3,q4,q5,q6,q7,q8,q9,IS,RJ⟩:=EP h;refine⟨λ hR a w hF aT hB=>?_⟩;obtain⟨c,kk,L,A,Ts⟩:=s;unfold gI at q0;cases c with
 | code c=>cases q0
 | ex c=>cases q0
 | drw _ _=>cases q0
 | ops ops j =>
  simp only at q0 q3 q4 q5 IS RJ hF aT;have oR:ops.toList.drop j=o::ops.toList.drop (j+1):=by
   have iF:j<ops.toList.length:=(List.getElem?_eq_some_iff.1 q0).1;rw[List.drop_eq_getElem_cons iF,(List.getElem?_eq_some_iff.1 q0).2]
  show wpListIn _ _ _ _ _ _ _ _;rw[oR,wpListIn,if_pos (by simp[Region.wanted,q1])];refine⟨λ _ _=>trivial,?_⟩;rw[ab1] at q3;have hb:=aT.holds _ (aaw _ (aaw _ (List.mem_of_getElem? IS)));simp only[Blk.den] at hb;obtain⟨L',hl⟩:=dg RJ (Fk kv k ok z);have Ru:dX N (Fk kv k ok z) ⟨.ops ops j,kk,L,A,Ts⟩=⟨.ops ops (j+1),kk,L',A,Ts⟩:=by
   unfold dX;simp only[q0,hl]
  have hh:=hk.h hR;rw[Ru] at hh;have hex:(execOp a.eval o).run P w=.ok (.value (Fk kv k ok z)) w:=by
   have e1:a.eval x=.map (some _):=(hF.eval q3.1).trans q4;have e2:a.eval ix=.int .i64 k:=(hF.eval q3.2).trans q5;have:=yL (P:=P) (w:=w) (k:=k) ok q6 q7 q8 q9 hb;simp only[execOp,q2,e1,e2,ace,this,Result.andThen];rfl
  rw[Oper.semAt_eq _ _ _ (by rw[q2];intro c hc;cases hc),hex,Oper.uponIn_value];exact hh _ w (hF.put hl) aT hB
def sE(P:Program)(N p:Nat)(oo:Option Oper)(s:Cfg):Option (Int × Value × Nat × Nat × Obj):=match oo with
 | some o=>match o.guard,o.op,(eh N o.dst undef s.L).isSome with
  | none,.mapUpdate t m x v,true=>match gB s.L m && (gB s.L x && gB s.L v),fA s.L m,fA s.L x,P.underlying t,s.A[p]? with
   | true,.map (some b),.int .i64 k,some (.map kt _),some (b',.obj O)=>match P.underlying kt with
    | some (.int _)=>some (k,fA s.L v,b,b',O)
    | _=>none
   | _,_,_,_,_=>none
  | none,.insert t m x v,true=>match gB s.L m && (gB s.L x && gB s.L v),fA s.L m,fA s.L x,P.underlying t,s.A[p]? with
   | true,.map (some b),.int .i64 k,some (.map kt _),some (b',.obj O)=>match P.underlying kt with
    | some (.int _)=>some (k,fA s.L v,b,b',O)
    | _=>none
   | _,_,_,_,_=>none
  | _,_,_=>none
 | none=>none
def EQ(x:Option (Int × Value × Nat × Nat × Obj)):Nat:=match x with
 | some (_,_,_,b,_)=>b
 | none=>0
theorem uj{P:Program}{N p:Nat}{oo:Option Oper}{s:Cfg}{k:Int}{v:Value}{b:Nat}{O:Obj}(h:sE P N p oo s=some (k,v,b,b,O)) :
  ∃o t m x y kt et ik,oo=some o /\ o.guard=none /\ (o.op=.mapUpdate t m x y \/ o.op=.insert t m x y) /\ gB s.L m=true /\ gB s.L x=true /\ gB s.L y=true /\ fA s.L m=.map (some b) /\ fA s.L x=.int .i64 k /\ fA s.L y=v /\ P.underlying t=some (.map kt et) /\ P.underlying kt=some (.int ik) /\ s.A[p]?=some (b,.obj O) /\ (eh N o.dst undef s.L).isSome=true:=by
 unfold sE at h;split at h
 case h_2=>cases h
 rename_i o;split at h
 case h_3=>cases h
 all_goals
  rename_i t m x y h1 h2 h3;split at h
  case h_2=>cases h
  rename_i b1 k1 kt et b2 O1 h4 h5 h6 h7 h8;split at h
  case h_2=>cases h
  rename_i ik h9;simp only[Option.some.injEq,Prod.mk.injEq] at h;obtain⟨e1,e2,e3,e4,e5⟩:=h;subst e1;subst e3;subst e4;subst e5;rw[ab1,ab1] at h4
 ·exact⟨o,t,m,x,y,kt,et,ik,rfl,h1,.inl h2,h4.1,h4.2.1,h4.2.2,h5,h6,e2,h7,h9,h8,h3⟩
 ·exact⟨o,t,m,x,y,kt,et,ik,rfl,h1,.inr h2,h4.1,h4.2.1,h4.2.2,h5,h6,e2,h7,h9,h8,h3⟩
theorem Rf(p:Nat){kv:List (Int × Value × Nat)}{cl:Nat}{k:Int}{v:Value}(hk:RN r P N D F w0 R (P4 p (bF (lD kv cl k v) (jc kv cl k)) (dX N undef s)) Q)
  (h:sE P N p (gI s) s=some (k,v,EQ (sE P N p (gI s) s),EQ (sE P N p (gI s) s),bF kv cl):=by kernel_rfl):RN r P N D F w0 R s Q:=by
 obtain⟨o,t,m,x,y,kt,et,ik,q0,q1,q2,q3,XD,Vr,q4,q5,Z_,q6,q7,IS,RJ⟩:=uj h;refine⟨λ hR a w hF aT hB=>?_⟩;generalize EQ (sE P N p (gI s) s)=b at *;obtain⟨c,kk,L,A,Ts⟩:=s;unfold gI at q0;cases c with
 | code c=>cases q0
 | ex c=>cases q0
 | drw _ _=>cases q0
 | ops ops j =>
  simp only at q0 q3 XD Vr q4 q5 Z_ IS RJ hF aT;have oR:ops.toList.drop j=o::ops.toList.drop (j+1):=by
   have iF:j<ops.toList.length:=(List.getElem?_eq_some_iff.1 q0).1;rw[List.drop_eq_getElem_cons iF,(List.getElem?_eq_some_iff.1 q0).2]
  show wpListIn _ _ _ _ _ _ _ _;rw[oR,wpListIn,if_pos (by simp[Region.wanted,q1])];refine⟨λ _ _=>trivial,?_⟩;have hb:=aT.holds _ (aaw _ (aaw _ (List.mem_of_getElem? IS)));simp only[Blk.den] at hb;obtain⟨L',hl⟩:=dg RJ undef;have Ru:dX N undef ⟨.ops ops j,kk,L,A,Ts⟩=⟨.ops ops (j+1),kk,L',A,Ts⟩:=by
   unfold dX;simp only[q0,hl]
  have hh:=hk.h hR;rw[Ru] at hh;have e1:a.eval m=.map (some b):=(hF.eval q3).trans q4;have e2:a.eval x=.int .i64 k:=(hF.eval XD).trans q5;have e3:a.eval y=v:=(hF.eval Vr).trans Z_;have XL:=pI (P:=P) (w:=w) (k:=k) (v:=v) q6 q7 hb;have hex:(execOp a.eval o).run P w=.ok .skip { w with heap:=w.heap.setIfInBounds b (bF (lD kv cl k v) (jc kv cl k)) }:=by
   rcases q2 with q2|q2
   ·simp only[execOp,q2,e1,e2,e3,ace,XL,Result.andThen];rfl
   ·simp only[execOp,q2,e1,e2,e3,ace,XL,Result.andThen];rfl
  have Tl:∀c,o.op ≠ .defer c:=by
   intro c hc;rcases q2 with q2|q2 <;> rw[q2] at hc <;> cases hc
  rw[Oper.semAt_eq _ _ _ Tl,hex,Oper.uponIn_skip];have iF:=cw hb;rw[eJ] at aT;have D_:=aT.upd (w':={ w with heap:=w.heap.setIfInBounds b (bF (lD kv cl k v) (jc kv cl k)) }) (bl':=.obj (bF (lD kv cl k v) (jc kv cl k))) IS (by
   show (w.heap.setIfInBounds b _)[b]?=_;rw[Array.getElem?_setIfInBounds_self_of_lt iF];rfl) (λ k' Ua=>by
   show (w.heap.setIfInBounds b _)[k']?=_;rw[Array.getElem?_setIfInBounds_ne (λ e=>Ua e.symm)])
  refine hh _ _ (hF.put hl) ?_ (hB.trans ⟨rfl,rfl,rfl,by simp,λ k hk=>by omega⟩);show Rel (ap (match A[p]? with|some x=>bn A p (x.1,.obj (bF (lD kv cl k v) (jc kv cl k)))|none=>A) Ts++F) _;rw[IS,eJ];exact D_
end
def ES(P:Program)(N p:Nat)(s:Cfg):Option (Int × Nat × Nat × Obj):=match gI s with
 | some o=>match o.guard,o.op,(eh N o.dst undef s.L).isSome with
  | none,.call c,true=>match c.callee,c.args.toList,c.argTypes.toList with
   | .builtin .delete,[m,x],[t,_]=>match gB s.L m && gB s.L x,fA s.L m,fA s.L x,P.underlying t,s.A[p]? with
    | true,.map (some b),.int .i64 k,some (.map kt _),some (b',.obj O)=>match P.underlying kt with
     | some (.int _)=>some (k,b,b',O)
     | _=>none
    | _,_,_,_,_=>none
   | _,_,_=>none
  | _,_,_=>none
 | none=>none
def Oa(x:Option (Int × Nat × Nat × Obj)):Nat:=match x with
 | some (_,b,_,_)=>b
 | none=>0
theorem ET{P:Program}{N p:Nat}{s:Cfg}{k:Int}{b:Nat}{O:Obj}(h:ES P N p s=some (k,b,b,O)) :
  ∃o t tx m x kt et ik,gI s=some o /\ o.guard=none /\ o.op=.call { callee:=.builtin .delete,args:=#[m,x],argTypes:=#[t,tx] } /\ gB s.L m=true /\ gB s.L x=true /\ fA s.L m=.map (some b) /\ fA s.L x=vI k /\ P.underlying t=some (.map kt et) /\ P.underlying kt=some (.int ik) /\ s.A[p]?=some (b,.obj O) /\ (eh N o.dst undef s.L).isSome=true:=by
 unfold ES at h;split at h
 case h_2=>cases h
 rename_i o ho;split at h
 case h_2=>cases h
 rename_i c h1 h2 h3;split at h
 case h_2=>cases h
 rename_i m x t tx g1 g2 g3;split at h
 case h_2=>cases h
 rename_i b1 k1 kt et b2 O1 h4 h5 h6 h7 h8;split at h
 case h_2=>cases h
 rename_i ik h9;simp only[Option.some.injEq,Prod.mk.injEq] at h;obtain⟨e1,e2,e3,e4⟩:=h;subst e1;subst e2;subst e3;subst e4;rw[ab1] at h4;refine⟨o,t,tx,m,x,kt,et,ik,ho,h1,?_,h4.1,h4.2,h5,h6,h7,h9,h8,h3⟩;obtain⟨cal,args,ZZ⟩:=c;simp only at g1 g2 g3;subst g1;have e1:args=#[m,x]:=by cases args;simp_all
 have e2:ZZ=#[t,tx]:=by cases ZZ;simp_all
 rw[h2,e1,e2]
section
variable {r:Option Nat} {P:Program} {N:Nat} {D:List Deferred} {F:HL} {w0:World} {R:HL} {s:Cfg} {Q:Exit -> Act -> World -> Prop}
theorem Oc(p:Nat){kv:List (Int × Value × Nat)}{cl:Nat}{k:Int}(hk:RN r P N D F w0 R (P4 p (bF (nj kv k) cl) (dX N (.tuple #[]) s)) Q)
  (h:ES P N p s=some (k,Oa (ES P N p s),Oa (ES P N p s),bF kv cl):=by kernel_rfl):RN r P N D F w0 R s Q:=by
 obtain⟨o,t,tx,m,x,kt,et,ik,q0,q1,q2,q3,XD,q4,q5,q6,q7,IS,RJ⟩:=ET h;refine⟨λ hR a w hF aT hB=>?_⟩;generalize Oa (ES P N p s)=b at *;obtain⟨c,kk,L,A,Ts⟩:=s;unfold gI at q0;cases c with
 | code c=>cases q0
 | ex c=>cases q0
 | drw _ _=>cases q0
 | ops ops j =>
  simp only at q0 q3 XD q4 q5 IS RJ hF aT;have oR:ops.toList.drop j=o::ops.toList.drop (j+1):=by
   have iF:j<ops.toList.length:=(List.getElem?_eq_some_iff.1 q0).1;rw[List.drop_eq_getElem_cons iF,(List.getElem?_eq_some_iff.1 q0).2]
  show wpListIn _ _ _ _ _ _ _ _;rw[oR,wpListIn,if_pos (by simp[Region.wanted,q1])];refine⟨λ _ _=>trivial,?_⟩;have hb:=aT.holds _ (aaw _ (aaw _ (List.mem_of_getElem? IS)));simp only[Blk.den] at hb;have iF:=cw hb;have key:dt P o a w λ u w'=>u=.tuple #[] /\ Rel (ap (match A[p]? with|some x=>bn A p (x.1,.obj (bF (nj kv k) cl))|none=>A) Ts++F) w' /\ Below 0 w w':=by
   have e1:a.eval m=.map (some b):=(hF.eval q3).trans q4;have e2:a.eval x=vI k:=(hF.eval XD).trans q5;have iD:=yM (P:=P) (w:=w) (x:=tx) (ty:=o.type) (k:=k) q6 q7 hb;unfold dt;have he:(execOp a.eval o).run P w=.ok (.value (.tuple #[])) { w with heap:=w.heap.setIfInBounds b (bF (nj kv k) cl) }:=by
    simp[execOp,q2,resolve,invoke,builtin,ace,e1,e2,iD]
   rw[he];rw[eJ] at aT;have D_:=aT.upd (w':={ w with heap:=w.heap.setIfInBounds b (bF (nj kv k) cl) }) (bl':=.obj (bF (nj kv k) cl)) IS (by
    show (w.heap.setIfInBounds b _)[b]?=_;rw[Array.getElem?_setIfInBounds_self_of_lt iF];rfl) (λ k' Ua=>by
    show (w.heap.setIfInBounds b _)[k']?=_;rw[Array.getElem?_setIfInBounds_ne (λ e=>Ua e.symm)])
   refine⟨rfl,?_,⟨rfl,rfl,rfl,by simp,λ k hk=>by omega⟩⟩;rw[IS,eJ];exact D_
  refine fc (by rw[q2];intro c hc;cases hc) key ?_;rintro u w' ⟨rfl,D_,SU⟩;obtain⟨L',hl⟩:=dg RJ (.tuple #[]);have hh:=hk.h hR;have Ru:dX N (.tuple #[]) ⟨.ops ops j,kk,L,A,Ts⟩=⟨.ops ops (j+1),kk,L',A,Ts⟩:=by
   unfold dX;simp only[q0,hl]
  rw[Ru] at hh;exact hh _ w' (hF.put hl) D_ (hB.trans SU)
end
end Go.Proofs.YtdppjkjbghbnjaaGreatDoor
