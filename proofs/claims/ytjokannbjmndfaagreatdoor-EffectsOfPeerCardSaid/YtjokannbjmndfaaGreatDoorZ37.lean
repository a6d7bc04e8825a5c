import Derived.Test.YtjokannbjmndfaaGreatDoorZ36
set_option linter.all false
set_option maxHeartbeats 4000000
set_option maxRecDepth 100000
namespace Go.Proofs.YtjokannbjmndfaaGreatDoor
open Go.RowKit
variable {A M:MemS} {S:Setup} {g:Gm} {ins:Nat->Inp} {k p:Int} {t:Stp}
theorem pR(hp:0<=S.players)(h:0<=k/\k<S.nb):ag S k>=0:=by
 unfold ag;rw[if_neg (by omega),if_neg (by omega)];omega
theorem Hi.setMot(hp:0<=S.players)(h:Hi S.players A M)(ht:t.S=S)(hb:ag S k>=0)(m:Mot):Hi S.players A (cX t k m M):=by
 subst ht;unfold cX;exact(((h.setB hp hb (by omega) _).setB hp hb (by omega) _).setB hp hb (by omega) _).setB hp hb (by omega) _
theorem Kx(hS:SetV S)(ht:t.S=S)(M:MemS):Hi S.players M (dp t M):=by
 have hp:0<=S.players:=by have:=hS.pl;omega
 unfold dp;rw[ht];split
 ·next h1=>
  split
  ·next h2=>
   split
   ·have b1:=pR hp h1;have b2:=pR hp h2;unfold fD;rw[ht];exact(((((Hi.refl).setMot hp ht b1 _).setMot hp ht b2 _).setB hp b1 (by omega) _).setB hp b2 (by omega) _)
   ·exact .refl
  ·exact .refl
 ·exact .refl
theorem q4(hS:SetV S)(hg:g.S=S)(h:TV S ins M)(hp:M.get 1=4):Nx S ins M ⟨bD (g.step M) M,0,bx,false⟩:=by
 have hpl:=hS.pl;have ZS:=hS.nb;have US:=hS.ro;have hc:0<=M.get 4/\M.get 4<=S.rounds/\(2<=(S.nb:Int)->0<=M.get 2/\M.get 2<M.get 3/\M.get 3<S.nb/\(M.get 4=S.rounds->M.get 2=0/\M.get 3=1)):=by rcases h.ct with h|h|h|h|h|h|h|h <;> omega
 have hl:=h.l48 hS;have hh:=Kx hS (t:=g.step M) hg M;have fin:nI S M>l5 S.nb 0 0->Nx S ins M ⟨(aZ (g.step M) 5 0 M).set 5 1024,0,bx,false⟩:=λ iN=>by
  refine iy hS h (by omega) ((Hi.refl (P:=S.players)).kp (by omega)) ((aM).trans (f5 _)) (p:=5) (i:=0) (j:=0) (q:=M.get 4) (x:=1024) (fu:=M.get 8) (λ k=>?_) rfl ((Hi.refl (P:=S.players)).ef (by omega)) (.inr (.inr (.inr (.inr (.inr (.inl ⟨rfl,by omega,by omega,by omega,by omega⟩)))))) (by omega) iN;rw[bL (by rw[f5];exact hl) (by omega) (by omega),j8 hl]
  by_cases k5:k=5
  ·subst k5;simp
  ·rw[if_neg k5]
   by_cases k1:k=1
   ·subst k1;simp
   by_cases k2:k=2
   ·subst k2;simp
   by_cases k3:k=3
   ·subst k3;simp
   by_cases k4:k=4
   ·subst k4;simp
   simp[k1,k2,k3,k4,k5]
 have e4l:nI S M=l4 S.nb S.rounds (M.get 2) (M.get 3) (M.get 4):=by unfold nI;rw[hp];rfl
 unfold bD;show Nx S ins M ⟨if (g.S.nb:Int)<2 then _ else if M.get 4>=g.S.rounds then _ else _,0,bx,false⟩;rw[hg];split
 ·next h2=>exact fin (by rw[e4l];unfold l4;rw[if_pos h2];omega)
 split
 ·next h2 h3=>
  refine fin ?_;have e:M.get 4=S.rounds:=by omega
  obtain⟨c1,c2,c3,c4⟩:=hc.2.2 (by omega);obtain⟨d1,d2⟩:=c4 e;rw[e4l,e,d1,d2];unfold l4;rw[if_neg (by omega),Int.sub_self,Int.zero_mul];show _>_;unfold Oq;simp only[if_true];omega
 next h2 h3=>
 obtain⟨c1,c2,c3,-⟩:=hc.2.2 (by omega);show Nx S ins M ⟨(((dp (g.step M) M).set 4 (da (M.get 2) (M.get 3) g.S.nb (M.get 4)).1).set 2 (da (M.get 2) (M.get 3) g.S.nb (M.get 4)).2.1).set 3 (da (M.get 2) (M.get 3) g.S.nb (M.get 4)).2.2,0,bx,false⟩;rw[hg];generalize dp (g.step M) M=N at *;have UI:48<=N.cs.length:=by rw[hh.len];exact hl
 have e1:=hh.get 1 (by omega);have e5:=hh.get 5 (by omega);have e8:=hh.get 8 (by omega);have hq:(0<=(da (M.get 2) (M.get 3) S.nb (M.get 4)).1/\(da (M.get 2) (M.get 3) S.nb (M.get 4)).1<=S.rounds)/\(0<=(da (M.get 2) (M.get 3) S.nb (M.get 4)).2.1/\(da (M.get 2) (M.get 3) S.nb (M.get 4)).2.1<(da (M.get 2) (M.get 3) S.nb (M.get 4)).2.2/\(da (M.get 2) (M.get 3) S.nb (M.get 4)).2.2<S.nb/\((da (M.get 2) (M.get 3) S.nb (M.get 4)).1=S.rounds->(da (M.get 2) (M.get 3) S.nb (M.get 4)).2.1=0/\(da (M.get 2) (M.get 3) S.nb (M.get 4)).2.2=1))/\
   l4 S.nb S.rounds (da (M.get 2) (M.get 3) S.nb (M.get 4)).2.1 (da (M.get 2) (M.get 3) S.nb (M.get 4)).2.2 (da (M.get 2) (M.get 3) S.nb (M.get 4)).1<l4 S.nb S.rounds (M.get 2) (M.get 3) (M.get 4):=by
  have hn2:(2:Int)<=S.nb/\(S.nb:Int)<=5:=by omega
  have Xf:M.get 4<S.rounds:=by omega
  have hq0:=hc.1;unfold da;rw[cP (by omega),cP (by omega),cP (by omega),cP (by omega)];clear e1 e5 e8 e4l fin hc h;generalize M.get 2=i at *;generalize M.get 3=j at *;generalize M.get 4=q at *;generalize S.rounds=R at *;generalize (S.nb:Int)=n at *;split
  ·simp only;refine⟨⟨by omega,by omega⟩,⟨by omega,by omega,by omega,λ e=>by omega⟩,?_⟩;unfold l4;rw[if_neg (by omega),if_neg (by omega)];omega
  ·split
   ·refine⟨⟨by simp only;omega,by simp only;omega⟩,⟨by simp only;omega,by simp only;omega,by simp only;omega,λ e=>by simp only at e;omega⟩,?_⟩;simp only;unfold l4 Oq P8;obtain h|h|h|h:n=2\/n=3\/n=4\/n=5:=by omega
    all_goals subst h
    all_goals (have:i=0\/i=1\/i=2:=by omega)
    all_goals (rcases this with rfl|rfl|rfl)
    all_goals first|omega|(simp;omega)
   ·refine⟨⟨by simp only;omega,by simp only;omega⟩,⟨by simp only;omega,by simp only;omega,by simp only;omega,λ e=>⟨rfl,rfl⟩⟩,?_⟩;simp only;unfold l4 Oq P8;obtain h|h|h|h:n=2\/n=3\/n=4\/n=5:=by omega
    all_goals subst h
    all_goals (have:i=0\/i=1\/i=2\/i=3:=by omega)
    all_goals (rcases this with rfl|rfl|rfl|rfl)
    all_goals first|omega|(simp;omega)
 generalize da (M.get 2) (M.get 3) S.nb (M.get 4)=z at *;refine iy hS h (by omega) (hh.kp (by omega)) (by simp only[aM]) (p:=4) (i:=z.2.1) (j:=z.2.2) (q:=z.1) (x:=N.get 5) (λ k=>?_) e8 (hh.ef (by omega)) (.inr (.inr (.inr (.inr (.inl ⟨rfl,hq.1.1,hq.1.2,λ _=>hq.2.1⟩))))) (by omega) (by rw[e4l];exact hq.2.2);rw[bL (by simp only[aM];exact UI) (by omega) (by omega),bL (by simp only[aM];exact UI) (by omega) (by omega),bL UI (by omega) (by omega)]
 by_cases k1:k=1
 ·subst k1;simp;omega
 by_cases k2:k=2
 ·subst k2;simp
 by_cases k3:k=3
 ·subst k3;simp
 by_cases k4:k=4
 ·subst k4;simp
 by_cases k5:k=5
 ·subst k5;simp
 simp[k1,k2,k3,k4,k5]
theorem zP(hp:0<=S.players)(h:Hi S.players A M){c d:Int}(hb:ag S k>=0)(hc:0<=c)(hd:0<=d){pos lo hi:Int}:Hi S.players A (dD t (ag S k+c) (ag S k+d) pos lo hi M):=by
 unfold dD;split
 ·exact h.setB hp hb hc _
 ·exact(h.setB hp hb hc _).setB hp hb hd _
theorem Gb(hp:0<=S.players)(ht:t.S=S)(M:MemS)(hb:ag S t.i>=0):Hi S.players M (cI t M):=by
 subst ht;unfold cI;exact zP hp (zP hp .refl hb (by omega) (by omega)) hb (by omega) (by omega)
theorem Ky(t:Stp)(hl:48<=M.cs.length)(k:Int):(ew t M).get k=(if k=5 then (ew t M).get 5 else M.get k)/\(ew t M).cs.length=M.cs.length:=by
 have id5:M.get k=if k=5 then M.get 5 else M.get k:=by
  by_cases e:k=5
  ·rw[if_pos e,e]
  ·rw[if_neg e]
 unfold ew;split
 ·exact⟨id5,rfl⟩
 ·split
  ·split
   ·refine⟨?_,aM⟩;rw[bL hl (by omega) (by omega),bL hl (by omega) (by omega)];split <;> simp
   ·exact⟨id5,rfl⟩
  ·exact⟨id5,rfl⟩
theorem q5(hS:SetV S)(hg:g.S=S)(h:TV S ins M)(hp:M.get 1=5):Nx S ins M ⟨dC (g.step M) M,0,bx,false⟩:=by
 have hpl:=hS.pl;have ZS:=hS.nb;have US:=hS.ro;have hc:(0<=M.get 2/\M.get 2<S.nb)/\0<=M.get 3/\M.get 3<=S.nb:=by rcases h.ct with h|h|h|h|h|h|h|h <;> omega
 have hl:=h.l48 hS;have e5l:nI S M=l5 S.nb (M.get 2) (M.get 3):=by unfold nI;rw[hp];rfl
 unfold dC;show Nx S ins M ⟨if 0<=M.get 3/\M.get 3<g.S.nb then (ew (g.step M) M).set 3 (aV (M.get 3+1)) else fE (g.step M) (if movP g.S (M.get 2) then cI (g.step M) M else M),0,bx,false⟩;rw[hg];split
 ·next hj=>
  rw[cP (by omega)];have ht:=Ky (g.step M) hl;refine iy hS h (by omega) ((Hi.refl (P:=S.players)).kp (by omega)) ((aM).trans (ht 0).2) (p:=5) (i:=M.get 2) (j:=M.get 3+1) (q:=M.get 4) (x:=(ew (g.step M) M).get 5) (fu:=M.get 8) (λ k=>?_) rfl ((Hi.refl (P:=S.players)).ef (by omega)) (.inr (.inr (.inr (.inr (.inr (.inl ⟨rfl,by omega,by omega,by omega,by omega⟩)))))) (by omega) ?_
  ·rw[bL (by rw[(ht 0).2];exact hl) (by omega) (by omega),(ht k).1]
   by_cases k1:k=1
   ·subst k1;simp;omega
   by_cases k2:k=2
   ·subst k2;simp
   by_cases k3:k=3
   ·subst k3;simp
   by_cases k4:k=4
   ·subst k4;simp
   by_cases k5:k=5
   ·subst k5;simp
   simp[k1,k2,k3,k4,k5]
  ·rw[e5l];show l5 S.nb (M.get 2) (M.get 3+1)<_;unfold l5;omega
 ·next hj=>
  have ej:M.get 3=S.nb:=by omega
  have hh:Hi S.players M (if movP S (M.get 2) then cI (g.step M) M else M):=by
   split
   ·next hm=>exact Gb (by omega) hg M (pR (by omega) hc.1)
   ·exact .refl
  generalize (if movP S (M.get 2) then cI (g.step M) M else M)=N at *;have UI:48<=N.cs.length:=by rw[hh.len];exact hl
  have e1:=hh.get 1 (by omega);have e4:=hh.get 4 (by omega);have e8:=hh.get 8 (by omega);unfold fE;show Nx S ins M ⟨if aV (M.get 2+1)<g.S.nb then ((N.set 2 (aV (M.get 2+1))).set 3 0).set 5 1024 else (aZ (g.step M) 6 0 N).set 5 0,0,bx,false⟩;rw[cP (by omega),hg];split
  ·refine iy hS h (by omega) (hh.kp (by omega)) (by simp only[aM]) (p:=5) (i:=M.get 2+1) (j:=0) (q:=N.get 4) (x:=1024) (λ k=>?_) e8 (hh.ef (by omega)) (.inr (.inr (.inr (.inr (.inr (.inl ⟨rfl,by omega,by omega,by omega,by omega⟩)))))) (by omega) ?_
   ·rw[bL (by simp only[aM];exact UI) (by omega) (by omega),bL (by simp only[aM];exact UI) (by omega) (by omega),bL UI (by omega) (by omega)]
    by_cases k1:k=1
    ·subst k1;simp;omega
    by_cases k2:k=2
    ·subst k2;simp
    by_cases k3:k=3
    ·subst k3;simp
    by_cases k4:k=4
    ·subst k4;simp
    by_cases k5:k=5
    ·subst k5;simp
    simp[k1,k2,k3,k4,k5]
   ·rw[e5l,ej];show l5 S.nb (M.get 2+1) 0<_;unfold l5;generalize M.get 2=i at *;obtain h|h|h|h|h:(S.nb:Int)=1\/(S.nb:Int)=2\/(S.nb:Int)=3\/(S.nb:Int)=4\/(S.nb:Int)=5:=by omega
    all_goals rw[h];omega
  ·refine iy hS h (by omega) (hh.kp (by omega)) ((aM).trans (f5 _)) (p:=6) (i:=0) (j:=0) (q:=N.get 4) (x:=0) (λ k=>?_) e8 (hh.ef (by omega)) (.inr (.inr (.inr (.inr (.inr (.inr (.inl ⟨rfl,by omega,by omega,.inl rfl⟩))))))) (by omega) ?_
   ·rw[bL (by rw[f5];exact UI) (by omega) (by omega),j8 UI]
    by_cases k1:k=1
    ·subst k1;simp
    by_cases k2:k=2
    ·subst k2;simp
    by_cases k3:k=3
    ·subst k3;simp
    by_cases k4:k=4
    ·subst k4;simp
    by_cases k5:k=5
    ·subst k5;simp
    simp[k1,k2,k3,k4,k5]
   ·rw[e5l,ej];show l6 S.nb 0 0 _<_;unfold l5 l6;generalize M.get 2=i at *;obtain h|h|h|h|h:(S.nb:Int)=1\/(S.nb:Int)=2\/(S.nb:Int)=3\/(S.nb:Int)=4\/(S.nb:Int)=5:=by omega
    all_goals rw[h];simp;omega
theorem zQ{P:Int}{e fu a b:Int}(hl:48<=M.cs.length)(he:¬ e<0):Kp P M (aK e fu a b M)/\(aK e fu a b M).get 8=fu/\(aK e fu a b M).get 11=M.get 11:=by
 unfold aK;rw[if_neg he];refine⟨(((((Kp.refl).set (by omega) _).set (by omega) _).set (by omega) _).set (by omega) _).set (by omega) _,?_,?_⟩
 ·rw[bA (by decide),bA (by decide),jA (by simp only[aM];omega)]
 ·rw[bA (by decide),bA (by decide),bA (by decide),bA (by decide),bA (by decide)]
theorem DQ(hS:SetV S)(hg:g.S=S)(h:TV S ins M)(hp:M.get 1=p)(hp1:1<=p)(e a:Int) {o:Int}{c:Bool}(hi:0<=M.get 2/\M.get 2<=5)(hj:M.get 3=0\/(M.get 3=1/\0<=M.get 8/\M.get 8<=60))
  (hc0:∀fu,QA S.players S.nb S.rounds p (M.get 2+1) 0 (M.get 4) fu) (hc1:∀fu,0<=fu->fu<=60->QA S.players S.nb S.rounds p (M.get 2) 1 (M.get 4) fu)
  (l0:∀f f',GP S.players S.nb S.rounds p (M.get 2+1) 0 (M.get 4) f<GP S.players S.nb S.rounds p (M.get 2) 0 (M.get 4) f') (l1:∀f fu,fu<=60->GP S.players S.nb S.rounds p (M.get 2) 1 (M.get 4) fu<GP S.players S.nb S.rounds p (M.get 2) 0 (M.get 4) f)
  (l2:∀f f',0<=f'->GP S.players S.nb S.rounds p (M.get 2+1) 0 (M.get 4) f<GP S.players S.nb S.rounds p (M.get 2) 1 (M.get 4) f') (l3:∀f,GP S.players S.nb S.rounds p (M.get 2) 1 (M.get 4) (f-1)<GP S.players S.nb S.rounds p (M.get 2) 1 (M.get 4) f) :
  Nx S ins M (c6 (ep e (g.step M) a o M) (di e (g.step M) a o M) (g.step M) c M).z:=by
 have hl:=h.l48 hS;have hpl:=hS.pl;have hec:0<=M.get 11/\M.get 11<=40:=by
  rcases h.ec with e|e
  ·have:=e.1;omega
  ·exact e
 have skip:M.get 3=0->Nx S ins M ⟨M.set 2 (aV (M.get 2+1)),0,bx,false⟩:=λ Vx=>by
  rw[cP (by omega)];refine iy hS h (by omega) ((Hi.refl (P:=S.players)).kp (by omega)) (aM) (p:=M.get 1) (i:=M.get 2+1) (j:=M.get 3) (q:=M.get 4) (x:=M.get 5) (fu:=M.get 8) (λ k=>TP (f:=M.get) (bL hl (by omega) (by omega) k).symm) rfl ((Hi.refl (P:=S.players)).ef (by omega)) ?_ (by omega) ?_
  ·rw[hp,Vx];exact hc0 _
  ·unfold nI;rw[hp,Vx];exact l0 _ _
 unfold c6 ep di;show Nx S ins M (VR.z (if M.get 3=0 then _ else _))
 by_cases Vx:M.get 3=0
 ·rw[if_pos Vx];cases c with
  |false=>exact skip Vx
  |true=>
   rw[if_pos rfl]
   by_cases he:e<0
   ·show Nx S ins M (VR.z (if (if M.get 3=0 then decide (e<0) else _)=true then _ else _));rw[if_pos Vx,if_pos (by simpa using he)];show Nx S ins M ⟨(if M.get 3=0 then (if e<0 then (⟨aK e _ a o M,0,_,_⟩:VR) else _) else _).M.set 2 _,0,(if M.get 3=0 then (if e<0 then (⟨aK e _ a o M,0,_,_⟩:VR) else _) else _).e,(if M.get 3=0 then (if e<0 then (⟨aK e _ a o M,0,_,_⟩:VR) else _) else _).em⟩;rw[if_pos Vx,if_pos he];show Nx S ins M ⟨(aK e _ a o M).set 2 _,0,bx,false⟩;rw[show aK e g.S.fuel a o M=M by unfold aK;rw[if_pos he]];exact skip Vx
   ·show Nx S ins M (VR.z (if (if M.get 3=0 then decide (e<0) else _)=true then _ else _));rw[if_pos Vx,if_neg (by simpa using he)];show Nx S ins M ⟨(if M.get 3=0 then (if e<0 then _ else (⟨(aK e g.S.fuel a o M).set 3 1,0,bx,false⟩:VR)) else _).M,0,(if M.get 3=0 then (if e<0 then _ else (⟨(aK e g.S.fuel a o M).set 3 1,0,bx,false⟩:VR)) else _).e,(if M.get 3=0 then (if e<0 then _ else (⟨(aK e g.S.fuel a o M).set 3 1,0,bx,false⟩:VR)) else _).em⟩;rw[if_pos Vx,if_neg he,hg];obtain⟨s1,s2,s3⟩:=zQ (P:=S.players) (M:=M) (fu:=S.fuel) (a:=a) (b:=o) hl he;generalize aK e S.fuel a o M=N at *;have UI:48<=N.cs.length:=by rw[s1.len];exact hl
    refine iy hS h (by omega) s1 (aM) (p:=p) (i:=M.get 2) (j:=1) (q:=M.get 4) (x:=M.get 5) (fu:=S.fuel) (λ k=>?_) s2 ⟨λ h=>by simp at h,λ _=>s3⟩ ?_ (by omega) ?_
    ·rw[bL UI (by omega) (by omega)];have n1:=s1.get 1 (by omega);have n2:=s1.get 2 (by omega);have n4:=s1.get 4 (by omega);have n5:=s1.get 5 (by omega)
     by_cases k1:k=1
     ·subst k1;simp;omega
     by_cases k2:k=2
     ·subst k2;simp;omega
     by_cases k3:k=3
     ·subst k3;simp
     by_cases k4:k=4
     ·subst k4;simp;omega
     by_cases k5:k=5
     ·subst k5;simp;omega
     simp[k1,k2,k3,k4,k5]
    ·exact hc1 S.fuel hS.fu.1 hS.fu.2
    ·unfold nI;rw[hp,Vx];exact l1 _ _ hS.fu.2
 ·rw[if_neg Vx];obtain⟨Z0,hf⟩:M.get 3=1/\(0<=M.get 8/\M.get 8<=60):=by omega
  obtain⟨s1,s2,s3⟩:=zO hS (M:=M) (code:=g.code) (n:=g.cn) hl hec hf;show Nx S ins M (VR.z (if (if M.get 3=0 then _ else cM g.code g.cn M)=true then _ else _));rw[if_neg Vx];show Nx S ins M (VR.z (if cM g.code g.cn M=true then ⟨((if M.get 3=0 then _ else (⟨(aj g.S g.code g.cn M).M,0,(aj g.S g.code g.cn M).e,(aj g.S g.code g.cn M).em⟩:VR)).M.set 3 0).set 2 _,0,(if M.get 3=0 then _ else (⟨(aj g.S g.code g.cn M).M,0,(aj g.S g.code g.cn M).e,(aj g.S g.code g.cn M).em⟩:VR)).e,(if M.get 3=0 then _ else (⟨(aj g.S g.code g.cn M).M,0,(aj g.S g.code g.cn M).e,(aj g.S g.code g.cn M).em⟩:VR)).em⟩ else ⟨(if M.get 3=0 then _ else (⟨(aj g.S g.code g.cn M).M,0,(aj g.S g.code g.cn M).e,(aj g.S g.code g.cn M).em⟩:VR)).M,0,(if M.get 3=0 then _ else (⟨(aj g.S g.code g.cn M).M,0,(aj g.S g.code g.cn M).e,(aj g.S g.code g.cn M).em⟩:VR)).e,(if M.get 3=0 then _ else (⟨(aj g.S g.code g.cn M).M,0,(aj g.S g.code g.cn M).e,(aj g.S g.code g.cn M).em⟩:VR)).em⟩));rw[if_neg Vx,hg];generalize aj S g.code g.cn M=r at *;have UI:48<=r.M.cs.length:=by rw[s1.len];exact hl
  have n1:=s1.get 1 (by omega);have n2:=s1.get 2 (by omega);have n3:=s1.get 3 (by omega);have n4:=s1.get 4 (by omega);have n5:=s1.get 5 (by omega)
  by_cases he:cM g.code g.cn M=true
  ·rw[if_pos he];show Nx S ins M ⟨(r.M.set 3 0).set 2 (aV (M.get 2+1)),0,r.e,r.em⟩;rw[cP (by omega)];refine iy hS h (by omega) s1 (by simp only[aM]) (p:=p) (i:=M.get 2+1) (j:=0) (q:=M.get 4) (x:=M.get 5) (fu:=r.M.get 8) (λ k=>?_) rfl ⟨s2.yes,s2.no⟩ (hc0 _) (by omega) ?_
   ·rw[bL (by simp only[aM];exact UI) (by omega) (by omega),bL UI (by omega) (by omega)]
    by_cases k1:k=1
    ·subst k1;simp;omega
    by_cases k2:k=2
    ·subst k2;simp
    by_cases k3:k=3
    ·subst k3;simp
    by_cases k4:k=4
    ·subst k4;simp;omega
    by_cases k5:k=5
    ·subst k5;simp;omega
    simp[k1,k2,k3,k4,k5]
   ·unfold nI;rw[hp,Z0];exact l2 _ _ hf.1
  ·rw[if_neg he];show Nx S ins M ⟨r.M,0,r.e,r.em⟩;rcases s3 with ⟨s4,s5,s6⟩|⟨s4,s5,s6⟩
   ·refine iy hS h (by omega) s1 rfl (p:=p) (i:=M.get 2) (j:=1) (q:=M.get 4) (x:=M.get 5) (fu:=M.get 8-1) (λ k=>?_) s5 ⟨s2.yes,s2.no⟩ (hc1 _ (by omega) (by omega)) (by omega) ?_
    ·show r.M.get k=_
     by_cases k1:k=1
     ·subst k1;simp;omega
     by_cases k2:k=2
     ·subst k2;simp;omega
     by_cases k3:k=3
     ·subst k3;simp;omega
     by_cases k4:k=4
     ·subst k4;simp;omega
     by_cases k5:k=5
     ·subst k5;simp;omega
     simp[k1,k2,k3,k4,k5]
    ·unfold nI;rw[hp,Z0];exact l3 _
   ·exact absurd s5 he
theorem Kz(hS:SetV S)(h:TV S ins M)(h1:1<=M.get 1)(hc:QA S.players S.nb S.rounds p 0 0 (M.get 4) (M.get 8))(hp:M.get 1<=p)(hl:GP S.players S.nb S.rounds p 0 0 (M.get 4) (M.get 8)<nI S M)(Yn:p<=M.get 1+1:=by omega) :
  Nx S ins M ⟨aZ (g.step M) p 0 M,0,bx,false⟩:=by
 have ahU:=h.l48 hS;have hpl:=hS.pl;refine iy hS h h1 ((Hi.refl (P:=S.players)).kp (by omega)) (f5 (g.step M)) (p:=p) (i:=0) (j:=0) (q:=M.get 4) (x:=M.get 5) (fu:=M.get 8) (λ k=>?_) rfl ((Hi.refl (P:=S.players)).ef (by omega)) hc hp hl;exact if5 (f:=M.get) (j8 ahU (g.step M) _ _ k).symm rfl rfl
theorem q1(hS:SetV S)(hg:g.S=S)(h:TV S ins M)(hp:M.get 1=1):Nx S ins M (eR (g.step M) M):=by
 have hpl:=hS.pl;have ZS:=hS.nb;have US:=hS.ro;have hc:0<=M.get 2/\M.get 2<=S.players/\(M.get 3=0\/(M.get 3=1/\M.get 2<S.players/\0<=M.get 8/\M.get 8<=60)):=by rcases h.ct with h|h|h|h|h|h|h|h <;> omega
 unfold eR;show Nx S ins M (if ai g.S (M.get 2)<0 then ⟨aZ (g.step M) 2 0 M,0,bx,false⟩ else _);rw[hg];rcases vt (S:=S) (M.get 2) with ⟨e,e2⟩|⟨e1,e2,e3⟩
 ·rw[e,if_pos (by decide)];have ei:M.get 2=S.players:=by omega
  refine Kz hS h (by omega) (.inr (.inr (.inl ⟨rfl,.inl rfl⟩))) (by omega) ?_;unfold nI;rw[hp];show l2 _ _ 0 _<l1 _ _ _ (M.get 2) (M.get 3) (M.get 8);have:M.get 3=0:=by omega
  rw[this,ei];unfold l1 l2;simp;omega
 ·rw[if_neg (by omega)];refine DQ hS hg h hp (by omega) g.e0 (M.get 2) (by omega) (by omega) (λ fu=>.inr (.inl ⟨rfl,by omega,by omega,.inl rfl⟩)) (λ fu f0 f1=>.inr (.inl ⟨rfl,by omega,by omega,.inr ⟨rfl,by omega,f0,f1⟩⟩)) (λ f f'=>?_) (λ f fu hfu=>?_) (λ f f' hf=>?_) (λ f=>?_)
  all_goals (show l1 _ _ _ _ _ _<l1 _ _ _ _ _ _;unfold l1;simp;omega)
theorem q6(hS:SetV S)(hg:g.S=S)(h:TV S ins M)(hp:M.get 1=6):Nx S ins M (eS (g.step M) M):=by
 have hpl:=hS.pl;have ZS:=hS.nb;have US:=hS.ro;have hc:0<=M.get 2/\M.get 2<=S.nb/\(M.get 3=0\/(M.get 3=1/\M.get 2<S.nb/\0<=M.get 8/\M.get 8<=60)):=by rcases h.ct with h|h|h|h|h|h|h|h <;> omega
 unfold eS;show Nx S ins M (if ag g.S (M.get 2)<0 then ⟨aZ (g.step M) 7 0 M,0,bx,false⟩ else _);rw[hg]
 by_cases hb:ag S (M.get 2)<0
 ·rw[if_pos hb];have ei:M.get 2=S.nb:=by
   unfold ag at hb;rw[if_neg (by omega)] at hb;split at hb <;> omega
  refine Kz hS h (by omega) (.inr (.inr (.inr (.inr (.inr (.inr (.inr ⟨rfl,by omega,by omega⟩))))))) (by omega) ?_;unfold nI;rw[hp];show (S.nb:Int)-0<l6 _ (M.get 2) (M.get 3) (M.get 8);have:M.get 3=0:=by omega
  rw[this,ei];unfold l6;simp;omega
 ·rw[if_neg hb];have hi:M.get 2<S.nb:=by
   rcases oK (S:=S) (by omega) (M.get 2) with e|⟨_,e,_⟩ <;> omega
  refine DQ hS hg h hp (by omega) g.e2 (M.get 2) (by omega) (by omega) (λ fu=>.inr (.inr (.inr (.inr (.inr (.inr (.inl ⟨rfl,by omega,by omega,.inl rfl⟩))))))) (λ fu f0 f1=>.inr (.inr (.inr (.inr (.inr (.inr (.inl ⟨rfl,by omega,by omega,.inr ⟨rfl,by omega,f0,f1⟩⟩))))))) (λ f f'=>?_) (λ f fu hfu=>?_) (λ f f' hf=>?_) (λ f=>?_)
  all_goals (show l6 _ _ _ _<l6 _ _ _ _;unfold l6;simp;omega)
theorem q2(hS:SetV S)(hg:g.S=S)(h:TV S ins M)(hp:M.get 1=2):Nx S ins M (cG (g.step M) M):=by
 have hpl:=hS.pl;have ZS:=hS.nb;have US:=hS.ro;have hl:=h.l48 hS;have hec:0<=M.get 11/\M.get 11<=40:=by
  rcases h.ec with e|e
  ·have:=e.1;omega
  ·exact e
 have hj:M.get 3=0\/(M.get 3=1/\0<=M.get 8/\M.get 8<=60):=by rcases h.ct with h|h|h|h|h|h|h|h <;> omega
 have done:∀ (N:MemS) (e:Eff) (em:Bool),Kp S.players M N->Ef M ⟨N,0,e,em⟩->Nx S ins M ⟨aZ (g.step M) 3 0 N,0,e,em⟩:=λ N e em hN hE=>by
  have UI:48<=N.cs.length:=by rw[hN.len];exact hl
  refine iy hS h (by omega) hN (f5 (g.step M)) (p:=3) (i:=0) (j:=0) (q:=N.get 4) (x:=N.get 5) (fu:=N.get 8) (λ k=>if5 (f:=N.get) (j8 UI (g.step M) _ _ k).symm rfl rfl) rfl ⟨hE.yes,hE.no⟩ (.inr (.inr (.inr (.inl ⟨rfl,by omega,by omega⟩)))) (by omega) ?_;unfold nI;rw[hp];show l3 _ _ 0<l2 _ _ (M.get 3) (M.get 8);unfold l2;split <;> omega
 unfold cG cU jO ep di;show Nx S ins M (if (if M.get 3=0 then decide (g.e1<0) else cM g.code g.cn M)=true then ⟨aZ (g.step M) 3 0 (if M.get 3=0 then (if g.e1<0 then (⟨aK g.e1 g.S.fuel 0 0 M,0,bx,false⟩:VR) else ⟨(aK g.e1 g.S.fuel 0 0 M).set 3 1,0,bx,false⟩) else ⟨(aj g.S g.code g.cn M).M,0,(aj g.S g.code g.cn M).e,(aj g.S g.code g.cn M).em⟩).M,0,(if M.get 3=0 then (if g.e1<0 then (⟨aK g.e1 g.S.fuel 0 0 M,0,bx,false⟩:VR) else ⟨(aK g.e1 g.S.fuel 0 0 M).set 3 1,0,bx,false⟩) else ⟨(aj g.S g.code g.cn M).M,0,(aj g.S g.code g.cn M).e,(aj g.S g.code g.cn M).em⟩).e,(if M.get 3=0 then (if g.e1<0 then (⟨aK g.e1 g.S.fuel 0 0 M,0,bx,false⟩:VR) else ⟨(aK g.e1 g.S.fuel 0 0 M).set 3 1,0,bx,false⟩) else ⟨(aj g.S g.code g.cn M).M,0,(aj g.S g.code g.cn M).e,(aj g.S g.code g.cn M).em⟩).em⟩
  else ⟨(if M.get 3=0 then (if g.e1<0 then (⟨aK g.e1 g.S.fuel 0 0 M,0,bx,false⟩:VR) else ⟨(aK g.e1 g.S.fuel 0 0 M).set 3 1,0,bx,false⟩) else ⟨(aj g.S g.code g.cn M).M,0,(aj g.S g.code g.cn M).e,(aj g.S g.code g.cn M).em⟩).M,0,(if M.get 3=0 then (if g.e1<0 then (⟨aK g.e1 g.S.fuel 0 0 M,0,bx,false⟩:VR) else ⟨(aK g.e1 g.S.fuel 0 0 M).set 3 1,0,bx,false⟩) else ⟨(aj g.S g.code g.cn M).M,0,(aj g.S g.code g.cn M).e,(aj g.S g.code g.cn M).em⟩).e,(if M.get 3=0 then (if g.e1<0 then (⟨aK g.e1 g.S.fuel 0 0 M,0,bx,false⟩:VR) else ⟨(aK g.e1 g.S.fuel 0 0 M).set 3 1,0,bx,false⟩) else ⟨(aj g.S g.code g.cn M).M,0,(aj g.S g.code g.cn M).e,(aj g.S g.code g.cn M).em⟩).em⟩)
 by_cases Vx:M.get 3=0
 ·rw[if_pos Vx,if_pos Vx]
  by_cases he:g.e1<0
  ·rw[if_pos (by simpa using he),if_pos he];show Nx S ins M ⟨aZ (g.step M) 3 0 (aK g.e1 g.S.fuel 0 0 M),0,bx,false⟩;rw[show aK g.e1 g.S.fuel 0 0 M=M by unfold aK;rw[if_pos he]];exact done M bx false .refl ⟨λ h=>by simp at h,λ _=>rfl⟩
  ·rw[if_neg (by simpa using he),if_neg he];show Nx S ins M ⟨(aK g.e1 g.S.fuel 0 0 M).set 3 1,0,bx,false⟩;rw[hg];obtain⟨s1,s2,s3⟩:=zQ (P:=S.players) (M:=M) (fu:=S.fuel) (a:=0) (b:=0) hl he;generalize aK g.e1 S.fuel 0 0 M=N at *;have UI:48<=N.cs.length:=by rw[s1.len];exact hl
   have n1:=s1.get 1 (by omega);have n2:=s1.get 2 (by omega);have n4:=s1.get 4 (by omega);have n5:=s1.get 5 (by omega);refine iy hS h (by omega) s1 (aM) (p:=2) (i:=M.get 2) (j:=1) (q:=M.get 4) (x:=M.get 5) (fu:=S.fuel) (λ k=>?_) s2 ⟨λ h=>by simp at h,λ _=>s3⟩ (.inr (.inr (.inl ⟨rfl,.inr ⟨rfl,by have:=hS.fu;omega,by have:=hS.fu;omega⟩⟩))) (by omega) ?_
   ·show (N.set 3 1).get k=_;rw[bL UI (by omega) (by omega)]
    by_cases k1:k=1
    ·subst k1;simp;omega
    by_cases k2:k=2
    ·subst k2;simp;omega
    by_cases k3:k=3
    ·subst k3;simp
    by_cases k4:k=4
    ·subst k4;simp;omega
    by_cases k5:k=5
    ·subst k5;simp;omega
    simp[k1,k2,k3,k4,k5]
   ·have hfu:=hS.fu.2;unfold nI;rw[hp,Vx];show l2 _ _ 1 S.fuel<l2 _ _ 0 _;unfold l2;first|(simp;done)|(simp;omega)
 ·rw[if_neg Vx,if_neg Vx];obtain⟨Z0,hf⟩:M.get 3=1/\(0<=M.get 8/\M.get 8<=60):=by omega
  obtain⟨s1,s2,s3⟩:=zO hS (M:=M) (code:=g.code) (n:=g.cn) hl hec hf;rw[hg];generalize aj S g.code g.cn M=r at *;have n1:=s1.get 1 (by omega);have n2:=s1.get 2 (by omega);have n3:=s1.get 3 (by omega);have n4:=s1.get 4 (by omega);have n5:=s1.get 5 (by omega)
  by_cases he:cM g.code g.cn M=true
  ·rw[if_pos he];exact done r.M r.e r.em s1 ⟨s2.yes,s2.no⟩
  ·rw[if_neg he];show Nx S ins M ⟨r.M,0,r.e,r.em⟩;rcases s3 with ⟨s4,s5,s6⟩|⟨s4,s5,s6⟩
   ·refine iy hS h (by omega) s1 rfl (p:=2) (i:=M.get 2) (j:=1) (q:=M.get 4) (x:=M.get 5) (fu:=M.get 8-1) (λ k=>?_) s5 ⟨s2.yes,s2.no⟩ (.inr (.inr (.inl ⟨rfl,.inr ⟨rfl,by omega,by omega⟩⟩))) (by omega) ?_
    ·show r.M.get k=_
     by_cases k1:k=1
     ·subst k1;simp;omega
     by_cases k2:k=2
     ·subst k2;simp;omega
     by_cases k3:k=3
     ·subst k3;simp;omega
     by_cases k4:k=4
     ·subst k4;simp;omega
     by_cases k5:k=5
     ·subst k5;simp;omega
     simp[k1,k2,k3,k4,k5]
    ·unfold nI;rw[hp,Z0];show l2 _ _ 1 _<l2 _ _ 1 _;unfold l2;first|(simp;done)|(simp;omega)
   ·exact absurd s5 he
structure En(S:Setup)(ins:Nat->Inp)(M N:MemS):Prop where
 len:(N.cs.length:Int)=sizeOf S
 z:∀k:Int,1<=k->k<=10->N.get k=0
 t0:N.get 0=M.get 0+1
 pl:∀q:Nat,(q:Int)<S.players->N.get (48+4*q)=(ins q).dx/\N.get (48+4*q+1)=(ins q).dy/\N.get (48+4*q+2)=(ins q).act
 n11:N.get 11=M.get 11
theorem sS{M:MemS}(hl:48<=M.cs.length):∀ (n:Nat),n<=10->(∀k:Int,(eI M n).get k=if 1<=k/\k<=n then 0 else M.get k)/\(eI M n).cs.length=M.cs.length
 |0,_=>⟨λ k=>by rw[if_neg (by omega)];rfl,rfl⟩
 |n+1,hn=>by
  obtain⟨h1,h2⟩:=sS hl n (by omega);refine⟨λ k=>?_,?_⟩
  ·rw[eI,bL (by rw[h2];exact hl) (by omega) (by omega),h1]
   by_cases e:k=((n+1:Nat):Int)
   ·rw[if_pos e,if_pos (by omega)]
   ·rw[if_neg e]
    by_cases e2:1<=k/\k<=n
    ·rw[if_pos e2,if_pos (by omega)]
    ·rw[if_neg e2,if_neg (by omega)]
  ·rw[eI,aM];exact h2
theorem Nh(hp:0<=S.players)(ht:t.S=S)(M:MemS):Hi S.players M (fB t M):=by
 subst ht;unfold fB;split
 ·next hb=>exact(Hi.refl).setB hp hb (by omega) _
 ·exact .refl
theorem q7(hS:SetV S)(hg:g.S=S)(h:TV S ins M)(hp:M.get 1=7):(js (g.step M)=false/\Nx S ins M ⟨fN (g.step M) M,0,bx,false⟩)\/(js (g.step M)=true/\En S ins M (fN (g.step M) M)):=by
 have hpl:=hS.pl;have ZS:=hS.nb;have hc:0<=M.get 2/\M.get 2<S.nb:=by rcases h.ct with h|h|h|h|h|h|h|h <;> omega
 have hl:=h.l48 hS;have ZI:=h.t0;have hh:=Nh (S:=S) (by omega) (t:=g.step M) hg M;unfold js fN kT;generalize fB (g.step M) M=N at *;have UI:48<=N.cs.length:=by rw[hh.len];exact hl
 have e0:=hh.get 0 (by omega);have e1:=hh.get 1 (by omega);have e3:=hh.get 3 (by omega);have e4:=hh.get 4 (by omega);have e8:=hh.get 8 (by omega);show ((if aV (M.get 2+1)<g.S.nb then false else true)=false/\Nx S ins M ⟨if aV (M.get 2+1)<g.S.nb then N.set 2 (aV (M.get 2+1)) else eI (N.set 0 (aV (N.get 0+1))) 10,0,bx,false⟩)\/((if aV (M.get 2+1)<g.S.nb then false else true)=true/\En S ins M (if aV (M.get 2+1)<g.S.nb then N.set 2 (aV (M.get 2+1)) else eI (N.set 0 (aV (N.get 0+1))) 10));rw[cP (by omega),cP (by omega),hg]
 by_cases hi:M.get 2+1<S.nb
 ·rw[if_pos hi,if_pos hi];refine .inl ⟨rfl,iy hS h (by omega) (hh.kp (by omega)) (aM) (λ k=>TP (f:=N.get) (bL UI (by omega) (by omega) k).symm) e8 (hh.ef (by omega)) ?_ (by omega) ?_⟩
  ·rw[e1,e3,e4,hp];exact .inr (.inr (.inr (.inr (.inr (.inr (.inr ⟨rfl,by omega,by omega⟩))))))
  ·unfold nI;rw[e1,e3,e4,hp];show (S.nb:Int)-(M.get 2+1)<(S.nb:Int)-M.get 2;omega
 ·rw[if_neg hi,if_neg hi];obtain⟨z1,z2⟩:=sS (M:=N.set 0 (N.get 0+1)) (by rw[aM];exact UI) 10 (aaI _);have g0:=bL (M:=N) (i:=0) (v:=N.get 0+1) UI (by omega) (by omega);refine .inr ⟨rfl,⟨by rw[z2,aM,hh.len];exact h.len,λ k k1 k2=>by rw[z1,if_pos (by omega)],by rw[z1,if_neg (by omega),g0,if_pos rfl,e0],λ q hq=>?_,by rw[z1,if_neg (by omega),g0,if_neg (by omega)];exact hh.get 11 (by omega)⟩⟩;have:=h.pl q (by rw[hp,if_neg (by omega)];exact hq);rw[z1,if_neg (by omega),g0,if_neg (by omega),hh.get _ (by omega),z1,if_neg (by omega),g0,if_neg (by omega),hh.get _ (by omega),z1,if_neg (by omega),g0,if_neg (by omega),hh.get _ (by omega)];exact this
theorem q0(hS:SetV S)(hg:g.S=S)(hi:∀q:Nat,(q:Int)<S.players->g.ins.getD (g.io+q) dI=ins q)(VS:S.players<=g.ni)(h:TV S ins M)(hp:M.get 1=0):Nx S ins M ⟨dN (g.step M) M,0,bx,false⟩:=by
 have hpl:=hS.pl;have ZS:=hS.nb;have hc:0<=M.get 2/\M.get 2<S.players:=by rcases h.ct with h|h|h|h|h|h|h|h <;> omega
 have hl:=h.l48 hS;obtain⟨i,hii⟩:=Int.eq_ofNat_of_zero_le hc.1;have hpa:ai S (M.get 2)=48+4*(i:Int):=by
  rcases vt (S:=S) (M.get 2) with ⟨e,e2⟩|⟨e1,e2,e3⟩
  ·omega
  ·rw[e3,hii]
 have hlen:=h.len;have hA:(cQ (g.step M) M).cs.length=M.cs.length/\∀k,(k<=10\/48<=k\/k=11)->(cQ (g.step M) M).get k=if k=11 then (if M.get 2=0 then 0 else M.get 11) else M.get k:=by
  unfold cQ;show (if M.get 2=0 then (M.set 13 g.version).set 11 0 else M).cs.length=_/\_
  by_cases h0:M.get 2=0
  ·rw[if_pos h0];refine⟨by simp only[aM],λ k hk=>?_⟩;rw[if_pos h0,bL (by rw[aM];exact hl) (by omega) (by omega),bL hl (by omega) (by omega)]
   by_cases e:k=11
   ·rw[if_pos e,if_pos e]
   ·rw[if_neg e,if_neg e,if_neg (by omega)]
  ·rw[if_neg h0];refine⟨rfl,λ k hk=>?_⟩;rw[if_neg h0]
   by_cases e:k=11
   ·rw[if_pos e,e]
   ·rw[if_neg e]
 have hB:(cY (g.step M) (cQ (g.step M) M)).cs.length=M.cs.length/\(∀k,(k<=11\/(48<=k/\(k<48+4*(i:Int)\/51+4*(i:Int)<=k)))->(cY (g.step M) (cQ (g.step M) M)).get k=if k=11 then (if M.get 2=0 then 0 else M.get 11) else M.get k)/\
   (cY (g.step M) (cQ (g.step M) M)).get (48+4*(i:Int))=(ins i).dx/\(cY (g.step M) (cQ (g.step M) M)).get (48+4*(i:Int)+1)=(ins i).dy/\(cY (g.step M) (cQ (g.step M) M)).get (48+4*(i:Int)+2)=(ins i).act:=by
  generalize cQ (g.step M) M=A at *;obtain⟨a1,a2⟩:=hA;have e:cY (g.step M) A=((A.set (48+4*(i:Int)+0) (ins i).dx).set (48+4*(i:Int)+1) (ins i).dy).set (48+4*(i:Int)+2) (ins i).act:=by
   unfold cY Stp.inp;show (if ai g.S (M.get 2)>=0 then if M.get 2<(g.ni:Int) then ((A.set (ai g.S (M.get 2)+0) (g.ins.getD (g.io+(M.get 2).toNat) dI).dx).set (ai g.S (M.get 2)+1) (g.ins.getD (g.io+(M.get 2).toNat) dI).dy).set (ai g.S (M.get 2)+2) (g.ins.getD (g.io+(M.get 2).toNat) dI).act else A else A)=_;rw[hg,hpa,if_pos (by omega),if_pos (by omega),hii,aeu,hi i (by omega)]
  rw[e];have hal:48+4*(i:Int)+2<A.cs.length:=by rw[a1];unfold sizeOf at hlen;omega
  refine⟨by simp only[aM];exact a1,λ k hk=>?_,?_,?_,?_⟩
  ·rw[bA (by omega),bA (by omega),bA (by omega)];exact a2 k (by omega)
  ·rw[bA (by omega),bA (by omega),Int.add_zero,jA (by omega)]
  ·rw[bA (by omega),jA (by rw[aM];omega)]
  ·rw[jA (by simp only[aM];omega)]
 unfold dN;generalize cY (g.step M) (cQ (g.step M) M)=N at *;obtain⟨b1,b2,b3,b4,b5⟩:=hB;have UI:48<=N.cs.length:=by rw[b1];exact hl
 have n0:=b2 0 (by omega);have n1:=b2 1 (by omega);have n2:=b2 2 (by omega);have n3:=b2 3 (by omega);have n4:=b2 4 (by omega);have n8:=b2 8 (by omega);have n11:=b2 11 (by omega);simp only[show ¬ ((0:Int)=11) by decide,show ¬ ((1:Int)=11) by decide,show ¬ ((2:Int)=11) by decide,show ¬ ((3:Int)=11) by decide,show ¬ ((4:Int)=11) by decide,show ¬ ((8:Int)=11) by decide,if_false,if_true] at n0 n1 n2 n3 n4 n8 n11;have WX:∀q:Nat,(q:Int)<(i:Int)+1->N.get (48+4*q)=(ins q).dx/\N.get (48+4*q+1)=(ins q).dy/\N.get (48+4*q+2)=(ins q).act:=λ q hq=>by
  by_cases e:q=i
  ·subst e;exact⟨b3,b4,b5⟩
  ·have h2:=h.pl q (by rw[if_pos hp,hii];omega);rw[b2 _ (by omega),b2 _ (by omega),b2 _ (by omega),if_neg (by omega),if_neg (by omega),if_neg (by omega)];exact h2
 have hsv:GQ M↔M.get 2=0:=⟨λ e=>e.2,λ e=>⟨hp,e⟩⟩;have Ve:N.get 11=if GQ M then 0 else M.get 11:=by
  rw[n11]
  by_cases e:M.get 2=0
  ·rw[if_pos e,if_pos (hsv.2 e)]
  ·rw[if_neg e,if_neg (λ x=>e (hsv.1 x))]
 have hec:0<=N.get 11/\N.get 11<=40:=by
  rw[Ve];split
  ·omega
  ·rcases h.ec with e|e
   ·contradiction
   ·exact e
 unfold fT;show Nx S ins M ⟨if aV (M.get 2+1)<g.S.players then N.set 2 (aV (M.get 2+1)) else aZ (g.step M) 1 0 N,0,bx,false⟩;rw[cP (by omega),hg];split
 ·have gg:=bL (M:=N) (i:=2) (v:=M.get 2+1) UI (by omega) (by omega);have g1:(N.set 2 (M.get 2+1)).get 1=0:=by rw[gg,if_neg (by decide),n1,hp]
  have g2:(N.set 2 (M.get 2+1)).get 2=M.get 2+1:=by rw[gg,if_pos rfl]
  refine⟨⟨by rw[aM,b1];exact hlen,by rw[gg,if_neg (by decide),n0];exact h.t0,by rw[g1,g2];exact .inl ⟨rfl,by omega,by omega⟩,λ q hq=>?_,.inr (by rw[gg,if_neg (by decide)];exact hec)⟩,?_,by rw[g1,hp];exact ac5 _,by rw[gg,if_neg (by decide),n0],λ e=>by have:=e.2;rw[g2] at this;omega,λ e=>by simp at e,λ _=>by rw[gg,if_neg (by decide)];exact Ve,by rw[g1,hp];decide⟩
  ·rw[g1,if_pos rfl,g2,hii] at hq;rw[gg,if_neg (by omega),gg,if_neg (by omega),gg,if_neg (by omega)];exact WX q hq
  ·unfold nI;rw[g1,g2,hp];show l0 _ _ _ (M.get 2+1)<l0 _ _ _ (M.get 2);unfold l0;omega
 ·have gg:=j8 UI (g.step M) 1 0;have g1:(aZ (g.step M) 1 0 N).get 1=1:=by rw[gg];simp
  have g2:(aZ (g.step M) 1 0 N).get 2=0:=by rw[gg];simp
  have g3:(aZ (g.step M) 1 0 N).get 3=0:=by rw[gg];simp
  have gk:∀k,3<k->(aZ (g.step M) 1 0 N).get k=N.get k:=λ k hk=>by rw[gg,if_neg (by omega),if_neg (by omega),if_neg (by omega)]
  refine⟨⟨by rw[f5,b1];exact hlen,by rw[gg,if_neg (by decide),if_neg (by decide),if_neg (by decide),n0];exact h.t0,by rw[g1,g2,g3];exact .inr (.inl ⟨rfl,by omega,by omega,.inl rfl⟩),λ q hq=>?_,.inr (by rw[gk 11 (by omega)];exact hec)⟩,?_,by rw[g1,hp];decide,by rw[gg,if_neg (by decide),if_neg (by decide),if_neg (by decide),n0],λ e=>by have:=e.1;rw[g1] at this;omega,λ e=>by simp at e,λ _=>by rw[gk 11 (by omega)];exact Ve,by rw[g1,hp];decide⟩
  ·rw[g1,if_neg (by decide)] at hq;rw[gk _ (by omega),gk _ (by omega),gk _ (by omega)];exact WX q (by omega)
  ·unfold nI;rw[g1,g2,g3,hp];show l1 _ _ _ 0 0 _<l0 _ _ _ (M.get 2);unfold l0 l1;simp;omega
theorem Sf(hS:SetV S)(hg:g.S=S)(hi:∀q:Nat,(q:Int)<S.players->g.ins.getD (g.io+q) dI=ins q)(VS:S.players<=g.ni)(h:TV S ins M) :
  EL M/\((jf g M=false/\Nx S ins M (d8 g M))\/(jf g M=true/\En S ins M (jg g M)/\(d8 g M).em=false/\¬ GQ M/\(0<=M.get 11/\M.get 11<=40))):=by
 have hph:EL M:=by
  rcases h.ct with h|h|h|h|h|h|h|h <;> (refine⟨?_,?_⟩ <;> omega)
 refine⟨hph,?_⟩
 by_cases h0:M.get 1=0
 ·left;rw[show d8 g M=⟨dN (g.step M) M,0,bx,false⟩ by simp[d8,h0]];exact⟨by simp[jf,h0],q0 hS hg hi VS h h0⟩
 by_cases h1:M.get 1=1
 ·left;rw[show d8 g M=eR (g.step M) M by simp[d8,h1]];exact⟨by simp[jf,h1],q1 hS hg h h1⟩
 by_cases h2:M.get 1=2
 ·left;rw[show d8 g M=cG (g.step M) M by simp[d8,h2]];exact⟨by simp[jf,h2],q2 hS hg h h2⟩
 by_cases h3:M.get 1=3
 ·left;rw[show d8 g M=⟨dP (g.step M) M,0,bx,false⟩ by simp[d8,h3]];exact⟨by simp[jf,h3],q3 hS hg h h3⟩
 by_cases h4:M.get 1=4
 ·left;rw[show d8 g M=⟨bD (g.step M) M,0,bx,false⟩ by simp[d8,h4]];exact⟨by simp[jf,h4],q4 hS hg h h4⟩
 by_cases h5:M.get 1=5
 ·left;rw[show d8 g M=⟨dC (g.step M) M,0,bx,false⟩ by simp[d8,h5]];exact⟨by simp[jf,h5],q5 hS hg h h5⟩
 by_cases h6:M.get 1=6
 ·left;rw[show d8 g M=eS (g.step M) M by simp[d8,h6]];exact⟨by simp[jf,h6],q6 hS hg h h6⟩
 have h7:M.get 1=7:=by have:=hph.1;have:=hph.2;omega
 have e:d8 g M=⟨fN (g.step M) M,0,bx,false⟩:=by simp[d8,h7]
 rw[jg,e];have e2:jf g M=js (g.step M):=by simp[jf,h7]
 rw[e2];rcases q7 hS hg h h7 with ⟨a,b⟩|⟨a,b⟩
 ·exact .inl ⟨a,b⟩
 ·refine .inr ⟨a,b,rfl,λ e=>by have:=e.1;omega,?_⟩;rcases h.ec with e|e
  ·have:=e.1;omega
  ·exact e
def Numb(t c:Int)(es:List Eff):Prop:=∀k,k<es.length->(es.getD k bx).t=t/\(es.getD k bx).i=c+k
theorem Numb.nil{t c:Int}:Numb t c []:=λ k hk=>by simp at hk
theorem Numb.cons{t c:Int}{e:Eff}{es:List Eff}(h1:e.t=t)(h2:e.i=c)(h:Numb t (c+1) es):Numb t c (e::es):=λ k hk=>by
 rcases k with _|k
 ·exact⟨h1,by rw[adf,h2];omega⟩
 ·have:=h k (by simpa using hk);rw[adg];exact⟨this.1,by rw[this.2];omega⟩
theorem DS{S:Setup}(hS:SetV S){g:Gm}(hg:g.S=S){ins:Nat->Inp}(hi:∀q:Nat,(q:Int)<S.players->g.ins.getD (g.io+q) dI=ins q)(VS:S.players<=g.ni):∀ (n:Nat) (M:MemS),TV S ins M->nI S M<=n->
  ∃m,m+1<=n/\dK g (m+1) M/\(∀k:Int,1<=k->k<=10->(fW g (m+1) M).get k=0)/\((fW g (m+1) M).cs.length:Int)=sizeOf S/\(fW g (m+1) M).get 0=M.get 0+1/\
   Numb (M.get 0) (if GQ M then 0 else M.get 11) (effsV g (m+1) M)/\(fW g (m+1) M).get 11=(if GQ M then 0 else M.get 11)+(effsV g (m+1) M).length/\(fW g (m+1) M).get 11<=40
 |0,M,h,hl=>by
  have:=DP hS.pl ⟨by have:=hS.nb;omega,by have:=hS.nb;omega⟩ hS.ro h.ct;unfold nI at hl;omega
 |n+1,M,h,hl=>by
  obtain⟨hph,⟨e1,hx⟩|⟨e1,hx,hem,n_,Ve⟩⟩:=Sf hS hg hi VS h
  ·obtain⟨m,hm,k1,k2,k3,k4,k5,k6,k7⟩:=DS hS hg hi VS n (d8 g M).M hx.tv (by have:=hx.lt;omega);rw[if_neg hx.ns] at k5 k6;have er:fW g (m+1+1) M=fW g (m+1) (d8 g M).M:=rfl;refine⟨m+1,by omega,⟨hph,.inr ⟨e1,k1⟩⟩,by rw[er];exact k2,by rw[er];exact k3,by rw[er,k4,hx.t0],?_,?_,by rw[er];exact k7⟩
   ·cases he:(d8 g M).em with
    |true=>
     obtain⟨a1,a2,a3,a4⟩:=hx.yes he;rw[ur he,if_neg a1];refine Numb.cons a2 a3 ?_;rw[hx.t0,a4] at k5;exact k5
    |false=>
     rw[oh (by rw[he];decide)];have:=hx.no he;rw[hx.t0,this] at k5;exact k5
   ·rw[er];cases he:(d8 g M).em with
    |true=>
     obtain⟨a1,a2,a3,a4⟩:=hx.yes he;rw[ur he,if_neg a1,aaZ,k6,a4];show _+(List.length (effsV g (m+1) (jg g M)):Int)=_;omega
    |false=>
     rw[oh (by rw[he];decide),k6,hx.no he]
  ·refine⟨0,by omega,⟨hph,.inl ⟨rfl,e1⟩⟩,hx.z,hx.len,hx.t0,?_,?_,?_⟩
   ·rw[oh (by rw[hem];decide)];exact .nil
   ·rw[oh (by rw[hem];decide),if_neg n_];show (jg g M).get 11=M.get 11+(([]:List Eff).length:Int);rw[hx.n11];simp
   ·show (jg g M).get 11<=40;rw[hx.n11];exact Ve.2
end Go.Proofs.YtjokannbjmndfaaGreatDoor
