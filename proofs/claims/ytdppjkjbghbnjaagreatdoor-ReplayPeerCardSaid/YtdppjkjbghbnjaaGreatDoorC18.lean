import Derived.Test.YtdppjkjbghbnjaaGreatDoorC17
set_option maxHeartbeats 4000000
set_option maxRecDepth 100000
set_option linter.all false
namespace Go.Proofs.YtdppjkjbghbnjaaGreatDoor
open IntKind
open Go.RowKit
theorem Jr{S:Setup}(hS:SetV S){g:Gm}{ins:Nat -> Inp}{M:MemS}(h:TV S ins M)(h1:1 <= M.get 1){p:Int}(hc:Pc S.players S.nb S.rounds p 0 0 (M.get 4) (M.get 8))(hp:M.get 1 <= p)(hl:FK S.players S.nb S.rounds p 0 0 (M.get 4) (M.get 8)<nA S M) :
  Nx S ins M ⟨aM (g.step M) p 0 M,0,bB,false⟩:=by
 have afD:=h.l48 hS;have hpl:=hS.pl;refine iy hS h h1 ((Hi.refl (P:=S.players)).kp (by omega)) (ge (g.step M) _ _) (p:=p) (i:=0) (j:=0) (q:=M.get 4) (x:=M.get 5) (fu:=M.get 8) (λ k=>?_) rfl ((Hi.refl (P:=S.players)).ef (by omega)) hc hp hl;exact if5 (f:=M.get) (kg afD (g.step M) _ _ k).symm rfl rfl
theorem q1{S:Setup}(hS:SetV S){g:Gm}(hg:g.S=S){ins:Nat -> Inp}{M:MemS}(h:TV S ins M)(hp:M.get 1=1):Nx S ins M (eX (g.step M) M):=by
 have hpl:=hS.pl;have Wc:=hS.nb;have SI:=hS.ro;have hc:0 <= M.get 2 /\ M.get 2 <= S.players /\ (M.get 3=0 \/ (M.get 3=1 /\ M.get 2<S.players /\ 0 <= M.get 8 /\ M.get 8 <= 60)):=by rcases h.ct with h|h|h|h|h|h|h|h <;> omega
 unfold eX;show Nx S ins M (if ah g.S (M.get 2)<0 then ⟨aM (g.step M) 2 0 M,0,bB,false⟩ else _);rw[hg];rcases uu (S:=S) (M.get 2) with ⟨e,e2⟩|⟨e1,e2,e3⟩
 ·rw[e,if_pos (by decide)];have ei:M.get 2=S.players:=by omega
  refine Jr hS h (by omega) (.inr (.inr (.inl ⟨rfl,.inl rfl⟩))) (by omega) ?_;unfold nA;rw[hp];show l2 _ _ 0 _<l1 _ _ _ (M.get 2) (M.get 3) (M.get 8);have:M.get 3=0:=by omega
  rw[this,ei];unfold l1 l2;simp;omega
 ·rw[if_neg (by omega)];refine CU hS hg h hp (by omega) g.e0 (M.get 2) _ _ (by omega) (by omega) (λ fu=>.inr (.inl ⟨rfl,by omega,by omega,.inl rfl⟩)) (λ fu f0 f1=>.inr (.inl ⟨rfl,by omega,by omega,.inr ⟨rfl,by omega,f0,f1⟩⟩)) (λ f f'=>?_) (λ f fu hfu=>?_) (λ f f' hf=>?_) (λ f=>?_)
  all_goals (show l1 _ _ _ _ _ _<l1 _ _ _ _ _ _;unfold l1;simp;omega)
theorem q6{S:Setup}(hS:SetV S){g:Gm}(hg:g.S=S){ins:Nat -> Inp}{M:MemS}(h:TV S ins M)(hp:M.get 1=6):Nx S ins M (eY (g.step M) M):=by
 have hpl:=hS.pl;have Wc:=hS.nb;have SI:=hS.ro;have hc:0 <= M.get 2 /\ M.get 2 <= S.nb /\ (M.get 3=0 \/ (M.get 3=1 /\ M.get 2<S.nb /\ 0 <= M.get 8 /\ M.get 8 <= 60)):=by rcases h.ct with h|h|h|h|h|h|h|h <;> omega
 unfold eY;show Nx S ins M (if af g.S (M.get 2)<0 then ⟨aM (g.step M) 7 0 M,0,bB,false⟩ else _);rw[hg]
 by_cases hb:af S (M.get 2)<0
 ·rw[if_pos hb];have ei:M.get 2=S.nb:=by
   unfold af at hb;rw[if_neg (by omega)] at hb;split at hb <;> omega
  refine Jr hS h (by omega) (.inr (.inr (.inr (.inr (.inr (.inr (.inr ⟨rfl,by omega,by omega⟩))))))) (by omega) ?_;unfold nA;rw[hp];show (S.nb:Int)-0<l6 _ (M.get 2) (M.get 3) (M.get 8);have:M.get 3=0:=by omega
  rw[this,ei];unfold l6;simp;omega
 ·rw[if_neg hb];have hi:M.get 2<S.nb:=by
   rcases oz (S:=S) (by omega) (M.get 2) with e|⟨_,e,_⟩ <;> omega
  refine CU hS hg h hp (by omega) g.e2 (M.get 2) _ _ (by omega) (by omega) (λ fu=>.inr (.inr (.inr (.inr (.inr (.inr (.inl ⟨rfl,by omega,by omega,.inl rfl⟩))))))) (λ fu f0 f1=>.inr (.inr (.inr (.inr (.inr (.inr (.inl ⟨rfl,by omega,by omega,.inr ⟨rfl,by omega,f0,f1⟩⟩))))))) (λ f f'=>?_) (λ f fu hfu=>?_) (λ f f' hf=>?_) (λ f=>?_)
  all_goals (show l6 _ _ _ _<l6 _ _ _ _;unfold l6;simp;omega)
theorem q2{S:Setup}(hS:SetV S){g:Gm}(hg:g.S=S){ins:Nat -> Inp}{M:MemS}(h:TV S ins M)(hp:M.get 1=2):Nx S ins M (cS (g.step M) M):=by
 have hpl:=hS.pl;have Wc:=hS.nb;have SI:=hS.ro;have hl:=h.l48 hS;have ZP:0 <= M.get 11 /\ M.get 11 <= 40:=by
  rcases h.ec with e|e
  ·have:=e.1;omega
  ·exact e
 have hj:M.get 3=0 \/ (M.get 3=1 /\ 0 <= M.get 8 /\ M.get 8 <= 60):=by rcases h.ct with h|h|h|h|h|h|h|h <;> omega
 have done:∀ (N:MemS) (e:Eff) (em:Bool),Kp S.players M N -> Ef M ⟨N,0,e,em⟩ -> Nx S ins M ⟨aM (g.step M) 3 0 N,0,e,em⟩:=λ N e em hN hE=>by
  have SB:48 <= N.cs.length:=by rw[hN.len];exact hl
  refine iy hS h (by omega) hN (ge (g.step M) _ _) (p:=3) (i:=0) (j:=0) (q:=N.get 4) (x:=N.get 5) (fu:=N.get 8) (λ k=>if5 (f:=N.get) (kg SB (g.step M) _ _ k).symm rfl rfl) rfl ⟨hE.yes,hE.no⟩ (.inr (.inr (.inr (.inl ⟨rfl,by omega,by omega⟩)))) (by omega) ?_;unfold nA;rw[hp];show l3 _ _ 0<l2 _ _ (M.get 3) (M.get 8);unfold l2;split <;> omega
 unfold cS dk jW eK dE;show Nx S ins M (if (if M.get 3=0 then decide (g.e1<0) else bz g.code g.cn M)=true then ⟨aM (g.step M) 3 0 (if M.get 3=0 then (if g.e1<0 then (⟨aN g.e1 g.S.fuel 0 0 M,0,bB,false⟩:VR) else ⟨(aN g.e1 g.S.fuel 0 0 M).set 3 1,0,bB,false⟩) else ⟨(ak g.S g.code g.cn M).M,0,(ak g.S g.code g.cn M).e,(ak g.S g.code g.cn M).em⟩).M,0,(if M.get 3=0 then (if g.e1<0 then (⟨aN g.e1 g.S.fuel 0 0 M,0,bB,false⟩:VR) else ⟨(aN g.e1 g.S.fuel 0 0 M).set 3 1,0,bB,false⟩) else ⟨(ak g.S g.code g.cn M).M,0,(ak g.S g.code g.cn M).e,(ak g.S g.code g.cn M).em⟩).e,(if M.get 3=0 then (if g.e1<0 then (⟨aN g.e1 g.S.fuel 0 0 M,0,bB,false⟩:VR) else ⟨(aN g.e1 g.S.fuel 0 0 M).set 3 1,0,bB,false⟩) else ⟨(ak g.S g.code g.cn M).M,0,(ak g.S g.code g.cn M).e,(ak g.S g.code g.cn M).em⟩).em⟩
  else ⟨(if M.get 3=0 then (if g.e1<0 then (⟨aN g.e1 g.S.fuel 0 0 M,0,bB,false⟩:VR) else ⟨(aN g.e1 g.S.fuel 0 0 M).set 3 1,0,bB,false⟩) else ⟨(ak g.S g.code g.cn M).M,0,(ak g.S g.code g.cn M).e,(ak g.S g.code g.cn M).em⟩).M,0,(if M.get 3=0 then (if g.e1<0 then (⟨aN g.e1 g.S.fuel 0 0 M,0,bB,false⟩:VR) else ⟨(aN g.e1 g.S.fuel 0 0 M).set 3 1,0,bB,false⟩) else ⟨(ak g.S g.code g.cn M).M,0,(ak g.S g.code g.cn M).e,(ak g.S g.code g.cn M).em⟩).e,(if M.get 3=0 then (if g.e1<0 then (⟨aN g.e1 g.S.fuel 0 0 M,0,bB,false⟩:VR) else ⟨(aN g.e1 g.S.fuel 0 0 M).set 3 1,0,bB,false⟩) else ⟨(ak g.S g.code g.cn M).M,0,(ak g.S g.code g.cn M).e,(ak g.S g.code g.cn M).em⟩).em⟩)
 by_cases Tk:M.get 3=0
 ·rw[if_pos Tk,if_pos Tk]
  by_cases he:g.e1<0
  ·rw[if_pos (by simpa using he),if_pos he];show Nx S ins M ⟨aM (g.step M) 3 0 (aN g.e1 g.S.fuel 0 0 M),0,bB,false⟩;rw[show aN g.e1 g.S.fuel 0 0 M=M by unfold aN;rw[if_pos he]];exact done M bB false .refl ⟨λ h=>by simp at h,λ _=>rfl⟩
  ·rw[if_neg (by simpa using he),if_neg he];show Nx S ins M ⟨(aN g.e1 g.S.fuel 0 0 M).set 3 1,0,bB,false⟩;rw[hg];obtain⟨s1,s2,s3⟩:=yT (P:=S.players) (M:=M) (fu:=S.fuel) (a:=0) (b:=0) hl he;generalize aN g.e1 S.fuel 0 0 M=N at *;have SB:48 <= N.cs.length:=by rw[s1.len];exact hl
   have n1:=s1.get 1 (by omega);have n2:=s1.get 2 (by omega);have n4:=s1.get 4 (by omega);have n5:=s1.get 5 (by omega);refine iy hS h (by omega) s1 (aP _ _ _) (p:=2) (i:=M.get 2) (j:=1) (q:=M.get 4) (x:=M.get 5) (fu:=S.fuel) (λ k=>?_) s2 ⟨λ h=>by simp at h,λ _=>s3⟩ (.inr (.inr (.inl ⟨rfl,.inr ⟨rfl,by have:=hS.fu;omega,by have:=hS.fu;omega⟩⟩))) (by omega) ?_
   ·show (N.set 3 1).get k=_;rw[bU SB (by omega) (by omega)]
    by_cases k1:k=1
    ·subst k1;simp;omega
    by_cases k2:k=2
    ·subst k2;simp;omega
    by_cases k3:k=3
    ·subst k3;simp
    by_cases k4:k=4
    ·subst k4;simp;omega
    by_cases k5:k=5
    ·subst k5;simp;omega
    simp[k1,k2,k3,k4,k5]
   ·have hfu:=hS.fu.2;unfold nA;rw[hp,Tk];show l2 _ _ 1 S.fuel<l2 _ _ 0 _;unfold l2;first|(simp;done)|(simp;omega)
 ·rw[if_neg Tk,if_neg Tk];obtain⟨Vp,hf⟩:M.get 3=1 /\ (0 <= M.get 8 /\ M.get 8 <= 60):=by omega
  obtain⟨s1,s2,s3⟩:=yR hS (M:=M) (code:=g.code) (n:=g.cn) hl ZP hf;rw[hg];generalize ak S g.code g.cn M=r at *;have n1:=s1.get 1 (by omega);have n2:=s1.get 2 (by omega);have n3:=s1.get 3 (by omega);have n4:=s1.get 4 (by omega);have n5:=s1.get 5 (by omega)
  by_cases he:bz g.code g.cn M=true
  ·rw[if_pos he];exact done r.M r.e r.em s1 ⟨s2.yes,s2.no⟩
  ·rw[if_neg he];show Nx S ins M ⟨r.M,0,r.e,r.em⟩;rcases s3 with ⟨s4,s5,s6⟩|⟨s4,s5,s6⟩
   ·refine iy hS h (by omega) s1 rfl (p:=2) (i:=M.get 2) (j:=1) (q:=M.get 4) (x:=M.get 5) (fu:=M.get 8-1) (λ k=>?_) s5 ⟨s2.yes,s2.no⟩ (.inr (.inr (.inl ⟨rfl,.inr ⟨rfl,by omega,by omega⟩⟩))) (by omega) ?_
    ·show r.M.get k=_
     by_cases k1:k=1
     ·subst k1;simp;omega
     by_cases k2:k=2
     ·subst k2;simp;omega
     by_cases k3:k=3
     ·subst k3;simp;omega
     by_cases k4:k=4
     ·subst k4;simp;omega
     by_cases k5:k=5
     ·subst k5;simp;omega
     simp[k1,k2,k3,k4,k5]
    ·unfold nA;rw[hp,Vp];show l2 _ _ 1 _<l2 _ _ 1 _;unfold l2;first|(simp;done)|(simp;omega)
   ·exact absurd s5 he
structure En(S:Setup)(ins:Nat -> Inp)(M N:MemS):Prop where
 len:(N.cs.length:Int)=sizeOf S
 z:∀k:Int,1 <= k -> k <= 10 -> N.get k=0
 t0:N.get 0=M.get 0+1
 pl:∀q:Nat,(q:Int)<S.players -> N.get (48+4*q)=(ins q).dx /\ N.get (48+4*q+1)=(ins q).dy /\ N.get (48+4*q+2)=(ins q).act
 n11:N.get 11=M.get 11
theorem r8{M:MemS}(hl:48 <= M.cs.length):∀ (n:Nat),n <= 10 -> (∀k:Int,(cr M n).get k=if 1 <= k /\ k <= n then 0 else M.get k) /\ (cr M n).cs.length=M.cs.length
 | 0,_=>⟨λ k=>by rw[if_neg (by omega)];rfl,rfl⟩
 | n+1,hn=>by
  obtain⟨h1,h2⟩:=r8 hl n (by omega);refine⟨λ k=>?_,?_⟩
  ·rw[cr,bU (by rw[h2];exact hl) (by omega) (by omega),h1]
   by_cases e:k=((n+1:Nat):Int)
   ·rw[if_pos e,if_pos (by omega)]
   ·rw[if_neg e]
    by_cases e2:1 <= k /\ k <= n
    ·rw[if_pos e2,if_pos (by omega)]
    ·rw[if_neg e2,if_neg (by omega)]
  ·rw[cr,aP];exact h2
theorem Ma{S:Setup}(hp:0 <= S.players){t:Stp}(ht:t.S=S)(M:MemS):Hi S.players M (fO t M):=by
 subst ht;unfold fO;split
 ·next hb=>exact(Hi.refl).setB hp hb (by omega) _
 ·exact .refl
theorem q7{S:Setup}(hS:SetV S){g:Gm}(hg:g.S=S){ins:Nat -> Inp}{M:MemS}(h:TV S ins M)(hp:M.get 1=7):(fN (g.step M)=false /\ Nx S ins M ⟨du (g.step M) M,0,bB,false⟩) \/ (fN (g.step M)=true /\ En S ins M (du (g.step M) M)):=by
 have hpl:=hS.pl;have Wc:=hS.nb;have hc:0 <= M.get 2 /\ M.get 2<S.nb:=by rcases h.ct with h|h|h|h|h|h|h|h <;> omega
 have hl:=h.l48 hS;have Zo:=h.t0;have hh:=Ma (S:=S) (by omega) (t:=g.step M) hg M;unfold fN du gm;generalize fO (g.step M) M=N at *;have SB:48 <= N.cs.length:=by rw[hh.len];exact hl
 have e0:=hh.get 0 (by omega);have e1:=hh.get 1 (by omega);have e3:=hh.get 3 (by omega);have e4:=hh.get 4 (by omega);have e8:=hh.get 8 (by omega);show ((if bd (M.get 2+1)<g.S.nb then false else true)=false /\ Nx S ins M ⟨if bd (M.get 2+1)<g.S.nb then N.set 2 (bd (M.get 2+1)) else cr (N.set 0 (bd (N.get 0+1))) 10,0,bB,false⟩) \/ ((if bd (M.get 2+1)<g.S.nb then false else true)=true /\ En S ins M (if bd (M.get 2+1)<g.S.nb then N.set 2 (bd (M.get 2+1)) else cr (N.set 0 (bd (N.get 0+1))) 10));rw[dh (by omega),dh (by omega),hg]
 by_cases hi:M.get 2+1<S.nb
 ·rw[if_pos hi,if_pos hi];refine .inl ⟨rfl,iy hS h (by omega) (hh.kp (by omega)) (aP _ _ _) (λ k=>R9 (f:=N.get) (bU SB (by omega) (by omega) k).symm) e8 (hh.ef (by omega)) ?_ (by omega) ?_⟩
  ·rw[e1,e3,e4,hp];exact .inr (.inr (.inr (.inr (.inr (.inr (.inr ⟨rfl,by omega,by omega⟩))))))
  ·unfold nA;rw[e1,e3,e4,hp];show (S.nb:Int)-(M.get 2+1)<(S.nb:Int)-M.get 2;omega
 ·rw[if_neg hi,if_neg hi];obtain⟨z1,z2⟩:=r8 (M:=N.set 0 (N.get 0+1)) (by rw[aP];exact SB) 10 (aaK _);have g0:=bU (M:=N) (i:=0) (v:=N.get 0+1) SB (by omega) (by omega);refine .inr ⟨rfl,⟨by rw[z2,aP,hh.len];exact h.len,λ k k1 k2=>by rw[z1,if_pos (by omega)],by rw[z1,if_neg (by omega),g0,if_pos rfl,e0],λ q hq=>?_,by rw[z1,if_neg (by omega),g0,if_neg (by omega)];exact hh.get 11 (by omega)⟩⟩;have:=h.pl q (by rw[hp,if_neg (by omega)];exact hq);rw[z1,if_neg (by omega),g0,if_neg (by omega),hh.get _ (by omega),z1,if_neg (by omega),g0,if_neg (by omega),hh.get _ (by omega),z1,if_neg (by omega),g0,if_neg (by omega),hh.get _ (by omega)];exact this
theorem q0{S:Setup}(hS:SetV S){g:Gm}(hg:g.S=S){ins:Nat -> Inp}(hi:∀q:Nat,(q:Int)<S.players -> g.ins.getD (g.io+q) dI=ins q)(UB:S.players <= g.ni){M:MemS}(h:TV S ins M)(hp:M.get 1=0):Nx S ins M ⟨aR (g.step M) M,0,bB,false⟩:=by
 have hpl:=hS.pl;have Wc:=hS.nb;have hc:0 <= M.get 2 /\ M.get 2<S.players:=by rcases h.ct with h|h|h|h|h|h|h|h <;> omega
 have hl:=h.l48 hS;obtain⟨i,hii⟩:=Int.eq_ofNat_of_zero_le hc.1;have hpa:ah S (M.get 2)=48+4*(i:Int):=by
  rcases uu (S:=S) (M.get 2) with ⟨e,e2⟩|⟨e1,e2,e3⟩
  ·omega
  ·rw[e3,hii]
 have hlen:=h.len;have hA:(bj (g.step M) M).cs.length=M.cs.length /\ ∀k,(k <= 10 \/ 48 <= k \/ k=11) -> (bj (g.step M) M).get k=if k=11 then (if M.get 2=0 then 0 else M.get 11) else M.get k:=by
  unfold bj;show (if M.get 2=0 then (M.set 13 g.version).set 11 0 else M).cs.length=_ /\ _
  by_cases h0:M.get 2=0
  ·rw[if_pos h0];refine⟨by simp only[aP],λ k hk=>?_⟩;rw[if_pos h0,bU (by rw[aP];exact hl) (by omega) (by omega),bU hl (by omega) (by omega)]
   by_cases e:k=11
   ·rw[if_pos e,if_pos e]
   ·rw[if_neg e,if_neg e,if_neg (by omega)]
  ·rw[if_neg h0];refine⟨rfl,λ k hk=>?_⟩;rw[if_neg h0]
   by_cases e:k=11
   ·rw[if_pos e,e]
   ·rw[if_neg e]
 have hB:(bx (g.step M) (bj (g.step M) M)).cs.length=M.cs.length /\ (∀k,(k <= 11 \/ (48 <= k /\ (k<48+4*(i:Int) \/ 51+4*(i:Int) <= k))) -> (bx (g.step M) (bj (g.step M) M)).get k=if k=11 then (if M.get 2=0 then 0 else M.get 11) else M.get k) /\
   (bx (g.step M) (bj (g.step M) M)).get (48+4*(i:Int))=(ins i).dx /\ (bx (g.step M) (bj (g.step M) M)).get (48+4*(i:Int)+1)=(ins i).dy /\ (bx (g.step M) (bj (g.step M) M)).get (48+4*(i:Int)+2)=(ins i).act:=by
  generalize bj (g.step M) M=A at *;obtain⟨a1,a2⟩:=hA;have e:bx (g.step M) A=((A.set (48+4*(i:Int)+0) (ins i).dx).set (48+4*(i:Int)+1) (ins i).dy).set (48+4*(i:Int)+2) (ins i).act:=by
   unfold bx Stp.inp;show (if ah g.S (M.get 2) >= 0 then if M.get 2<(g.ni:Int) then ((A.set (ah g.S (M.get 2)+0) (g.ins.getD (g.io+(M.get 2).toNat) dI).dx).set (ah g.S (M.get 2)+1) (g.ins.getD (g.io+(M.get 2).toNat) dI).dy).set (ah g.S (M.get 2)+2) (g.ins.getD (g.io+(M.get 2).toNat) dI).act else A else A)=_;rw[hg,hpa,if_pos (by omega),if_pos (by omega),hii,Int.toNat_natCast,hi i (by omega)]
  rw[e];have hal:48+4*(i:Int)+2<A.cs.length:=by rw[a1];unfold sizeOf at hlen;omega
  refine⟨by simp only[aP];exact a1,λ k hk=>?_,?_,?_,?_⟩
  ·rw[bC (by omega),bC (by omega),bC (by omega)];exact a2 k (by omega)
  ·rw[bC (by omega),bC (by omega),Int.add_zero,jE (by omega)]
  ·rw[bC (by omega),jE (by rw[aP];omega)]
  ·rw[jE (by simp only[aP];omega)]
 unfold aR;generalize bx (g.step M) (bj (g.step M) M)=N at *;obtain⟨b1,b2,b3,b4,b5⟩:=hB;have SB:48 <= N.cs.length:=by rw[b1];exact hl
 have n0:=b2 0 (by omega);have n1:=b2 1 (by omega);have n2:=b2 2 (by omega);have n3:=b2 3 (by omega);have n4:=b2 4 (by omega);have n8:=b2 8 (by omega);have n11:=b2 11 (by omega);simp only[show ¬ ((0:Int)=11) by decide,show ¬ ((1:Int)=11) by decide,show ¬ ((2:Int)=11) by decide,show ¬ ((3:Int)=11) by decide,show ¬ ((4:Int)=11) by decide,show ¬ ((8:Int)=11) by decide,if_false,if_true] at n0 n1 n2 n3 n4 n8 n11;have U2:∀q:Nat,(q:Int)<(i:Int)+1 -> N.get (48+4*q)=(ins q).dx /\ N.get (48+4*q+1)=(ins q).dy /\ N.get (48+4*q+2)=(ins q).act:=λ q hq=>by
  by_cases e:q=i
  ·subst e;exact⟨b3,b4,b5⟩
  ·have h2:=h.pl q (by rw[if_pos hp,hii];omega);rw[b2 _ (by omega),b2 _ (by omega),b2 _ (by omega),if_neg (by omega),if_neg (by omega),if_neg (by omega)];exact h2
 have hsv:FM M↔M.get 2=0:=⟨λ e=>e.2,λ e=>⟨hp,e⟩⟩;have Tw:N.get 11=if FM M then 0 else M.get 11:=by
  rw[n11]
  by_cases e:M.get 2=0
  ·rw[if_pos e,if_pos (hsv.2 e)]
  ·rw[if_neg e,if_neg (λ x=>e (hsv.1 x))]
 have ZP:0 <= N.get 11 /\ N.get 11 <= 40:=by
  rw[Tw];split
  ·omega
  ·rcases h.ec with e|e
   ·contradiction
   ·exact e
 unfold bL;show Nx S ins M ⟨if bd (M.get 2+1)<g.S.players then N.set 2 (bd (M.get 2+1)) else aM (g.step M) 1 0 N,0,bB,false⟩;rw[dh (by omega),hg];split
 ·have gg:=bU (M:=N) (i:=2) (v:=M.get 2+1) SB (by omega) (by omega);have g1:(N.set 2 (M.get 2+1)).get 1=0:=by rw[gg,if_neg (by decide),n1,hp]
  have g2:(N.set 2 (M.get 2+1)).get 2=M.get 2+1:=by rw[gg,if_pos rfl]
  refine⟨⟨by rw[aP,b1];exact hlen,by rw[gg,if_neg (by decide),n0];exact h.t0,by rw[g1,g2];exact .inl ⟨rfl,by omega,by omega⟩,λ q hq=>?_,.inr (by rw[gg,if_neg (by decide)];exact ZP)⟩,?_,by rw[g1,hp];exact Int.le_refl _,by rw[gg,if_neg (by decide),n0],λ e=>by have:=e.2;rw[g2] at this;omega,λ e=>by simp at e,λ _=>by rw[gg,if_neg (by decide)];exact Tw⟩
  ·rw[g1,if_pos rfl,g2,hii] at hq;rw[gg,if_neg (by omega),gg,if_neg (by omega),gg,if_neg (by omega)];exact U2 q hq
  ·unfold nA;rw[g1,g2,hp];show l0 _ _ _ (M.get 2+1)<l0 _ _ _ (M.get 2);unfold l0;omega
 ·have gg:=kg SB (g.step M) 1 0;have g1:(aM (g.step M) 1 0 N).get 1=1:=by rw[gg];simp
  have g2:(aM (g.step M) 1 0 N).get 2=0:=by rw[gg];simp
  have g3:(aM (g.step M) 1 0 N).get 3=0:=by rw[gg];simp
  have gk:∀k,3<k -> (aM (g.step M) 1 0 N).get k=N.get k:=λ k hk=>by rw[gg,if_neg (by omega),if_neg (by omega),if_neg (by omega)]
  refine⟨⟨by rw[ge,b1];exact hlen,by rw[gg,if_neg (by decide),if_neg (by decide),if_neg (by decide),n0];exact h.t0,by rw[g1,g2,g3];exact .inr (.inl ⟨rfl,by omega,by omega,.inl rfl⟩),λ q hq=>?_,.inr (by rw[gk 11 (by omega)];exact ZP)⟩,?_,by rw[g1,hp];decide,by rw[gg,if_neg (by decide),if_neg (by decide),if_neg (by decide),n0],λ e=>by have:=e.1;rw[g1] at this;omega,λ e=>by simp at e,λ _=>by rw[gk 11 (by omega)];exact Tw⟩
  ·rw[g1,if_neg (by decide)] at hq;rw[gk _ (by omega),gk _ (by omega),gk _ (by omega)];exact U2 q (by omega)
  ·unfold nA;rw[g1,g2,g3,hp];show l1 _ _ _ 0 0 _<l0 _ _ _ (M.get 2);unfold l0 l1;simp;omega
theorem QH{S:Setup}(hS:SetV S){g:Gm}(hg:g.S=S){ins:Nat -> Inp}(hi:∀q:Nat,(q:Int)<S.players -> g.ins.getD (g.io+q) dI=ins q)(UB:S.players <= g.ni){M:MemS}(h:TV S ins M) :
  GA M /\ ((jh g M=false /\ Nx S ins M (eT g M)) \/ (jh g M=true /\ En S ins M (jK g M) /\ (eT g M).em=false /\ ¬ FM M /\ (0 <= M.get 11 /\ M.get 11 <= 40))):=by
 have YF:GA M:=by
  rcases h.ct with h|h|h|h|h|h|h|h <;> (refine⟨?_,?_⟩ <;> omega)
 refine⟨YF,?_⟩
 by_cases h0:M.get 1=0
 ·left;rw[show eT g M=⟨aR (g.step M) M,0,bB,false⟩ by simp[eT,h0]];exact⟨by simp[jh,h0],q0 hS hg hi UB h h0⟩
 by_cases h1:M.get 1=1
 ·left;rw[show eT g M=eX (g.step M) M by simp[eT,h1]];exact⟨by simp[jh,h1],q1 hS hg h h1⟩
 by_cases h2:M.get 1=2
 ·left;rw[show eT g M=cS (g.step M) M by simp[eT,h2]];exact⟨by simp[jh,h2],q2 hS hg h h2⟩
 by_cases h3:M.get 1=3
 ·left;rw[show eT g M=⟨aS (g.step M) M,0,bB,false⟩ by simp[eT,h3]];exact⟨by simp[jh,h3],q3 hS hg h h3⟩
 by_cases h4:M.get 1=4
 ·left;rw[show eT g M=⟨bF (g.step M) M,0,bB,false⟩ by simp[eT,h4]];exact⟨by simp[jh,h4],q4 hS hg h h4⟩
 by_cases h5:M.get 1=5
 ·left;rw[show eT g M=⟨dQ (g.step M) M,0,bB,false⟩ by simp[eT,h5]];exact⟨by simp[jh,h5],q5 hS hg h h5⟩
 by_cases h6:M.get 1=6
 ·left;rw[show eT g M=eY (g.step M) M by simp[eT,h6]];exact⟨by simp[jh,h6],q6 hS hg h h6⟩
 have h7:M.get 1=7:=by have:=YF.1;have:=YF.2;omega
 have e:eT g M=⟨du (g.step M) M,0,bB,false⟩:=by simp[eT,h7]
 rw[jK,e];have e2:jh g M=fN (g.step M):=by simp[jh,h7]
 rw[e2];rcases q7 hS hg h h7 with ⟨a,b⟩|⟨a,b⟩
 ·exact .inl ⟨a,b⟩
 ·refine .inr ⟨a,b,rfl,λ e=>by have:=e.1;omega,?_⟩;rcases h.ec with e|e
  ·have:=e.1;omega
  ·exact e
def Numb(t c:Int)(es:List Eff):Prop:=∀k,k<es.length -> (es.getD k bB).t=t /\ (es.getD k bB).i=c+k
theorem Numb.nil{t c:Int}:Numb t c []:=λ k hk=>by simp at hk
theorem Numb.cons{t c:Int}{e:Eff}{es:List Eff}(h1:e.t=t)(h2:e.i=c)(h:Numb t (c+1) es):Numb t c (e::es):=λ k hk=>by
 rcases k with _|k
 ·exact⟨h1,by rw[List.getD_cons_zero,h2];omega⟩
 ·have:=h k (by simpa using hk);rw[List.getD_cons_succ];exact⟨this.1,by rw[this.2];omega⟩
theorem CV{S:Setup}(hS:SetV S){g:Gm}(hg:g.S=S){ins:Nat -> Inp}(hi:∀q:Nat,(q:Int)<S.players -> g.ins.getD (g.io+q) dI=ins q)(UB:S.players <= g.ni):∀ (n:Nat) (M:MemS),TV S ins M -> nA S M <= n ->
  ∃m,m+1 <= n /\ dV g (m+1) M /\ (∀k:Int,1 <= k -> k <= 10 -> (fY g (m+1) M).get k=0) /\ ((fY g (m+1) M).cs.length:Int)=sizeOf S /\ (fY g (m+1) M).get 0=M.get 0+1 /\
   Numb (M.get 0) (if FM M then 0 else M.get 11) (d9 g (m+1) M) /\ (fY g (m+1) M).get 11=(if FM M then 0 else M.get 11)+(d9 g (m+1) M).length /\ (fY g (m+1) M).get 11 <= 40
 | 0,M,h,hl=>by
  have:=CT hS.pl ⟨by have:=hS.nb;omega,by have:=hS.nb;omega⟩ hS.ro h.ct;unfold nA at hl;omega
 | n+1,M,h,hl=>by
  obtain⟨YF,⟨e1,hx⟩|⟨e1,hx,hem,n_,Tw⟩⟩:=QH hS hg hi UB h
  ·obtain⟨m,hm,k1,k2,k3,k4,k5,k6,k7⟩:=CV hS hg hi UB n (eT g M).M hx.tv (by have:=hx.lt;omega);rw[if_neg hx.ns] at k5 k6;have er:fY g (m+1+1) M=fY g (m+1) (eT g M).M:=rfl;refine⟨m+1,by omega,⟨YF,.inr ⟨e1,k1⟩⟩,by rw[er];exact k2,by rw[er];exact k3,by rw[er,k4,hx.t0],?_,?_,by rw[er];exact k7⟩
   ·cases he:(eT g M).em with
    | true =>
     obtain⟨a1,a2,a3,a4⟩:=hx.yes he;rw[tp he,if_neg a1];refine Numb.cons a2 a3 ?_;rw[hx.t0,a4] at k5;exact k5
    | false =>
     rw[nW (by rw[he];decide)];have:=hx.no he;rw[hx.t0,this] at k5;exact k5
   ·rw[er];cases he:(eT g M).em with
    | true =>
     obtain⟨a1,a2,a3,a4⟩:=hx.yes he;rw[tp he,if_neg a1,aaS,k6,a4];show _+(List.length (d9 g (m+1) (jK g M)):Int)=_;omega
    | false =>
     rw[nW (by rw[he];decide),k6,hx.no he]
  ·refine⟨0,by omega,⟨YF,.inl ⟨rfl,e1⟩⟩,hx.z,hx.len,hx.t0,?_,?_,?_⟩
   ·rw[nW (by rw[hem];decide)];exact .nil
   ·rw[nW (by rw[hem];decide),if_neg n_];show (jK g M).get 11=M.get 11+(([]:List Eff).length:Int);rw[hx.n11];simp
   ·show (jK g M).get 11 <= 40;rw[hx.n11];exact Tw.2
def Js(p n r f:Int):Int:=i64.wrap ((i64.wrap ((i64.wrap ((i64.wrap ((i64.wrap (p+(i64.wrap ((i64.wrap ((i64.wrap (p+1))+n))*(i64.wrap (f+3))))))+(i64.wrap (2*n))))+3))+(i64.wrap ((i64.wrap ((i64.wrap (r*n))*(i64.wrap (n-1)))).tdiv 2))))+(i64.wrap (n*(i64.wrap (n+1)))))
theorem yU{S:Setup}(hS:SetV S):l0 S.players S.nb S.rounds 0 <= Js S.players S.nb S.rounds 60 /\ Js S.players S.nb S.rounds 60 <= 650:=by
 have hp:=hS.pl;have hn:=hS.nb;have hr:=hS.ro;have key:∀p:Fin 3,∀n:Fin 5,∀r:Fin 3,l0 ((p.1+1:Nat):Int) ((n.1+1:Nat):Int) ((r.1+1:Nat):Int) 0 <= Js ((p.1+1:Nat):Int) ((n.1+1:Nat):Int) ((r.1+1:Nat):Int) 60 /\ Js ((p.1+1:Nat):Int) ((n.1+1:Nat):Int) ((r.1+1:Nat):Int) 60 <= 650:=by decide +kernel
 have:=key ⟨S.players.toNat-1,by omega⟩ ⟨S.nb-1,by omega⟩ ⟨S.rounds.toNat-1,by omega⟩;dsimp only at this;rwa [show ((S.players.toNat-1+1:Nat):Int)=S.players by omega,show S.nb-1+1=S.nb by omega,show ((S.rounds.toNat-1+1:Nat):Int)=S.rounds by omega] at this
theorem setV{xs:List Int}{F:HL}{A:Option Addr}{n:Nat}(hl:ArgL F A n xs){S:Setup}{T:HL}(h:SetG xs S T):SetV S:=by
 have h1:=qu hl;have h2:=vt hl;have hn:=h.nb;have k2:=iu hl 2;obtain⟨e1,e2,e3,e4,e5,e6,e7,e8⟩:=h.nums;exact⟨by rw[h.pl];exact h2,by omega,by rw[e7];omega,by rw[e8];omega⟩
theorem kh{l:List Int}{i j:Nat}{v:Int}(h:i≠j):(l.set i v).getD j 0=l.getD j 0:=by
 rw[aaI,aaI,List.getElem?_set_ne h]
theorem uv{S:Setup}(hp:0 <= S.players){j:Nat}(hj:j<48):∀i,i <= S.nb -> (cV S i).getD j 0=0
 | 0,_=>by
  rw[cV,aaI,List.getElem?_replicate];split <;> rfl
 | i+1,hi=>by
  have hb:af S (i:Int)=48+4*S.players+8*(i:Int):=by
   rcases oz hp (i:Int) with e|⟨_,_,e⟩
   ·unfold af at e;rw[if_neg (by omega),if_neg (by omega)] at e;omega
   ·exact e
  rw[cV,kh (by omega),kh (by omega),kh (by omega),kh (by omega),kh (by omega),kh (by omega)];exact uv hp hj i (by omega)
structure TE2(S:Setup)(t:Int)(M:MemS):Prop where
 len:(M.cs.length:Int)=sizeOf S
 z:∀k:Int,1 <= k -> k <= 10 -> M.get k=0
 t0:M.get 0=t
theorem Mb{S:Setup}(hS:SetV S):TE2 S 0 ⟨cV S S.nb,[],0⟩:=by
 have hp:=hS.pl;have hlen:(((⟨cV S S.nb,[],0⟩:MemS).cs.length:Nat):Int)=sizeOf S:=by
  show ((cV S S.nb).length:Int)=_;rw[fZ];unfold sizeOf;omega
 have g:∀k:Int,0 <= k -> k<48 -> (⟨cV S S.nb,[],0⟩:MemS).get k=0:=λ k h0 h1=>by
  unfold MemS.get;split
  ·exact uv (by omega) (by omega) S.nb (aaK _)
  ·rfl
 exact⟨hlen,λ k h1 h2=>g k (by omega) (by omega),g 0 (by omega) (by omega)⟩
theorem TE2.tv{S:Setup}(hS:SetV S){t:Int}(ht:0 <= t /\ t <= 1000){M:MemS}(h:TE2 S t M)(ins:Nat -> Inp):TV S ins M /\ nA S M=l0 S.players S.nb S.rounds 0 /\ FM M:=by
 have h1:=h.z 1 (by omega) (by omega);have h2:=h.z 2 (by omega) (by omega);have hp:=hS.pl;refine⟨⟨h.len,by rw[h.t0];omega,by rw[h1,h2];exact .inl ⟨rfl,by omega,by omega⟩,λ q hq=>by rw[h1,if_pos rfl,h2] at hq;omega,.inl ⟨h1,h2⟩⟩,?_,h1,h2⟩;unfold nA;rw[h1,h2];rfl
theorem QI{S:Setup}(hS:SetV S){g:Gm}(hg:g.S=S)(UB:S.players <= g.ni){t:Int}(ht:0 <= t /\ t <= 1000){M:MemS}(h:TE2 S t M):∃m,((m+1:Nat):Int) <= Js S.players S.nb S.rounds 60 /\ dV g (m+1) M /\ TE2 S (t+1) (fY g (m+1) M) /\
  Numb t 0 (d9 g (m+1) M) /\ (fY g (m+1) M).get 11=((d9 g (m+1) M).length:Int) /\ ((d9 g (m+1) M).length:Int) <= 40:=by
 obtain⟨h1,h2,h3⟩:=h.tv hS ht (λ q=>g.ins.getD (g.io+q) dI);have hb:=yU hS;have Zz:=CT hS.pl ⟨by have:=hS.nb;omega,by have:=hS.nb;omega⟩ hS.ro h1.ct;unfold nA at h2;obtain⟨m,a1,a2,a3,a4,a5,a6,a7,a8⟩:=CV hS hg (λ _ _=>rfl) UB (l0 S.players S.nb S.rounds 0).toNat M h1 (by unfold nA;omega);rw[if_pos h3] at a6 a7;rw[h.t0] at a5 a6;exact⟨m,by omega,a2,⟨a4,a3,a5⟩,a6,by rw[a7];omega,by omega⟩
theorem SetEq.pl{S S1:Setup}(h:SetEq S S1):S1.players=S.players:=h.nums.1
theorem SetEq.nb{S S1:Setup}(h:SetEq S S1):S1.nb=S.nb:=h.nums.2.1
theorem SetEq.size{S S1:Setup}(h:SetEq S S1):sizeOf S1=sizeOf S:=by unfold sizeOf;rw[h.pl,h.nb]
theorem SetEq.setV{S S1:Setup}(h:SetEq S S1)(hV:SetV S):SetV S1:=by
 obtain⟨e1,e2,_,_,_,_,_,_,_,_,e3,e4⟩:=h.nums;exact⟨by rw[e1];exact hV.pl,by rw[e2];exact hV.nb,by rw[e3];exact hV.ro,by rw[e4];exact hV.fu⟩
theorem TE2.eq{S S1:Setup}(h:SetEq S S1){t:Int}{M:MemS}(hT:TE2 S t M):TE2 S1 t M:=⟨by rw[h.size];exact hT.len,hT.z,hT.t0⟩
theorem CW{S S':Setup}(h:SetEq S S'):(S'.bods.drop S'.bo).map Bod.nm=(List.range S.nb).map λ k=>(S.body k).nm:=by
 rw[h.whole.1,List.drop_zero];apply List.ext_getElem?;intro k
 by_cases hk:k<S.nb
 ·obtain⟨A,c,e⟩:=h.bod k hk;have hl:k<S'.bods.length:=by rw[h.whole.2];exact hk
  have e2:S'.bods[k]?=some (S'.body k):=by
   show _=some (S'.bods.getD (S'.bo+k) dB);rw[h.whole.1,Nat.zero_add,aaI,aaT hl];rfl
  rw[List.getElem?_map,e2,e];simp[hk];rfl
 ·rw[List.getElem?_eq_none (by rw[List.length_map,h.whole.2];omega),List.getElem?_eq_none (by simp;omega)]
theorem SetEq.nm2{S S1 S2:Setup}(h1:SetEq S S1)(h2:SetEq S S2):S1.nm=S2.nm:=by
 have b1:=CW h1;have b2:=CW h2;obtain⟨x1,x2,x3,x4,x5,x6,x7,x8,x9,x10,x11,x12⟩:=h1.nums;obtain⟨y1,y2,y3,y4,y5,y6,y7,y8,y9,y10,y11,y12⟩:=h2.nums;unfold Setup.nm;rw[b1,b2,x1,x2,x3,x4,x5,x6,x7,x8,x9,x10,x11,x12,y1,y2,y3,y4,y5,y6,y7,y8,y9,y10,y11,y12]
theorem vX{S1 S2:Setup}(h:S1.nm=S2.nm)(j:Nat × Int)(n:Nat)(xs:List Inp):GEq (gH S1 j n xs) (gH S2 j n xs):=by
 refine⟨?_,λ k hk=>rfl⟩;unfold Gm.nm;simp only[h]
theorem Bh{G G':Nat -> Gm}(h:∀k,GEq (G k) (G' k))(M:MemS):∀k,zt G M k=zt G' M k
 | 0=>rfl
 | k+1=>by rw[zt,zt,Bh h M k,Ah (h k)]
theorem QJ{S S1 S2:Setup}(h1:SetEq S S1)(h2:SetEq S S2)(J:Nat -> Nat × Int)(xss:List (List Inp)):∀k,GEq (rG S1 J xss k) (rG S2 J xss k):=λ k=>vX (h1.nm2 h2) _ _ _
theorem OM{pl:Int}{n:Nat}{xs:List Inp}{now:Int}(h1:(n:Int)=pl)(h2:∀k,k<n -> gl (xs.getD k dI))(h3:now<6000):fI pl n xs now=0:=by
 unfold fI;rw[if_pos h1,if_pos h2,if_neg (by omega)]
theorem Jt{S1:Setup}(hV:SetV S1){t:Int}(ht:0 <= t /\ t <= 1000){M:MemS}(hT:TE2 S1 t M){xs:List Inp}(h1:(xs.length:Int)=S1.players)(h2:∀k,k<xs.length -> gl (xs.getD k dI))(j:Nat × Int):TkOk S1 j xs M /\ TE2 S1 (t+1) (iq (oD S1 j xs) M):=by
 obtain⟨m,a1,a2,a3,_⟩:=QI hV (g:=oD S1 j xs) rfl (by show S1.players <= (xs.length:Int);omega) ht hT;have hb:=(yU hV).2;refine⟨⟨⟨m,by omega,a2⟩,by rw[hT.t0];exact ht.1,by rw[hT.t0];exact OM h1 h2 (by omega)⟩,?_⟩;rw[<- (MS (by omega) a2).1];exact a3
def RowOk(pl:Int)(xs:List Inp):Prop:=(xs.length:Int)=pl /\ ∀k,k<xs.length -> gl (xs.getD k dI)
theorem Ju{S1:Setup}(hV:SetV S1){M0:MemS}(hT:TE2 S1 0 M0){xss:List (List Inp)}(J:Nat -> Nat × Int)(n:Nat)(hn:n <= 50)(hr:∀i,i<n -> RowOk S1.players (xss.getD i [])):∀i,i <= n -> TE2 S1 (i:Int) (zt (rG S1 J xss) M0 i)
 | 0,_=>hT
 | i+1,h=>by
  have ih:=Ju hV hT J n hn hr i (by omega);have:=(Jt hV (t:=(i:Int)) (by omega) ih (hr i (by omega)).1 (hr i (by omega)).2 (J i)).2;rw[zt]
  exact_mod_cast this
theorem QK{S1:Setup}(hV:SetV S1){M0:MemS}(hT:TE2 S1 0 M0){xss:List (List Inp)}(J:Nat -> Nat × Int)(n:Nat)(hn:n <= 50)(hr:∀i,i<n -> RowOk S1.players (xss.getD i []))(i:Nat)(hi:i<n):TkOk S1 (J i) (xss.getD i []) (zt (rG S1 J xss) M0 i) :=
 (Jt hV (t:=(i:Int)) (by omega) (Ju hV hT J n hn hr i (by omega)) (hr i hi).1 (hr i hi).2 (J i)).1
theorem Jv{n:Int}(h:0 <= n):gl (xD n):=by
 unfold gl xD;dsimp only;split <;> omega
theorem CX{F:HL}{A:Option Addr}{n:Nat}{xs:List Int}(hl:ArgL F A n xs){pl:Int}(hp:0 <= pl)(t:Int):RowOk pl (rowL pl xs t pl.toNat):=by
 refine⟨by rw[fE];omega,λ k hk=>?_⟩;rw[fE] at hk;rw[Hw hk];exact Jv (Lf hl pl t k).1
theorem Jw{S S1:Setup}(hV:SetV S)(he:SetEq S S1):TE2 S1 0 ⟨cV S S.nb,[],0⟩:=(Mb hV).eq he
theorem SlIs.rowN{α:Type}{e:Enc α}{T:TypeId}{l:List α}{A:Option Addr}{cap n:Nat}{Hl F:HL}(h:SlIs e T l A cap Hl)(hF:∀x∈Hl,x∈F)(hn:l.length=n):RowL e T F A n l:=hn ▸ h.toRowL hF
theorem yV{n m k:Int}(e:ay n m=k)(hm:0<m)(F:HL):Sp Tryz.prog 11 #[vI n,vI m] [] F (λ u H'=>u=vI k /\ H'=[]):=e ▸ i8 n m (by omega) F
theorem mK{α:Type}{l r:List α}{o:Nat}(h:(l.drop o).take r.length=r){k:Nat}(hk:k<r.length)(d:α):l.getD (o+k) d=r.getD k d:=by
 have h1:((l.drop o).take r.length)[k]?=r[k]?:=by rw[h]
 rw[aa7,if_pos hk,aa6] at h1;rw[aaI,aaI,h1]
structure Ver where (t:Int) (A:Option Addr) (n c:Nat) (e0 e1 e2:Int)
def fK:Enc Ver:=⟨5,λ p k=>match k with|0=>vI p.t|1=>.slice p.A p.n p.c|2=>vI p.e0|3=>vI p.e1|_=>vI p.e2,⟨0,none,0,0,0,0,0⟩⟩
noncomputable def MU:TypeInfo:=match Tryz.prog.info? 146 with | some i=>i | none=>⟨.bool,"",0,0,false,0,0,none,false,#[]⟩
noncomputable def MW:Value:=match MU.zero with|some z=>z|none=>.bool false
theorem ON:EncOk fK Tryz.prog 146 MU MW where
 info:=by kernel_rfl
 zero:=by kernel_rfl
 size:=by kernel_rfl
 zsize:=by kernel_rfl
 zcell:=λ k hk=>by
  have h:∀k<5,MW.cells[k]?=some (fK.cell fK.dflt k):=by intro k hk;(iterate 5 (rcases k with _|k;· kernel_rfl));omega
  exact h k hk
 one:=λ x k=>by unfold fK;dsimp only;split <;> rfl
 bytes:=aaJ (by kernel_rfl)
abbrev kI(t:Int)(j:Nat)(A:Option Addr)(c:Nat):Ver:=⟨t,A,fT j,c,cg j 0,cg j 1,cg j 2⟩
inductive Book2(tk:Int)(j1 j2 bp:Nat):HL -> Prop
 | mk (A:Option Addr) (c:Nat) (A1 A2:Option Addr) (c1 c2:Nat) (Hl T1 T2:HL) (hs:SlIs fK 146 [kI 0 j1 A1 c1,kI tk j2 A2 c2] A c Hl) (h1:CodT j1 A1 T1) (h2:CodT j2 A2 T2):Book2 tk j1 j2 bp (ap [(bp,.lit [.slice A 2 c] 149 (0,0))] [Hl,T1,T2])
theorem Mc(tk:Int)(htk:0<tk)(j1 j2 bp q:Nat)(Aa:Option Addr)(ca:Nat)(Tz F:HL)(Ud:j2<5)(hE:pS F)(h1:CodT j1 Aa Tz):Sp Tryz.prog 43 #[vP bp 0,vI tk,.string (pR j2)] (ap [(bp,.lit [vS q 0 1 1] 149 (0,0)),(q,.lit [vI 0,.slice Aa (fT j1) ca,vI (cg j1 0),vI (cg j1 1),vI (cg j1 2)] 146 (0,0))] [Tz]) F (λ u H'=>∃x:HL,H'=ap [] [x] /\ (u=vI 0 /\ Book2 tk j1 j2 bp x)):=by
 refine aau Tryz.func43 rfl mn (A:=[(bp,.lit [vS q 0 1 1] 149 (0,0)),(q,.lit [vI 0,.slice Aa (fT j1) ca,vI (cg j1 0),vI (cg j1 1),vI (cg j1 2)] 146 (0,0))]) (Ts:=[Tz]) rfl λ w0=>?_;refine ae 21 [.own 0] λ _=>aal [] []<|ag [] [0,1,5,2,6,3,7,4,8,9,10,11,12,13,14] [.own 0,.own 0,.own 1]<|aad<|ae 1 [] λ _=>db 29 (aa9 (show ¬ tk <= 0 by omega))<|ae 6 [] λ _=>aaj (Hp:=[]) (Tp:=[]) [] [] (IW Ud _ (au hE)) ?_;rintro _ ⟨A1,c2,T3⟩ ⟨rfl,hC4⟩;dsimp only at hC4;refine ae 19 (aab 4) λ n5=>aal [9,12] []<|ag [] [0,1,5,6,2,7,3,4] [.own 0,.own 0,.own 0,.own 0,.own 1]<|aae 8 (aag [] [] λ n7=>?_);refine RD.dn 3 (.rows 5 1 (aL fK [kI 0 j1 Aa ca]) 146 (0,0))<|PC 3<|aae 9 (nM [] ON ([kI 0 j1 Aa ca]) [kI tk j2 A1 c2] 0 0 rfl (SlIs.one (b:=q)) (aaJ rfl) ?_);rintro A8 c9 Ui ⟨ae6,aj4⟩;refine ag [] [10,11] []<|aae 12 (aag [] [.own 2] λ _=>?_);refine aad<|ae 6 [] λ _=>aaq [] [2] [0,2,1] (v:=vI 0) (H':=(ap [(bp,.lit [.slice A8 2 c9] 149 (0,0))] [Ui,Tz,T3])) ?_;exact⟨ap [(bp,.lit [.slice A8 2 c9] 149 (0,0))] [Ui,Tz,T3],by simp[ap],rfl,.mk _ _ _ _ _ _ _ _ _ ae6 h1 hC4⟩
theorem Md{j1 bp:Nat}{TB:HL}(hB:Book1 j1 bp TB)(tk:Int)(htk:0<tk)(j2:Nat)(F:HL)(Ud:j2<5)(hE:pS F):Sp Tryz.prog 43 #[vP bp 0,vI tk,.string (pR j2)] (ap [] [TB]) F (λ u H'=>∃x:HL,H'=ap [] [x] /\ (u=vI 0 /\ Book2 tk j1 j2 bp x)):=by
 cases hB with
 | mk q A c T h =>
  rw[aU];exact Mc tk htk j1 j2 bp q A c T F Ud hE h
theorem QL(q2 q3:Nat)(tk:Int)(bp b o c j1 j2:Nat)(full:List Ver)(Aa Ab:Option Addr)(ca cb:Nat)(t:Int)(F:HL)(hb:(bp,.lit [vS b (o*5) 2 c] 149 (0,0))∈F)(hq:(b,.rows 5 (o+c) (aL fK full) 146 (0,0))∈F)(hc:2 <= c)(Vr:full.getD o fK.dflt=kI 0 j1 Aa ca)(UW:full.getD (1+o) fK.dflt=kI tk j2 Ab cb)(ht:0 <= t)(h2:(q2,.lit [vP bp 0] 36 (0,0))∈F)(h3:(q3,.lit [vI t] 3 (0,0))∈F):Sp Tryz.prog 129 #[vI 0,vP q2 0,vP q3 0] [] F (λ u H'=>u=.bool false /\ H'=[]):=by
 refine aau Tryz.func129 rfl (mc h2 (mc h3 (mc hb (mc hq mn)))) (A:=[]) (Ts:=[]) rfl λ w0=>?_;refine ae 6 [] λ _=>aal [] []<|aA [] [0,4,8,1,2,3,5,6,7] [.ro 0,.ro 1,.ro 2,.rorow 3 o 0] [o*5=o*5+0 /\ o<(o+c)]<|fW 12 (congrArg (λ v_:Ver=>vI v_.t) Vr)<|ag [] [9,10] []<|aad<|ae 1 [] λ _=>aaq [] [] [] (v:=.bool (decide (0>t))) (H':=[]) ?_;exact⟨congrArg Value.bool (aa9 (by omega)),rfl⟩
theorem MX(q2 q3:Nat)(tk:Int)(bp b o c j1 j2:Nat)(full:List Ver)(Aa Ab:Option Addr)(ca cb:Nat)(t:Int)(F:HL)(hb:(bp,.lit [vS b (o*5) 2 c] 149 (0,0))∈F)(hq:(b,.rows 5 (o+c) (aL fK full) 146 (0,0))∈F)(hc:2 <= c)(Vr:full.getD o fK.dflt=kI 0 j1 Aa ca)(UW:full.getD (1+o) fK.dflt=kI tk j2 Ab cb)(ht:0 <= t)(h2:(q2,.lit [vP bp 0] 36 (0,0))∈F)(h3:(q3,.lit [vI t] 3 (0,0))∈F):Sp Tryz.prog 129 #[vI 1,vP q2 0,vP q3 0] [] F (λ u H'=>u=.bool (decide (tk>t)) /\ H'=[]):=by
 refine aau Tryz.func129 rfl (mc h2 (mc h3 (mc hb (mc hq mn)))) (A:=[]) (Ts:=[]) rfl λ w0=>?_;refine ae 6 [] λ _=>aal [] []<|aA [] [0,4,8,1,2,3,5,6,7] [.ro 0,.ro 1,.ro 2,.rorow 3 (1+o) 0] [(o*5+5)=(1+o)*5+0 /\ (1+o)<(o+c)]<|fW 12 (congrArg (λ v_:Ver=>vI v_.t) UW)<|ag [] [9,10] []<|aad<|ae 1 [] λ _=>?_;exact aaq [] [] [] ⟨rfl,rfl⟩
theorem Jy(q2 q3:Nat)(tk:Int)(bp b o c j1 j2:Nat)(full:List Ver)(Aa Ab:Option Addr)(ca cb:Nat)(t:Int)(F:HL)(hb:(bp,.lit [vS b (o*5) 2 c] 149 (0,0))∈F)(hq:(b,.rows 5 (o+c) (aL fK full) 146 (0,0))∈F)(hc:2 <= c)(Vr:full.getD o fK.dflt=kI 0 j1 Aa ca)(UW:full.getD (1+o) fK.dflt=kI tk j2 Ab cb)(ht:0 <= t)(h2:(q2,.lit [vP bp 0] 36 (0,0))∈F)(h3:(q3,.lit [vI t] 3 (0,0))∈F)(Wh:tk>t):Sp Tryz.prog 128 #[vI 2,.func (.func 129) #[] #[vP q2 0,vP q3 0]] [] F (λ u H'=>u=vI 1 /\ H'=[]):=by
 refine aau Tryz.func128 rfl (mc h2 (mc h3 (mc hb (mc hq mn)))) (A:=[]) (Ts:=[]) rfl λ w0=>?_;refine ae 14 [] λ _=>aar 4<|ae 27 [] λ _=>aai (MX q2 q3 tk bp b o c j1 j2 full Aa Ab ca cb t _ (au hb) (au hq) hc Vr UW ht (au h2) (au h3))<|ae 3 [] λ _=>db 21 (nt (aba Wh))<|ae 34 [] λ _=>aai (QL q2 q3 tk bp b o c j1 j2 full Aa Ab ca cb t _ (au hb) (au hq) hc Vr UW ht (au h2) (au h3))<|ae 31 [] λ _=>?_;exact aaq [] [] [] ⟨rfl,rfl⟩
theorem Jz(q2 q3:Nat)(tk:Int)(bp b o c j1 j2:Nat)(full:List Ver)(Aa Ab:Option Addr)(ca cb:Nat)(t:Int)(F:HL)(hb:(bp,.lit [vS b (o*5) 2 c] 149 (0,0))∈F)(hq:(b,.rows 5 (o+c) (aL fK full) 146 (0,0))∈F)(hc:2 <= c)(Vr:full.getD o fK.dflt=kI 0 j1 Aa ca)(UW:full.getD (1+o) fK.dflt=kI tk j2 Ab cb)(ht:0 <= t)(h2:(q2,.lit [vP bp 0] 36 (0,0))∈F)(h3:(q3,.lit [vI t] 3 (0,0))∈F)(Wh:¬ tk>t):Sp Tryz.prog 128 #[vI 2,.func (.func 129) #[] #[vP q2 0,vP q3 0]] [] F (λ u H'=>u=vI 2 /\ H'=[]):=by
 refine aau Tryz.func128 rfl (mc h2 (mc h3 (mc hb (mc hq mn)))) (A:=[]) (Ts:=[]) rfl λ w0=>?_;refine ae 14 [] λ _=>aar 4<|ae 27 [] λ _=>aai (MX q2 q3 tk bp b o c j1 j2 full Aa Ab ca cb t _ (au hb) (au hq) hc Vr UW ht (au h2) (au h3))<|ae 3 [] λ _=>db 21 (nf (aa9 Wh))<|ae 28 [] λ _=>?_;exact aaq [] [] [] ⟨rfl,rfl⟩
theorem Sa(tk:Int)(bp b o c j1 j2:Nat)(full:List Ver)(Aa Ab:Option Addr)(ca cb:Nat)(t:Int)(F:HL)(hb:(bp,.lit [vS b (o*5) 2 c] 149 (0,0))∈F)(hq:(b,.rows 5 (o+c) (aL fK full) 146 (0,0))∈F)(hc:2 <= c)(Vr:full.getD o fK.dflt=kI 0 j1 Aa ca)(UW:full.getD (1+o) fK.dflt=kI tk j2 Ab cb)(ht:0 <= t)(hj:j1<5)(hC:SrcIn Tryz.prog k8 F Aa (fT j1) (kH j1))(Wh:tk>t):Sp Tryz.prog 106 #[vP bp 0,vI t] [] F (λ u H'=>∃x:Option Addr × Nat × HL,H'=ap [] [x.2.2] /\ (u=.tuple #[vI 0,.agg #[.slice x.1 (fT j1) x.2.1,vI (cg j1 0),vI (cg j1 1),vI (cg j1 2)]] /\ ClS k8 231 (kH j1) x.1 x.2.1 x.2.2)):=by
 refine aau Tryz.func106 rfl (mc hb (mc hq mn)) (A:=[]) (Ts:=[]) rfl λ w0=>?_;refine ae 16 [.own 2,.ro 0] λ n1=>aai (Jy (n1+0) (n1+1) tk bp b o c j1 j2 full Aa Ab ca cb t _ (au hb) (au hq) hc Vr UW ht (aw 2) (aw 1) Wh)<|ai 21 [.own 2,.ro 0,.rorow 1 o 1,.rorow 1 o 2,.rorow 1 o 3,.rorow 1 o 4] [(o*5+4)=o*5+4 /\ o<(o+c),(o*5+3)=o*5+3 /\ o<(o+c),(o*5+2)=o*5+2 /\ o<(o+c),(o*5+1)=o*5+1 /\ o<(o+c)] λ _=>aK 26 (congrArg (λ v_:Ver=>(.agg #[.slice v_.A v_.n v_.c,vI v_.e0,vI v_.e1,vI v_.e2]:Value)) Vr)<|ae 5 (aab 4) λ n2=>aal [8] []<|ag [] [0,1,4,2,5] (aab 4)<|aae 3 (aaf [] (Hp:=[]) (Tp:=[]) [] [] (mE Aa (fT j1) ca (kH j1) _ hC.up (by have:=vQ hj;omega)) ?_);rintro _ ⟨A3,c4,T5⟩ ⟨rfl,hc6⟩;dsimp only at hc6;refine ag [] [6,7] []<|aae 8 (aag [] (ow 1 4) λ _=>?_);refine aad<|ae 1 [] λ _=>aaq (ow 1 4) [] [0] (v:=.tuple #[vI 0,.agg #[.slice A3 (fT j1) c4,vI (cg j1 0),vI (cg j1 1),vI (cg j1 2)]]) (H':=(ap [] [T5])) ?_;exact⟨(A3,c4,T5),rfl,rfl,hc6⟩
theorem Sb(tk:Int)(bp b o c j1 j2:Nat)(full:List Ver)(Aa Ab:Option Addr)(ca cb:Nat)(t:Int)(F:HL)(hb:(bp,.lit [vS b (o*5) 2 c] 149 (0,0))∈F)(hq:(b,.rows 5 (o+c) (aL fK full) 146 (0,0))∈F)(hc:2 <= c)(Vr:full.getD o fK.dflt=kI 0 j1 Aa ca)(UW:full.getD (1+o) fK.dflt=kI tk j2 Ab cb)(ht:0 <= t)(hj:j2<5)(hC:SrcIn Tryz.prog k8 F Ab (fT j2) (kH j2))(Wh:¬ tk>t):Sp Tryz.prog 106 #[vP bp 0,vI t] [] F (λ u H'=>∃x:Option Addr × Nat × HL,H'=ap [] [x.2.2] /\ (u=.tuple #[vI 1,.agg #[.slice x.1 (fT j2) x.2.1,vI (cg j2 0),vI (cg j2 1),vI (cg j2 2)]] /\ ClS k8 231 (kH j2) x.1 x.2.1 x.2.2)):=by
 refine aau Tryz.func106 rfl (mc hb (mc hq mn)) (A:=[]) (Ts:=[]) rfl λ w0=>?_;refine ae 16 [.own 2,.ro 0] λ n1=>aai (Jz (n1+0) (n1+1) tk bp b o c j1 j2 full Aa Ab ca cb t _ (au hb) (au hq) hc Vr UW ht (aw 2) (aw 1) Wh)<|ai 21 [.own 2,.ro 0,.rorow 1 (1+o) 1,.rorow 1 (1+o) 2,.rorow 1 (1+o) 3,.rorow 1 (1+o) 4] [(o*5+9)=(1+o)*5+4 /\ (1+o)<(o+c),(o*5+8)=(1+o)*5+3 /\ (1+o)<(o+c),(o*5+7)=(1+o)*5+2 /\ (1+o)<(o+c),(o*5+6)=(1+o)*5+1 /\ (1+o)<(o+c)] λ _=>aK 26 (congrArg (λ v_:Ver=>(.agg #[.slice v_.A v_.n v_.c,vI v_.e0,vI v_.e1,vI v_.e2]:Value)) UW)<|ae 5 (aab 4) λ n2=>aal [8] []<|ag [] [0,1,4,2,5] (aab 4)<|aae 3 (aaf [] (Hp:=[]) (Tp:=[]) [] [] (mE Ab (fT j2) cb (kH j2) _ hC.up (by have:=vQ hj;omega)) ?_);rintro _ ⟨A3,c4,T5⟩ ⟨rfl,hc6⟩;dsimp only at hc6;refine ag [] [6,7] []<|aae 8 (aag [] (ow 1 4) λ _=>?_);refine aad<|ae 1 [] λ _=>aaq (ow 1 4) [] [0] (v:=.tuple #[vI 1,.agg #[.slice A3 (fT j2) c4,vI (cg j2 0),vI (cg j2 1),vI (cg j2 2)]]) (H':=(ap [] [T5])) ?_;exact⟨(A3,c4,T5),rfl,rfl,hc6⟩
theorem Book2.at{tk:Int}{j1 j2 bp:Nat}{TB F:HL}(hB:Book2 tk j1 j2 bp TB)(hT:∀x∈TB,x∈F)(Vp:j1<5)(Ud:j2<5)(t:Int)(ht:0 <= t):AtOk F bp t (if tk>t then (j1,0) else (j2,1)):=λ F' hF=>by
 cases hB with
 | mk A c A1 A2 c1 c2 Hl T1 T2 hs h1 h2 =>
  rcases hs with ⟨_,_,h,_⟩|⟨b,o,full,rfl,rfl,e1,e2,e3⟩
  ·cases h
  ·have hc:2 <= c:=e2;have Vr:full.getD o fK.dflt=kI 0 j1 A1 c1:=by have:=mK e3 (k:=0) (by simp) fK.dflt;rw[Nat.add_zero] at this;exact this
   have UW:full.getD (1+o) fK.dflt=kI tk j2 A2 c2:=by have:=mK e3 (k:=1) (by simp) fK.dflt;rw[Nat.add_comm o 1] at this;exact this
   have hm:∀x,x∈ap [(bp,Blk.lit [.slice (some ⟨b,o*fK.w,none⟩) 2 c] 149 (0,0))] [[(b,.rows fK.w (o+c) (aL fK full) 146 (0,0))],T1,T2] -> x∈F':=λ x hx=>hF x (hT x hx)
   by_cases Wh:tk>t
   ·rw[if_pos Wh];exact Sa tk bp b o c j1 j2 full A1 A2 c1 c2 t F' (hm _ (aaA _ aaB)) (hm _ (aay _ aaB)) hc Vr UW ht Vp (h1.src F' λ x hx=>hm x (by simp[ap,hx])) Wh
   ·rw[if_neg Wh];exact Sb tk bp b o c j1 j2 full A1 A2 c1 c2 t F' (hm _ (aaA _ aaB)) (hm _ (aay _ aaB)) hc Vr UW ht Ud (h2.src F' λ x hx=>hm x (by simp[ap,hx])) Wh
def JA(i v:Int):Int:=uX ⟨#[108,101,97,102]⟩ [i,v]
def CY(a b:Int):Int:=uX ⟨#[112,97,105,114]⟩ [bd a,bd b]
def JB:Int:=uX ⟨#[101,109,112,116,121]⟩ []
def ld(n:Nat):Nat:=if n <= 1 then 0 else Lib.bitLen (n-1)
def wl(n:Nat):Nat:=2 ^ ld n
theorem OO{n:Nat}(h:(n:Int) <= 1):ld n=0:=by
 unfold ld;rw[if_pos (by omega)]
theorem OP{n:Nat}(hl:n <= 1000000)(h:¬ (n:Int) <= 1):uS ((n:Int)-1)=(ld n:Int):=by
 unfold ld uS;rw[if_neg (by omega)];have e:(wG ((n:Int)-1)).toNat=n-1:=by
  rw[show wG ((n:Int)-1)=(n:Int)-1 by rw[wG,IntKind.wrap];simp[IntKind.signed,IntKind.bits];omega];omega
 rw[e]
theorem MY:∀ (f x:Nat),x<2 ^ f -> x≠0 -> ∃m,Lib.bitLenAux f x=m+1 /\ 2 ^ m <= x /\ x<2 ^ (m+1)
 | 0,x,h,h0=>absurd (by simpa using h) h0
 | f+1,x,h,h0=>by
  rw[Lib.bitLenAux,if_neg h0]
  by_cases h2:x / 2=0
  ·have e:Lib.bitLenAux f (x / 2)=0:=by rw[h2];cases f <;> simp[Lib.bitLenAux]
   rw[e];exact⟨0,rfl,by simp;omega,by simp;omega⟩
  ·obtain⟨m,e,h3,h4⟩:=MY f (x / 2) (by rw[Nat.pow_succ] at h;omega) h2;rw[e];exact⟨m+1,by omega,by rw[Nat.pow_succ];omega,by rw[Nat.pow_succ];omega⟩
theorem Bi{n:Nat}(h:n <= 1000000):ld n <= 20 /\ n <= wl n /\ 1 <= wl n /\ wl n <= 2000000:=by
 unfold wl ld
 by_cases h1:n <= 1
 ·rw[if_pos h1];simp;omega
 ·rw[if_neg h1];obtain⟨m,e,b2,b3⟩:=MY 64 (n-1) (by omega) (by omega);rw[show Lib.bitLen (n-1)=m+1 from e];have hm:m<20:=by
   apply Classical.byContradiction;intro hn;have:=Nat.pow_le_pow_right (n:=2) (by omega) (show 20 <= m by omega);omega
  rw[Nat.pow_succ] at b3 ⊢;omega
theorem QM{n:Nat}(h:n <= 1000000):i64.wrap (1*2 ^ min ((ld n:Int)).toNat 64)=(wl n:Int):=by
 obtain⟨h1,h2,h3,h4⟩:=Bi h;rw[Int.toNat_natCast,Nat.min_eq_left (by omega),IntKind.wrap_i64];have e:(1:Int)*2 ^ ld n=(wl n:Int):=by
  unfold wl;rw[Int.one_mul]
  norm_cast
 rw[e];omega
def jj(f:Nat -> Int):Nat -> Nat -> Value:=λ i k=>match k with|0=>.int .u64 (f i)|_=>default
def Bj(f:Nat -> Int)(i:Nat)(v:Int):Nat -> Int:=λ j=>if j=i then v else f j
theorem r9(f:Nat -> Int)(i:Nat)(v:Int):cT (jj f) i 0 (.int .u64 v)=jj (Bj f i v):=by
 funext j k;unfold cT jj Bj;cases k with
 | zero=>by_cases h:j=i <;> simp[h]
 | succ k=>simp
def MZ(xs:List Int)(sz:Nat):Nat -> Nat -> Int
 | 0=>λ _=>0
 | i+1=>Bj (MZ xs sz i) (sz+i) (JA i (xs.getD i 0))
def Kk(xs:List Int)(sz:Nat):Nat -> Nat -> Int
 | 0=>MZ xs sz xs.length
 | m+1=>Bj (Kk xs sz m) (sz+(xs.length+m)) JB
def uw(xs:List Int)(sz:Nat):Nat -> Nat -> Int
 | 0=>Kk xs sz (sz-xs.length)
 | m+1=>Bj (uw xs sz m) (sz-1-m) (CY (uw xs sz m (2*(sz-1-m))) (uw xs sz m (2*(sz-1-m)+1)))
def kW(xs:List Int):Int:=uw xs (wl xs.length) (wl xs.length-1) 1
theorem E7(xs:List Int)(sz:Nat):kX [.int .u64 0]=jj (MZ xs sz 0):=by
 funext j k;cases k with
 | zero=>rfl
 | succ k=>simp[kX,jj]
theorem Me{xs:List Int}{sz j:Nat}(h:xs.length <= j):Bj (Kk xs sz (j-xs.length)) (sz+j) JB=Kk xs sz (j+1-xs.length):=by
 rw[show j+1-xs.length=(j-xs.length)+1 by omega,Kk,show xs.length+(j-xs.length)=j by omega]
theorem Mf{xs:List Int}{sz k:Nat}(h:k+1 <= sz)(h1:1 <= k):Bj (uw xs sz (sz-1-k)) k (CY (uw xs sz (sz-1-k) (2*k)) (uw xs sz (sz-1-k) (2*k+1)))=uw xs sz (sz-1-(k-1)):=by
 rw[show sz-1-(k-1)=(sz-1-k)+1 by omega,uw,show sz-1-(sz-1-k)=k by omega]
theorem E9(xs:List Int){n:Nat}(h:xs.length=n):bg 1 (aE xs) n=xs.map vI:=by
 refine iK (by simpa using h) λ i k hi hk=>?_;obtain rfl:k=0:=by omega
 have XB:i<xs.length:=by omega
 simp[aE,aaI,aaT XB]
theorem JC{q c:Nat}{ty:TypeId}{xs:List Int}{H F:HL}(hq:(q,.rows 1 c (aE xs) ty (0,0))∈H++F)(hc:xs.length <= c):∀w,Rel (H++F) w -> ∀j v,(xs.map vI)[j]?=some v -> w.cell? (Addr.add ⟨q,0,none⟩ j)=some v:=by
 intro w hr j v hv;have hj:j<xs.length:=by
  have:=(List.getElem?_eq_some_iff.1 hv).1;simpa using this
 have hb:=hr.holds _ hq;rw[show Addr.add ⟨q,0,none⟩ j=⟨q,j,none⟩ by unfold Addr.add;split <;> simp_all,jP (i:=j) (k:=0) hb rfl rfl (by simp) (by omega) (by omega)];rw[<- hv];simp[aE,aaI,aaT hj]
theorem OQ{xs:List Int}:∀v∈xs.map vI,v.oneCell'=true:=by
 intro v hv;obtain⟨x,_,rfl⟩:=List.mem_map.1 hv;rfl
theorem JD(b:ByteArray)(F:HL)(hb:b.size <= 1000000):Sp Tryz.prog 177 #[.string b,.slice none 0 0] [] F (λ u H'=>u=.int .u64 (uX b []) /\ H'=[]):=by
 refine aau Tryz.func177 rfl mn (A:=[]) (Ts:=[]) rfl λ w0=>?_;refine ae 10 [] λ _=>aai (qQ b 0 _ (by assumption))<|ae 12 [] λ _=>aar 1<|ae 15 [] λ _=>aai (lQ (oN b 0) 0 _)<|ae 3 [] λ _=>?_;exact aaq [] [] [] ⟨rfl,rfl⟩
theorem Bk(n:Nat)(F:HL)(hl:n <= 1000000):Sp Tryz.prog 175 #[vI (n:Int)] [] F (λ u H'=>u=vI (ld n:Int) /\ H'=[]):=by
 refine aau Tryz.func175 rfl mn (A:=[]) (Ts:=[]) rfl λ w0=>?_;refine ae 12 [] λ _=>aam ((n:Int) <= 1) 4 (λ h1=>?_) λ h1=>?_
 ·refine ae 6 [] λ _=>aaq [] [] [] (v:=vI 0) (H':=[]) ?_;exact⟨congrArg (λ x:Nat=>vI (x:Int)) (OO (by assumption)).symm,rfl⟩
 ·refine ai 8 [.nw] [bn ((n:Int)-1)] λ _=>aai (wH ((n:Int)-1) _)<|ae 3 [] λ _=>aaq [] [] [] (v:=vI (uS ((n:Int)-1))) (H':=[]) ?_;exact⟨congrArg vI (OP hl (by assumption)),rfl⟩
theorem Fa(i v:Int)(F:HL):Sp Tryz.prog 176 #[vI i,vI v] [] F (λ u H'=>u=.int .u64 (JA i v) /\ H'=[]):=by
 refine aau Tryz.func176 rfl mn (A:=[]) (Ts:=[]) rfl λ w0=>?_;refine ae 10 [] λ n1=>aak 0 (.rows 1 2 (aE [i,v]) 3 (0,0))<|aai (qR (⟨#[108,101,97,102]⟩) ([i,v]) (n1+0) 2 _ (by decide) (aaJ rfl) (aaJ rfl) (aw 0))<|ae 3 [] λ _=>?_;exact aaq [] [] [] ⟨rfl,rfl⟩
theorem Fb(a b:Int)(F:HL):Sp Tryz.prog 178 #[.int .u64 a,.int .u64 b] [] F (λ u H'=>u=.int .u64 (CY a b) /\ H'=[]):=by
 refine aau Tryz.func178 rfl mn (A:=[]) (Ts:=[]) rfl λ w0=>?_;refine ae 12 [] λ n1=>aak 0 (.rows 1 2 (aE [i64.wrap a,i64.wrap b]) 3 (0,0))<|aai (qR (⟨#[112,97,105,114]⟩) ([i64.wrap a,i64.wrap b]) (n1+0) 2 _ (by decide) (aaJ rfl) (aaJ rfl) (aw 0))<|ae 3 [] λ _=>?_;exact aaq [] [] [] ⟨rfl,rfl⟩
theorem JE(q c:Nat)(xs:List Int)(F:HL)(hq:(q,.rows 1 c (aE xs) 3 (0,0))∈F)(hc:xs.length <= c)(hl:xs.length <= 1000000):Sp Tryz.prog 143 #[vS q 0 xs.length c] (ap [] []) F (λ u H'=>∃x:Nat × Nat × Nat,H'=ap [(x.1,.lit [vI (ld xs.length:Int),vS x.2.1 0 xs.length xs.length,vS x.2.2 0 (2*wl xs.length) (2*wl xs.length)] 286 (0,0)),(x.2.1,.rows 1 xs.length (aE xs) 3 (0,0)),(x.2.2,.rows 1 (2*wl xs.length) (jj (uw xs (wl xs.length) (wl xs.length-1))) 129 (0,0))] [] /\ u=vP x.1 0):=by
 obtain⟨V0,We,hb3,hb4⟩:=Bi hl;have he:=QM hl;obtain⟨sz,D_⟩:∃sz,wl xs.length=sz:=⟨_,rfl⟩;rw[D_] at We hb3 hb4 he;refine aau Tryz.func143 rfl (mc hq mn) (A:=[]) (Ts:=[]) rfl λ w0=>?_;refine ae 9 [] λ _=>aai (Bk xs.length _ hl)<|ai 11 [.dv] [0 <= (ld xs.length:Int)] λ _=>aal [] []<|fW 4 (congrArg (λ v_=>(vI v_:Value)) he)<|aA [] [0,1,4,2,5] [.nw] [bn (2*(sz:Int))]<|jT (σ:=Nat × Nat × Nat) (λ ⟨n1,n2,n3⟩=>⟨[(0,vS q 0 xs.length c),(4,vI (sz:Int)),(5,vP (n3+0) 0)],[((n3+0),.lit [vI (ld xs.length:Int),vS (n1+0) 0 xs.length xs.length,vS (n2+0) 0 (2*sz) (2*sz)] 286 (0,0)),((n2+0),.rows 1 (2*sz) (kX [.int .u64 0]) 129 (0,0)),((n1+0),.rows 1 xs.length (kX [vI 0]) 3 (0,0))],[],True,0⟩) ?_ ?_
 ·rintro⟨n1,n2,n3⟩;refine ae 8 [.own 0] λ _=>RN.cpy (b:=(n1+0)) (n:=xs.length) (cap:=xs.length) (m:=xs.length) (c':=c) (a:=⟨q,0,none⟩) (T:=3) (t:=22) (tx:=22) (ty:=3) (g:=(kX [vI 0])) 2 (.rows 1 xs.length (aE xs) 3 (0,0)) (xs.map vI) (by simp) rfl OQ rfl (JC (aay _ hq) hc) (congrArg (λ l:List Value=>(Obj.cells ⟨l⟩ 3 (0,0))) (E9 xs rfl))<|ae 11 [] λ _=>aah 1 (congrArg (λ v_=>(.rows 1 (2*sz) v_ 129 (0,0):Blk)) (show (kX [.int .u64 0])=(jj (MZ xs sz 0)) from E7 xs sz))<|aao (σ:=Nat) (λ i=>⟨[(0,vS q 0 xs.length c),(4,vI (sz:Int)),(5,vP (n3+0) 0),(31,vS q 0 xs.length c),(32,vI (xs.length:Int)),(33,vI (i:Int))],[((n3+0),.lit [vI (ld xs.length:Int),vS (n1+0) 0 xs.length xs.length,vS (n2+0) 0 (2*sz) (2*sz)] 286 (0,0)),((n2+0),.rows 1 (2*sz) (jj (MZ xs sz i)) 129 (0,0)),((n1+0),.rows 1 xs.length (aE xs) 3 (0,0))],[],i <= xs.length,xs.length-i⟩) 0 [0,1,2] [] (aaL _) ?_;rintro i hI4 Xu;refine ae 6 [] λ _=>aam ((i:Int)<(xs.length:Int)) 34 (λ h6=>?_) λ h6=>?_
  ·refine ai 14 [.ix i,.rorow 0 i 0] [(0+i*1)=i*1+0 /\ i<c,(i:Int)=((i:Nat):Int) /\ i<xs.length] λ _=>aal [11] []<|aA [] [0,4,5,7,8,1,6,2,3] [.nw,.own 0] [bn ((sz:Int)+(i:Int))]<|aac [] 9 (λ X_=>(Fa (i:Int) (xs.getD i 0) _))<|aA [] [10] [.ix (sz+i)] [(sz:Int)+(i:Int)=(((sz+i):Nat):Int) /\ (sz+i)<(2*sz)]<|aae 11 (dM [] [.row 1 (sz+i) 0] [(0+(sz+i)*1)=(sz+i)*1+0 /\ (sz+i)<(2*sz)] λ _=>?_);refine aad<|ai 6 [.nw] [bn ((i:Int)+1)] λ _=>aah 1 (congrArg (λ v_=>(.rows 1 (2*sz) v_ 129 (0,0):Blk)) (show (cT (jj (MZ xs sz i)) (sz+i) 0 (.int .u64 (JA (i:Int) (xs.getD i 0))))=(jj (MZ xs sz (i+1))) from (r9 _ _ _))) ?_;refine Xu (i+1) [0,1,2] [] ?_
   try dsimp only
   exact⟨by omega,by omega⟩
  ·obtain rfl:i=xs.length:=by omega
   refine ae 8 [] λ _=>aai (JD (⟨#[101,109,112,116,121]⟩) _ (by decide))<|ae 12 [] λ _=>aah 1 (congrArg (λ v_=>(.rows 1 (2*sz) v_ 129 (0,0):Blk)) (show (jj (MZ xs sz xs.length))=(jj (Kk xs sz (xs.length-xs.length))) from (by rw[Nat.sub_self];rfl)))<|aao (σ:=Nat) (λ j=>⟨[(4,vI (sz:Int)),(5,vP (n3+0) 0),(8,.int .u64 (uX (⟨#[101,109,112,116,121]⟩) [])),(9,vI (j:Int))],[((n3+0),.lit [vI (ld xs.length:Int),vS (n1+0) 0 xs.length xs.length,vS (n2+0) 0 (2*sz) (2*sz)] 286 (0,0)),((n2+0),.rows 1 (2*sz) (jj (Kk xs sz (j-xs.length))) 129 (0,0)),((n1+0),.rows 1 xs.length (aE xs) 3 (0,0))],[],xs.length <= j /\ j <= sz,sz-j⟩) xs.length [0,1,2] [] (⟨aaK _,by omega⟩) ?_;rintro j ⟨hj_,akZ⟩ Za;refine ae 8 [] λ _=>aam ((j:Int)<(sz:Int)) 55 (λ h9=>?_) λ h9=>?_
   ·refine ai 24 [.own 0,.nw,.ix (sz+j),.row 1 (sz+j) 0,.nw] [bn ((j:Int)+1),(0+(sz+j)*1)=(sz+j)*1+0 /\ (sz+j)<(2*sz),(sz:Int)+(j:Int)=(((sz+j):Nat):Int) /\ (sz+j)<(2*sz),bn ((sz:Int)+(j:Int))] λ _=>aah 1 (congrArg (λ v_=>(.rows 1 (2*sz) v_ 129 (0,0):Blk)) (show (cT (jj (Kk xs sz (j-xs.length))) (sz+j) 0 (.int .u64 (uX (⟨#[101,109,112,116,121]⟩) [])))=(jj (Kk xs sz (j+1-xs.length))) from (by rw[r9,<- Me (by omega)];rfl))) ?_;refine Za (j+1) [0,1,2] [] ?_
    try dsimp only
    exact⟨⟨by omega,by omega⟩,by omega⟩
   ·obtain rfl:sz=j:=by omega
    refine ai 15 [.nw] [bn ((sz:Int)-1)] λ _=>aah 1 (congrArg (λ v_=>(.rows 1 (2*sz) v_ 129 (0,0):Blk)) (show (jj (Kk xs sz (sz-xs.length)))=(jj (uw xs sz (sz-1-(sz-1)))) from (by rw[Nat.sub_self];rfl)))<|aK 10 (congrArg (λ v_=>(vI v_:Value)) (show (sz:Int)-1=((sz-1:Nat):Int) by omega))<|aao (σ:=Nat) (λ k=>⟨[(5,vP (n3+0) 0),(10,vI (k:Int))],[((n3+0),.lit [vI (ld xs.length:Int),vS (n1+0) 0 xs.length xs.length,vS (n2+0) 0 (2*sz) (2*sz)] 286 (0,0)),((n2+0),.rows 1 (2*sz) (jj (uw xs sz (sz-1-k))) 129 (0,0)),((n1+0),.rows 1 xs.length (aE xs) 3 (0,0))],[],k+1 <= sz,k⟩) (sz-1) [0,1,2] [] (by omega) ?_;rintro k alP Ws;refine ae 7 [] λ _=>aam ((k:Int) >= 1) 70 (λ SO=>?_) λ SO=>?_
    ·refine ae 5 [] λ _=>aal [24] []<|aA [] [0,4,5,9,13,17,1,6,10,14,18,2,7,15,19,3,8,16,11,20,12,21] [.nw,.nw,.nw,.own 0,.own 0,.own 0,.ix (2*k),.ix (2*k+1),.row 1 (2*k) 0,.row 1 (2*k+1) 0] [(0+(2*k+1)*1)=(2*k+1)*1+0 /\ (2*k+1)<(2*sz),(0+(2*k)*1)=(2*k)*1+0 /\ (2*k)<(2*sz),(2*(k:Int))+1=(((2*k+1):Nat):Int) /\ (2*k+1)<(2*sz),2*(k:Int)=(((2*k):Nat):Int) /\ (2*k)<(2*sz),bn ((2*(k:Int))+1),bn (2*(k:Int)),bn (2*(k:Int))]<|aac [] 22 (λ X_=>(Fb ((uw xs sz (sz-1-k)) (2*k)) ((uw xs sz (sz-1-k)) (2*k+1)) _))<|aA [] [23] [.ix k] [(k:Int)=((k:Nat):Int) /\ k<(2*sz)]<|aae 24 (dM [] [.row 1 k 0] [(0+k*1)=k*1+0 /\ k<(2*sz)] λ _=>?_);refine aad<|ai 7 [.nw] [bn ((k:Int)-1)] λ _=>aah 1 (congrArg (λ v_=>(.rows 1 (2*sz) v_ 129 (0,0):Blk)) (show (cT (jj (uw xs sz (sz-1-k))) k 0 (.int .u64 (CY ((uw xs sz (sz-1-k)) (2*k)) ((uw xs sz (sz-1-k)) (2*k+1)))))=(jj (uw xs sz (sz-1-(k-1)))) from (by rw[r9,Mf (by omega) (by omega)])))<|aK 10 (congrArg (λ v_=>(vI v_:Value)) (show (k:Int)-1=((k-1:Nat):Int) by omega)) ?_;refine Ws (k-1) [0,1,2] [] ?_
     try dsimp only
     exact⟨by omega,by omega⟩
    ·obtain rfl:k=0:=by omega
     refine ae 12 [] λ _=>aaq [] [0,2,1] [] (v:=vP (n3+0) 0) (H':=[((n3+0),.lit [vI (ld xs.length:Int),vS (n1+0) 0 xs.length xs.length,vS (n2+0) 0 (2*sz) (2*sz)] 286 (0,0)),((n1+0),.rows 1 xs.length (aE xs) 3 (0,0)),((n2+0),.rows 1 (2*sz) (jj (uw xs sz (sz-1-0))) 129 (0,0))]) ?_;subst D_;exact⟨(_,_,_),rfl,rfl⟩
 ·intro Yu;refine fG 3 6 ?_ ?_
  ·refine dM [] [.mk xs.length xs.length] [(xs.length:Int)=((xs.length:Nat):Int) /\ (xs.length:Int)=((xs.length:Nat):Int) /\ xs.length <= xs.length /\ 8*xs.length <= 140737488355328 /\ 1=1 /\ xs.length <= 9223372036854775807] λ n14=>aae 6 (dM [] [.mk (2*sz) (2*sz)] [2*(sz:Int)=(((2*sz):Nat):Int) /\ 2*(sz:Int)=(((2*sz):Nat):Int) /\ (2*sz) <= (2*sz) /\ 8*(2*sz) <= 140737488355328 /\ 1=1 /\ (2*sz) <= 9223372036854775807] λ n15=>?_);refine aae 7 (aag [] [] λ _=>?_);refine aae 8 (aag [] [] λ n16=>?_);refine aae 9 (aag [] [] λ _=>?_);exact Yu ⟨n14,n15,n16⟩ [0,1,2] []
  ·refine dM [] [.mk (2*sz) (2*sz)] [2*(sz:Int)=(((2*sz):Nat):Int) /\ 2*(sz:Int)=(((2*sz):Nat):Int) /\ (2*sz) <= (2*sz) /\ 8*(2*sz) <= 140737488355328 /\ 1=1 /\ (2*sz) <= 9223372036854775807] λ n17=>aae 3 (dM [] [.mk xs.length xs.length] [(xs.length:Int)=((xs.length:Nat):Int) /\ (xs.length:Int)=((xs.length:Nat):Int) /\ xs.length <= xs.length /\ 8*xs.length <= 140737488355328 /\ 1=1 /\ xs.length <= 9223372036854775807] λ n18=>?_);refine aae 7 (aag [] [] λ _=>?_);refine aae 8 (aag [] [] λ Yq=>?_);refine aae 9 (aag [] [] λ _=>?_);exact Yu ⟨n18,n17,Yq⟩ [0,2,1] []
theorem Fc(t cb nb n c:Nat)(h:Int)(f:Nat -> Int)(F:HL)(ht:(t,.lit [vI h,vS cb 0 n n,vS nb 0 c c] 286 (0,0))∈F)(hn:(nb,.rows 1 c (jj f) 129 (0,0))∈F)(hc:2 <= c):Sp Tryz.prog 144 #[vP t 0] [] F (λ u H'=>u=.int .u64 (f 1) /\ H'=[]):=by
 refine aau Tryz.func144 rfl (mc ht (mc hn mn)) (A:=[]) (Ts:=[]) rfl λ w0=>?_;refine ai 16 [.ro 0,.ix 1,.rorow 1 1 0] [(0+1*1)=1*1+0 /\ 1<c,1=((1:Nat):Int) /\ 1<c] λ _=>?_;exact aaq [] [] [] ⟨rfl,rfl⟩
theorem Fd(q c:Nat)(xs:List Int)(F:HL)(hq:(q,.rows 1 c (aE xs) 3 (0,0))∈F)(hc:xs.length <= c)(hl:xs.length <= 1000000):Sp Tryz.prog 119 #[vS q 0 xs.length c] [] F (λ u H'=>u=.int .u64 (kW xs) /\ H'=[]):=by
 refine aau Tryz.func119 rfl (mc hq mn) (A:=[]) (Ts:=[]) rfl λ w0=>?_;refine ae 8 [] λ _=>aaj (Hp:=[]) (Tp:=[]) [] [] (JE q c xs _ (au hq) hc hl) ?_;rintro _ ⟨t1,c2,n3⟩ rfl;refine aai (Fc t1 c2 n3 xs.length (2*wl xs.length) (ld xs.length) (uw xs (wl xs.length) (wl xs.length-1)) _ (aw 0) (aw 2) (by have:=(Bi hl).2.2.1;omega))<|ae 3 [] λ _=>?_;exact aaq [] [] [] ⟨rfl,rfl⟩
def J2(tk:Int)(j1 j2 i:Nat):Nat × Int:=if tk>(i:Int) then (j1,0) else (j2,1)
theorem ux{tk:Int}{j1 j2 bp:Nat}{TB F:HL}(hB:Book2 tk j1 j2 bp TB)(hT:∀x∈TB,x∈F)(Vp:j1<5)(Ud:j2<5){t:Nat}{v:Int}(e:v=(t:Int)):(J2 tk j1 j2 t).1<5 /\ AtOk F bp v (J2 tk j1 j2 t):=by
 subst e;refine⟨?_,hB.at hT Vp Ud _ (by omega)⟩;unfold J2;split
 ·exact Vp
 ·exact Ud
theorem TE2.cs{S:Setup}{t:Int}{M N:MemS}(h:M.cs=N.cs)(hT:TE2 S t M):TE2 S t N:=by
 have hg:∀k,N.get k=M.get k:=λ k=>by unfold MemS.get;rw[h]
 exact⟨by rw[<- h];exact hT.len,λ k h1 h2=>by rw[hg];exact hT.z k h1 h2,by rw[hg];exact hT.t0⟩
theorem RwsIn.take{F:HL}{rs:List Rw}{xss:List (List Inp)}(h:RwsIn F rs xss)(k:Nat):RwsIn F (rs.take k) (xss.take k):=by
 refine⟨by rw[aaQ,aaQ,h.len],λ i hi=>?_⟩;rw[aaQ] at hi;have e1:(xss.take k).getD i []=xss.getD i []:=by rw[aaI,aaI,aa7,if_pos (by omega)]
 have e2:(rs.take k).getD i gD.dflt=rs.getD i gD.dflt:=by rw[aaI,aaI,aa7,if_pos (by omega)]
 rw[e1,e2];exact h.row i (by omega)
theorem RwsIn.drop{F:HL}{rs:List Rw}{xss:List (List Inp)}(h:RwsIn F rs xss)(k:Nat):RwsIn F (rs.drop k) (xss.drop k):=by
 refine⟨by rw[aaR,aaR,h.len],λ i hi=>?_⟩;rw[aaR] at hi;have e1:(xss.drop k).getD i []=xss.getD (k+i) []:=by rw[aaI,aaI,aa6]
 have e2:(rs.drop k).getD i gD.dflt=rs.getD (k+i) gD.dflt:=by rw[aaI,aaI,aa6]
 rw[e1,e2];exact h.row (k+i) (by omega)
abbrev wm(tk:Int)(j1 j2 t:Nat):Nat -> Nat × Int:=λ i=>J2 tk j1 j2 (t+i)
def Setup.std(S:Setup):Setup:={ S with bo:=0,bods:=jA S }
theorem jO(S:Setup):SetEq S S.std:=⟨⟨rfl,rfl,rfl,rfl,rfl,rfl,rfl,rfl,rfl,rfl,rfl,rfl⟩,λ k hk=>⟨(S.body k).sh.A,(S.body k).sh.cap,by
 show (jA S).getD (0+k) dB=_;rw[Nat.zero_add,iJ hk];rfl⟩,rfl,fP S⟩
def WS(S:Setup)(J:Nat -> Nat × Int)(xss:List (List Inp))(i:Nat):List Int:=(zt (rG S.std J xss) ⟨cV S S.nb,[],0⟩ i).cs
theorem SetEq.refl0{S S2:Setup}(h:SetEq S S2)(J:Nat -> Nat × Int)(xss:List (List Inp)):∀k,GEq (rG S.std J xss k) (rG S2 J xss k):=QJ (jO S) h J xss
section
variable {S S2:Setup} {J:Nat -> Nat × Int} {xss:List (List Inp)} {n:Nat}
theorem sa(hV:SetV S)(he:SetEq S S2)(hn:n <= 50)(q_:∀i,i<n -> RowOk S.players (xss.getD i [])){i:Nat}(hi:i <= n):TE2 S2 (i:Int) ⟨WS S J xss i,[],0⟩:=by
 have h:=Ju (he.setV hV) (Jw hV he) (xss:=xss) J n hn (λ i hi=>by rw[he.pl];exact q_ i hi) i hi;exact TE2.cs (show (zt (rG S2 J xss) _ i).cs=(⟨WS S J xss i,[],0⟩:MemS).cs by rw[<- Bh (he.refl0 J xss)];rfl) h
theorem CZ(hV:SetV S)(he:SetEq S S2)(hn:n <= 50)(q_:∀i,i<n -> RowOk S.players (xss.getD i [])){i:Nat}(hi:i<n):TkOk S2 (J i) (xss.getD i []) ⟨WS S J xss i,[],0⟩:=by
 have h:=QK (he.setV hV) (Jw hV he) (xss:=xss) J n hn (λ i hi=>by rw[he.pl];exact q_ i hi) i hi;exact TkOk.cs (show (zt (rG S2 J xss) _ i).cs=(⟨WS S J xss i,[],0⟩:MemS).cs by rw[<- Bh (he.refl0 J xss)];rfl) h
theorem qC(he:SetEq S S2)(i:Nat):WS S J xss (i+1)=(iq (oD S2 (J i) (xss.getD i [])) ⟨WS S J xss i,[],0⟩).cs:=by
 unfold WS;rw[zt,Ah (he.refl0 J xss i)];exact oS _ rfl
theorem vY(hV:SetV S)(he:SetEq S S2)(hn:n <= 50)(q_:∀i,i<n -> RowOk S.players (xss.getD i [])){i:Nat}(hi:i <= n):((WS S J xss i).length:Int)=sizeOf S:=by
 have h:=(sa (J:=J) hV he hn q_ hi).len;rw[he.size] at h;exact h
theorem uy{α:Type}{l:List α}{i:Nat}(h:i<l.length)(d:α):l.take (i+1)=l.take i++[l.getD i d]:=by
 rw[List.take_add_one,aaT h,aaI,aaT h];rfl
end
theorem C0{G G':Nat -> Gm}{M:MemS}:∀k,(∀i,i<k -> G i=G' i) -> zt G M k=zt G' M k
 | 0,_=>rfl
 | k+1,h=>by rw[zt,zt,C0 k λ i hi=>h i (by omega),h k (by omega)]
theorem C1(S:Setup)(J:Nat -> Nat × Int)(xss:List (List Inp))(k:Nat):WS S J (xss.take k) k=WS S J xss k:=by
 unfold WS;refine congrArg MemS.cs (C0 k λ i hi=>?_);show oD _ _ _=oD _ _ _;rw[show (xss.take k).getD i []=xss.getD i [] by rw[aaI,aaI,aa7,if_pos hi]]
def vZ(pl:Nat)(rows:List (List Inp)):List Inp:=match rows.getLast? with
 | none=>List.replicate pl dI
 | some r=>r.map kf
def ii(pl Tf:Nat)(rows:List (List Inp))(loc:Int -> Option Inp)(t:Nat):List Inp :=
 if t<rows.length then rows.getD t [] else match loc (t:Int) with
 | none=>vZ pl rows
 | some x=>(vZ pl rows).set Tf x
theorem Ff:gl dI:=by decide
theorem JF{x:Inp}(h:gl x):gl (kf x):=by
 obtain⟨h1,h2,h3⟩:=h;exact⟨h1,h2,by show ¬ (0:Int)<0;decide,by show ¬ (0:Int)>3;decide⟩
theorem sc{pl:Int}{r:List Inp}(h1:(r.length:Int)=pl)(h2:∀x∈r,gl x):RowOk pl r:=⟨h1,λ k hk=>h2 _ (jC hk _)⟩
theorem RowOk.mem{pl:Int}{r:List Inp}(h:RowOk pl r):∀x∈r,gl x:=λ x hx=>by
 obtain⟨i,hi,rfl⟩:=List.mem_iff_getElem.1 hx;have:=h.2 i hi;rwa [aaI,aaT hi] at this
theorem C2{pl:Nat}{rows:List (List Inp)}(h:∀r∈rows,RowOk pl r):RowOk pl (vZ pl rows):=by
 unfold vZ;split
 ·exact sc (by simp) (λ x hx=>by rw[(List.mem_replicate.1 hx).2];exact Ff)
 ·next r hr =>
  have h1:=h r (List.mem_of_getLast? hr);refine sc (by rw[List.length_map];exact h1.1) λ x hx=>?_;obtain⟨y,hy,rfl⟩:=List.mem_map.1 hx;exact JF (h1.mem y hy)
theorem C3{pl Tf:Nat}{rows:List (List Inp)}{loc:Int -> Option Inp}(h:∀r∈rows,RowOk pl r)(hk:∀t x,loc t=some x -> gl x)(t:Nat):RowOk pl (ii pl Tf rows loc t):=by
 unfold ii;split
 ·next ht=>exact h _ (jC ht _)
 ·split
  ·exact C2 h
  ·next x hx =>
   have hb:=C2 h;refine sc (by rw[List.length_set];exact hb.1) λ y hy=>?_;rcases List.mem_or_eq_of_mem_set hy with h1|rfl
   ·exact hb.mem y h1
   ·exact hk _ _ hx
theorem uz{pl Tf:Nat}{rows:List (List Inp)}{loc:Int -> Option Inp}{t:Nat}(h:t<rows.length):rows[t]?=some (ii pl Tf rows loc t):=by
 unfold ii;rw[if_pos h,aaI,aaT h];rfl
def gP(S:Setup)(J:Nat -> Nat × Int):Nat -> List Inp -> Gm:=λ t xs=>oD S.std (J t) xs
theorem JG(S:Setup)(J:Nat -> Nat × Int)(V:List (List Inp)):∀n,n <= V.length -> Bd (gP S J) 0 (cV S S.nb) (V.take n)=WS S J V n
 | 0,_=>rfl
 | n+1,h=>by
  have hl:(V.take n).length=n:=by rw[aaQ];omega
  rw[uy (by omega) [],rZ,hl,JG S J V n (by omega),qC (jO S) n,Nat.zero_add];rfl
theorem Bl(S:Setup)(J:Nat -> Nat × Int)(V:List (List Inp)):Bd (gP S J) 0 (cV S S.nb) V=WS S J V V.length:=by
 have h:=JG S J V V.length (aaK _);rwa [List.take_length] at h
section
variable {ρ:Type} {g:Nat -> ρ -> Gm} {c0:List Int} {w m:Nat} {P:PS ρ} {V:List ρ}
theorem PInv.far(h:PInv g c0 w P V m):V.length <= m+w:=by
 have h1:=h.room;rcases h.ring with ⟨_,e⟩|⟨e,h2⟩
 ·rw[e];simp
 ·have h3:=h.back e;omega
theorem PInv.len_cs(h:PInv g c0 w P V m):P.effs.length=V.length:=by rw[h.effs,CP]
end
section
variable {S S2:Setup} {J:Nat -> Nat × Int} {w m:Nat} {P:PS (List Inp)} {V:List (List Inp)}
theorem PInv.ws(h:PInv (gP S J) (cV S S.nb) w P V m):P.M.cs=(⟨WS S J V V.length,[],0⟩:MemS).cs:=by rw[h.cs,Bl]
theorem PInv.te(h:PInv (gP S J) (cV S S.nb) w P V m)(hV:SetV S)(he:SetEq S S2)(hn:V.length <= 50)(hr:∀r∈V,RowOk S.players r):TE2 S2 (V.length:Int) P.M :=
 TE2.cs h.ws.symm (sa hV he (n:=V.length) hn (λ i hi=>hr _ (jC hi _)) (aaK _))
theorem C4{i:Nat}(r:List Inp)(hi:i <= V.length):WS S J (V++[r]) i=WS S J V i:=by
 rw[<- C1 S J (V++[r]) i,List.take_append_of_le_length hi,C1]
theorem PInv.tk(h:PInv (gP S J) (cV S S.nb) w P V m)(hV:SetV S)(he:SetEq S S2)(hn:V.length<50)(hr:∀r∈V,RowOk S.players r){r:List Inp}(h1:RowOk S.players r):TkOk S2 (J V.length) r P.M:=by
 have h2:=CZ (J:=J) (xss:=V++[r]) hV he (n:=V.length+1) (by omega) (λ i hi=>by
  refine(show ∀x∈V++[r],RowOk S.players x from λ x hx=>?_) _ (jC (by simpa using hi) _);rcases List.mem_append.1 hx with hx|hx
  ·exact hr x hx
  ·rw[List.mem_singleton.1 hx];exact h1) (i:=V.length) (by omega)
 rw[C4 r (aaK _),fQ,if_neg (by omega),if_pos rfl] at h2;exact h2.cs h.ws.symm
theorem Mg(he:SetEq S S2)(t:Nat)(r:List Inp)(M:MemS):iq (oD S2 (J t) r) M=iq (gP S J t r) M:=Ah (vX (he.nm2 (jO S)) _ _ _) M
theorem Mh(he:SetEq S S2)(t:Nat)(r:List Inp)(M:MemS):pX (oD S2 (J t) r) M=pX (gP S J t r) M:=NS (vX (he.nm2 (jO S)) _ _ _) M
end
theorem Sp.fr{P:Program}{f:FuncId}{args:Array Value}{H H2 X F:HL}{R R2:Value -> HL -> Prop}(hp:H2.Perm (H++X))(h:Sp P f args H (X++F) R)(hr:∀u Y,R u Y -> ∃H',R2 u H' /\ H'.Perm (Y++X)):Sp P f args H2 F R2:=λ w hR =>
 (h w (by rw[<- aaH];exact hR.perm (hp.symm.append_right F))).mono λ e w' ⟨v,Y,h1,h2,h3,h4⟩=>by
  obtain⟨H',h5,h6⟩:=hr v Y h2;exact⟨v,H',h1,h5,(by rw[<- aaH] at h3;exact h3.perm (h6.append_right F)),h4⟩
inductive GameX(rs:List Bx)(ds:List Dr)(bp gb mb:Nat)(S:Setup)(M:MemS)(k:Nat):HL -> Prop
 | mk (T U:HL) (hM:MemH mb M k T) (hU:rq S rs ds U):GameX rs ds bp gb mb S M k (ap [(gb,.lit (dD S bp mb) 121 (0,0))] [T,U])
section
variable {rs:List Bx} {ds:List Dr} {bp gb mb:Nat} {S:Setup} {M:MemS} {k:Nat} {G0:HL}
theorem GameH.x(h:GameH rs ds bp gb S M k G0):∃mb,GameX rs ds bp gb mb S M k G0:=by
 cases h with
 | mk mb T U hM hU=>exact⟨mb,.mk T U hM hU⟩
theorem GameX.h(h:GameX rs ds bp gb mb S M k G0):GameH rs ds bp gb S M k G0:=by
 cases h with
 | mk T U hM hU=>exact .mk mb T U hM hU
theorem GameX.weak(h:GameX rs ds bp gb mb S M k G0){k':Nat}(hk:k' <= k):GameX rs ds bp gb mb S M k' G0:=by
 cases h with
 | mk T U hM hU=>exact .mk T U (hM.weak hk) hU
theorem GameX.mem(h:GameX rs ds bp gb mb S M k G0):∃T,MemH mb M k T /\ ∀x∈T,x∈G0:=by
 cases h with
 | mk T U hM hU=>exact⟨T,hM,λ x hx=>by simp[ap,hx]⟩
theorem uB(h:GameX rs ds bp gb mb S M k G0){F:HL}(hF:∀x∈G0,x∈F):Sp Tryz.prog 55 #[vP gb 0] [] F (λ u H'=>u=vP mb 0 /\ H'=[]):=by
 cases h with
 | mk T U hM hU=>exact HF S bp gb mb F (hF _ (by simp[ap]))
theorem v6(h:GameX rs ds bp gb mb S M k G0){F:HL}(hF:∀x∈G0,x∈F):Sp Tryz.prog 56 #[vP mb 0] (ap [] []) F (λ u H'=>∃q,H'=ap [(q,.rows 1 M.cs.length (aE M.cs) 3 (0,0))] [] /\ u=vS q 0 M.cs.length M.cs.length):=by
 obtain⟨T,hM,hT⟩:=h.mem;exact Er mb M k T F hM λ x hx=>hF x (hT x hx)
end
theorem yW{rs:List Bx}{ds:List Dr}{S:Setup}{bp gb mb b o N c k:Nat}{j:Nat × Int}{full xs:List Inp}{M:MemS}{G0 F:HL}(hG:GameX rs ds bp gb mb S M (k+20000) G0)(hj:j.1<5)(hA:AtOk F bp (M.get 0) j)(hE:cM F)(hI:(b,.rows 3 N (js full) 40 (0,0))∈F)(hir:o+xs.length <= N)(UB:xs.length <= 1000000)(hx:∀k,k<xs.length -> full.getD (o+k) dI=xs.getD k dI)(hk:TkOk S j xs M) :
  Sp Tryz.prog 57 #[vP gb 0,vS b (o*3) xs.length c] (ap [] [G0]) F (λ u H'=>∃x:(Option Addr × Nat × Nat) × HL × HL,H'=ap [] [x.2.1,x.2.2] /\ (GameX rs ds bp gb mb S (iq (oD S j xs) M) k x.2.1 /\ SlIs sH 111 (pX (oD S j xs) M) x.1.1 x.1.2.1 x.2.2 /\ u=.tuple #[.slice x.1.1 (pX (oD S j xs) M).length x.1.2.1,vI ((x.1.2.2+1:Nat):Int),vI 0])):=by
 obtain⟨m,hm,hg⟩:=hk.ex;obtain⟨e1,e2⟩:=MS hm hg;cases hG with
 | mk T U hM hU =>
  rw[aU];refine(I1 S rs ds bp gb mb b o N xs.length c m k j full xs M T U F hj hA hU hE hI hir UB (by omega) rfl hx (hM.weak (by omega)) hk.now hg hk.ok).mono λ u H' h=>?_;obtain⟨x,rfl,h1,h2,h3⟩:=h;rw[e1] at h1;rw[e2] at h2 h3;exact⟨((x.2.1,x.2.2.1,m),ap [(gb,.lit (dD S bp mb) 121 (0,0))] [x.1,U],x.2.2.2),by simp[ap],.mk x.1 U h1 hU,h2,h3⟩
theorem OS{rs:List Bx}{ds:List Dr}{bp gb mb:Nat}{S:Setup}{M:MemS}{k:Nat}{G0:HL}(h:GameX rs ds bp gb mb S M k G0){F:HL}(hF:∀x∈G0,x∈F)(hb:0 <= M.base /\ M.base <= 1000000000):Sp Tryz.prog 59 #[vP mb 0] [] F (λ u H'=>u=vI (M.base+(M.lg.length:Int)) /\ H'=[]):=by
 obtain⟨T,hM,hT⟩:=h.mem;exact Bc hM (λ x hx=>hF x (hT x hx)) hb
theorem QN{rs:List Bx}{ds:List Dr}{bp gb mb:Nat}{S:Setup}{M:MemS}{k:Nat}{G0:HL}(h:GameX rs ds bp gb mb S M k G0)(F:HL){k2:Nat}(hk:k2 <= 100000000)(hb:0 <= M.base /\ M.base <= 1000000000):Sp Tryz.prog 58 #[vP mb 0,vI (M.base+(M.lg.length:Int))] (ap [] [G0]) F (λ u H'=>∃x,H'=ap [] [x] /\ (u=vI 0 /\ GameX rs ds bp gb mb S ⟨M.cs,[],M.base+(M.lg.length:Int)⟩ k2 x)):=by
 cases h with
 | mk T U hM hU =>
  have h1:=I5 (k2:=k2) ([(gb,Blk.lit (dD S bp mb) 121 (0,0))]++(U++F)) hM hb hk;refine Sp.fr (X:=[(gb,Blk.lit (dD S bp mb) 121 (0,0))]++U) ?_ (F:=F) (by rw[aaH];exact h1) ?_
  ·rw[aU,aU];show (([(gb,Blk.lit (dD S bp mb) 121 (0,0))]++[T,U].flatten)).Perm _;simp only[aa2,List.flatten_nil,List.append_nil];exact(List.perm_append_comm_assoc _ _ _)
  ·rintro u Y ⟨x,rfl,rfl,h4⟩;refine⟨ap [(gb,Blk.lit (dD S bp mb) 121 (0,0))] [x,U],⟨_,(aU _).symm,rfl,.mk x U h4 hU⟩,?_⟩;rw[aU];show (([(gb,Blk.lit (dD S bp mb) 121 (0,0))]++[x,U].flatten)).Perm _;simp only[aa2,List.flatten_nil,List.append_nil];exact(List.perm_append_comm_assoc _ _ _)
section
variable {r:Option Nat} {P:Program} {N:Nat} {D:List Deferred} {F:HL} {w0:World} {R:HL} {s:Cfg} {Q:Exit -> Act -> World -> Prop} {hards:List Nat} {Rd:HL}
def obC(p:Nat)(O:Obj)(s:Cfg):Cfg:=match s with
 | ⟨c,k,L,A,Ts⟩=>⟨c,k,L,match A[p]? with|some x=>bm A p (x.1,.obj O)|none=>A,Ts⟩
end
end Go.Proofs.YtdppjkjbghbnjaaGreatDoor
