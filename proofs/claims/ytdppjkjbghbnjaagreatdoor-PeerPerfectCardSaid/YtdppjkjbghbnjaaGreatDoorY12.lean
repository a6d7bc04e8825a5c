import Derived.Test.YtdppjkjbghbnjaaGreatDoorY11
set_option maxHeartbeats 4000000
set_option maxRecDepth 100000
set_option linter.all false
namespace Go.Proofs.YtdppjkjbghbnjaaGreatDoor
open IntKind
open Go.RowKit
structure SetV(S:Setup):Prop where
 pl:1 <= S.players /\ S.players <= 3
 nb:1 <= S.nb /\ S.nb <= 5
 ro:1 <= S.rounds /\ S.rounds <= 3
 fu:0 <= S.fuel /\ S.fuel <= 60
theorem aW(M:MemS)(i v:Int):(M.set i v).cs.length=M.cs.length:=by
 unfold MemS.set;split <;> simp
theorem bK{M:MemS}{i v j:Int}(h:j≠i):(M.set i v).get j=M.get j:=by
 unfold MemS.set;split
 ·next hi =>
  unfold MemS.get;simp only[List.length_set];split
  ·next hj =>
   rw[List.getD_eq_getElem?_getD,List.getD_eq_getElem?_getD,List.getElem?_set_ne (by omega)]
  ·rfl
 ·rfl
theorem kP{M:MemS}{i v:Int}(h:0 <= i /\ i<M.cs.length):(M.set i v).get i=v:=by
 unfold MemS.set;rw[if_pos h];unfold MemS.get;simp only[List.length_set];rw[if_pos h,List.getD_eq_getElem?_getD,List.getElem?_set_self (by omega)];rfl
theorem cm{M:MemS}{i v:Int}(h:48 <= M.cs.length)(h0:0 <= i)(h1:i<48)(j:Int):(M.set i v).get j=if j=i then v else M.get j:=by
 by_cases e:j=i
 ·rw[if_pos e,e,kP (by omega)]
 ·rw[if_neg e,bK e]
theorem qy{S:Setup}(hp:0 <= S.players)(k:Int):af S k=-1 \/ (0 <= k /\ k<S.nb /\ af S k=48+4*S.players+8*k):=by
 unfold af;split
 ·exact .inl rfl
 ·split
  ·exact .inl rfl
  ·exact .inr ⟨by omega,by omega,rfl⟩
theorem xg{S:Setup}(k:Int):(aj S k=-1 /\ (k<0 \/ S.players <= k)) \/ (0 <= k /\ k<S.players /\ aj S k=48+4*k):=by
 unfold aj;split
 ·exact .inl ⟨rfl,by omega⟩
 ·split
  ·exact .inl ⟨rfl,by omega⟩
  ·exact .inr ⟨by omega,by omega,rfl⟩
structure Hi(P:Int)(M M':MemS):Prop where
 len:M'.cs.length=M.cs.length
 get:∀j,j<48+4*P -> M'.get j=M.get j
theorem Hi.refl{P:Int}{M:MemS}:Hi P M M:=⟨rfl,λ _ _=>rfl⟩
theorem Hi.set{P:Int}{A M:MemS}(h:Hi P A M){k:Int}(hk:48+4*P <= k)(v:Int):Hi P A (M.set k v):=⟨(aW _ _ _).trans h.len,λ j hj=>(bK (by omega)).trans (h.get j hj)⟩
theorem Hi.setB{S:Setup}(hp:0 <= S.players){A M:MemS}(h:Hi S.players A M){k c:Int}(hb:af S k >= 0)(hc:0 <= c)(v:Int):Hi S.players A (M.set (af S k+c) v):=by
 rcases qy hp k with e|⟨h0,h1,e⟩
 ·omega
 ·exact h.set (by omega) v
structure Kp(P:Int)(M M':MemS):Prop where
 len:M'.cs.length=M.cs.length
 get:∀j,j <= 5 \/ (48 <= j /\ j<48+4*P) -> M'.get j=M.get j
theorem Kp.refl{P:Int}{M:MemS}:Kp P M M:=⟨rfl,λ _ _=>rfl⟩
theorem Kp.set{P:Int}{A M:MemS}(h:Kp P A M){k:Int}(hk:5<k /\ (k<48 \/ 48+4*P <= k))(v:Int):Kp P A (M.set k v):=⟨(aW _ _ _).trans h.len,λ j hj=>(bK (by omega)).trans (h.get j hj)⟩
theorem Kp.trans{P:Int}{A B C:MemS}(h:Kp P A B)(h':Kp P B C):Kp P A C:=⟨h'.len.trans h.len,λ j hj=>(h'.get j hj).trans (h.get j hj)⟩
structure Ef(M:MemS)(r:VR):Prop where
 yes:r.em=true -> r.e.t=M.get 0 /\ r.e.i=M.get 11 /\ M.get 11<40 /\ r.M.get 11=M.get 11+1
 no:r.em=false -> r.M.get 11=M.get 11
theorem SQ{op:Int}(h:1 <= op /\ op <= 21):(0 <= eP op /\ eP op <= 2) /\ (0 <= eQ op /\ eQ op <= 1):=by
 obtain⟨n,rfl⟩:=Int.eq_ofNat_of_zero_le (show 0 <= op by omega);have hn:n<22:=by omega
 have key:∀n:Fin 22,(0 <= (pZ.getD n.1 (0,0,0)).1 /\ (pZ.getD n.1 (0,0,0)).1 <= 2) /\ (0 <= (pZ.getD n.1 (0,0,0)).2.1 /\ (pZ.getD n.1 (0,0,0)).2.1 <= 1):=by decide
 exact key ⟨n,hn⟩
theorem Lg{op n sp:Int}(h:fU op n sp=true):(1 <= op /\ op <= 21) /\ sp <= 16 /\ eP op <= sp /\ ¬ bz (bz (sp-eP op)+eQ op)>16 /\ (eN op=0 \/ (0 <= n /\ n<eN op)):=by
 unfold fU at h;split at h
 ·cases h
 split at h
 ·cases h
 split at h
 ·cases h
 split at h
 ·cases h
 split at h
 ·cases h
 refine⟨by omega,by omega,by omega,by assumption,?_⟩;split at h
 ·left;assumption
 ·split at h
  ·right;exact⟨by omega,of_decide_eq_true h⟩
  ·cases h
theorem Nw{M:MemS}{P k v:Int}(hl:48 <= M.cs.length)(h0:0 <= M.get 11 /\ M.get 11 <= 40):Kp P M (da k v M).M /\ (da k v M).M.get 8=M.get 8 /\ Ef M (da k v M):=by
 unfold da;split
 ·exact⟨.refl,rfl,⟨λ h=>by simp at h,λ _=>rfl⟩⟩
 ·refine⟨((Kp.refl).set (by omega) _).set (by omega) _,?_,⟨λ _=>⟨rfl,rfl,by omega,?_⟩,λ h=>by simp at h⟩⟩
  ·simp only;rw[bK (by decide),bK (by decide)]
  ·simp only;rw[kP (by rw[aW];omega),dH (by omega)]
def Gd(P:Int)(M:MemS)(r:VR):Prop:=Kp P M r.M /\ r.M.get 8=M.get 8 /\ Ef M r
theorem pB{P:Int}{M:MemS}{c:Prop}[Decidable c]{x y:VR}(hx:c -> Gd P M x)(hy:¬ c -> Gd P M y):Gd P M (if c then x else y):=by
 split
 ·exact hx (by assumption)
 ·exact hy (by assumption)
theorem Gd.base{P:Int}{M:MemS}{v:Int}:Gd P M ⟨M,v,bI,false⟩:=⟨.refl,rfl,⟨λ h=>by simp at h,λ _=>rfl⟩⟩
theorem Gd.st{P:Int}{M:MemS}{k v u:Int}(hk:(5<k /\ k≠8 /\ k≠11) /\ (k<48 \/ 48+4*P <= k)):Gd P M ⟨M.set k v,u,bI,false⟩ :=
 ⟨(Kp.refl).set (by omega) _,bK (by omega),⟨λ h=>by simp at h,λ _=>bK (by omega)⟩⟩
theorem Gd.mite{P:Int}{M X Y:MemS}{c:Prop}[Decidable c]{u:Int}(hx:c -> Gd P M ⟨X,u,bI,false⟩)(hy:¬ c -> Gd P M ⟨Y,u,bI,false⟩):Gd P M ⟨if c then X else Y,u,bI,false⟩:=by
 split
 ·exact hx (by assumption)
 ·exact hy (by assumption)
theorem Ny{S:Setup}(hS:SetV S){M:MemS}{op n a b:Int}(hl:48 <= M.cs.length)(h0:0 <= M.get 11 /\ M.get 11 <= 40)(hn:eN op=0 \/ (0 <= n /\ n<eN op)):Gd S.players M (aJ S op n a b M):=by
 have hpl:=hS.pl;have U7:=hS.nb;unfold aJ
 iterate 14 (refine pB (λ _=>.base) λ _=>?_)
 refine pB (λ e=>?_) λ _=>?_
 ·subst e;have Uw:0 <= n /\ n<16:=by
   rcases hn with h|h
   ·exact absurd h (by decide)
   ·exact h
  rw[dH (by omega)];exact .st (by omega)
 refine pB (λ _=>.base) λ _=>?_;refine pB (λ e=>?_) λ _=>?_
 ·subst e;have h8:0 <= n /\ n<8:=by
   rcases hn with h|h
   ·exact absurd h (by decide)
   ·exact h
  refine Gd.mite (λ hb=>?_) λ _=>.base;rcases qy (S:=S) (by omega) a with e|⟨b0,b1,e⟩
  ·omega
  ·rw[dH (by omega)];exact .st (by omega)
 refine pB (λ _=>.st (by omega)) λ _=>?_;refine pB (λ _=>.mite (λ _=>.st (by omega)) λ _=>.base) λ _=>?_;refine pB (λ _=>?_) λ _=>.base;obtain⟨q1,q2,q3⟩:=Nw (P:=S.players) (k:=a) (v:=b) hl h0;exact⟨q1,q2,⟨q3.yes,q3.no⟩⟩
theorem Nz{P:Int}{M:MemS}{op sp pc fuel:Int}(hl:48 <= M.cs.length):Kp P M (d8 op sp pc fuel M) /\ (d8 op sp pc fuel M).get 8=bz (fuel-1) /\ (d8 op sp pc fuel M).get 11=M.get 11:=by
 unfold d8;split
 ·exact⟨((Kp.refl).set (by omega) _).set (by omega) _,by rw[bK (by decide),kP (by omega)],by rw[bK (by decide),bK (by decide)]⟩
 ·exact⟨(((Kp.refl).set (by omega) _).set (by omega) _).set (by omega) _,by rw[bK (by decide),bK (by decide),kP (by omega)],by rw[bK (by decide),bK (by decide),bK (by decide)]⟩
theorem Bt{S:Setup}(hS:SetV S){M:MemS}{code:List Ins}{n:Nat}(hl:48 <= M.cs.length)(h0:0 <= M.get 11 /\ M.get 11 <= 40)(hf:0 <= M.get 8 /\ M.get 8 <= 60) :
  Kp S.players M (ao S code n M).M /\ Ef M (ao S code n M) /\ ((eY code n M /\ (ao S code n M).M.get 8=M.get 8-1 /\ 1 <= M.get 8) \/ (¬ eY code n M /\ bH code n M=true /\ (ao S code n M).M.get 8=M.get 8)):=by
 unfold ao
 by_cases hr:eY code n M
 ·rw[if_pos hr];obtain⟨r1,r2,r3,r4⟩:=hr;obtain⟨x1,x2,x3,x4,x5⟩:=Lg r4;have hp:=Nz (P:=S.players) (op:=(bE code M).op) (sp:=M.get 7) (pc:=M.get 6) (fuel:=M.get 8) hl;generalize hM1:d8 (bE code M).op (M.get 7) (M.get 6) (M.get 8) M=M1 at *;obtain⟨p1,p2,p3⟩:=hp;rw[dH (by omega)] at p2;have he:=Ny hS (M:=M1) (op:=(bE code M).op) (n:=(bE code M).n) (a:=fe (bE code M).op (M.get 7) M) (b:=ff (bE code M).op (M.get 7) M) (by rw[p1.len];exact hl) (by rw[p3];exact h0) x5;unfold bZ;rw[hM1];generalize aJ S (bE code M).op (bE code M).n (fe (bE code M).op (M.get 7) M) (ff (bE code M).op (M.get 7) M) M1=r at *;obtain⟨g1,g2,g3⟩:=he;have hE:Ef M r:=⟨λ h=>by
   obtain⟨a1,a2,a3,a4⟩:=g3.yes h;rw[p1.get 0 (by omega)] at a1;rw[p3] at a2 a3 a4;exact⟨a1,a2,a3,a4⟩,λ h=>by rw[g3.no h,p3]⟩
  have hb:=SQ x1;unfold cD;split
  ·have hq:bz (bz (16+M.get 7)-eP (bE code M).op)=16+M.get 7-eP (bE code M).op:=by rw[dH (x:=16+M.get 7) (by omega),dH (by omega)]
   rw[dH (x:=M.get 7-eP (bE code M).op) (by omega),dH (by omega)] at x4;rw[hq];refine⟨(p1.trans g1).set (by omega) _,⟨λ h=>?_,λ h=>?_⟩,.inl ⟨⟨r1,r2,r3,r4⟩,?_,by omega⟩⟩
   ·obtain⟨a1,a2,a3,a4⟩:=hE.yes h;exact⟨a1,a2,a3,(bK (by omega)).trans a4⟩
   ·exact(bK (by omega)).trans (hE.no h)
   ·simp only;rw[bK (by omega),g2,p2]
  ·exact⟨p1.trans g1,hE,.inl ⟨⟨r1,r2,r3,r4⟩,by rw[g2,p2],by omega⟩⟩
 ·rw[if_neg hr];exact⟨.refl,⟨λ h=>by simp at h,λ _=>rfl⟩,.inr ⟨hr,by unfold bH;rw[if_neg hr],rfl⟩⟩
def l6(n i j fu:Int):Int:=(if j=0 then (n-i)*62 else (n-i-1)*62+fu+1)+1+n
def l5(n i j:Int):Int:=n*(n+1)-(i*(n+1)+j)+l6 n 0 0 0
def Oh(n i:Int):Int:=if i=0 then 0 else if i=1 then n-1 else if i=2 then 2*n-3 else 3*n-6
def PN(n:Int):Int:=if n=2 then 1 else if n=3 then 3 else if n=4 then 6 else if n=5 then 10 else 0
def l4(n R i j r:Int):Int:=(if n<2 then 0 else (R-r)*PN n-(Oh n i+(j-i-1)))+1+l5 n 0 0
def l3(n R i:Int):Int:=n-i+l4 n R 0 1 0
def l2(n R j fu:Int):Int:=(if j=0 then 62 else fu+1)+l3 n R 0
def l1(P n R i j fu:Int):Int:=(if j=0 then (P-i)*62 else (P-i-1)*62+fu+1)+1+l2 n R 0 0
def l0(P n R i:Int):Int:=P-i+l1 P n R 0 0 0
def HK(P n R p i j r fu:Int):Int:=if p=0 then l0 P n R i else if p=1 then l1 P n R i j fu else if p=2 then l2 n R j fu else if p=3 then l3 n R i else if p=4 then l4 n R i j r else if p=5 then l5 n i j else if p=6 then l6 n i j fu else n-i
def P8(P n R p i j r fu:Int):Prop :=
 (p=0 /\ 0 <= i /\ i<P) \/ (p=1 /\ 0 <= i /\ i <= P /\ (j=0 \/ (j=1 /\ i<P /\ 0 <= fu /\ fu <= 60))) \/ (p=2 /\ (j=0 \/ (j=1 /\ 0 <= fu /\ fu <= 60))) \/ (p=3 /\ 0 <= i /\ i<n) \/
 (p=4 /\ 0 <= r /\ r <= R /\ (2 <= n -> 0 <= i /\ i<j /\ j<n /\ (r=R -> i=0 /\ j=1))) \/ (p=5 /\ 0 <= i /\ i<n /\ 0 <= j /\ j <= n) \/ (p=6 /\ 0 <= i /\ i <= n /\ (j=0 \/ (j=1 /\ i<n /\ 0 <= fu /\ fu <= 60))) \/ (p=7 /\ 0 <= i /\ i<n)
theorem Lh{n i j:Int}(hn:1 <= n /\ n <= 5)(hi:0 <= i /\ i<n)(hj:0 <= j /\ j <= n):0<l5 n i j:=by
 unfold l5 l6;obtain h|h|h|h|h:n=1 \/ n=2 \/ n=3 \/ n=4 \/ n=5:=by omega
 all_goals subst h;simp;omega
theorem E1{P n R p i j r fu:Int}(hP:1 <= P /\ P <= 3)(hn:1 <= n /\ n <= 5)(hR:1 <= R /\ R <= 3)(h:P8 P n R p i j r fu):0<HK P n R p i j r fu:=by
 have h5:=Lh hn (i:=0) (j:=0) (by omega) (by omega);have h4:∀i j r,0 <= r -> r <= R -> (2 <= n -> 0 <= i /\ i<j /\ j<n) -> -9 <= (if n<2 then 0 else (R-r)*PN n-(Oh n i+(j-i-1))) -> 0<l4 n R i j r+9:=λ i j r _ _ _ h=>by unfold l4;omega
 have k4:0<l4 n R 0 1 0:=by
  unfold l4 PN Oh;obtain h|h|h|h|h:n=1 \/ n=2 \/ n=3 \/ n=4 \/ n=5:=by omega
  all_goals subst h;simp;omega
 have k3:0<l3 n R 0:=by unfold l3;omega
 have k2:∀j fu,(j=0 \/ (j=1 /\ 0 <= fu /\ fu <= 60)) -> 0<l2 n R j fu:=λ j fu h=>by unfold l2;split <;> omega
 have k20:=k2 0 0 (.inl rfl);have k1:∀i j fu,0 <= i -> i <= P -> (j=0 \/ (j=1 /\ i<P /\ 0 <= fu /\ fu <= 60)) -> 0<l1 P n R i j fu:=λ i j fu _ _ h=>by unfold l1;split <;> omega
 have k10:=k1 0 0 0 (by omega) (by omega) (.inl rfl);rcases h with h|h|h|h|h|h|h|h <;> obtain⟨rfl,h⟩:=h
 ·show 0<l0 P n R i;unfold l0;omega
 ·exact k1 i j fu h.1 h.2.1 h.2.2
 ·exact k2 j fu h
 ·show 0<l3 n R i;unfold l3;omega
 ·show 0<l4 n R i j r;unfold l4;split
  ·omega
  ·obtain⟨h1,h2,h3⟩:=h;obtain⟨h3,h4',h5',-⟩:=h3 (by omega);have:100<l5 n 0 0:=by
    unfold l5 l6;obtain h|h|h|h|h:n=1 \/ n=2 \/ n=3 \/ n=4 \/ n=5:=by omega
    all_goals first|omega|(subst h;simp)
   have h6:Oh n i <= 9:=by unfold Oh;(repeat' split) <;> omega
   have h7:0 <= (R-r)*PN n:=Int.mul_nonneg (by omega) (by unfold PN;(repeat' split) <;> omega);omega
 ·exact Lh hn ⟨h.1,h.2.1⟩ h.2.2
 ·show 0<l6 n i j fu;unfold l6;split <;> omega
 ·show 0<n-i;omega
abbrev HM(M:MemS):Prop:=M.get 1=0 /\ M.get 2=0
structure TV(S:Setup)(ins:Nat -> Inp)(M:MemS):Prop where
 len:(M.cs.length:Int)=sizeOf S
 t0:0 <= M.get 0 /\ M.get 0 <= 1000000
 ct:P8 S.players S.nb S.rounds (M.get 1) (M.get 2) (M.get 3) (M.get 4) (M.get 8)
 pl:∀q:Nat,(q:Int)<(if M.get 1=0 then M.get 2 else S.players) -> M.get (48+4*q)=(ins q).dx /\ M.get (48+4*q+1)=(ins q).dy /\ M.get (48+4*q+2)=(ins q).act
 ec:HM M \/ (0 <= M.get 11 /\ M.get 11 <= 40)
abbrev pI(S:Setup)(M:MemS):Int:=HK S.players S.nb S.rounds (M.get 1) (M.get 2) (M.get 3) (M.get 4) (M.get 8)
structure Nx(S:Setup)(ins:Nat -> Inp)(M:MemS)(r:VR):Prop where
 tv:TV S ins r.M
 lt:pI S r.M<pI S M
 ph:M.get 1 <= r.M.get 1
 t0:r.M.get 0=M.get 0
 ns:¬ HM r.M
 yes:r.em=true -> ¬ HM M /\ r.e.t=M.get 0 /\ r.e.i=M.get 11 /\ r.M.get 11=M.get 11+1
 no:r.em=false -> r.M.get 11=if HM M then 0 else M.get 11
theorem TV.l48{S:Setup}(hS:SetV S){ins:Nat -> Inp}{M:MemS}(h:TV S ins M):48 <= M.cs.length:=by
 have:=h.len;have:=hS.pl;unfold sizeOf at *;omega
theorem jF{S:Setup}(hS:SetV S){ins:Nat -> Inp}{M N:MemS}{r:VR}{p i j q x fu:Int}(h:TV S ins M)(hp:1 <= M.get 1)(hN:Kp S.players M N)(hlen:r.M.cs.length=N.cs.length)
  (g:∀k,r.M.get k=if k=1 then p else if k=2 then i else if k=3 then j else if k=4 then q else if k=5 then x else N.get k) (h8:N.get 8=fu)
  (hE:Ef M ⟨N,r.v,r.e,r.em⟩) (hc:P8 S.players S.nb S.rounds p i j q fu) (hph:M.get 1 <= p) (iS:HK S.players S.nb S.rounds p i j q fu<pI S M):Nx S ins M r:=by
 have ha:¬ HM M:=λ e=>by have:=e.1;omega
 have g0:r.M.get 0=M.get 0:=by rw[g];simp;exact hN.get 0 (by omega)
 have g1:r.M.get 1=p:=by rw[g];simp
 have g2:r.M.get 2=i:=by rw[g];simp
 have g3:r.M.get 3=j:=by rw[g];simp
 have g4:r.M.get 4=q:=by rw[g];simp
 have g8:r.M.get 8=fu:=by rw[g];simp;exact h8
 have g11:r.M.get 11=N.get 11:=by rw[g];simp
 have gp:∀k,48 <= k -> k<48+4*S.players -> r.M.get k=M.get k:=λ k h1 h2=>by
  rw[g,if_neg (by omega),if_neg (by omega),if_neg (by omega),if_neg (by omega),if_neg (by omega)];exact hN.get k (by omega)
 have hec:0 <= M.get 11 /\ M.get 11 <= 40:=by
  rcases h.ec with e|e
  ·exact absurd e ha
  ·exact e
 refine⟨⟨by rw[hlen,hN.len];exact h.len,by rw[g0];exact h.t0,by rw[g1,g2,g3,g4,g8];exact hc,λ k hk=>?_,.inr ?_⟩,?_,by rw[g1];exact hph,g0,λ e=>by rw[HM,g1] at e;have:=e.1;omega,λ e=>?_,λ e=>?_⟩
 ·rw[g1,if_neg (by omega)] at hk;have:=h.pl k (by rw[if_neg (by omega)];exact hk);rw[gp _ (by omega) (by omega),gp _ (by omega) (by omega),gp _ (by omega) (by omega)];exact this
 ·rw[g11];cases he:r.em with
  | true=>obtain⟨a,b,c,d⟩:=hE.yes he;simp only at d;omega
  | false=>have:=hE.no he;simp only at this;omega
 ·unfold pI;rw[g1,g2,g3,g4,g8];exact iS
 ·obtain⟨a,b,c,d⟩:=hE.yes e;exact⟨ha,a,b,by rw[g11];exact d⟩
 ·rw[if_neg ha,g11];exact hE.no e
theorem Hi.kp{P:Int}{M N:MemS}(h:Hi P M N)(hP:0 <= P):Kp P M N:=⟨h.len,λ j hj=>h.get j (by omega)⟩
theorem Hi.ef{P:Int}{M N:MemS}(h:Hi P M N)(hP:0 <= P){v:Int}{e:Eff}:Ef M ⟨N,v,e,false⟩:=⟨λ h=>by simp at h,λ _=>h.get 11 (by omega)⟩
theorem lJ{M:MemS}(h:48 <= M.cs.length)(t:Stp)(a b j:Int):(aS t a b M).get j=if j=3 then b else if j=2 then 0 else if j=1 then a else M.get j:=by
 unfold aS;rw[cm (by simp only[aW];exact h) (by omega) (by omega),cm (by simp only[aW];exact h) (by omega) (by omega),cm h (by omega) (by omega)]
theorem gZ{M:MemS}(t:Stp)(a b:Int):(aS t a b M).cs.length=M.cs.length:=by unfold aS;simp only[aW]
theorem if5{k p i j q x z:Int}{f:Int -> Int}(h:(if k=3 then j else if k=2 then i else if k=1 then p else f k)=z)(hq:q=f 4)(hx:x=f 5):z=if k=1 then p else if k=2 then i else if k=3 then j else if k=4 then q else if k=5 then x else f k:=by
 subst h hq hx
 by_cases e1:k=1
 ·subst e1;simp
 by_cases e2:k=2
 ·subst e2;simp
 by_cases e3:k=3
 ·subst e3;simp
 by_cases e4:k=4
 ·subst e4;simp
 by_cases e5:k=5
 ·subst e5;simp
 simp[e1,e2,e3,e4,e5]
theorem ST{k i z:Int}{f:Int -> Int}(h:(if k=2 then i else f k)=z):z=if k=1 then f 1 else if k=2 then i else if k=3 then f 3 else if k=4 then f 4 else if k=5 then f 5 else f k:=by
 subst h
 by_cases e1:k=1
 ·subst e1;simp
 by_cases e2:k=2
 ·subst e2;simp
 by_cases e3:k=3
 ·subst e3;simp
 by_cases e4:k=4
 ·subst e4;simp
 by_cases e5:k=5
 ·subst e5;simp
 simp[e1,e2,e3,e4,e5]
theorem Li{S:Setup}(hS:SetV S){t:Stp}(ht:t.S=S)(M:MemS):Hi S.players M (bW t (bQ t M)):=by
 have hp:0 <= S.players:=by have:=hS.pl;omega
 subst ht;have ha:Hi t.S.players M (bQ t M):=by
  unfold bQ;split
  ·exact(Hi.refl).setB hp (by omega) (by omega) _
  ·exact .refl
 unfold bW;split
 ·next hm =>
  have hb:af t.S t.i >= 0:=by
   rcases qy hp t.i with e|⟨_,_,e⟩
   ·unfold af at e;rw[if_neg (by have:=hm.1;omega),if_neg (by have:=hm.1;omega)] at e;have:=hm.1;omega
   ·omega
  exact(ha.setB hp hb (by omega) _).setB hp hb (by omega) _
 ·exact ha
theorem q3{S:Setup}(hS:SetV S){g:Gm}(hg:g.S=S){ins:Nat -> Inp}{M:MemS}(h:TV S ins M)(hp:M.get 1=3):Nx S ins M ⟨aZ (g.step M) M,0,bI,false⟩:=by
 have hpl:=hS.pl;have U7:=hS.nb;have UM:=hS.ro;have hc:0 <= M.get 2 /\ M.get 2<S.nb:=by rcases h.ct with h|h|h|h|h|h|h|h <;> omega
 have hh:=Li hS (t:=g.step M) hg M;have hl:=h.l48 hS;unfold aZ cf;generalize bW (g.step M) (bQ (g.step M) M)=N at *;have UB:48 <= N.cs.length:=by rw[hh.len];exact hl
 have e1:=hh.get 1 (by omega);have e2:=hh.get 2 (by omega);have e3:=hh.get 3 (by omega);have e4:=hh.get 4 (by omega);have e8:=hh.get 8 (by omega);show Nx S ins M ⟨if bz (M.get 2+1)<g.S.nb then N.set 2 (bz (M.get 2+1)) else _,0,bI,false⟩;rw[dH (by omega),hg];split
 ·refine jF hS h (by omega) (hh.kp (by omega)) (aW _ _ _) (λ k=>ST (f:=N.get) (cm UB (by omega) (by omega) k).symm) e8 (hh.ef (by omega)) ?_ (by omega) ?_
  ·rw[e1,e3,e4,hp];exact .inr (.inr (.inr (.inl ⟨rfl,by omega,by omega⟩)))
  ·unfold pI;rw[e1,e3,e4,hp];show l3 S.nb S.rounds (M.get 2+1)<l3 S.nb S.rounds (M.get 2);unfold l3;omega
 ·refine jF hS h (by omega) (hh.kp (by omega)) ((aW _ _ _).trans (gZ _ _ _)) (p:=4) (i:=0) (j:=1) (q:=0) (x:=N.get 5) (λ k=>?_) e8 (hh.ef (by omega)) ?_ (by omega) ?_
  ·rw[cm (by rw[gZ];exact UB) (by omega) (by omega),lJ UB]
   by_cases k4:k=4
   ·subst k4;simp
   ·rw[if_neg k4]
    by_cases k1:k=1
    ·subst k1;simp
    by_cases k2:k=2
    ·subst k2;simp
    by_cases k3:k=3
    ·subst k3;simp
    by_cases k5:k=5
    ·subst k5;simp
    simp[k1,k2,k3,k4,k5]
  ·exact .inr (.inr (.inr (.inr (.inl ⟨rfl,by omega,by omega,λ _=>by omega⟩))))
  ·unfold pI;rw[hp];show l4 S.nb S.rounds 0 1 0<l3 S.nb S.rounds (M.get 2);unfold l3;omega
theorem rx{S:Setup}(hp:0 <= S.players){k:Int}(h:0 <= k /\ k<S.nb):af S k >= 0:=by
 unfold af;rw[if_neg (by omega),if_neg (by omega)];omega
theorem Hi.setMot{S:Setup}(hp:0 <= S.players){A M:MemS}(h:Hi S.players A M){t:Stp}(ht:t.S=S){k:Int}(hb:af S k >= 0)(m:Mot):Hi S.players A (dP t k m M):=by
 subst ht;unfold dP;exact(((h.setB hp hb (by omega) _).setB hp hb (by omega) _).setB hp hb (by omega) _).setB hp hb (by omega) _
theorem Lj{S:Setup}(hS:SetV S){t:Stp}(ht:t.S=S)(M:MemS):Hi S.players M (d9 t M):=by
 have hp:0 <= S.players:=by have:=hS.pl;omega
 unfold d9;rw[ht];split
 ·next h1 =>
  split
  ·next h2 =>
   split
   ·have b1:=rx hp h1;have b2:=rx hp h2;unfold gv;rw[ht];exact(((((Hi.refl).setMot hp ht b1 _).setMot hp ht b2 _).setB hp b1 (by omega) _).setB hp b2 (by omega) _)
   ·exact .refl
  ·exact .refl
 ·exact .refl
theorem q4{S:Setup}(hS:SetV S){g:Gm}(hg:g.S=S){ins:Nat -> Inp}{M:MemS}(h:TV S ins M)(hp:M.get 1=4):Nx S ins M ⟨bT (g.step M) M,0,bI,false⟩:=by
 have hpl:=hS.pl;have U7:=hS.nb;have UM:=hS.ro;have hc:0 <= M.get 4 /\ M.get 4 <= S.rounds /\ (2 <= (S.nb:Int) -> 0 <= M.get 2 /\ M.get 2<M.get 3 /\ M.get 3<S.nb /\ (M.get 4=S.rounds -> M.get 2=0 /\ M.get 3=1)):=by rcases h.ct with h|h|h|h|h|h|h|h <;> omega
 have hl:=h.l48 hS;have hh:=Lj hS (t:=g.step M) hg M;have fin:pI S M>l5 S.nb 0 0 -> Nx S ins M ⟨(aS (g.step M) 5 0 M).set 5 1024,0,bI,false⟩:=λ iS=>by
  refine jF hS h (by omega) ((Hi.refl (P:=S.players)).kp (by omega)) ((aW _ _ _).trans (gZ _ _ _)) (p:=5) (i:=0) (j:=0) (q:=M.get 4) (x:=1024) (fu:=M.get 8) (λ k=>?_) rfl ((Hi.refl (P:=S.players)).ef (by omega)) (.inr (.inr (.inr (.inr (.inr (.inl ⟨rfl,by omega,by omega,by omega,by omega⟩)))))) (by omega) iS;rw[cm (by rw[gZ];exact hl) (by omega) (by omega),lJ hl]
  by_cases k5:k=5
  ·subst k5;simp
  ·rw[if_neg k5]
   by_cases k1:k=1
   ·subst k1;simp
   by_cases k2:k=2
   ·subst k2;simp
   by_cases k3:k=3
   ·subst k3;simp
   by_cases k4:k=4
   ·subst k4;simp
   simp[k1,k2,k3,k4,k5]
 have e4l:pI S M=l4 S.nb S.rounds (M.get 2) (M.get 3) (M.get 4):=by unfold pI;rw[hp];rfl
 unfold bT;show Nx S ins M ⟨if (g.S.nb:Int)<2 then _ else if M.get 4 >= g.S.rounds then _ else _,0,bI,false⟩;rw[hg];split
 ·next h2=>exact fin (by rw[e4l];unfold l4;rw[if_pos h2];omega)
 split
 ·next h2 h3 =>
  refine fin ?_;have e:M.get 4=S.rounds:=by omega
  obtain⟨c1,c2,c3,c4⟩:=hc.2.2 (by omega);obtain⟨d1,d2⟩:=c4 e;rw[e4l,e,d1,d2];unfold l4;rw[if_neg (by omega),Int.sub_self,Int.zero_mul];show _>_;unfold Oh;simp only[if_true];omega
 next h2 h3 =>
 obtain⟨c1,c2,c3,-⟩:=hc.2.2 (by omega);show Nx S ins M ⟨(((d9 (g.step M) M).set 4 (dU (M.get 2) (M.get 3) g.S.nb (M.get 4)).1).set 2 (dU (M.get 2) (M.get 3) g.S.nb (M.get 4)).2.1).set 3 (dU (M.get 2) (M.get 3) g.S.nb (M.get 4)).2.2,0,bI,false⟩;rw[hg];generalize d9 (g.step M) M=N at *;have UB:48 <= N.cs.length:=by rw[hh.len];exact hl
 have e1:=hh.get 1 (by omega);have e5:=hh.get 5 (by omega);have e8:=hh.get 8 (by omega);have hq:(0 <= (dU (M.get 2) (M.get 3) S.nb (M.get 4)).1 /\ (dU (M.get 2) (M.get 3) S.nb (M.get 4)).1 <= S.rounds) /\ (0 <= (dU (M.get 2) (M.get 3) S.nb (M.get 4)).2.1 /\ (dU (M.get 2) (M.get 3) S.nb (M.get 4)).2.1<(dU (M.get 2) (M.get 3) S.nb (M.get 4)).2.2 /\ (dU (M.get 2) (M.get 3) S.nb (M.get 4)).2.2<S.nb /\ ((dU (M.get 2) (M.get 3) S.nb (M.get 4)).1=S.rounds -> (dU (M.get 2) (M.get 3) S.nb (M.get 4)).2.1=0 /\ (dU (M.get 2) (M.get 3) S.nb (M.get 4)).2.2=1)) /\
   l4 S.nb S.rounds (dU (M.get 2) (M.get 3) S.nb (M.get 4)).2.1 (dU (M.get 2) (M.get 3) S.nb (M.get 4)).2.2 (dU (M.get 2) (M.get 3) S.nb (M.get 4)).1<l4 S.nb S.rounds (M.get 2) (M.get 3) (M.get 4):=by
  have hn2:(2:Int) <= S.nb /\ (S.nb:Int) <= 5:=by omega
  have X1:M.get 4<S.rounds:=by omega
  have hq0:=hc.1;unfold dU;rw[dH (by omega),dH (by omega),dH (by omega),dH (by omega)];clear e1 e5 e8 e4l fin hc h;generalize M.get 2=i at *;generalize M.get 3=j at *;generalize M.get 4=q at *;generalize S.rounds=R at *;generalize (S.nb:Int)=n at *;split
  ·simp only;refine⟨⟨by omega,by omega⟩,⟨by omega,by omega,by omega,λ e=>by omega⟩,?_⟩;unfold l4;rw[if_neg (by omega),if_neg (by omega)];omega
  ·split
   ·refine⟨⟨by simp only;omega,by simp only;omega⟩,⟨by simp only;omega,by simp only;omega,by simp only;omega,λ e=>by simp only at e;omega⟩,?_⟩;simp only;unfold l4 Oh PN;obtain h|h|h|h:n=2 \/ n=3 \/ n=4 \/ n=5:=by omega
    all_goals subst h
    all_goals (have:i=0 \/ i=1 \/ i=2:=by omega)
    all_goals (rcases this with rfl|rfl|rfl)
    all_goals first|omega|(simp;omega)
   ·refine⟨⟨by simp only;omega,by simp only;omega⟩,⟨by simp only;omega,by simp only;omega,by simp only;omega,λ e=>⟨rfl,rfl⟩⟩,?_⟩;simp only;unfold l4 Oh PN;obtain h|h|h|h:n=2 \/ n=3 \/ n=4 \/ n=5:=by omega
    all_goals subst h
    all_goals (have:i=0 \/ i=1 \/ i=2 \/ i=3:=by omega)
    all_goals (rcases this with rfl|rfl|rfl|rfl)
    all_goals first|omega|(simp;omega)
 generalize dU (M.get 2) (M.get 3) S.nb (M.get 4)=z at *;refine jF hS h (by omega) (hh.kp (by omega)) (by simp only[aW]) (p:=4) (i:=z.2.1) (j:=z.2.2) (q:=z.1) (x:=N.get 5) (λ k=>?_) e8 (hh.ef (by omega)) (.inr (.inr (.inr (.inr (.inl ⟨rfl,hq.1.1,hq.1.2,λ _=>hq.2.1⟩))))) (by omega) (by rw[e4l];exact hq.2.2);rw[cm (by simp only[aW];exact UB) (by omega) (by omega),cm (by simp only[aW];exact UB) (by omega) (by omega),cm UB (by omega) (by omega)]
 by_cases k1:k=1
 ·subst k1;simp;omega
 by_cases k2:k=2
 ·subst k2;simp
 by_cases k3:k=3
 ·subst k3;simp
 by_cases k4:k=4
 ·subst k4;simp
 by_cases k5:k=5
 ·subst k5;simp
 simp[k1,k2,k3,k4,k5]
theorem Bu{S:Setup}(hp:0 <= S.players){A M:MemS}(h:Hi S.players A M){t:Stp}{k c d:Int}(hb:af S k >= 0)(hc:0 <= c)(hd:0 <= d)(pos lo hi:Int):Hi S.players A (eE t (af S k+c) (af S k+d) pos lo hi M):=by
 unfold eE;split
 ·exact h.setB hp hb hc _
 ·exact(h.setB hp hb hc _).setB hp hb hd _
theorem Hg{S:Setup}(hp:0 <= S.players){t:Stp}(ht:t.S=S)(M:MemS)(hb:af S t.i >= 0):Hi S.players M (du t M):=by
 subst ht;unfold du;exact Bu hp (Bu hp .refl hb (by omega) (by omega) _ _ _) hb (by omega) (by omega) _ _ _
theorem Lk(t:Stp){M:MemS}(hl:48 <= M.cs.length)(k:Int):(fB t M).get k=(if k=5 then (fB t M).get 5 else M.get k) /\ (fB t M).cs.length=M.cs.length:=by
 have id5:M.get k=if k=5 then M.get 5 else M.get k:=by
  by_cases e:k=5
  ·rw[if_pos e,e]
  ·rw[if_neg e]
 unfold fB;split
 ·exact⟨id5,rfl⟩
 ·split
  ·split
   ·refine⟨?_,aW _ _ _⟩;rw[cm hl (by omega) (by omega),cm hl (by omega) (by omega)];split <;> simp
   ·exact⟨id5,rfl⟩
  ·exact⟨id5,rfl⟩
theorem q5{S:Setup}(hS:SetV S){g:Gm}(hg:g.S=S){ins:Nat -> Inp}{M:MemS}(h:TV S ins M)(hp:M.get 1=5):Nx S ins M ⟨eC (g.step M) M,0,bI,false⟩:=by
 have hpl:=hS.pl;have U7:=hS.nb;have UM:=hS.ro;have hc:(0 <= M.get 2 /\ M.get 2<S.nb) /\ 0 <= M.get 3 /\ M.get 3 <= S.nb:=by rcases h.ct with h|h|h|h|h|h|h|h <;> omega
 have hl:=h.l48 hS;have e5l:pI S M=l5 S.nb (M.get 2) (M.get 3):=by unfold pI;rw[hp];rfl
 unfold eC;show Nx S ins M ⟨if 0 <= M.get 3 /\ M.get 3<g.S.nb then (fB (g.step M) M).set 3 (bz (M.get 3+1)) else gw (g.step M) (if movP g.S (M.get 2) then du (g.step M) M else M),0,bI,false⟩;rw[hg];split
 ·next hj =>
  rw[dH (by omega)];have ht:=Lk (g.step M) hl;refine jF hS h (by omega) ((Hi.refl (P:=S.players)).kp (by omega)) ((aW _ _ _).trans (ht 0).2) (p:=5) (i:=M.get 2) (j:=M.get 3+1) (q:=M.get 4) (x:=(fB (g.step M) M).get 5) (fu:=M.get 8) (λ k=>?_) rfl ((Hi.refl (P:=S.players)).ef (by omega)) (.inr (.inr (.inr (.inr (.inr (.inl ⟨rfl,by omega,by omega,by omega,by omega⟩)))))) (by omega) ?_
  ·rw[cm (by rw[(ht 0).2];exact hl) (by omega) (by omega),(ht k).1]
   by_cases k1:k=1
   ·subst k1;simp;omega
   by_cases k2:k=2
   ·subst k2;simp
   by_cases k3:k=3
   ·subst k3;simp
   by_cases k4:k=4
   ·subst k4;simp
   by_cases k5:k=5
   ·subst k5;simp
   simp[k1,k2,k3,k4,k5]
  ·rw[e5l];show l5 S.nb (M.get 2) (M.get 3+1)<_;unfold l5;omega
 ·next hj =>
  have ej:M.get 3=S.nb:=by omega
  have hh:Hi S.players M (if movP S (M.get 2) then du (g.step M) M else M):=by
   split
   ·next hm=>exact Hg (by omega) hg M (rx (by omega) hc.1)
   ·exact .refl
  generalize (if movP S (M.get 2) then du (g.step M) M else M)=N at *;have UB:48 <= N.cs.length:=by rw[hh.len];exact hl
  have e1:=hh.get 1 (by omega);have e4:=hh.get 4 (by omega);have e8:=hh.get 8 (by omega);unfold gw;show Nx S ins M ⟨if bz (M.get 2+1)<g.S.nb then ((N.set 2 (bz (M.get 2+1))).set 3 0).set 5 1024 else (aS (g.step M) 6 0 N).set 5 0,0,bI,false⟩;rw[dH (by omega),hg];split
  ·refine jF hS h (by omega) (hh.kp (by omega)) (by simp only[aW]) (p:=5) (i:=M.get 2+1) (j:=0) (q:=N.get 4) (x:=1024) (λ k=>?_) e8 (hh.ef (by omega)) (.inr (.inr (.inr (.inr (.inr (.inl ⟨rfl,by omega,by omega,by omega,by omega⟩)))))) (by omega) ?_
   ·rw[cm (by simp only[aW];exact UB) (by omega) (by omega),cm (by simp only[aW];exact UB) (by omega) (by omega),cm UB (by omega) (by omega)]
    by_cases k1:k=1
    ·subst k1;simp;omega
    by_cases k2:k=2
    ·subst k2;simp
    by_cases k3:k=3
    ·subst k3;simp
    by_cases k4:k=4
    ·subst k4;simp
    by_cases k5:k=5
    ·subst k5;simp
    simp[k1,k2,k3,k4,k5]
   ·rw[e5l,ej];show l5 S.nb (M.get 2+1) 0<_;unfold l5;generalize M.get 2=i at *;obtain h|h|h|h|h:(S.nb:Int)=1 \/ (S.nb:Int)=2 \/ (S.nb:Int)=3 \/ (S.nb:Int)=4 \/ (S.nb:Int)=5:=by omega
    all_goals rw[h];omega
  ·refine jF hS h (by omega) (hh.kp (by omega)) ((aW _ _ _).trans (gZ _ _ _)) (p:=6) (i:=0) (j:=0) (q:=N.get 4) (x:=0) (λ k=>?_) e8 (hh.ef (by omega)) (.inr (.inr (.inr (.inr (.inr (.inr (.inl ⟨rfl,by omega,by omega,.inl rfl⟩))))))) (by omega) ?_
   ·rw[cm (by rw[gZ];exact UB) (by omega) (by omega),lJ UB]
    by_cases k1:k=1
    ·subst k1;simp
    by_cases k2:k=2
    ·subst k2;simp
    by_cases k3:k=3
    ·subst k3;simp
    by_cases k4:k=4
    ·subst k4;simp
    by_cases k5:k=5
    ·subst k5;simp
    simp[k1,k2,k3,k4,k5]
   ·rw[e5l,ej];show l6 S.nb 0 0 _<_;unfold l5 l6;generalize M.get 2=i at *;obtain h|h|h|h|h:(S.nb:Int)=1 \/ (S.nb:Int)=2 \/ (S.nb:Int)=3 \/ (S.nb:Int)=4 \/ (S.nb:Int)=5:=by omega
    all_goals rw[h];simp;omega
theorem Bv{P:Int}{M:MemS}{e fu a b:Int}(hl:48 <= M.cs.length)(he:¬ e<0):Kp P M (aU e fu a b M) /\ (aU e fu a b M).get 8=fu /\ (aU e fu a b M).get 11=M.get 11:=by
 unfold aU;rw[if_neg he];refine⟨(((((Kp.refl).set (by omega) _).set (by omega) _).set (by omega) _).set (by omega) _).set (by omega) _,?_,?_⟩
 ·rw[bK (by decide),bK (by decide),kP (by simp only[aW];omega)]
 ·rw[bK (by decide),bK (by decide),bK (by decide),bK (by decide),bK (by decide)]
theorem E2{S:Setup}(hS:SetV S){g:Gm}(hg:g.S=S){ins:Nat -> Inp}{M:MemS}(h:TV S ins M){p:Int}(hp:M.get 1=p)(hp1:1 <= p)(e a o:Int)(c:Bool)(hi:0 <= M.get 2 /\ M.get 2 <= 5)(hj:M.get 3=0 \/ (M.get 3=1 /\ 0 <= M.get 8 /\ M.get 8 <= 60))
  (hc0:∀fu,P8 S.players S.nb S.rounds p (M.get 2+1) 0 (M.get 4) fu) (hc1:∀fu,0 <= fu -> fu <= 60 -> P8 S.players S.nb S.rounds p (M.get 2) 1 (M.get 4) fu)
  (l0:∀f f',HK S.players S.nb S.rounds p (M.get 2+1) 0 (M.get 4) f<HK S.players S.nb S.rounds p (M.get 2) 0 (M.get 4) f') (l1:∀f fu,fu <= 60 -> HK S.players S.nb S.rounds p (M.get 2) 1 (M.get 4) fu<HK S.players S.nb S.rounds p (M.get 2) 0 (M.get 4) f)
  (l2:∀f f',0 <= f' -> HK S.players S.nb S.rounds p (M.get 2+1) 0 (M.get 4) f<HK S.players S.nb S.rounds p (M.get 2) 1 (M.get 4) f') (l3:∀f,HK S.players S.nb S.rounds p (M.get 2) 1 (M.get 4) (f-1)<HK S.players S.nb S.rounds p (M.get 2) 1 (M.get 4) f) :
  Nx S ins M (dT (fA e (g.step M) a o M) (dV e (g.step M) a o M) (g.step M) c M).z:=by
 have hl:=h.l48 hS;have hpl:=hS.pl;have hec:0 <= M.get 11 /\ M.get 11 <= 40:=by
  rcases h.ec with e|e
  ·have:=e.1;omega
  ·exact e
 have skip:M.get 3=0 -> Nx S ins M ⟨M.set 2 (bz (M.get 2+1)),0,bI,false⟩:=λ Vv=>by
  rw[dH (by omega)];refine jF hS h (by omega) ((Hi.refl (P:=S.players)).kp (by omega)) (aW _ _ _) (p:=M.get 1) (i:=M.get 2+1) (j:=M.get 3) (q:=M.get 4) (x:=M.get 5) (fu:=M.get 8) (λ k=>ST (f:=M.get) (cm hl (by omega) (by omega) k).symm) rfl ((Hi.refl (P:=S.players)).ef (by omega)) ?_ (by omega) ?_
  ·rw[hp,Vv];exact hc0 _
  ·unfold pI;rw[hp,Vv];exact l0 _ _
 unfold dT fA dV;show Nx S ins M (VR.z (if M.get 3=0 then _ else _))
 by_cases Vv:M.get 3=0
 ·rw[if_pos Vv];cases c with
  | false=>exact skip Vv
  | true =>
   rw[if_pos rfl]
   by_cases he:e<0
   ·show Nx S ins M (VR.z (if (if M.get 3=0 then decide (e<0) else _)=true then _ else _));rw[if_pos Vv,if_pos (by simpa using he)];show Nx S ins M ⟨(if M.get 3=0 then (if e<0 then (⟨aU e _ a o M,0,_,_⟩:VR) else _) else _).M.set 2 _,0,(if M.get 3=0 then (if e<0 then (⟨aU e _ a o M,0,_,_⟩:VR) else _) else _).e,(if M.get 3=0 then (if e<0 then (⟨aU e _ a o M,0,_,_⟩:VR) else _) else _).em⟩;rw[if_pos Vv,if_pos he];show Nx S ins M ⟨(aU e _ a o M).set 2 _,0,bI,false⟩;rw[show aU e g.S.fuel a o M=M by unfold aU;rw[if_pos he]];exact skip Vv
   ·show Nx S ins M (VR.z (if (if M.get 3=0 then decide (e<0) else _)=true then _ else _));rw[if_pos Vv,if_neg (by simpa using he)];show Nx S ins M ⟨(if M.get 3=0 then (if e<0 then _ else (⟨(aU e g.S.fuel a o M).set 3 1,0,bI,false⟩:VR)) else _).M,0,(if M.get 3=0 then (if e<0 then _ else (⟨(aU e g.S.fuel a o M).set 3 1,0,bI,false⟩:VR)) else _).e,(if M.get 3=0 then (if e<0 then _ else (⟨(aU e g.S.fuel a o M).set 3 1,0,bI,false⟩:VR)) else _).em⟩;rw[if_pos Vv,if_neg he,hg];obtain⟨s1,s2,s3⟩:=Bv (P:=S.players) (M:=M) (fu:=S.fuel) (a:=a) (b:=o) hl he;generalize aU e S.fuel a o M=N at *;have UB:48 <= N.cs.length:=by rw[s1.len];exact hl
    refine jF hS h (by omega) s1 (aW _ _ _) (p:=p) (i:=M.get 2) (j:=1) (q:=M.get 4) (x:=M.get 5) (fu:=S.fuel) (λ k=>?_) s2 ⟨λ h=>by simp at h,λ _=>s3⟩ ?_ (by omega) ?_
    ·rw[cm UB (by omega) (by omega)];have n1:=s1.get 1 (by omega);have n2:=s1.get 2 (by omega);have n4:=s1.get 4 (by omega);have n5:=s1.get 5 (by omega)
     by_cases k1:k=1
     ·subst k1;simp;omega
     by_cases k2:k=2
     ·subst k2;simp;omega
     by_cases k3:k=3
     ·subst k3;simp
     by_cases k4:k=4
     ·subst k4;simp;omega
     by_cases k5:k=5
     ·subst k5;simp;omega
     simp[k1,k2,k3,k4,k5]
    ·exact hc1 S.fuel hS.fu.1 hS.fu.2
    ·unfold pI;rw[hp,Vv];exact l1 _ _ hS.fu.2
 ·rw[if_neg Vv];obtain⟨hj1,hf⟩:M.get 3=1 /\ (0 <= M.get 8 /\ M.get 8 <= 60):=by omega
  obtain⟨s1,s2,s3⟩:=Bt hS (M:=M) (code:=g.code) (n:=g.cn) hl hec hf;show Nx S ins M (VR.z (if (if M.get 3=0 then _ else bH g.code g.cn M)=true then _ else _));rw[if_neg Vv];show Nx S ins M (VR.z (if bH g.code g.cn M=true then ⟨((if M.get 3=0 then _ else (⟨(ao g.S g.code g.cn M).M,0,(ao g.S g.code g.cn M).e,(ao g.S g.code g.cn M).em⟩:VR)).M.set 3 0).set 2 _,0,(if M.get 3=0 then _ else (⟨(ao g.S g.code g.cn M).M,0,(ao g.S g.code g.cn M).e,(ao g.S g.code g.cn M).em⟩:VR)).e,(if M.get 3=0 then _ else (⟨(ao g.S g.code g.cn M).M,0,(ao g.S g.code g.cn M).e,(ao g.S g.code g.cn M).em⟩:VR)).em⟩ else ⟨(if M.get 3=0 then _ else (⟨(ao g.S g.code g.cn M).M,0,(ao g.S g.code g.cn M).e,(ao g.S g.code g.cn M).em⟩:VR)).M,0,(if M.get 3=0 then _ else (⟨(ao g.S g.code g.cn M).M,0,(ao g.S g.code g.cn M).e,(ao g.S g.code g.cn M).em⟩:VR)).e,(if M.get 3=0 then _ else (⟨(ao g.S g.code g.cn M).M,0,(ao g.S g.code g.cn M).e,(ao g.S g.code g.cn M).em⟩:VR)).em⟩));rw[if_neg Vv,hg];generalize ao S g.code g.cn M=r at *;have UB:48 <= r.M.cs.length:=by rw[s1.len];exact hl
  have n1:=s1.get 1 (by omega);have n2:=s1.get 2 (by omega);have n3:=s1.get 3 (by omega);have n4:=s1.get 4 (by omega);have n5:=s1.get 5 (by omega)
  by_cases he:bH g.code g.cn M=true
  ·rw[if_pos he];show Nx S ins M ⟨(r.M.set 3 0).set 2 (bz (M.get 2+1)),0,r.e,r.em⟩;rw[dH (by omega)];refine jF hS h (by omega) s1 (by simp only[aW]) (p:=p) (i:=M.get 2+1) (j:=0) (q:=M.get 4) (x:=M.get 5) (fu:=r.M.get 8) (λ k=>?_) rfl ⟨s2.yes,s2.no⟩ (hc0 _) (by omega) ?_
   ·rw[cm (by simp only[aW];exact UB) (by omega) (by omega),cm UB (by omega) (by omega)]
    by_cases k1:k=1
    ·subst k1;simp;omega
    by_cases k2:k=2
    ·subst k2;simp
    by_cases k3:k=3
    ·subst k3;simp
    by_cases k4:k=4
    ·subst k4;simp;omega
    by_cases k5:k=5
    ·subst k5;simp;omega
    simp[k1,k2,k3,k4,k5]
   ·unfold pI;rw[hp,hj1];exact l2 _ _ hf.1
  ·rw[if_neg he];show Nx S ins M ⟨r.M,0,r.e,r.em⟩;rcases s3 with ⟨s4,s5,s6⟩|⟨s4,s5,s6⟩
   ·refine jF hS h (by omega) s1 rfl (p:=p) (i:=M.get 2) (j:=1) (q:=M.get 4) (x:=M.get 5) (fu:=M.get 8-1) (λ k=>?_) s5 ⟨s2.yes,s2.no⟩ (hc1 _ (by omega) (by omega)) (by omega) ?_
    ·show r.M.get k=_
     by_cases k1:k=1
     ·subst k1;simp;omega
     by_cases k2:k=2
     ·subst k2;simp;omega
     by_cases k3:k=3
     ·subst k3;simp;omega
     by_cases k4:k=4
     ·subst k4;simp;omega
     by_cases k5:k=5
     ·subst k5;simp;omega
     simp[k1,k2,k3,k4,k5]
    ·unfold pI;rw[hp,hj1];exact l3 _
   ·exact absurd s5 he
theorem Ll{S:Setup}(hS:SetV S){g:Gm}{ins:Nat -> Inp}{M:MemS}(h:TV S ins M)(h1:1 <= M.get 1){p:Int}(hc:P8 S.players S.nb S.rounds p 0 0 (M.get 4) (M.get 8))(hp:M.get 1 <= p)(hl:HK S.players S.nb S.rounds p 0 0 (M.get 4) (M.get 8)<pI S M) :
  Nx S ins M ⟨aS (g.step M) p 0 M,0,bI,false⟩:=by
 have alL:=h.l48 hS;have hpl:=hS.pl;refine jF hS h h1 ((Hi.refl (P:=S.players)).kp (by omega)) (gZ (g.step M) _ _) (p:=p) (i:=0) (j:=0) (q:=M.get 4) (x:=M.get 5) (fu:=M.get 8) (λ k=>?_) rfl ((Hi.refl (P:=S.players)).ef (by omega)) hc hp hl;exact if5 (f:=M.get) (lJ alL (g.step M) _ _ k).symm rfl rfl
theorem q1{S:Setup}(hS:SetV S){g:Gm}(hg:g.S=S){ins:Nat -> Inp}{M:MemS}(h:TV S ins M)(hp:M.get 1=1):Nx S ins M (fN (g.step M) M):=by
 have hpl:=hS.pl;have U7:=hS.nb;have UM:=hS.ro;have hc:0 <= M.get 2 /\ M.get 2 <= S.players /\ (M.get 3=0 \/ (M.get 3=1 /\ M.get 2<S.players /\ 0 <= M.get 8 /\ M.get 8 <= 60)):=by rcases h.ct with h|h|h|h|h|h|h|h <;> omega
 unfold fN;show Nx S ins M (if aj g.S (M.get 2)<0 then ⟨aS (g.step M) 2 0 M,0,bI,false⟩ else _);rw[hg];rcases xg (S:=S) (M.get 2) with ⟨e,e2⟩|⟨e1,e2,e3⟩
 ·rw[e,if_pos (by decide)];have ei:M.get 2=S.players:=by omega
  refine Ll hS h (by omega) (.inr (.inr (.inl ⟨rfl,.inl rfl⟩))) (by omega) ?_;unfold pI;rw[hp];show l2 _ _ 0 _<l1 _ _ _ (M.get 2) (M.get 3) (M.get 8);have:M.get 3=0:=by omega
  rw[this,ei];unfold l1 l2;simp;omega
 ·rw[if_neg (by omega)];refine E2 hS hg h hp (by omega) g.e0 (M.get 2) _ _ (by omega) (by omega) (λ fu=>.inr (.inl ⟨rfl,by omega,by omega,.inl rfl⟩)) (λ fu f0 f1=>.inr (.inl ⟨rfl,by omega,by omega,.inr ⟨rfl,by omega,f0,f1⟩⟩)) (λ f f'=>?_) (λ f fu hfu=>?_) (λ f f' hf=>?_) (λ f=>?_)
  all_goals (show l1 _ _ _ _ _ _<l1 _ _ _ _ _ _;unfold l1;simp;omega)
theorem q6{S:Setup}(hS:SetV S){g:Gm}(hg:g.S=S){ins:Nat -> Inp}{M:MemS}(h:TV S ins M)(hp:M.get 1=6):Nx S ins M (fO (g.step M) M):=by
 have hpl:=hS.pl;have U7:=hS.nb;have UM:=hS.ro;have hc:0 <= M.get 2 /\ M.get 2 <= S.nb /\ (M.get 3=0 \/ (M.get 3=1 /\ M.get 2<S.nb /\ 0 <= M.get 8 /\ M.get 8 <= 60)):=by rcases h.ct with h|h|h|h|h|h|h|h <;> omega
 unfold fO;show Nx S ins M (if af g.S (M.get 2)<0 then ⟨aS (g.step M) 7 0 M,0,bI,false⟩ else _);rw[hg]
 by_cases hb:af S (M.get 2)<0
 ·rw[if_pos hb];have ei:M.get 2=S.nb:=by
   unfold af at hb;rw[if_neg (by omega)] at hb;split at hb <;> omega
  refine Ll hS h (by omega) (.inr (.inr (.inr (.inr (.inr (.inr (.inr ⟨rfl,by omega,by omega⟩))))))) (by omega) ?_;unfold pI;rw[hp];show (S.nb:Int)-0<l6 _ (M.get 2) (M.get 3) (M.get 8);have:M.get 3=0:=by omega
  rw[this,ei];unfold l6;simp;omega
 ·rw[if_neg hb];have hi:M.get 2<S.nb:=by
   rcases qy (S:=S) (by omega) (M.get 2) with e|⟨_,e,_⟩ <;> omega
  refine E2 hS hg h hp (by omega) g.e2 (M.get 2) _ _ (by omega) (by omega) (λ fu=>.inr (.inr (.inr (.inr (.inr (.inr (.inl ⟨rfl,by omega,by omega,.inl rfl⟩))))))) (λ fu f0 f1=>.inr (.inr (.inr (.inr (.inr (.inr (.inl ⟨rfl,by omega,by omega,.inr ⟨rfl,by omega,f0,f1⟩⟩))))))) (λ f f'=>?_) (λ f fu hfu=>?_) (λ f f' hf=>?_) (λ f=>?_)
  all_goals (show l6 _ _ _ _<l6 _ _ _ _;unfold l6;simp;omega)
theorem q2{S:Setup}(hS:SetV S){g:Gm}(hg:g.S=S){ins:Nat -> Inp}{M:MemS}(h:TV S ins M)(hp:M.get 1=2):Nx S ins M (dq (g.step M) M):=by
 have hpl:=hS.pl;have U7:=hS.nb;have UM:=hS.ro;have hl:=h.l48 hS;have hec:0 <= M.get 11 /\ M.get 11 <= 40:=by
  rcases h.ec with e|e
  ·have:=e.1;omega
  ·exact e
 have hj:M.get 3=0 \/ (M.get 3=1 /\ 0 <= M.get 8 /\ M.get 8 <= 60):=by rcases h.ct with h|h|h|h|h|h|h|h <;> omega
 have done:∀ (N:MemS) (e:Eff) (em:Bool),Kp S.players M N -> Ef M ⟨N,0,e,em⟩ -> Nx S ins M ⟨aS (g.step M) 3 0 N,0,e,em⟩:=λ N e em hN hE=>by
  have UB:48 <= N.cs.length:=by rw[hN.len];exact hl
  refine jF hS h (by omega) hN (gZ (g.step M) _ _) (p:=3) (i:=0) (j:=0) (q:=N.get 4) (x:=N.get 5) (fu:=N.get 8) (λ k=>if5 (f:=N.get) (lJ UB (g.step M) _ _ k).symm rfl rfl) rfl ⟨hE.yes,hE.no⟩ (.inr (.inr (.inr (.inl ⟨rfl,by omega,by omega⟩)))) (by omega) ?_;unfold pI;rw[hp];show l3 _ _ 0<l2 _ _ (M.get 3) (M.get 8);unfold l2;split <;> omega
 unfold dq dK ln fA dV;show Nx S ins M (if (if M.get 3=0 then decide (g.e1<0) else bH g.code g.cn M)=true then ⟨aS (g.step M) 3 0 (if M.get 3=0 then (if g.e1<0 then (⟨aU g.e1 g.S.fuel 0 0 M,0,bI,false⟩:VR) else ⟨(aU g.e1 g.S.fuel 0 0 M).set 3 1,0,bI,false⟩) else ⟨(ao g.S g.code g.cn M).M,0,(ao g.S g.code g.cn M).e,(ao g.S g.code g.cn M).em⟩).M,0,(if M.get 3=0 then (if g.e1<0 then (⟨aU g.e1 g.S.fuel 0 0 M,0,bI,false⟩:VR) else ⟨(aU g.e1 g.S.fuel 0 0 M).set 3 1,0,bI,false⟩) else ⟨(ao g.S g.code g.cn M).M,0,(ao g.S g.code g.cn M).e,(ao g.S g.code g.cn M).em⟩).e,(if M.get 3=0 then (if g.e1<0 then (⟨aU g.e1 g.S.fuel 0 0 M,0,bI,false⟩:VR) else ⟨(aU g.e1 g.S.fuel 0 0 M).set 3 1,0,bI,false⟩) else ⟨(ao g.S g.code g.cn M).M,0,(ao g.S g.code g.cn M).e,(ao g.S g.code g.cn M).em⟩).em⟩
  else ⟨(if M.get 3=0 then (if g.e1<0 then (⟨aU g.e1 g.S.fuel 0 0 M,0,bI,false⟩:VR) else ⟨(aU g.e1 g.S.fuel 0 0 M).set 3 1,0,bI,false⟩) else ⟨(ao g.S g.code g.cn M).M,0,(ao g.S g.code g.cn M).e,(ao g.S g.code g.cn M).em⟩).M,0,(if M.get 3=0 then (if g.e1<0 then (⟨aU g.e1 g.S.fuel 0 0 M,0,bI,false⟩:VR) else ⟨(aU g.e1 g.S.fuel 0 0 M).set 3 1,0,bI,false⟩) else ⟨(ao g.S g.code g.cn M).M,0,(ao g.S g.code g.cn M).e,(ao g.S g.code g.cn M).em⟩).e,(if M.get 3=0 then (if g.e1<0 then (⟨aU g.e1 g.S.fuel 0 0 M,0,bI,false⟩:VR) else ⟨(aU g.e1 g.S.fuel 0 0 M).set 3 1,0,bI,false⟩) else ⟨(ao g.S g.code g.cn M).M,0,(ao g.S g.code g.cn M).e,(ao g.S g.code g.cn M).em⟩).em⟩)
 by_cases Vv:M.get 3=0
 ·rw[if_pos Vv,if_pos Vv]
  by_cases he:g.e1<0
  ·rw[if_pos (by simpa using he),if_pos he];show Nx S ins M ⟨aS (g.step M) 3 0 (aU g.e1 g.S.fuel 0 0 M),0,bI,false⟩;rw[show aU g.e1 g.S.fuel 0 0 M=M by unfold aU;rw[if_pos he]];exact done M bI false .refl ⟨λ h=>by simp at h,λ _=>rfl⟩
  ·rw[if_neg (by simpa using he),if_neg he];show Nx S ins M ⟨(aU g.e1 g.S.fuel 0 0 M).set 3 1,0,bI,false⟩;rw[hg];obtain⟨s1,s2,s3⟩:=Bv (P:=S.players) (M:=M) (fu:=S.fuel) (a:=0) (b:=0) hl he;generalize aU g.e1 S.fuel 0 0 M=N at *;have UB:48 <= N.cs.length:=by rw[s1.len];exact hl
   have n1:=s1.get 1 (by omega);have n2:=s1.get 2 (by omega);have n4:=s1.get 4 (by omega);have n5:=s1.get 5 (by omega);refine jF hS h (by omega) s1 (aW _ _ _) (p:=2) (i:=M.get 2) (j:=1) (q:=M.get 4) (x:=M.get 5) (fu:=S.fuel) (λ k=>?_) s2 ⟨λ h=>by simp at h,λ _=>s3⟩ (.inr (.inr (.inl ⟨rfl,.inr ⟨rfl,by have:=hS.fu;omega,by have:=hS.fu;omega⟩⟩))) (by omega) ?_
   ·show (N.set 3 1).get k=_;rw[cm UB (by omega) (by omega)]
    by_cases k1:k=1
    ·subst k1;simp;omega
    by_cases k2:k=2
    ·subst k2;simp;omega
    by_cases k3:k=3
    ·subst k3;simp
    by_cases k4:k=4
    ·subst k4;simp;omega
    by_cases k5:k=5
    ·subst k5;simp;omega
    simp[k1,k2,k3,k4,k5]
   ·have hfu:=hS.fu.2;unfold pI;rw[hp,Vv];show l2 _ _ 1 S.fuel<l2 _ _ 0 _;unfold l2;first|(simp;done)|(simp;omega)
 ·rw[if_neg Vv,if_neg Vv];obtain⟨hj1,hf⟩:M.get 3=1 /\ (0 <= M.get 8 /\ M.get 8 <= 60):=by omega
  obtain⟨s1,s2,s3⟩:=Bt hS (M:=M) (code:=g.code) (n:=g.cn) hl hec hf;rw[hg];generalize ao S g.code g.cn M=r at *;have n1:=s1.get 1 (by omega);have n2:=s1.get 2 (by omega);have n3:=s1.get 3 (by omega);have n4:=s1.get 4 (by omega);have n5:=s1.get 5 (by omega)
  by_cases he:bH g.code g.cn M=true
  ·rw[if_pos he];exact done r.M r.e r.em s1 ⟨s2.yes,s2.no⟩
  ·rw[if_neg he];show Nx S ins M ⟨r.M,0,r.e,r.em⟩;rcases s3 with ⟨s4,s5,s6⟩|⟨s4,s5,s6⟩
   ·refine jF hS h (by omega) s1 rfl (p:=2) (i:=M.get 2) (j:=1) (q:=M.get 4) (x:=M.get 5) (fu:=M.get 8-1) (λ k=>?_) s5 ⟨s2.yes,s2.no⟩ (.inr (.inr (.inl ⟨rfl,.inr ⟨rfl,by omega,by omega⟩⟩))) (by omega) ?_
    ·show r.M.get k=_
     by_cases k1:k=1
     ·subst k1;simp;omega
     by_cases k2:k=2
     ·subst k2;simp;omega
     by_cases k3:k=3
     ·subst k3;simp;omega
     by_cases k4:k=4
     ·subst k4;simp;omega
     by_cases k5:k=5
     ·subst k5;simp;omega
     simp[k1,k2,k3,k4,k5]
    ·unfold pI;rw[hp,hj1];show l2 _ _ 1 _<l2 _ _ 1 _;unfold l2;first|(simp;done)|(simp;omega)
   ·exact absurd s5 he
structure En(S:Setup)(ins:Nat -> Inp)(M N:MemS):Prop where
 len:(N.cs.length:Int)=sizeOf S
 z:∀k:Int,1 <= k -> k <= 10 -> N.get k=0
 t0:N.get 0=M.get 0+1
 pl:∀q:Nat,(q:Int)<S.players -> N.get (48+4*q)=(ins q).dx /\ N.get (48+4*q+1)=(ins q).dy /\ N.get (48+4*q+2)=(ins q).act
 n11:N.get 11=M.get 11
theorem uM{M:MemS}(hl:48 <= M.cs.length):∀ (n:Nat),n <= 10 -> (∀k:Int,(cQ M n).get k=if 1 <= k /\ k <= n then 0 else M.get k) /\ (cQ M n).cs.length=M.cs.length
 | 0,_=>⟨λ k=>by rw[if_neg (by omega)];rfl,rfl⟩
 | n+1,hn=>by
  obtain⟨h1,h2⟩:=uM hl n (by omega);refine⟨λ k=>?_,?_⟩
  ·rw[cQ,cm (by rw[h2];exact hl) (by omega) (by omega),h1]
   by_cases e:k=((n+1:Nat):Int)
   ·rw[if_pos e,if_pos (by omega)]
   ·rw[if_neg e]
    by_cases e2:1 <= k /\ k <= n
    ·rw[if_pos e2,if_pos (by omega)]
    ·rw[if_neg e2,if_neg (by omega)]
  ·rw[cQ,aW];exact h2
theorem NA{S:Setup}(hp:0 <= S.players){t:Stp}(ht:t.S=S)(M:MemS):Hi S.players M (gK t M):=by
 subst ht;unfold gK;split
 ·next hb=>exact(Hi.refl).setB hp hb (by omega) _
 ·exact .refl
theorem q7{S:Setup}(hS:SetV S){g:Gm}(hg:g.S=S){ins:Nat -> Inp}{M:MemS}(h:TV S ins M)(hp:M.get 1=7):(gJ (g.step M)=false /\ Nx S ins M ⟨dS (g.step M) M,0,bI,false⟩) \/ (gJ (g.step M)=true /\ En S ins M (dS (g.step M) M)):=by
 have hpl:=hS.pl;have U7:=hS.nb;have hc:0 <= M.get 2 /\ M.get 2<S.nb:=by rcases h.ct with h|h|h|h|h|h|h|h <;> omega
 have hl:=h.l48 hS;have ZE:=h.t0;have hh:=NA (S:=S) (by omega) (t:=g.step M) hg M;unfold gJ dS il;generalize gK (g.step M) M=N at *;have UB:48 <= N.cs.length:=by rw[hh.len];exact hl
 have e0:=hh.get 0 (by omega);have e1:=hh.get 1 (by omega);have e3:=hh.get 3 (by omega);have e4:=hh.get 4 (by omega);have e8:=hh.get 8 (by omega);show ((if bz (M.get 2+1)<g.S.nb then false else true)=false /\ Nx S ins M ⟨if bz (M.get 2+1)<g.S.nb then N.set 2 (bz (M.get 2+1)) else cQ (N.set 0 (bz (N.get 0+1))) 10,0,bI,false⟩) \/ ((if bz (M.get 2+1)<g.S.nb then false else true)=true /\ En S ins M (if bz (M.get 2+1)<g.S.nb then N.set 2 (bz (M.get 2+1)) else cQ (N.set 0 (bz (N.get 0+1))) 10));rw[dH (by omega),dH (by omega),hg]
 by_cases hi:M.get 2+1<S.nb
 ·rw[if_pos hi,if_pos hi];refine .inl ⟨rfl,jF hS h (by omega) (hh.kp (by omega)) (aW _ _ _) (λ k=>ST (f:=N.get) (cm UB (by omega) (by omega) k).symm) e8 (hh.ef (by omega)) ?_ (by omega) ?_⟩
  ·rw[e1,e3,e4,hp];exact .inr (.inr (.inr (.inr (.inr (.inr (.inr ⟨rfl,by omega,by omega⟩))))))
  ·unfold pI;rw[e1,e3,e4,hp];show (S.nb:Int)-(M.get 2+1)<(S.nb:Int)-M.get 2;omega
 ·rw[if_neg hi,if_neg hi];obtain⟨z1,z2⟩:=uM (M:=N.set 0 (N.get 0+1)) (by rw[aW];exact UB) 10 (Nat.le_refl _);have g0:=cm (M:=N) (i:=0) (v:=N.get 0+1) UB (by omega) (by omega);refine .inr ⟨rfl,⟨by rw[z2,aW,hh.len];exact h.len,λ k k1 k2=>by rw[z1,if_pos (by omega)],by rw[z1,if_neg (by omega),g0,if_pos rfl,e0],λ q hq=>?_,by rw[z1,if_neg (by omega),g0,if_neg (by omega)];exact hh.get 11 (by omega)⟩⟩;have:=h.pl q (by rw[hp,if_neg (by omega)];exact hq);rw[z1,if_neg (by omega),g0,if_neg (by omega),hh.get _ (by omega),z1,if_neg (by omega),g0,if_neg (by omega),hh.get _ (by omega),z1,if_neg (by omega),g0,if_neg (by omega),hh.get _ (by omega)];exact this
theorem q0{S:Setup}(hS:SetV S){g:Gm}(hg:g.S=S){ins:Nat -> Inp}(hi:∀q:Nat,(q:Int)<S.players -> g.ins.getD (g.io+q) dI=ins q)(U1:S.players <= g.ni){M:MemS}(h:TV S ins M)(hp:M.get 1=0):Nx S ins M ⟨aY (g.step M) M,0,bI,false⟩:=by
 have hpl:=hS.pl;have U7:=hS.nb;have hc:0 <= M.get 2 /\ M.get 2<S.players:=by rcases h.ct with h|h|h|h|h|h|h|h <;> omega
 have hl:=h.l48 hS;obtain⟨i,hii⟩:=Int.eq_ofNat_of_zero_le hc.1;have hpa:aj S (M.get 2)=48+4*(i:Int):=by
  rcases xg (S:=S) (M.get 2) with ⟨e,e2⟩|⟨e1,e2,e3⟩
  ·omega
  ·rw[e3,hii]
 have hlen:=h.len;have hA:(bB (g.step M) M).cs.length=M.cs.length /\ ∀k,(k <= 10 \/ 48 <= k \/ k=11) -> (bB (g.step M) M).get k=if k=11 then (if M.get 2=0 then 0 else M.get 11) else M.get k:=by
  unfold bB;show (if M.get 2=0 then (M.set 13 g.version).set 11 0 else M).cs.length=_ /\ _
  by_cases h0:M.get 2=0
  ·rw[if_pos h0];refine⟨by simp only[aW],λ k hk=>?_⟩;rw[if_pos h0,cm (by rw[aW];exact hl) (by omega) (by omega),cm hl (by omega) (by omega)]
   by_cases e:k=11
   ·rw[if_pos e,if_pos e]
   ·rw[if_neg e,if_neg e,if_neg (by omega)]
  ·rw[if_neg h0];refine⟨rfl,λ k hk=>?_⟩;rw[if_neg h0]
   by_cases e:k=11
   ·rw[if_pos e,e]
   ·rw[if_neg e]
 have hB:(bG (g.step M) (bB (g.step M) M)).cs.length=M.cs.length /\ (∀k,(k <= 11 \/ (48 <= k /\ (k<48+4*(i:Int) \/ 51+4*(i:Int) <= k))) -> (bG (g.step M) (bB (g.step M) M)).get k=if k=11 then (if M.get 2=0 then 0 else M.get 11) else M.get k) /\
   (bG (g.step M) (bB (g.step M) M)).get (48+4*(i:Int))=(ins i).dx /\ (bG (g.step M) (bB (g.step M) M)).get (48+4*(i:Int)+1)=(ins i).dy /\ (bG (g.step M) (bB (g.step M) M)).get (48+4*(i:Int)+2)=(ins i).act:=by
  generalize bB (g.step M) M=A at *;obtain⟨a1,a2⟩:=hA;have e:bG (g.step M) A=((A.set (48+4*(i:Int)+0) (ins i).dx).set (48+4*(i:Int)+1) (ins i).dy).set (48+4*(i:Int)+2) (ins i).act:=by
   unfold bG Stp.inp;show (if aj g.S (M.get 2) >= 0 then if M.get 2<(g.ni:Int) then ((A.set (aj g.S (M.get 2)+0) (g.ins.getD (g.io+(M.get 2).toNat) dI).dx).set (aj g.S (M.get 2)+1) (g.ins.getD (g.io+(M.get 2).toNat) dI).dy).set (aj g.S (M.get 2)+2) (g.ins.getD (g.io+(M.get 2).toNat) dI).act else A else A)=_;rw[hg,hpa,if_pos (by omega),if_pos (by omega),hii,Int.toNat_natCast,hi i (by omega)]
  rw[e];have hal:48+4*(i:Int)+2<A.cs.length:=by rw[a1];unfold sizeOf at hlen;omega
  refine⟨by simp only[aW];exact a1,λ k hk=>?_,?_,?_,?_⟩
  ·rw[bK (by omega),bK (by omega),bK (by omega)];exact a2 k (by omega)
  ·rw[bK (by omega),bK (by omega),Int.add_zero,kP (by omega)]
  ·rw[bK (by omega),kP (by rw[aW];omega)]
  ·rw[kP (by simp only[aW];omega)]
 unfold aY;generalize bG (g.step M) (bB (g.step M) M)=N at *;obtain⟨b1,b2,b3,b4,b5⟩:=hB;have UB:48 <= N.cs.length:=by rw[b1];exact hl
 have n0:=b2 0 (by omega);have n1:=b2 1 (by omega);have n2:=b2 2 (by omega);have n3:=b2 3 (by omega);have n4:=b2 4 (by omega);have n8:=b2 8 (by omega);have n11:=b2 11 (by omega);simp only[show ¬ ((0:Int)=11) by decide,show ¬ ((1:Int)=11) by decide,show ¬ ((2:Int)=11) by decide,show ¬ ((3:Int)=11) by decide,show ¬ ((4:Int)=11) by decide,show ¬ ((8:Int)=11) by decide,if_false,if_true] at n0 n1 n2 n3 n4 n8 n11;have XB:∀q:Nat,(q:Int)<(i:Int)+1 -> N.get (48+4*q)=(ins q).dx /\ N.get (48+4*q+1)=(ins q).dy /\ N.get (48+4*q+2)=(ins q).act:=λ q hq=>by
  by_cases e:q=i
  ·subst e;exact⟨b3,b4,b5⟩
  ·have h2:=h.pl q (by rw[if_pos hp,hii];omega);rw[b2 _ (by omega),b2 _ (by omega),b2 _ (by omega),if_neg (by omega),if_neg (by omega),if_neg (by omega)];exact h2
 have hsv:HM M↔M.get 2=0:=⟨λ e=>e.2,λ e=>⟨hp,e⟩⟩;have Vd:N.get 11=if HM M then 0 else M.get 11:=by
  rw[n11]
  by_cases e:M.get 2=0
  ·rw[if_pos e,if_pos (hsv.2 e)]
  ·rw[if_neg e,if_neg (λ x=>e (hsv.1 x))]
 have hec:0 <= N.get 11 /\ N.get 11 <= 40:=by
  rw[Vd];split
  ·omega
  ·rcases h.ec with e|e
   ·contradiction
   ·exact e
 unfold b7;show Nx S ins M ⟨if bz (M.get 2+1)<g.S.players then N.set 2 (bz (M.get 2+1)) else aS (g.step M) 1 0 N,0,bI,false⟩;rw[dH (by omega),hg];split
 ·have gg:=cm (M:=N) (i:=2) (v:=M.get 2+1) UB (by omega) (by omega);have g1:(N.set 2 (M.get 2+1)).get 1=0:=by rw[gg,if_neg (by decide),n1,hp]
  have g2:(N.set 2 (M.get 2+1)).get 2=M.get 2+1:=by rw[gg,if_pos rfl]
  refine⟨⟨by rw[aW,b1];exact hlen,by rw[gg,if_neg (by decide),n0];exact h.t0,by rw[g1,g2];exact .inl ⟨rfl,by omega,by omega⟩,λ q hq=>?_,.inr (by rw[gg,if_neg (by decide)];exact hec)⟩,?_,by rw[g1,hp];exact Int.le_refl _,by rw[gg,if_neg (by decide),n0],λ e=>by have:=e.2;rw[g2] at this;omega,λ e=>by simp at e,λ _=>by rw[gg,if_neg (by decide)];exact Vd⟩
  ·rw[g1,if_pos rfl,g2,hii] at hq;rw[gg,if_neg (by omega),gg,if_neg (by omega),gg,if_neg (by omega)];exact XB q hq
  ·unfold pI;rw[g1,g2,hp];show l0 _ _ _ (M.get 2+1)<l0 _ _ _ (M.get 2);unfold l0;omega
 ·have gg:=lJ UB (g.step M) 1 0;have g1:(aS (g.step M) 1 0 N).get 1=1:=by rw[gg];simp
  have g2:(aS (g.step M) 1 0 N).get 2=0:=by rw[gg];simp
  have g3:(aS (g.step M) 1 0 N).get 3=0:=by rw[gg];simp
  have gk:∀k,3<k -> (aS (g.step M) 1 0 N).get k=N.get k:=λ k hk=>by rw[gg,if_neg (by omega),if_neg (by omega),if_neg (by omega)]
  refine⟨⟨by rw[gZ,b1];exact hlen,by rw[gg,if_neg (by decide),if_neg (by decide),if_neg (by decide),n0];exact h.t0,by rw[g1,g2,g3];exact .inr (.inl ⟨rfl,by omega,by omega,.inl rfl⟩),λ q hq=>?_,.inr (by rw[gk 11 (by omega)];exact hec)⟩,?_,by rw[g1,hp];decide,by rw[gg,if_neg (by decide),if_neg (by decide),if_neg (by decide),n0],λ e=>by have:=e.1;rw[g1] at this;omega,λ e=>by simp at e,λ _=>by rw[gk 11 (by omega)];exact Vd⟩
  ·rw[g1,if_neg (by decide)] at hq;rw[gk _ (by omega),gk _ (by omega),gk _ (by omega)];exact XB q (by omega)
  ·unfold pI;rw[g1,g2,g3,hp];show l1 _ _ _ 0 0 _<l0 _ _ _ (M.get 2);unfold l0 l1;simp;omega
theorem RC{S:Setup}(hS:SetV S){g:Gm}(hg:g.S=S){ins:Nat -> Inp}(hi:∀q:Nat,(q:Int)<S.players -> g.ins.getD (g.io+q) dI=ins q)(U1:S.players <= g.ni){M:MemS}(h:TV S ins M) :
  IQ M /\ ((kB g M=false /\ Nx S ins M (fL g M)) \/ (kB g M=true /\ En S ins M (jH g M) /\ (fL g M).em=false /\ ¬ HM M /\ (0 <= M.get 11 /\ M.get 11 <= 40))):=by
 have hph:IQ M:=by
  rcases h.ct with h|h|h|h|h|h|h|h <;> (refine⟨?_,?_⟩ <;> omega)
 refine⟨hph,?_⟩
 by_cases h0:M.get 1=0
 ·left;rw[show fL g M=⟨aY (g.step M) M,0,bI,false⟩ by simp[fL,h0]];exact⟨by simp[kB,h0],q0 hS hg hi U1 h h0⟩
 by_cases h1:M.get 1=1
 ·left;rw[show fL g M=fN (g.step M) M by simp[fL,h1]];exact⟨by simp[kB,h1],q1 hS hg h h1⟩
 by_cases h2:M.get 1=2
 ·left;rw[show fL g M=dq (g.step M) M by simp[fL,h2]];exact⟨by simp[kB,h2],q2 hS hg h h2⟩
 by_cases h3:M.get 1=3
 ·left;rw[show fL g M=⟨aZ (g.step M) M,0,bI,false⟩ by simp[fL,h3]];exact⟨by simp[kB,h3],q3 hS hg h h3⟩
 by_cases h4:M.get 1=4
 ·left;rw[show fL g M=⟨bT (g.step M) M,0,bI,false⟩ by simp[fL,h4]];exact⟨by simp[kB,h4],q4 hS hg h h4⟩
 by_cases h5:M.get 1=5
 ·left;rw[show fL g M=⟨eC (g.step M) M,0,bI,false⟩ by simp[fL,h5]];exact⟨by simp[kB,h5],q5 hS hg h h5⟩
 by_cases h6:M.get 1=6
 ·left;rw[show fL g M=fO (g.step M) M by simp[fL,h6]];exact⟨by simp[kB,h6],q6 hS hg h h6⟩
 have h7:M.get 1=7:=by have:=hph.1;have:=hph.2;omega
 have e:fL g M=⟨dS (g.step M) M,0,bI,false⟩:=by simp[fL,h7]
 rw[jH,e];have e2:kB g M=gJ (g.step M):=by simp[kB,h7]
 rw[e2];rcases q7 hS hg h h7 with ⟨a,b⟩|⟨a,b⟩
 ·exact .inl ⟨a,b⟩
 ·refine .inr ⟨a,b,rfl,λ e=>by have:=e.1;omega,?_⟩;rcases h.ec with e|e
  ·have:=e.1;omega
  ·exact e
def Numb(t c:Int)(es:List Eff):Prop:=∀k,k<es.length -> (es.getD k bI).t=t /\ (es.getD k bI).i=c+k
theorem Numb.nil{t c:Int}:Numb t c []:=λ k hk=>by simp at hk
theorem Numb.cons{t c:Int}{e:Eff}{es:List Eff}(h1:e.t=t)(h2:e.i=c)(h:Numb t (c+1) es):Numb t c (e::es):=λ k hk=>by
 rcases k with _|k
 ·exact⟨h1,by rw[List.getD_cons_zero,h2];omega⟩
 ·have:=h k (by simpa using hk);rw[List.getD_cons_succ];exact⟨this.1,by rw[this.2];omega⟩
theorem E3{S:Setup}(hS:SetV S){g:Gm}(hg:g.S=S){ins:Nat -> Inp}(hi:∀q:Nat,(q:Int)<S.players -> g.ins.getD (g.io+q) dI=ins q)(U1:S.players <= g.ni):∀ (n:Nat) (M:MemS),TV S ins M -> pI S M <= n ->
  ∃m,m+1 <= n /\ eL g (m+1) M /\ (∀k:Int,1 <= k -> k <= 10 -> (gU g (m+1) M).get k=0) /\ ((gU g (m+1) M).cs.length:Int)=sizeOf S /\ (gU g (m+1) M).get 0=M.get 0+1 /\
   Numb (M.get 0) (if HM M then 0 else M.get 11) (effsV g (m+1) M) /\ (gU g (m+1) M).get 11=(if HM M then 0 else M.get 11)+(effsV g (m+1) M).length /\ (gU g (m+1) M).get 11 <= 40
 | 0,M,h,hl=>by
  have:=E1 hS.pl ⟨by have:=hS.nb;omega,by have:=hS.nb;omega⟩ hS.ro h.ct;unfold pI at hl;omega
 | n+1,M,h,hl=>by
  obtain⟨hph,⟨e1,hx⟩|⟨e1,hx,hem,At,Vd⟩⟩:=RC hS hg hi U1 h
  ·obtain⟨m,hm,k1,k2,k3,k4,k5,k6,k7⟩:=E3 hS hg hi U1 n (fL g M).M hx.tv (by have:=hx.lt;omega);rw[if_neg hx.ns] at k5 k6;have er:gU g (m+1+1) M=gU g (m+1) (fL g M).M:=rfl;refine⟨m+1,by omega,⟨hph,.inr ⟨e1,k1⟩⟩,by rw[er];exact k2,by rw[er];exact k3,by rw[er,k4,hx.t0],?_,?_,by rw[er];exact k7⟩
   ·cases he:(fL g M).em with
    | true =>
     obtain⟨a1,a2,a3,a4⟩:=hx.yes he;rw[wm he,if_neg a1];refine Numb.cons a2 a3 ?_;rw[hx.t0,a4] at k5;exact k5
    | false =>
     rw[qg (by rw[he];decide)];have:=hx.no he;rw[hx.t0,this] at k5;exact k5
   ·rw[er];cases he:(fL g M).em with
    | true =>
     obtain⟨a1,a2,a3,a4⟩:=hx.yes he;rw[wm he,if_neg a1,List.length_cons,k6,a4];show _+(List.length (effsV g (m+1) (jH g M)):Int)=_;omega
    | false =>
     rw[qg (by rw[he];decide),k6,hx.no he]
  ·refine⟨0,by omega,⟨hph,.inl ⟨rfl,e1⟩⟩,hx.z,hx.len,hx.t0,?_,?_,?_⟩
   ·rw[qg (by rw[hem];decide)];exact .nil
   ·rw[qg (by rw[hem];decide),if_neg At];show (jH g M).get 11=M.get 11+(([]:List Eff).length:Int);rw[hx.n11];simp
   ·show (jH g M).get 11 <= 40;rw[hx.n11];exact Vd.2
def Lm(p n r f:Int):Int:=i64.wrap ((i64.wrap ((i64.wrap ((i64.wrap ((i64.wrap (p+(i64.wrap ((i64.wrap ((i64.wrap (p+1))+n))*(i64.wrap (f+3))))))+(i64.wrap (2*n))))+3))+(i64.wrap ((i64.wrap ((i64.wrap (r*n))*(i64.wrap (n-1)))).tdiv 2))))+(i64.wrap (n*(i64.wrap (n+1)))))
theorem Bw{S:Setup}(hS:SetV S):l0 S.players S.nb S.rounds 0 <= Lm S.players S.nb S.rounds 60 /\ Lm S.players S.nb S.rounds 60 <= 650:=by
 have hp:=hS.pl;have hn:=hS.nb;have hr:=hS.ro;have key:∀p:Fin 3,∀n:Fin 5,∀r:Fin 3,l0 ((p.1+1:Nat):Int) ((n.1+1:Nat):Int) ((r.1+1:Nat):Int) 0 <= Lm ((p.1+1:Nat):Int) ((n.1+1:Nat):Int) ((r.1+1:Nat):Int) 60 /\ Lm ((p.1+1:Nat):Int) ((n.1+1:Nat):Int) ((r.1+1:Nat):Int) 60 <= 650:=by decide +kernel
 have:=key ⟨S.players.toNat-1,by omega⟩ ⟨S.nb-1,by omega⟩ ⟨S.rounds.toNat-1,by omega⟩;dsimp only at this;rwa [show ((S.players.toNat-1+1:Nat):Int)=S.players by omega,show S.nb-1+1=S.nb by omega,show ((S.rounds.toNat-1+1:Nat):Int)=S.rounds by omega] at this
theorem setV{xs:List Int}{F:HL}{A:Option Addr}{n:Nat}(hl:ArgL F A n xs){S:Setup}{T:HL}(h:SetG xs S T):SetV S:=by
 have h1:=sZ hl;have h2:=xU hl;have hn:=h.nb;have k2:=jD hl 2;obtain⟨e1,e2,e3,e4,e5,e6,e7,e8⟩:=h.nums;exact⟨by rw[h.pl];exact h2,by omega,by rw[e7];omega,by rw[e8];omega⟩
theorem lK{l:List Int}{i j:Nat}{v:Int}(h:i≠j):(l.set i v).getD j 0=l.getD j 0:=by
 rw[List.getD_eq_getElem?_getD,List.getD_eq_getElem?_getD,List.getElem?_set_ne h]
theorem xh{S:Setup}(hp:0 <= S.players){j:Nat}(hj:j<48):∀i,i <= S.nb -> (aH S i).getD j 0=0
 | 0,_=>by
  rw[aH,List.getD_eq_getElem?_getD,List.getElem?_replicate];split <;> rfl
 | i+1,hi=>by
  have hb:af S (i:Int)=48+4*S.players+8*(i:Int):=by
   rcases qy hp (i:Int) with e|⟨_,_,e⟩
   ·unfold af at e;rw[if_neg (by omega),if_neg (by omega)] at e;omega
   ·exact e
  rw[aH,lK (by omega),lK (by omega),lK (by omega),lK (by omega),lK (by omega),lK (by omega)];exact xh hp hj i (by omega)
structure TE2(S:Setup)(t:Int)(M:MemS):Prop where
 len:(M.cs.length:Int)=sizeOf S
 z:∀k:Int,1 <= k -> k <= 10 -> M.get k=0
 t0:M.get 0=t
theorem NB{S:Setup}(hS:SetV S):TE2 S 0 ⟨aH S S.nb,[],0⟩:=by
 have hp:=hS.pl;have hlen:(((⟨aH S S.nb,[],0⟩:MemS).cs.length:Nat):Int)=sizeOf S:=by
  show ((aH S S.nb).length:Int)=_;rw[gx];unfold sizeOf;omega
 have g:∀k:Int,0 <= k -> k<48 -> (⟨aH S S.nb,[],0⟩:MemS).get k=0:=λ k h0 h1=>by
  unfold MemS.get;split
  ·exact xh (by omega) (by omega) S.nb (Nat.le_refl _)
  ·rfl
 exact⟨hlen,λ k h1 h2=>g k (by omega) (by omega),g 0 (by omega) (by omega)⟩
theorem TE2.tv{S:Setup}(hS:SetV S){t:Int}(ht:0 <= t /\ t <= 1000){M:MemS}(h:TE2 S t M)(ins:Nat -> Inp):TV S ins M /\ pI S M=l0 S.players S.nb S.rounds 0 /\ HM M:=by
 have h1:=h.z 1 (by omega) (by omega);have h2:=h.z 2 (by omega) (by omega);have hp:=hS.pl;refine⟨⟨h.len,by rw[h.t0];omega,by rw[h1,h2];exact .inl ⟨rfl,by omega,by omega⟩,λ q hq=>by rw[h1,if_pos rfl,h2] at hq;omega,.inl ⟨h1,h2⟩⟩,?_,h1,h2⟩;unfold pI;rw[h1,h2];rfl
theorem RE{S:Setup}(hS:SetV S){g:Gm}(hg:g.S=S)(U1:S.players <= g.ni){t:Int}(ht:0 <= t /\ t <= 1000){M:MemS}(h:TE2 S t M):∃m,((m+1:Nat):Int) <= Lm S.players S.nb S.rounds 60 /\ eL g (m+1) M /\ TE2 S (t+1) (gU g (m+1) M) /\
  Numb t 0 (effsV g (m+1) M) /\ (gU g (m+1) M).get 11=((effsV g (m+1) M).length:Int) /\ ((effsV g (m+1) M).length:Int) <= 40:=by
 obtain⟨h1,h2,h3⟩:=h.tv hS ht (λ q=>g.ins.getD (g.io+q) dI);have hb:=Bw hS;have aew:=E1 hS.pl ⟨by have:=hS.nb;omega,by have:=hS.nb;omega⟩ hS.ro h1.ct;unfold pI at h2;obtain⟨m,a1,a2,a3,a4,a5,a6,a7,a8⟩:=E3 hS hg (λ _ _=>rfl) U1 (l0 S.players S.nb S.rounds 0).toNat M h1 (by unfold pI;omega);rw[if_pos h3] at a6 a7;rw[h.t0] at a5 a6;exact⟨m,by omega,a2,⟨a4,a3,a5⟩,a6,by rw[a7];omega,by omega⟩
theorem SetEq.pl{S S1:Setup}(h:SetEq S S1):S1.players=S.players:=h.nums.1
theorem SetEq.nb{S S1:Setup}(h:SetEq S S1):S1.nb=S.nb:=h.nums.2.1
theorem SetEq.size{S S1:Setup}(h:SetEq S S1):sizeOf S1=sizeOf S:=by unfold sizeOf;rw[h.pl,h.nb]
theorem SetEq.setV{S S1:Setup}(h:SetEq S S1)(hV:SetV S):SetV S1:=by
 obtain⟨e1,e2,_,_,_,_,_,_,_,_,e3,e4⟩:=h.nums;exact⟨by rw[e1];exact hV.pl,by rw[e2];exact hV.nb,by rw[e3];exact hV.ro,by rw[e4];exact hV.fu⟩
theorem TE2.eq{S S1:Setup}(h:SetEq S S1){t:Int}{M:MemS}(hT:TE2 S t M):TE2 S1 t M:=⟨by rw[h.size];exact hT.len,hT.z,hT.t0⟩
theorem E4{S S':Setup}(h:SetEq S S'):(S'.bods.drop S'.bo).map Bod.nm=(List.range S.nb).map λ k=>(S.body k).nm:=by
 rw[h.whole.1,List.drop_zero];apply List.ext_getElem?;intro k
 by_cases hk:k<S.nb
 ·obtain⟨A,c,e⟩:=h.bod k hk;have hl:k<S'.bods.length:=by rw[h.whole.2];exact hk
  have e2:S'.bods[k]?=some (S'.body k):=by
   show _=some (S'.bods.getD (S'.bo+k) dB);rw[h.whole.1,Nat.zero_add,List.getD_eq_getElem?_getD,List.getElem?_eq_getElem hl];rfl
  rw[List.getElem?_map,e2,e];simp[hk];rfl
 ·rw[List.getElem?_eq_none (by rw[List.length_map,h.whole.2];omega),List.getElem?_eq_none (by simp;omega)]
theorem SetEq.nm2{S S1 S2:Setup}(h1:SetEq S S1)(h2:SetEq S S2):S1.nm=S2.nm:=by
 have b1:=E4 h1;have b2:=E4 h2;obtain⟨x1,x2,x3,x4,x5,x6,x7,x8,x9,x10,x11,x12⟩:=h1.nums;obtain⟨y1,y2,y3,y4,y5,y6,y7,y8,y9,y10,y11,y12⟩:=h2.nums;unfold Setup.nm;rw[b1,b2,x1,x2,x3,x4,x5,x6,x7,x8,x9,x10,x11,x12,y1,y2,y3,y4,y5,y6,y7,y8,y9,y10,y11,y12]
theorem yw{S1 S2:Setup}(h:S1.nm=S2.nm)(j:Nat × Int)(n:Nat)(xs:List Inp):GEq (iW S1 j n xs) (iW S2 j n xs):=by
 refine⟨?_,λ k hk=>rfl⟩;unfold Gm.nm;simp only[h]
theorem pC{G G':Nat -> Gm}(h:∀k,GEq (G k) (G' k))(M:MemS):∀k,ii G M k=ii G' M k
 | 0=>rfl
 | k+1=>by rw[ii,ii,pC h M k,CJ (h k)]
theorem Bz{S S1 S2:Setup}(h1:SetEq S S1)(h2:SetEq S S2)(J:Nat -> Nat × Int)(xss:List (List Inp)):∀k,GEq (rG S1 J xss k) (rG S2 J xss k):=λ k=>yw (h1.nm2 h2) _ _ _
theorem PO{pl:Int}{n:Nat}{xs:List Inp}{now:Int}(h1:(n:Int)=pl)(h2:∀k,k<n -> fV (xs.getD k dI))(h3:now<6000):cI pl n xs now=0:=by
 unfold cI;rw[if_pos h1,if_pos h2,if_neg (by omega)]
theorem Ln{S1:Setup}(hV:SetV S1){t:Int}(ht:0 <= t /\ t <= 1000){M:MemS}(hT:TE2 S1 t M){xs:List Inp}(h1:(xs.length:Int)=S1.players)(h2:∀k,k<xs.length -> fV (xs.getD k dI))(j:Nat × Int):TkOk S1 j xs M /\ TE2 S1 (t+1) (fw (gt S1 j xs) M):=by
 obtain⟨m,a1,a2,a3,_⟩:=RE hV (g:=gt S1 j xs) rfl (by show S1.players <= (xs.length:Int);omega) ht hT;have hb:=(Bw hV).2;refine⟨⟨⟨m,by omega,a2⟩,by rw[hT.t0];exact ht.1,by rw[hT.t0];exact PO h1 h2 (by omega)⟩,?_⟩;rw[<- (EW (by omega) a2).1];exact a3
def RowOk(pl:Int)(xs:List Inp):Prop:=(xs.length:Int)=pl /\ ∀k,k<xs.length -> fV (xs.getD k dI)
theorem BA{S1:Setup}(hV:SetV S1){M0:MemS}(hT:TE2 S1 0 M0){xss:List (List Inp)}(J:Nat -> Nat × Int)(n:Nat)(hn:n <= 50)(hr:∀i,i<n -> RowOk S1.players (xss.getD i [])):∀i,i <= n -> TE2 S1 (i:Int) (ii (rG S1 J xss) M0 i)
 | 0,_=>hT
 | i+1,h=>by
  have ih:=BA hV hT J n hn hr i (by omega);have:=(Ln hV (t:=(i:Int)) (by omega) ih (hr i (by omega)).1 (hr i (by omega)).2 (J i)).2;rw[ii]
  exact_mod_cast this
theorem Lo{S1:Setup}(hV:SetV S1){M0:MemS}(hT:TE2 S1 0 M0){xss:List (List Inp)}(J:Nat -> Nat × Int)(n:Nat)(hn:n <= 50)(hr:∀i,i<n -> RowOk S1.players (xss.getD i []))(i:Nat)(hi:i<n):TkOk S1 (J i) (xss.getD i []) (ii (rG S1 J xss) M0 i) :=
 (Ln hV (t:=(i:Int)) (by omega) (BA hV hT J n hn hr i (by omega)) (hr i hi).1 (hr i hi).2 (J i)).1
theorem Lp{n:Int}(h:0 <= n):fV (Ac n):=by
 unfold fV Ac;dsimp only;split <;> omega
theorem kQ{F:HL}{A:Option Addr}{n:Nat}{xs:List Int}(hl:ArgL F A n xs){pl:Int}(hp:0 <= pl)(t:Int):RowOk pl (rowL pl xs t pl.toNat):=by
 refine⟨by rw[bV];omega,λ k hk=>?_⟩;rw[bV] at hk;rw[JE hk];exact Lp (MA hl pl t k).1
theorem ry{S S1:Setup}(hV:SetV S)(he:SetEq S S1):TE2 S1 0 ⟨aH S S.nb,[],0⟩:=(NB hV).eq he
theorem SlIs.rowN{α:Type}{e:Enc α}{T:TypeId}{l:List α}{A:Option Addr}{cap n:Nat}{Hl F:HL}(h:SlIs e T l A cap Hl)(hF:∀x∈Hl,x∈F)(hn:l.length=n):RowL e T F A n l:=hn ▸ h.toRowL hF
theorem g9{n m k:Int}(e:ai n m=k)(hm:0<m)(F:HL):Sp Tryz.prog 11 #[vI n,vI m] [] F (λ u H'=>u=vI k /\ H'=[]):=e ▸ eT n m (by omega) F
theorem oS{α:Type}{l r:List α}{o:Nat}(h:(l.drop o).take r.length=r){k:Nat}(hk:k<r.length)(d:α):l.getD (o+k) d=r.getD k d:=by
 have h1:((l.drop o).take r.length)[k]?=r[k]?:=by rw[h]
 rw[List.getElem?_take,if_pos hk,List.getElem?_drop] at h1;rw[List.getD_eq_getElem?_getD,List.getD_eq_getElem?_getD,h1]
structure Ver where (t:Int) (A:Option Addr) (n c:Nat) (e0 e1 e2:Int)
def gF:Enc Ver:=⟨5,λ p k=>match k with|0=>vI p.t|1=>.slice p.A p.n p.c|2=>vI p.e0|3=>vI p.e1|_=>vI p.e2,⟨0,none,0,0,0,0,0⟩⟩
noncomputable def Oi:TypeInfo:=match Tryz.prog.info? 146 with | some i=>i | none=>⟨.bool,"",0,0,false,0,0,none,false,#[]⟩
noncomputable def Oj:Value:=match Oi.zero with|some z=>z|none=>.bool false
theorem PP:EncOk gF Tryz.prog 146 Oi Oj where
 info:=by kernel_rfl
 zero:=by kernel_rfl
 size:=by kernel_rfl
 zsize:=by kernel_rfl
 zcell:=λ k hk=>by
  have h:∀k<5,Oj.cells[k]?=some (gF.cell gF.dflt k):=by intro k hk;(iterate 5 (rcases k with _|k;· kernel_rfl));omega
  exact h k hk
 one:=λ x k=>by unfold gF;dsimp only;split <;> rfl
 bytes:=Nat.le_of_ble_eq_true (by kernel_rfl)
abbrev mg(t:Int)(j:Nat)(A:Option Addr)(c:Nat):Ver:=⟨t,A,gN j,c,cJ j 0,cJ j 1,cJ j 2⟩
inductive Book2(tk:Int)(j1 j2 bp:Nat):HL -> Prop
 | mk (A:Option Addr) (c:Nat) (A1 A2:Option Addr) (c1 c2:Nat) (Hl T1 T2:HL) (hs:SlIs gF 146 [mg 0 j1 A1 c1,mg tk j2 A2 c2] A c Hl) (h1:CodT j1 A1 T1) (h2:CodT j2 A2 T2):Book2 tk j1 j2 bp (ap [(bp,.lit [.slice A 2 c] 149 (0,0))] [Hl,T1,T2])
theorem NC(tk:Int)(htk:0<tk)(j1 j2 bp q:Nat)(Aa:Option Addr)(ca:Nat)(Tz F:HL)(Za:j2<5)(hE:mF F)(h1:CodT j1 Aa Tz):Sp Tryz.prog 43 #[vP bp 0,vI tk,.string (si j2)] (ap [(bp,.lit [vS q 0 1 1] 149 (0,0)),(q,.lit [vI 0,.slice Aa (gN j1) ca,vI (cJ j1 0),vI (cJ j1 1),vI (cJ j1 2)] 146 (0,0))] [Tz]) F (λ u H'=>∃x:HL,H'=ap [] [x] /\ (u=vI 0 /\ Book2 tk j1 j2 bp x)):=by
 refine aav Tryz.func43 rfl mn (A:=[(bp,.lit [vS q 0 1 1] 149 (0,0)),(q,.lit [vI 0,.slice Aa (gN j1) ca,vI (cJ j1 0),vI (cJ j1 1),vI (cJ j1 2)] 146 (0,0))]) (Ts:=[Tz]) rfl λ w0=>?_;refine ae 21 [.own 0] λ _=>aal [] []<|ag [] [0,1,5,2,6,3,7,4,8,9,10,11,12,13,14] [.own 0,.own 0,.own 1]<|aad<|ae 1 [] λ _=>bL 29 (decide_eq_false (show ¬ tk <= 0 by omega))<|ae 6 [] λ _=>aaj (Hp:=[]) (Tp:=[]) [] [] (KR Za _ (aq hE)) ?_;rintro _ ⟨A1,c2,T3⟩ ⟨rfl,hC4⟩;dsimp only at hC4;refine ae 19 (aab 4) λ n5=>aal [9,12] []<|ag [] [0,1,5,6,2,7,3,4] [.own 0,.own 0,.own 0,.own 0,.own 1]<|aae 8 (aag [] [] λ n7=>?_);refine RD.dn 3 (.rows 5 1 (aL gF [mg 0 j1 Aa ca]) 146 (0,0))<|Qw 3<|aae 9 (xz [] PP ([mg 0 j1 Aa ca]) [mg tk j2 A1 c2] 0 0 rfl (SlIs.one (b:=q)) (Nat.le_of_ble_eq_true rfl) ?_);rintro A8 c9 UJ ⟨TF,WX⟩;refine ag [] [10,11] []<|aae 12 (aag [] [.own 2] λ _=>?_);refine aad<|ae 6 [] λ _=>aaq [] [2] [0,2,1] (v:=vI 0) (H':=(ap [(bp,.lit [.slice A8 2 c9] 149 (0,0))] [UJ,Tz,T3])) ?_;exact⟨ap [(bp,.lit [.slice A8 2 c9] 149 (0,0))] [UJ,Tz,T3],by simp[ap],rfl,.mk _ _ _ _ _ _ _ _ _ TF h1 hC4⟩
theorem ND{j1 bp:Nat}{TB:HL}(hB:Book1 j1 bp TB)(tk:Int)(htk:0<tk)(j2:Nat)(F:HL)(Za:j2<5)(hE:mF F):Sp Tryz.prog 43 #[vP bp 0,vI tk,.string (si j2)] (ap [] [TB]) F (λ u H'=>∃x:HL,H'=ap [] [x] /\ (u=vI 0 /\ Book2 tk j1 j2 bp x)):=by
 cases hB with
 | mk q A c T h =>
  rw[aP];exact NC tk htk j1 j2 bp q A c T F Za hE h
theorem RF(q2 q3:Nat)(tk:Int)(bp b o c j1 j2:Nat)(full:List Ver)(Aa Ab:Option Addr)(ca cb:Nat)(t:Int)(F:HL)(hb:(bp,.lit [vS b (o*5) 2 c] 149 (0,0))∈F)(hq:(b,.rows 5 (o+c) (aL gF full) 146 (0,0))∈F)(hc:2 <= c)(Ya:full.getD o gF.dflt=mg 0 j1 Aa ca)(Xd:full.getD (1+o) gF.dflt=mg tk j2 Ab cb)(ht:0 <= t)(h2:(q2,.lit [vP bp 0] 36 (0,0))∈F)(h3:(q3,.lit [vI t] 3 (0,0))∈F):Sp Tryz.prog 129 #[vI 0,vP q2 0,vP q3 0] [] F (λ u H'=>u=.bool false /\ H'=[]):=by
 refine aav Tryz.func129 rfl (mc h2 (mc h3 (mc hb (mc hq mn)))) (A:=[]) (Ts:=[]) rfl λ w0=>?_;refine ae 6 [] λ _=>aal [] []<|av [] [0,4,8,1,2,3,5,6,7] [.ro 0,.ro 1,.ro 2,.rorow 3 o 0] [o*5=o*5+0 /\ o<(o+c)]<|eK 12 (congrArg (λ v_:Ver=>vI v_.t) Ya)<|ag [] [9,10] []<|aad<|ae 1 [] λ _=>aaq [] [] [] (v:=.bool (decide (0>t))) (H':=[]) ?_;exact⟨congrArg Value.bool (decide_eq_false (by omega)),rfl⟩
theorem Ok(q2 q3:Nat)(tk:Int)(bp b o c j1 j2:Nat)(full:List Ver)(Aa Ab:Option Addr)(ca cb:Nat)(t:Int)(F:HL)(hb:(bp,.lit [vS b (o*5) 2 c] 149 (0,0))∈F)(hq:(b,.rows 5 (o+c) (aL gF full) 146 (0,0))∈F)(hc:2 <= c)(Ya:full.getD o gF.dflt=mg 0 j1 Aa ca)(Xd:full.getD (1+o) gF.dflt=mg tk j2 Ab cb)(ht:0 <= t)(h2:(q2,.lit [vP bp 0] 36 (0,0))∈F)(h3:(q3,.lit [vI t] 3 (0,0))∈F):Sp Tryz.prog 129 #[vI 1,vP q2 0,vP q3 0] [] F (λ u H'=>u=.bool (decide (tk>t)) /\ H'=[]):=by
 refine aav Tryz.func129 rfl (mc h2 (mc h3 (mc hb (mc hq mn)))) (A:=[]) (Ts:=[]) rfl λ w0=>?_;refine ae 6 [] λ _=>aal [] []<|av [] [0,4,8,1,2,3,5,6,7] [.ro 0,.ro 1,.ro 2,.rorow 3 (1+o) 0] [(o*5+5)=(1+o)*5+0 /\ (1+o)<(o+c)]<|eK 12 (congrArg (λ v_:Ver=>vI v_.t) Xd)<|ag [] [9,10] []<|aad<|ae 1 [] λ _=>?_;exact aaq [] [] [] ⟨rfl,rfl⟩
theorem Lq(q2 q3:Nat)(tk:Int)(bp b o c j1 j2:Nat)(full:List Ver)(Aa Ab:Option Addr)(ca cb:Nat)(t:Int)(F:HL)(hb:(bp,.lit [vS b (o*5) 2 c] 149 (0,0))∈F)(hq:(b,.rows 5 (o+c) (aL gF full) 146 (0,0))∈F)(hc:2 <= c)(Ya:full.getD o gF.dflt=mg 0 j1 Aa ca)(Xd:full.getD (1+o) gF.dflt=mg tk j2 Ab cb)(ht:0 <= t)(h2:(q2,.lit [vP bp 0] 36 (0,0))∈F)(h3:(q3,.lit [vI t] 3 (0,0))∈F)(Zc:tk>t):Sp Tryz.prog 128 #[vI 2,.func (.func 129) #[] #[vP q2 0,vP q3 0]] [] F (λ u H'=>u=vI 1 /\ H'=[]):=by
 refine aav Tryz.func128 rfl (mc h2 (mc h3 (mc hb (mc hq mn)))) (A:=[]) (Ts:=[]) rfl λ w0=>?_;refine ae 14 [] λ _=>aas 4<|ae 27 [] λ _=>aai (Ok q2 q3 tk bp b o c j1 j2 full Aa Ab ca cb t _ (aq hb) (aq hq) hc Ya Xd ht (aq h2) (aq h3))<|ae 3 [] λ _=>bL 21 (nt (decide_eq_true Zc))<|ae 34 [] λ _=>aai (RF q2 q3 tk bp b o c j1 j2 full Aa Ab ca cb t _ (aq hb) (aq hq) hc Ya Xd ht (aq h2) (aq h3))<|ae 31 [] λ _=>?_;exact aaq [] [] [] ⟨rfl,rfl⟩
theorem Lr(q2 q3:Nat)(tk:Int)(bp b o c j1 j2:Nat)(full:List Ver)(Aa Ab:Option Addr)(ca cb:Nat)(t:Int)(F:HL)(hb:(bp,.lit [vS b (o*5) 2 c] 149 (0,0))∈F)(hq:(b,.rows 5 (o+c) (aL gF full) 146 (0,0))∈F)(hc:2 <= c)(Ya:full.getD o gF.dflt=mg 0 j1 Aa ca)(Xd:full.getD (1+o) gF.dflt=mg tk j2 Ab cb)(ht:0 <= t)(h2:(q2,.lit [vP bp 0] 36 (0,0))∈F)(h3:(q3,.lit [vI t] 3 (0,0))∈F)(Zc:¬ tk>t):Sp Tryz.prog 128 #[vI 2,.func (.func 129) #[] #[vP q2 0,vP q3 0]] [] F (λ u H'=>u=vI 2 /\ H'=[]):=by
 refine aav Tryz.func128 rfl (mc h2 (mc h3 (mc hb (mc hq mn)))) (A:=[]) (Ts:=[]) rfl λ w0=>?_;refine ae 14 [] λ _=>aas 4<|ae 27 [] λ _=>aai (Ok q2 q3 tk bp b o c j1 j2 full Aa Ab ca cb t _ (aq hb) (aq hq) hc Ya Xd ht (aq h2) (aq h3))<|ae 3 [] λ _=>bL 21 (nf (decide_eq_false Zc))<|ae 28 [] λ _=>?_;exact aaq [] [] [] ⟨rfl,rfl⟩
theorem SU(tk:Int)(bp b o c j1 j2:Nat)(full:List Ver)(Aa Ab:Option Addr)(ca cb:Nat)(t:Int)(F:HL)(hb:(bp,.lit [vS b (o*5) 2 c] 149 (0,0))∈F)(hq:(b,.rows 5 (o+c) (aL gF full) 146 (0,0))∈F)(hc:2 <= c)(Ya:full.getD o gF.dflt=mg 0 j1 Aa ca)(Xd:full.getD (1+o) gF.dflt=mg tk j2 Ab cb)(ht:0 <= t)(hj:j1<5)(hC:SrcIn Tryz.prog mI F Aa (gN j1) (mf j1))(Zc:tk>t):Sp Tryz.prog 106 #[vP bp 0,vI t] [] F (λ u H'=>∃x:Option Addr × Nat × HL,H'=ap [] [x.2.2] /\ (u=.tuple #[vI 0,.agg #[.slice x.1 (gN j1) x.2.1,vI (cJ j1 0),vI (cJ j1 1),vI (cJ j1 2)]] /\ ClS mI 231 (mf j1) x.1 x.2.1 x.2.2)):=by
 refine aav Tryz.func106 rfl (mc hb (mc hq mn)) (A:=[]) (Ts:=[]) rfl λ w0=>?_;refine ae 16 [.own 2,.ro 0] λ n1=>aai (Lq (n1+0) (n1+1) tk bp b o c j1 j2 full Aa Ab ca cb t _ (aq hb) (aq hq) hc Ya Xd ht (az 2) (az 1) Zc)<|ah 21 [.own 2,.ro 0,.rorow 1 o 1,.rorow 1 o 2,.rorow 1 o 3,.rorow 1 o 4] [(o*5+4)=o*5+4 /\ o<(o+c),(o*5+3)=o*5+3 /\ o<(o+c),(o*5+2)=o*5+2 /\ o<(o+c),(o*5+1)=o*5+1 /\ o<(o+c)] λ _=>aC 26 (congrArg (λ v_:Ver=>(.agg #[.slice v_.A v_.n v_.c,vI v_.e0,vI v_.e1,vI v_.e2]:Value)) Ya)<|ae 5 (aab 4) λ n2=>aal [8] []<|ag [] [0,1,4,2,5] (aab 4)<|aae 3 (aaf [] (Hp:=[]) (Tp:=[]) [] [] (oK Aa (gN j1) ca (mf j1) _ hC.up (by have:=yo hj;omega)) ?_);rintro _ ⟨A3,c4,T5⟩ ⟨rfl,hc6⟩;dsimp only at hc6;refine ag [] [6,7] []<|aae 8 (aag [] [.own 1,.own 1,.own 1,.own 1] λ _=>?_);refine aad<|ae 1 [] λ _=>aaq [.own 1,.own 1,.own 1,.own 1] [] [0] (v:=.tuple #[vI 0,.agg #[.slice A3 (gN j1) c4,vI (cJ j1 0),vI (cJ j1 1),vI (cJ j1 2)]]) (H':=(ap [] [T5])) ?_;exact⟨(A3,c4,T5),rfl,rfl,hc6⟩
theorem SV(tk:Int)(bp b o c j1 j2:Nat)(full:List Ver)(Aa Ab:Option Addr)(ca cb:Nat)(t:Int)(F:HL)(hb:(bp,.lit [vS b (o*5) 2 c] 149 (0,0))∈F)(hq:(b,.rows 5 (o+c) (aL gF full) 146 (0,0))∈F)(hc:2 <= c)(Ya:full.getD o gF.dflt=mg 0 j1 Aa ca)(Xd:full.getD (1+o) gF.dflt=mg tk j2 Ab cb)(ht:0 <= t)(hj:j2<5)(hC:SrcIn Tryz.prog mI F Ab (gN j2) (mf j2))(Zc:¬ tk>t):Sp Tryz.prog 106 #[vP bp 0,vI t] [] F (λ u H'=>∃x:Option Addr × Nat × HL,H'=ap [] [x.2.2] /\ (u=.tuple #[vI 1,.agg #[.slice x.1 (gN j2) x.2.1,vI (cJ j2 0),vI (cJ j2 1),vI (cJ j2 2)]] /\ ClS mI 231 (mf j2) x.1 x.2.1 x.2.2)):=by
 refine aav Tryz.func106 rfl (mc hb (mc hq mn)) (A:=[]) (Ts:=[]) rfl λ w0=>?_;refine ae 16 [.own 2,.ro 0] λ n1=>aai (Lr (n1+0) (n1+1) tk bp b o c j1 j2 full Aa Ab ca cb t _ (aq hb) (aq hq) hc Ya Xd ht (az 2) (az 1) Zc)<|ah 21 [.own 2,.ro 0,.rorow 1 (1+o) 1,.rorow 1 (1+o) 2,.rorow 1 (1+o) 3,.rorow 1 (1+o) 4] [(o*5+9)=(1+o)*5+4 /\ (1+o)<(o+c),(o*5+8)=(1+o)*5+3 /\ (1+o)<(o+c),(o*5+7)=(1+o)*5+2 /\ (1+o)<(o+c),(o*5+6)=(1+o)*5+1 /\ (1+o)<(o+c)] λ _=>aC 26 (congrArg (λ v_:Ver=>(.agg #[.slice v_.A v_.n v_.c,vI v_.e0,vI v_.e1,vI v_.e2]:Value)) Xd)<|ae 5 (aab 4) λ n2=>aal [8] []<|ag [] [0,1,4,2,5] (aab 4)<|aae 3 (aaf [] (Hp:=[]) (Tp:=[]) [] [] (oK Ab (gN j2) cb (mf j2) _ hC.up (by have:=yo hj;omega)) ?_);rintro _ ⟨A3,c4,T5⟩ ⟨rfl,hc6⟩;dsimp only at hc6;refine ag [] [6,7] []<|aae 8 (aag [] [.own 1,.own 1,.own 1,.own 1] λ _=>?_);refine aad<|ae 1 [] λ _=>aaq [.own 1,.own 1,.own 1,.own 1] [] [0] (v:=.tuple #[vI 1,.agg #[.slice A3 (gN j2) c4,vI (cJ j2 0),vI (cJ j2 1),vI (cJ j2 2)]]) (H':=(ap [] [T5])) ?_;exact⟨(A3,c4,T5),rfl,rfl,hc6⟩
theorem Book2.at{tk:Int}{j1 j2 bp:Nat}{TB F:HL}(hB:Book2 tk j1 j2 bp TB)(hT:∀x∈TB,x∈F)(hj1:j1<5)(Za:j2<5)(t:Int)(ht:0 <= t):AtOk F bp t (if tk>t then (j1,0) else (j2,1)):=λ F' hF=>by
 cases hB with
 | mk A c A1 A2 c1 c2 Hl T1 T2 hs h1 h2 =>
  rcases hs with ⟨_,_,h,_⟩|⟨b,o,full,rfl,rfl,e1,e2,e3⟩
  ·cases h
  ·have hc:2 <= c:=e2;have Ya:full.getD o gF.dflt=mg 0 j1 A1 c1:=by have:=oS e3 (k:=0) (by simp) gF.dflt;rw[Nat.add_zero] at this;exact this
   have Xd:full.getD (1+o) gF.dflt=mg tk j2 A2 c2:=by have:=oS e3 (k:=1) (by simp) gF.dflt;rw[Nat.add_comm o 1] at this;exact this
   have hm:∀x,x∈ap [(bp,Blk.lit [.slice (some ⟨b,o*gF.w,none⟩) 2 c] 149 (0,0))] [[(b,.rows gF.w (o+c) (aL gF full) 146 (0,0))],T1,T2] -> x∈F':=λ x hx=>hF x (hT x hx)
   by_cases Zc:tk>t
   ·rw[if_pos Zc];exact SU tk bp b o c j1 j2 full A1 A2 c1 c2 t F' (hm _ (List.mem_append_left _ List.mem_cons_self)) (hm _ (List.mem_append_right _ List.mem_cons_self)) hc Ya Xd ht hj1 (h1.src F' λ x hx=>hm x (by simp[ap,hx])) Zc
   ·rw[if_neg Zc];exact SV tk bp b o c j1 j2 full A1 A2 c1 c2 t F' (hm _ (List.mem_append_left _ List.mem_cons_self)) (hm _ (List.mem_append_right _ List.mem_cons_self)) hc Ya Xd ht Za (h2.src F' λ x hx=>hm x (by simp[ap,hx])) Zc
def J2(tk:Int)(j1 j2 i:Nat):Nat × Int:=if tk>(i:Int) then (j1,0) else (j2,1)
theorem gl{tk:Int}{j1 j2 bp:Nat}{TB F:HL}(hB:Book2 tk j1 j2 bp TB)(hT:∀x∈TB,x∈F)(hj1:j1<5)(Za:j2<5){t:Nat}{v:Int}(e:v=(t:Int)):(J2 tk j1 j2 t).1<5 /\ AtOk F bp v (J2 tk j1 j2 t):=by
 subst e;refine⟨?_,hB.at hT hj1 Za _ (by omega)⟩;unfold J2;split
 ·exact hj1
 ·exact Za
theorem TE2.cs{S:Setup}{t:Int}{M N:MemS}(h:M.cs=N.cs)(hT:TE2 S t M):TE2 S t N:=by
 have hg:∀k,N.get k=M.get k:=λ k=>by unfold MemS.get;rw[h]
 exact⟨by rw[<- h];exact hT.len,λ k h1 h2=>by rw[hg];exact hT.z k h1 h2,by rw[hg];exact hT.t0⟩
theorem RwsIn.take{F:HL}{rs:List Rw}{xss:List (List Inp)}(h:RwsIn F rs xss)(k:Nat):RwsIn F (rs.take k) (xss.take k):=by
 refine⟨by rw[List.length_take,List.length_take,h.len],λ i hi=>?_⟩;rw[List.length_take] at hi;have e1:(xss.take k).getD i []=xss.getD i []:=by rw[List.getD_eq_getElem?_getD,List.getD_eq_getElem?_getD,List.getElem?_take,if_pos (by omega)]
 have e2:(rs.take k).getD i jO.dflt=rs.getD i jO.dflt:=by rw[List.getD_eq_getElem?_getD,List.getD_eq_getElem?_getD,List.getElem?_take,if_pos (by omega)]
 rw[e1,e2];exact h.row i (by omega)
theorem RwsIn.drop{F:HL}{rs:List Rw}{xss:List (List Inp)}(h:RwsIn F rs xss)(k:Nat):RwsIn F (rs.drop k) (xss.drop k):=by
 refine⟨by rw[List.length_drop,List.length_drop,h.len],λ i hi=>?_⟩;rw[List.length_drop] at hi;have e1:(xss.drop k).getD i []=xss.getD (k+i) []:=by rw[List.getD_eq_getElem?_getD,List.getD_eq_getElem?_getD,List.getElem?_drop]
 have e2:(rs.drop k).getD i jO.dflt=rs.getD (k+i) jO.dflt:=by rw[List.getD_eq_getElem?_getD,List.getD_eq_getElem?_getD,List.getElem?_drop]
 rw[e1,e2];exact h.row (k+i) (by omega)
abbrev dN(tk:Int)(j1 j2 t:Nat):Nat -> Nat × Int:=λ i=>J2 tk j1 j2 (t+i)
def Setup.std(S:Setup):Setup:={ S with bo:=0,bods:=m0 S }
theorem fI(S:Setup):SetEq S S.std:=⟨⟨rfl,rfl,rfl,rfl,rfl,rfl,rfl,rfl,rfl,rfl,rfl,rfl⟩,λ k hk=>⟨(S.body k).sh.A,(S.body k).sh.cap,by
 show (m0 S).getD (0+k) dB=_;rw[Nat.zero_add,nS hk];rfl⟩,rfl,lx S⟩
def WS(S:Setup)(J:Nat -> Nat × Int)(xss:List (List Inp))(i:Nat):List Int:=(ii (rG S.std J xss) ⟨aH S S.nb,[],0⟩ i).cs
theorem SetEq.refl0{S S2:Setup}(h:SetEq S S2)(J:Nat -> Nat × Int)(xss:List (List Inp)):∀k,GEq (rG S.std J xss k) (rG S2 J xss k):=Bz (fI S) h J xss
section
variable {S S2:Setup} {J:Nat -> Nat × Int} {xss:List (List Inp)} {n:Nat}
theorem sj(hV:SetV S)(he:SetEq S S2)(hn:n <= 50)(o_:∀i,i<n -> RowOk S.players (xss.getD i [])){i:Nat}(hi:i <= n):TE2 S2 (i:Int) ⟨WS S J xss i,[],0⟩:=by
 have h:=BA (he.setV hV) (ry hV he) (xss:=xss) J n hn (λ i hi=>by rw[he.pl];exact o_ i hi) i hi;exact TE2.cs (show (ii (rG S2 J xss) _ i).cs=(⟨WS S J xss i,[],0⟩:MemS).cs by rw[<- pC (he.refl0 J xss)];rfl) h
theorem E5(hV:SetV S)(he:SetEq S S2)(hn:n <= 50)(o_:∀i,i<n -> RowOk S.players (xss.getD i [])){i:Nat}(hi:i<n):TkOk S2 (J i) (xss.getD i []) ⟨WS S J xss i,[],0⟩:=by
 have h:=Lo (he.setV hV) (ry hV he) (xss:=xss) J n hn (λ i hi=>by rw[he.pl];exact o_ i hi) i hi;exact TkOk.cs (show (ii (rG S2 J xss) _ i).cs=(⟨WS S J xss i,[],0⟩:MemS).cs by rw[<- pC (he.refl0 J xss)];rfl) h
theorem tc(he:SetEq S S2)(i:Nat):WS S J xss (i+1)=(fw (gt S2 (J i) (xss.getD i [])) ⟨WS S J xss i,[],0⟩).cs:=by
 unfold WS;rw[ii,CJ (he.refl0 J xss i)];exact o9 _ rfl
theorem rz{α:Type}{l:List α}{i:Nat}(h:i<l.length)(d:α):l.take (i+1)=l.take i++[l.getD i d]:=by
 rw[List.take_add_one,List.getElem?_eq_getElem h,List.getD_eq_getElem?_getD,List.getElem?_eq_getElem h];rfl
end
theorem E6{G G':Nat -> Gm}{M:MemS}:∀k,(∀i,i<k -> G i=G' i) -> ii G M k=ii G' M k
 | 0,_=>rfl
 | k+1,h=>by rw[ii,ii,E6 k λ i hi=>h i (by omega),h k (by omega)]
theorem yx(S:Setup)(J:Nat -> Nat × Int)(xss:List (List Inp))(k:Nat):WS S J (xss.take k) k=WS S J xss k:=by
 unfold WS;refine congrArg MemS.cs (E6 k λ i hi=>?_);show gt _ _ _=gt _ _ _;rw[show (xss.take k).getD i []=xss.getD i [] by rw[List.getD_eq_getElem?_getD,List.getD_eq_getElem?_getD,List.getElem?_take,if_pos hi]]
def yz(pl:Nat)(rows:List (List Inp)):List Inp:=match rows.getLast? with
 | none=>List.replicate pl dI
 | some r=>r.map lI
def hO(pl Vj:Nat)(rows:List (List Inp))(loc:Int -> Option Inp)(t:Nat):List Inp :=
 if t<rows.length then rows.getD t [] else match loc (t:Int) with
 | none=>yz pl rows
 | some x=>(yz pl rows).set Vj x
theorem xj:fV dI:=by decide
theorem Ls{x:Inp}(h:fV x):fV (lI x):=by
 obtain⟨h1,h2,h3⟩:=h;exact⟨h1,h2,by show ¬ (0:Int)<0;decide,by show ¬ (0:Int)>3;decide⟩
theorem nk{pl:Int}{r:List Inp}(h1:(r.length:Int)=pl)(h2:∀x∈r,fV x):RowOk pl r:=⟨h1,λ k hk=>h2 _ (gY hk _)⟩
theorem RowOk.mem{pl:Int}{r:List Inp}(h:RowOk pl r):∀x∈r,fV x:=λ x hx=>by
 obtain⟨i,hi,rfl⟩:=List.mem_iff_getElem.1 hx;have:=h.2 i hi;rwa [List.getD_eq_getElem?_getD,List.getElem?_eq_getElem hi] at this
theorem E7{pl:Nat}{rows:List (List Inp)}(h:∀r∈rows,RowOk pl r):RowOk pl (yz pl rows):=by
 unfold yz;split
 ·exact nk (by simp) (λ x hx=>by rw[(List.mem_replicate.1 hx).2];exact xj)
 ·next r hr =>
  have h1:=h r (List.mem_of_getLast? hr);refine nk (by rw[List.length_map];exact h1.1) λ x hx=>?_;obtain⟨y,hy,rfl⟩:=List.mem_map.1 hx;exact Ls (h1.mem y hy)
theorem yA{pl Vj:Nat}{rows:List (List Inp)}{loc:Int -> Option Inp}(h:∀r∈rows,RowOk pl r)(hk:∀t x,loc t=some x -> fV x)(t:Nat):RowOk pl (hO pl Vj rows loc t):=by
 unfold hO;split
 ·next ht=>exact h _ (gY ht _)
 ·split
  ·exact E7 h
  ·next x hx =>
   have hb:=E7 h;refine nk (by rw[List.length_set];exact hb.1) λ y hy=>?_;rcases List.mem_or_eq_of_mem_set hy with h1|rfl
   ·exact hb.mem y h1
   ·exact hk _ _ hx
theorem rB{pl Vj:Nat}{rows:List (List Inp)}{loc:Int -> Option Inp}{t:Nat}(h:t<rows.length):rows[t]?=some (hO pl Vj rows loc t):=by
 unfold hO;rw[if_pos h,List.getD_eq_getElem?_getD,List.getElem?_eq_getElem h];rfl
def gP(S:Setup)(J:Nat -> Nat × Int):Nat -> List Inp -> Gm:=λ t xs=>gt S.std (J t) xs
theorem Ds(S:Setup)(J:Nat -> Nat × Int)(V:List (List Inp)):∀n,n <= V.length -> Dn (gP S J) 0 (aH S S.nb) (V.take n)=WS S J V n
 | 0,_=>rfl
 | n+1,h=>by
  have hl:(V.take n).length=n:=by rw[List.length_take];omega
  rw[rz (by omega) [],uH,hl,Ds S J V n (by omega),tc (fI S) n,Nat.zero_add];rfl
theorem Dt(S:Setup)(J:Nat -> Nat × Int)(V:List (List Inp)):Dn (gP S J) 0 (aH S S.nb) V=WS S J V V.length:=by
 have h:=Ds S J V V.length (Nat.le_refl _);rwa [List.take_length] at h
section
variable {ρ:Type} {g:Nat -> ρ -> Gm} {c0:List Int} {w m:Nat} {P:PS ρ} {V:List ρ}
theorem PInv.far(h:PInv g c0 w P V m):V.length <= m+w:=by
 have h1:=h.room;rcases h.ring with ⟨_,e⟩|⟨e,h2⟩
 ·rw[e];simp
 ·have h3:=h.back e;omega
theorem PInv.len_cs(h:PInv g c0 w P V m):P.effs.length=V.length:=by rw[h.effs,yr]
end
section
variable {S S2:Setup} {J:Nat -> Nat × Int} {w m:Nat} {P:PS (List Inp)} {V:List (List Inp)}
theorem PInv.ws(h:PInv (gP S J) (aH S S.nb) w P V m):P.M.cs=(⟨WS S J V V.length,[],0⟩:MemS).cs:=by rw[h.cs,Dt]
theorem PInv.te(h:PInv (gP S J) (aH S S.nb) w P V m)(hV:SetV S)(he:SetEq S S2)(hn:V.length <= 50)(hr:∀r∈V,RowOk S.players r):TE2 S2 (V.length:Int) P.M :=
 TE2.cs h.ws.symm (sj hV he (n:=V.length) hn (λ i hi=>hr _ (gY hi _)) (Nat.le_refl _))
theorem E8{i:Nat}(r:List Inp)(hi:i <= V.length):WS S J (V++[r]) i=WS S J V i:=by
 rw[<- yx S J (V++[r]) i,List.take_append_of_le_length hi,yx]
theorem PInv.tk(h:PInv (gP S J) (aH S S.nb) w P V m)(hV:SetV S)(he:SetEq S S2)(hn:V.length<50)(hr:∀r∈V,RowOk S.players r){r:List Inp}(h1:RowOk S.players r):TkOk S2 (J V.length) r P.M:=by
 have h2:=E5 (J:=J) (xss:=V++[r]) hV he (n:=V.length+1) (by omega) (λ i hi=>by
  refine(show ∀x∈V++[r],RowOk S.players x from λ x hx=>?_) _ (gY (by simpa using hi) _);rcases List.mem_append.1 hx with hx|hx
  ·exact hr x hx
  ·rw[List.mem_singleton.1 hx];exact h1) (i:=V.length) (by omega)
 rw[E8 r (Nat.le_refl _),iJ,if_neg (by omega),if_pos rfl] at h2;exact h2.cs h.ws.symm
theorem NE(he:SetEq S S2)(t:Nat)(r:List Inp)(M:MemS):fw (gt S2 (J t) r) M=fw (gP S J t r) M:=CJ (yw (he.nm2 (fI S)) _ _ _) M
theorem NF(he:SetEq S S2)(t:Nat)(r:List Inp)(M:MemS):lq (gt S2 (J t) r) M=lq (gP S J t r) M:=CK (yw (he.nm2 (fI S)) _ _ _) M
end
theorem Sp.fr{P:Program}{f:FuncId}{args:Array Value}{H H2 X F:HL}{R R2:Value -> HL -> Prop}(hp:H2.Perm (H++X))(h:Sp P f args H (X++F) R)(hr:∀u Y,R u Y -> ∃H',R2 u H' /\ H'.Perm (Y++X)):Sp P f args H2 F R2:=λ w hR =>
 (h w (by rw[<- List.append_assoc];exact hR.perm (hp.symm.append_right F))).mono λ e w' ⟨v,Y,h1,h2,h3,h4⟩=>by
  obtain⟨H',h5,h6⟩:=hr v Y h2;exact⟨v,H',h1,h5,(by rw[<- List.append_assoc] at h3;exact h3.perm (h6.append_right F)),h4⟩
inductive GameX(rs:List Bx)(ds:List Dr)(bp gb mb:Nat)(S:Setup)(M:MemS)(k:Nat):HL -> Prop
 | mk (T U:HL) (hM:MemH mb M k T) (hU:se S rs ds U):GameX rs ds bp gb mb S M k (ap [(gb,.lit (bP S bp mb) 121 (0,0))] [T,U])
section
variable {rs:List Bx} {ds:List Dr} {bp gb mb:Nat} {S:Setup} {M:MemS} {k:Nat} {G0:HL}
theorem GameH.x(h:GameH rs ds bp gb S M k G0):∃mb,GameX rs ds bp gb mb S M k G0:=by
 cases h with
 | mk mb T U hM hU=>exact⟨mb,.mk T U hM hU⟩
theorem GameX.h(h:GameX rs ds bp gb mb S M k G0):GameH rs ds bp gb S M k G0:=by
 cases h with
 | mk T U hM hU=>exact .mk mb T U hM hU
theorem GameX.weak(h:GameX rs ds bp gb mb S M k G0){k':Nat}(hk:k' <= k):GameX rs ds bp gb mb S M k' G0:=by
 cases h with
 | mk T U hM hU=>exact .mk T U (hM.weak hk) hU
theorem GameX.mem(h:GameX rs ds bp gb mb S M k G0):∃T,MemH mb M k T /\ ∀x∈T,x∈G0:=by
 cases h with
 | mk T U hM hU=>exact⟨T,hM,λ x hx=>by simp[ap,hx]⟩
theorem uN(h:GameX rs ds bp gb mb S M k G0){F:HL}(hF:∀x∈G0,x∈F):Sp Tryz.prog 55 #[vP gb 0] [] F (λ u H'=>u=vP mb 0 /\ H'=[]):=by
 cases h with
 | mk T U hM hU=>exact JN S bp gb mb F (hF _ (by simp[ap]))
end
theorem qz{rs:List Bx}{ds:List Dr}{S:Setup}{bp gb mb b o N c k:Nat}{j:Nat × Int}{full xs:List Inp}{M:MemS}{G0 F:HL}(hG:GameX rs ds bp gb mb S M (k+20000) G0)(hj:j.1<5)(hA:AtOk F bp (M.get 0) j)(hE:bF F)(hI:(b,.rows 3 N (ll full) 40 (0,0))∈F)(hir:o+xs.length <= N)(U1:xs.length <= 1000000)(hx:∀k,k<xs.length -> full.getD (o+k) dI=xs.getD k dI)(hk:TkOk S j xs M) :
  Sp Tryz.prog 57 #[vP gb 0,vS b (o*3) xs.length c] (ap [] [G0]) F (λ u H'=>∃x:(Option Addr × Nat × Nat) × HL × HL,H'=ap [] [x.2.1,x.2.2] /\ (GameX rs ds bp gb mb S (fw (gt S j xs) M) k x.2.1 /\ SlIs dk 111 (lq (gt S j xs) M) x.1.1 x.1.2.1 x.2.2 /\ u=.tuple #[.slice x.1.1 (lq (gt S j xs) M).length x.1.2.1,vI ((x.1.2.2+1:Nat):Int),vI 0])):=by
 obtain⟨m,hm,hg⟩:=hk.ex;obtain⟨e1,e2⟩:=EW hm hg;cases hG with
 | mk T U hM hU =>
  rw[aP];refine(uF S rs ds bp gb mb b o N xs.length c m k j full xs M T U F hj hA hU hE hI hir U1 (by omega) rfl hx (hM.weak (by omega)) hk.now hg hk.ok).mono λ u H' h=>?_;obtain⟨x,rfl,h1,h2,h3⟩:=h;rw[e1] at h1;rw[e2] at h2 h3;exact⟨((x.2.1,x.2.2.1,m),ap [(gb,.lit (bP S bp mb) 121 (0,0))] [x.1,U],x.2.2.2),by simp[ap],.mk x.1 U h1 hU,h2,h3⟩
section
variable {r:Option Nat} {P:Program} {N:Nat} {D:List Deferred} {F:HL} {w0:World} {R:HL} {s:Cfg} {Q:Exit -> Act -> World -> Prop} {hards:List Nat} {Rd:HL}
def RG(p:Nat)(O:Obj)(s:Cfg):Cfg:=match s with
 | ⟨c,k,L,A,Ts⟩=>⟨c,k,L,match A[p]? with|some x=>bD A p (x.1,.obj O)|none=>A,Ts⟩
end
open Go.Shelf
def vD(x:Int × Value × Nat):MapEntry:={ key:=vI x.1,val:=x.2.1,born:=x.2.2 }
abbrev bj(kv:List (Int × Value × Nat))(c:Nat):Obj:=.map ⟨kv.map vD⟩ c
def qA:List (Int × Value × Nat) -> Int -> Nat -> Option (Nat × Value)
 | [],_,_=>none
 | x::l,k,i=>if (k == x.1)=true then some (i,x.2.1) else qA l k (i+1)
def vE(kv:List (Int × Value × Nat))(k:Int):Option Value:=(qA kv k 0).map (·.2)
def nl(kv:List (Int × Value × Nat))(c:Nat)(k:Int)(v:Value):List (Int × Value × Nat):=match qA kv k 0 with
 | some (i,_)=>kv.modify i (λ x=>(k,v,x.2.2))
 | none=>kv++[(k,v,c)]
def kg(kv:List (Int × Value × Nat))(c:Nat)(k:Int):Nat:=match qA kv k 0 with
 | some _=>c
 | none=>c+1
def jy(kv:List (Int × Value × Nat))(k:Int):List (Int × Value × Nat):=match qA kv k 0 with
 | some (i,_)=>kv.eraseIdx i
 | none=>kv
theorem ol(k:Int):∀ (kv:List (Int × Value × Nat)) (i j:Nat) (v:Value),qA kv k i=some (j,v) -> i <= j /\ ∃n,kv[j-i]?=some (k,v,n)
 | [],_,_,_,h=>by cases h
 | x::l,i,j,v,h=>by
  rw[qA] at h;split at h
  ·rename_i hk;simp only[Option.some.injEq,Prod.mk.injEq] at h;obtain⟨rfl,rfl⟩:=h;have e:k=x.1:=by simpa using hk
   subst e;exact⟨Nat.le_refl _,x.2.2,by simp⟩
  ·obtain⟨h1,n,h2⟩:=ol k l (i+1) j v h;refine⟨by omega,n,?_⟩;rw[show j-i=(j-(i+1))+1 by omega,List.getElem?_cons_succ];exact h2
theorem xk(ik:IntKind)(k:Int):∀ (kv:List (Int × Value × Nat)) (i:Nat),Instr.findNow (.int ik) (vI k) (kv.map vD) i=some (qA kv k i)
 | [],_=>rfl
 | x::l,i=>by
  rw[List.map_cons,Instr.findNow,qA];simp only[Instr.sameNow,vD,if_true];cases h:(k == x.1) with
  | true=>simp
  | false=>simp[xk ik k l (i+1)]
theorem rC{P:Program}{kt:TypeId}{ik:IntKind}(hk:P.underlying kt=some (.int ik))(k:Int)(kv:List (Int × Value × Nat))(w:World):(Instr.findKey kt (vI k) (kv.map vD)).run P w=.ok (qA kv k 0) w:=by
 unfold Instr.findKey;rw[Sem.run_bind,aN hk];simp only[Result.andThen,xk];rfl
theorem pD{P:Program}{kt:TypeId}{ik:IntKind}(hk:P.underlying kt=some (.int ik))(e:Bool)(k:Int)(w:World):(Instr.checkKey e 10000 kt (vI k)).run P w=.ok () w:=by
 rw[show (10000:Nat)=9999+1 from rfl,Instr.checkKey.eq_def];simp only;rw[Sem.run_bind,aN hk];rfl
abbrev HN(kv:List (Int × Value × Nat))(k:Int)(ok:Bool)(z:Value):Value:=if ok=true then .tuple #[(vE kv k).getD z,.bool (vE kv k).isSome] else (vE kv k).getD z
theorem BB{P:Program}{w:World}{t kt et:TypeId}{ik:IntKind}{b c:Nat}{kv:List (Int × Value × Nat)}{k:Int}{z:Value}{i:TypeInfo}(ok:Bool)(ht:P.underlying t=some (.map kt et))(hk:P.underlying kt=some (.int ik))(hi:P.info? et=some i)(hz:i.zero=some z)(hb:w.heap[b]?=some (bj kv c)) :
  (Instr.lookup t (.map (some b)) (vI k) ok).run P w=.ok (HN kv k ok z) w:=by
 unfold Instr.lookup;rw[Sem.run_bind,aN ht];simp only[Result.andThen,Sem.run_bind,iq hb,cP,pD hk,rC hk];unfold HN vE;cases h:qA kv k 0 with
 | some x =>
  obtain⟨j,v⟩:=x;cases ok <;> rfl
 | none =>
  simp only[zeroValue,Sem.run_bind,dC hi,Result.andThen,hz,cP];cases ok <;> rfl
theorem mh{P:Program}{w:World}{b n:Nat}{es:Array MapEntry}(hb:w.heap[b]?=some (.map es n))(o:Obj):(setObj b o).run P w=.ok () { w with heap:=w.heap.setIfInBounds b o }:=by
 unfold setObj;rw[Sem.run.eq_def];simp only[hb];rfl
theorem sk{P:Program}{w:World}{t kt et:TypeId}{ik:IntKind}{b c:Nat}{kv:List (Int × Value × Nat)}{k:Int}{v:Value}(ht:P.underlying t=some (.map kt et))(hk:P.underlying kt=some (.int ik))(hb:w.heap[b]?=some (bj kv c)) :
  (Instr.mapUpdate t (.map (some b)) (vI k) v).run P w=.ok () { w with heap:=w.heap.setIfInBounds b (bj (nl kv c k v) (kg kv c k)) }:=by
 unfold Instr.mapUpdate;rw[Sem.run_bind,aN ht];simp only[Result.andThen,Sem.run_bind,iq hb,pD hk,rC hk];unfold nl kg;cases h:qA kv k 0 with
 | none =>
  simp only[mh hb];congr 3;simp[vD]
 | some x =>
  obtain⟨j,u⟩:=x;obtain⟨h1,n,h2⟩:=ol k kv 0 j u h;rw[Nat.sub_zero] at h2;have hks:((⟨kv.map vD⟩:Array MapEntry)[j]?).map (·.key)=some (vI k):=by simp[h2,vD]
  simp only[Sem.run_bind,hks,Option.getD_some];have ag2:(Instr.keyThatStays (vI k) (vI k)).run P w=.ok (vI k) w:=by
   unfold Instr.keyThatStays;rw[show (10000:Nat)=9999+1 from rfl,if_pos (by simp[Instr.sameBits])];rfl
  rw[ag2];refine(mh hb _).trans ?_;congr 3;simp only[Obj.map.injEq,and_true];apply Array.toList_inj.1;simp only[Array.toList_modify];apply List.ext_getElem?;intro m;simp only[List.getElem?_modify,List.getElem?_map]
  by_cases e:j=m
  ·subst e;simp[h2,vD]
  ·simp[e]
theorem oT{α β:Type}(f:α -> β):∀ (l:List α) (j:Nat),(l.map f).eraseIdx j=(l.eraseIdx j).map f
 | [],_=>rfl
 | _::_,0=>rfl
 | x::l,j+1=>by simp[oT f l j]
theorem BC{P:Program}{w:World}{t kt et ty x:TypeId}{ik:IntKind}{b c:Nat}{kv:List (Int × Value × Nat)}{k:Int}(ht:P.underlying t=some (.map kt et))(hk:P.underlying kt=some (.int ik))(hb:w.heap[b]?=some (bj kv c)) :
  (Builtin.delete_ #[t,x] ty #[.map (some b),vI k]).run P w=.ok (.tuple #[]) { w with heap:=w.heap.setIfInBounds b (bj (jy kv k) c) }:=by
 unfold Builtin.delete_;simp only[List.getElem?_toArray,List.getElem?_cons_zero,List.getElem?_cons_succ];rw[Sem.run_bind,aN ht];simp only[Result.andThen,Sem.run_bind,iq hb,pD hk,rC hk];unfold jy;cases h:qA kv k 0 with
 | none =>
  simp only[Sem.run_bind,mh hb];rfl
 | some x =>
  obtain⟨j,u⟩:=x;obtain⟨h1,n,h2⟩:=ol k kv 0 j u h;rw[Nat.sub_zero] at h2;have hj:j<kv.length:=(List.getElem?_eq_some_iff.1 h2).1;simp only[Sem.run_bind,mh hb];show Result.ok _ _=_;congr 3;simp only[Obj.map.injEq,and_true];apply Array.toList_inj.1;rw[Array.eraseIdxIfInBounds,dif_pos (by simpa using hj)];show ((kv.map vD).toArray.eraseIdx j _).toList=_;rw[List.eraseIdx_toArray];exact oT vD kv j
def Lt(P:Program)(N p:Nat)(oo:Option Oper)(s:Cfg):Option (Int × Bool × Value × Nat × Nat × Obj):=match oo with
 | some o=>match o.guard,o.op,(fd N o.dst undef s.L).isSome with
  | none,.lookup t x ix ok,true=>match iT s.L x && iT s.L ix,gm s.L x,gm s.L ix,P.underlying t,s.A[p]? with
   | true,.map (some b),.int .i64 k,some (.map kt et),some (b',.obj O)=>match P.underlying kt,(P.info? et).bind (·.zero) with
    | some (.int _),some z=>some (k,ok,z,b,b',O)
    | _,_=>none
   | _,_,_,_,_=>none
  | _,_,_=>none
 | none=>none
def RH(x:Option (Int × Bool × Value × Nat × Nat × Obj)):Nat:=match x with
 | some (_,_,_,_,b,_)=>b
 | none=>0
theorem Hh{P:Program}{N p:Nat}{oo:Option Oper}{s:Cfg}{k:Int}{ok:Bool}{z:Value}{b:Nat}{O:Obj}(h:Lt P N p oo s=some (k,ok,z,b,b,O)) :
  ∃o t x ix kt et i ik,oo=some o /\ o.guard=none /\ o.op=.lookup t x ix ok /\ (iT s.L x && iT s.L ix)=true /\ gm s.L x=.map (some b) /\ gm s.L ix=.int .i64 k /\ P.underlying t=some (.map kt et) /\ P.underlying kt=some (.int ik) /\ P.info? et=some i /\ i.zero=some z /\ s.A[p]?=some (b,.obj O) /\ (fd N o.dst undef s.L).isSome=true:=by
 unfold Lt at h;split at h
 case h_2=>cases h
 rename_i o;split at h
 case h_2=>cases h
 rename_i t x ix ok' h1 h2 h3;split at h
 case h_2=>cases h
 rename_i b1 k1 kt et b2 O1 h4 h5 h6 h7 h8;split at h
 case h_2=>cases h
 rename_i ik z1 h9 VU;simp only[Option.some.injEq,Prod.mk.injEq] at h;obtain⟨e1,e2,e3,e4,e5,e6⟩:=h;subst e1;subst e2;subst e3;subst e4;subst e5;subst e6;rw[Option.bind_eq_some_iff] at VU;obtain⟨i,hi,hz⟩:=VU;exact⟨o,t,x,ix,kt,et,i,ik,rfl,h1,h2,h4,h5,h6,h7,h9,hi,hz,h8,h3⟩
section
variable {r:Option Nat} {P:Program} {N:Nat} {D:List Deferred} {F:HL} {w0:World} {R:HL} {s:Cfg} {Q:Exit -> Act -> World -> Prop} {hards:List Nat} {Rd:HL}
theorem rD(p:Nat){kv:List (Int × Value × Nat)}{cl:Nat}{k:Int}{ok:Bool}{z v:Value}(ev:HN kv k ok z=v)(hk:RN r P N D F w0 R (eR N v s) Q)
  (h:Lt P N p (i7 s) s=some (k,ok,z,RH (Lt P N p (i7 s) s),RH (Lt P N p (i7 s) s),bj kv cl):=by kernel_rfl):RN r P N D F w0 R s Q:=by
 subst ev;obtain⟨o,t,x,ix,kt,et,i,ik,q0,q1,q2,q3,q4,q5,q6,q7,q8,q9,Tj,Ux⟩:=Hh h;refine⟨λ hR a w hF f_ hB=>?_⟩;obtain⟨c,kk,L,A,Ts⟩:=s;unfold i7 at q0;cases c with
 | code c=>cases q0
 | ex c=>cases q0
 | drw _ _=>cases q0
 | ops ops j =>
  simp only at q0 q3 q4 q5 Tj Ux hF f_;have AS:ops.toList.drop j=o::ops.toList.drop (j+1):=by
   have iS:j<ops.toList.length:=(List.getElem?_eq_some_iff.1 q0).1;rw[List.drop_eq_getElem_cons iS,(List.getElem?_eq_some_iff.1 q0).2]
  show wpListIn _ _ _ _ _ _ _ _;rw[AS,wpListIn,if_pos (by simp[Region.wanted,q1])];refine⟨λ _ _=>trivial,?_⟩;rw[Bool.and_eq_true] at q3;have hb:=f_.holds _ (List.mem_append_left _ (List.mem_append_left _ (List.mem_of_getElem? Tj)));simp only[Blk.den] at hb;obtain⟨L',hl⟩:=dF Ux (HN kv k ok z);have TZ:eR N (HN kv k ok z) ⟨.ops ops j,kk,L,A,Ts⟩=⟨.ops ops (j+1),kk,L',A,Ts⟩:=by
   unfold eR;simp only[q0,hl]
  have hh:=hk.h hR;rw[TZ] at hh;have hex:(execOp a.eval o).run P w=.ok (.value (HN kv k ok z)) w:=by
   have e1:a.eval x=.map (some _):=(hF.eval q3.1).trans q4;have e2:a.eval ix=.int .i64 k:=(hF.eval q3.2).trans q5;have:=BB (P:=P) (w:=w) (k:=k) ok q6 q7 q8 q9 hb;simp only[execOp,q2,e1,e2,Sem.run_bind,this,Result.andThen];rfl
  rw[Oper.semAt_eq _ _ _ (by rw[q2];intro c hc;cases hc),hex,Oper.uponIn_value];exact hh _ w (hF.put hl) f_ hB
def vF(P:Program)(N p:Nat)(oo:Option Oper)(s:Cfg):Option (Int × Value × Nat × Nat × Obj):=match oo with
 | some o=>match o.guard,o.op,(fd N o.dst undef s.L).isSome with
  | none,.mapUpdate t m x v,true=>match iT s.L m && (iT s.L x && iT s.L v),gm s.L m,gm s.L x,P.underlying t,s.A[p]? with
   | true,.map (some b),.int .i64 k,some (.map kt _),some (b',.obj O)=>match P.underlying kt with
    | some (.int _)=>some (k,gm s.L v,b,b',O)
    | _=>none
   | _,_,_,_,_=>none
  | none,.insert t m x v,true=>match iT s.L m && (iT s.L x && iT s.L v),gm s.L m,gm s.L x,P.underlying t,s.A[p]? with
   | true,.map (some b),.int .i64 k,some (.map kt _),some (b',.obj O)=>match P.underlying kt with
    | some (.int _)=>some (k,gm s.L v,b,b',O)
    | _=>none
   | _,_,_,_,_=>none
  | _,_,_=>none
 | none=>none
def Hj(x:Option (Int × Value × Nat × Nat × Obj)):Nat:=match x with
 | some (_,_,_,b,_)=>b
 | none=>0
theorem xm{P:Program}{N p:Nat}{oo:Option Oper}{s:Cfg}{k:Int}{v:Value}{b:Nat}{O:Obj}(h:vF P N p oo s=some (k,v,b,b,O)) :
  ∃o t m x y kt et ik,oo=some o /\ o.guard=none /\ (o.op=.mapUpdate t m x y \/ o.op=.insert t m x y) /\ iT s.L m=true /\ iT s.L x=true /\ iT s.L y=true /\ gm s.L m=.map (some b) /\ gm s.L x=.int .i64 k /\ gm s.L y=v /\ P.underlying t=some (.map kt et) /\ P.underlying kt=some (.int ik) /\ s.A[p]?=some (b,.obj O) /\ (fd N o.dst undef s.L).isSome=true:=by
 unfold vF at h;split at h
 case h_2=>cases h
 rename_i o;split at h
 case h_3=>cases h
 all_goals
  rename_i t m x y h1 h2 h3;split at h
  case h_2=>cases h
  rename_i b1 k1 kt et b2 O1 h4 h5 h6 h7 h8;split at h
  case h_2=>cases h
  rename_i ik h9;simp only[Option.some.injEq,Prod.mk.injEq] at h;obtain⟨e1,e2,e3,e4,e5⟩:=h;subst e1;subst e3;subst e4;subst e5;rw[Bool.and_eq_true,Bool.and_eq_true] at h4
 ·exact⟨o,t,m,x,y,kt,et,ik,rfl,h1,.inl h2,h4.1,h4.2.1,h4.2.2,h5,h6,e2,h7,h9,h8,h3⟩
 ·exact⟨o,t,m,x,y,kt,et,ik,rfl,h1,.inr h2,h4.1,h4.2.1,h4.2.2,h5,h6,e2,h7,h9,h8,h3⟩
theorem SW(p:Nat){kv:List (Int × Value × Nat)}{cl:Nat}{k:Int}{v:Value}(hk:RN r P N D F w0 R (RG p (bj (nl kv cl k v) (kg kv cl k)) (eR N undef s)) Q)
  (h:vF P N p (i7 s) s=some (k,v,Hj (vF P N p (i7 s) s),Hj (vF P N p (i7 s) s),bj kv cl):=by kernel_rfl):RN r P N D F w0 R s Q:=by
 obtain⟨o,t,m,x,y,kt,et,ik,q0,q1,q2,q3,q3',Zk,q4,q5,q5',q6,q7,Tj,Ux⟩:=xm h;refine⟨λ hR a w hF f_ hB=>?_⟩;generalize Hj (vF P N p (i7 s) s)=b at *;obtain⟨c,kk,L,A,Ts⟩:=s;unfold i7 at q0;cases c with
 | code c=>cases q0
 | ex c=>cases q0
 | drw _ _=>cases q0
 | ops ops j =>
  simp only at q0 q3 q3' Zk q4 q5 q5' Tj Ux hF f_;have AS:ops.toList.drop j=o::ops.toList.drop (j+1):=by
   have iS:j<ops.toList.length:=(List.getElem?_eq_some_iff.1 q0).1;rw[List.drop_eq_getElem_cons iS,(List.getElem?_eq_some_iff.1 q0).2]
  show wpListIn _ _ _ _ _ _ _ _;rw[AS,wpListIn,if_pos (by simp[Region.wanted,q1])];refine⟨λ _ _=>trivial,?_⟩;have hb:=f_.holds _ (List.mem_append_left _ (List.mem_append_left _ (List.mem_of_getElem? Tj)));simp only[Blk.den] at hb;obtain⟨L',hl⟩:=dF Ux undef;have TZ:eR N undef ⟨.ops ops j,kk,L,A,Ts⟩=⟨.ops ops (j+1),kk,L',A,Ts⟩:=by
   unfold eR;simp only[q0,hl]
  have hh:=hk.h hR;rw[TZ] at hh;have e1:a.eval m=.map (some b):=(hF.eval q3).trans q4;have e2:a.eval x=.int .i64 k:=(hF.eval q3').trans q5;have e3:a.eval y=v:=(hF.eval Zk).trans q5';have hup:=sk (P:=P) (w:=w) (k:=k) (v:=v) q6 q7 hb;have hex:(execOp a.eval o).run P w=.ok .skip { w with heap:=w.heap.setIfInBounds b (bj (nl kv cl k v) (kg kv cl k)) }:=by
   rcases q2 with q2|q2
   ·simp only[execOp,q2,e1,e2,e3,Sem.run_bind,hup,Result.andThen];rfl
   ·simp only[execOp,q2,e1,e2,e3,Sem.run_bind,hup,Result.andThen];rfl
  have VM:∀c,o.op ≠ .defer c:=by
   intro c hc;rcases q2 with q2|q2 <;> rw[q2] at hc <;> cases hc
  rw[Oper.semAt_eq _ _ _ VM,hex,Oper.uponIn_skip];have iS:=cK hb;rw[fy] at f_;have S6:=f_.upd (w':={ w with heap:=w.heap.setIfInBounds b (bj (nl kv cl k v) (kg kv cl k)) }) (bl':=.obj (bj (nl kv cl k v) (kg kv cl k))) Tj (by
   show (w.heap.setIfInBounds b _)[b]?=_;rw[Array.getElem?_setIfInBounds_self_of_lt iS];rfl) (λ k' XE=>by
   show (w.heap.setIfInBounds b _)[k']?=_;rw[Array.getElem?_setIfInBounds_ne (λ e=>XE e.symm)])
  refine hh _ _ (hF.put hl) ?_ (hB.trans ⟨rfl,rfl,rfl,by simp,λ k hk=>by omega⟩);show Rel (ap (match A[p]? with|some x=>bD A p (x.1,.obj (bj (nl kv cl k v) (kg kv cl k)))|none=>A) Ts++F) _;rw[Tj,fy];exact S6
end
def Hk(P:Program)(N p:Nat)(s:Cfg):Option (Int × Nat × Nat × Obj):=match i7 s with
 | some o=>match o.guard,o.op,(fd N o.dst undef s.L).isSome with
  | none,.call c,true=>match c.callee,c.args.toList,c.argTypes.toList with
   | .builtin .delete,[m,x],[t,_]=>match iT s.L m && iT s.L x,gm s.L m,gm s.L x,P.underlying t,s.A[p]? with
    | true,.map (some b),.int .i64 k,some (.map kt _),some (b',.obj O)=>match P.underlying kt with
     | some (.int _)=>some (k,b,b',O)
     | _=>none
    | _,_,_,_,_=>none
   | _,_,_=>none
  | _,_,_=>none
 | none=>none
def PQ(x:Option (Int × Nat × Nat × Obj)):Nat:=match x with
 | some (_,b,_,_)=>b
 | none=>0
theorem Hm{P:Program}{N p:Nat}{s:Cfg}{k:Int}{b:Nat}{O:Obj}(h:Hk P N p s=some (k,b,b,O)) :
  ∃o t tx m x kt et ik,i7 s=some o /\ o.guard=none /\ o.op=.call { callee:=.builtin .delete,args:=#[m,x],argTypes:=#[t,tx] } /\ iT s.L m=true /\ iT s.L x=true /\ gm s.L m=.map (some b) /\ gm s.L x=vI k /\ P.underlying t=some (.map kt et) /\ P.underlying kt=some (.int ik) /\ s.A[p]?=some (b,.obj O) /\ (fd N o.dst undef s.L).isSome=true:=by
 unfold Hk at h;split at h
 case h_2=>cases h
 rename_i o ho;split at h
 case h_2=>cases h
 rename_i c h1 h2 h3;split at h
 case h_2=>cases h
 rename_i m x t tx g1 g2 g3;split at h
 case h_2=>cases h
 rename_i b1 k1 kt et b2 O1 h4 h5 h6 h7 h8;split at h
 case h_2=>cases h
 rename_i ik h9;simp only[Option.some.injEq,Prod.mk.injEq] at h;obtain⟨e1,e2,e3,e4⟩:=h;subst e1;subst e2;subst e3;subst e4;rw[Bool.and_eq_true] at h4;refine⟨o,t,tx,m,x,kt,et,ik,ho,h1,?_,h4.1,h4.2,h5,h6,h7,h9,h8,h3⟩;obtain⟨cal,args,ats⟩:=c;simp only at g1 g2 g3;subst g1;have e1:args=#[m,x]:=by cases args;simp_all
 have e2:ats=#[t,tx]:=by cases ats;simp_all
 rw[h2,e1,e2]
section
variable {r:Option Nat} {P:Program} {N:Nat} {D:List Deferred} {F:HL} {w0:World} {R:HL} {s:Cfg} {Q:Exit -> Act -> World -> Prop}
theorem PT(p:Nat){kv:List (Int × Value × Nat)}{cl:Nat}{k:Int}(hk:RN r P N D F w0 R (RG p (bj (jy kv k) cl) (eR N (.tuple #[]) s)) Q)
  (h:Hk P N p s=some (k,PQ (Hk P N p s),PQ (Hk P N p s),bj kv cl):=by kernel_rfl):RN r P N D F w0 R s Q:=by
 obtain⟨o,t,tx,m,x,kt,et,ik,q0,q1,q2,q3,q3',q4,q5,q6,q7,Tj,Ux⟩:=Hm h;refine⟨λ hR a w hF f_ hB=>?_⟩;generalize PQ (Hk P N p s)=b at *;obtain⟨c,kk,L,A,Ts⟩:=s;unfold i7 at q0;cases c with
 | code c=>cases q0
 | ex c=>cases q0
 | drw _ _=>cases q0
 | ops ops j =>
  simp only at q0 q3 q3' q4 q5 Tj Ux hF f_;have AS:ops.toList.drop j=o::ops.toList.drop (j+1):=by
   have iS:j<ops.toList.length:=(List.getElem?_eq_some_iff.1 q0).1;rw[List.drop_eq_getElem_cons iS,(List.getElem?_eq_some_iff.1 q0).2]
  show wpListIn _ _ _ _ _ _ _ _;rw[AS,wpListIn,if_pos (by simp[Region.wanted,q1])];refine⟨λ _ _=>trivial,?_⟩;have hb:=f_.holds _ (List.mem_append_left _ (List.mem_append_left _ (List.mem_of_getElem? Tj)));simp only[Blk.den] at hb;have iS:=cK hb;have key:dR P o a w λ u w'=>u=.tuple #[] /\ Rel (ap (match A[p]? with|some x=>bD A p (x.1,.obj (bj (jy kv k) cl))|none=>A) Ts++F) w' /\ Below 0 w w':=by
   have e1:a.eval m=.map (some b):=(hF.eval q3).trans q4;have e2:a.eval x=vI k:=(hF.eval q3').trans q5;have iN:=BC (P:=P) (w:=w) (x:=tx) (ty:=o.type) (k:=k) q6 q7 hb;unfold dR;have he:(execOp a.eval o).run P w=.ok (.value (.tuple #[])) { w with heap:=w.heap.setIfInBounds b (bj (jy kv k) cl) }:=by
    simp[execOp,q2,resolve,invoke,builtin,Sem.run_bind,e1,e2,iN]
   rw[he];rw[fy] at f_;have S6:=f_.upd (w':={ w with heap:=w.heap.setIfInBounds b (bj (jy kv k) cl) }) (bl':=.obj (bj (jy kv k) cl)) Tj (by
    show (w.heap.setIfInBounds b _)[b]?=_;rw[Array.getElem?_setIfInBounds_self_of_lt iS];rfl) (λ k' XE=>by
    show (w.heap.setIfInBounds b _)[k']?=_;rw[Array.getElem?_setIfInBounds_ne (λ e=>XE e.symm)])
   refine⟨rfl,?_,⟨rfl,rfl,rfl,by simp,λ k hk=>by omega⟩⟩;rw[Tj,fy];exact S6
  refine fQ (by rw[q2];intro c hc;cases hc) key ?_;rintro u w' ⟨rfl,S6,We⟩;obtain⟨L',hl⟩:=dF Ux (.tuple #[]);have hh:=hk.h hR;have TZ:eR N (.tuple #[]) ⟨.ops ops j,kk,L,A,Ts⟩=⟨.ops ops (j+1),kk,L',A,Ts⟩:=by
   unfold eR;simp only[q0,hl]
  rw[TZ] at hh;exact hh _ w' (hF.put hl) S6 (hB.trans We)
end
def gO:Enc Rw:=⟨1,λ p k=>match k with|0=>.slice p.A p.n p.c|_=>default,⟨none,0,0⟩⟩
noncomputable def Ol:TypeInfo:=match Tryz.prog.info? 58 with | some i=>i | none=>⟨.bool,"",0,0,false,0,0,none,false,#[]⟩
noncomputable def Om:Value:=match Ol.zero with|some z=>z|none=>.bool false
theorem PU:EncOk gO Tryz.prog 58 Ol Om where
 info:=by kernel_rfl
 zero:=by kernel_rfl
 size:=by kernel_rfl
 zsize:=by kernel_rfl
 zcell:=λ k hk=>by
  have h:∀k<1,Om.cells[k]?=some (gO.cell gO.dflt k):=by intro k hk;(iterate 1 (rcases k with _|k;· kernel_rfl));omega
  exact h k hk
 one:=λ x k=>by unfold gO;dsimp only;split <;> rfl
 bytes:=Nat.le_of_ble_eq_true (by kernel_rfl)
abbrev Hn(x:Inp):Value:=.agg #[vI x.dx,vI x.dy,vI x.act]
def PV:Value -> Inp
 | .agg ⟨[.int _ a,.int _ b,.int _ c]⟩=>⟨a,b,c⟩
 | _=>dI
theorem Hs(x:Inp):PV (Hn x)=x:=by cases x;rfl
def jj(kv:List (Int × Value × Nat))(t:Int):Option Inp:=(vE kv t).map PV
def LocIn(kv:List (Int × Value × Nat)):Prop:=∀x∈kv,∃y,fV y /\ x.2.1=Hn y
theorem LocIn.nil:LocIn []:=λ x hx=>by cases hx
theorem Lu{kv:List (Int × Value × Nat)}{t:Int}{v:Value}(h:vE kv t=some v):∃x∈kv,x.2.1=v:=by
 unfold vE at h;cases e:qA kv t 0 with
 | none=>rw[e] at h;cases h
 | some y =>
  obtain⟨j,u⟩:=y;rw[e] at h;obtain rfl:u=v:=by simpa using h
  obtain⟨_,n,hse_⟩:=ol t kv 0 j u e;exact⟨_,List.mem_of_getElem? hse_,rfl⟩
theorem LocIn.get{kv:List (Int × Value × Nat)}(h:LocIn kv)(t:Int):(vE kv t=none /\ jj kv t=none) \/ ∃x,fV x /\ vE kv t=some (Hn x) /\ jj kv t=some x:=by
 cases e:vE kv t with
 | none=>exact .inl ⟨rfl,by unfold jj;rw[e];rfl⟩
 | some v =>
  obtain⟨x,hx,q2_⟩:=Lu e;obtain⟨y,hy,q3_⟩:=h x hx;have q4_:v=Hn y:=q2_.symm.trans q3_;exact .inr ⟨y,hy,by rw[q4_],by unfold jj;rw[e,q4_];show some (PV (Hn y))=_;rw[Hs]⟩
theorem LocIn.ok{kv:List (Int × Value × Nat)}(h:LocIn kv){t:Int}{x:Inp}(e:jj kv t=some x):fV x:=by
 rcases h.get t with ⟨_,q2_⟩|⟨y,hy,_,q2_⟩
 ·rw[q2_] at e;cases e
 ·rw[q2_] at e;cases e;exact hy
theorem LocIn.put{kv:List (Int × Value × Nat)}(h:LocIn kv)(c:Nat)(k:Int){y:Inp}(hy:fV y):LocIn (nl kv c k (Hn y)):=by
 intro x hx;unfold nl at hx;split at hx
 ·next i v e =>
  obtain⟨j,hj,rfl⟩:=List.mem_iff_getElem.1 hx;rw[List.getElem_modify];split
  ·exact⟨y,hy,rfl⟩
  ·exact h _ (List.getElem_mem _)
 ·rcases List.mem_append.1 hx with hx|hx
  ·exact h x hx
  ·rw[List.mem_singleton.1 hx];exact⟨y,hy,rfl⟩
theorem LocIn.del{kv:List (Int × Value × Nat)}(h:LocIn kv)(k:Int):LocIn (jy kv k):=by
 intro x hx;unfold jy at hx;split at hx
 ·exact h x (List.mem_of_mem_eraseIdx hx)
 ·exact h x hx
def EfsT(el:List Rw)(Zd:List (List Eff))(T:HL):Prop:=∀F:HL,(∀x∈T,x∈F) -> ∀k,k<el.length -> (el.getD k gO.dflt).n=(Zd.getD k []).length /\ RowL dk 111 F (el.getD k gO.dflt).A (Zd.getD k []).length (Zd.getD k [])
theorem EfsT.nil:EfsT [] [] []:=λ F _ k hk=>absurd hk (Nat.not_lt_zero _)
theorem EfsT.snoc{el:List Rw}{Zd:List (List Eff)}{T T1:HL}{es:List Eff}{A:Option Addr}{c n:Nat}(h:EfsT el Zd T)(hl:el.length=Zd.length)(hs:SlIs dk 111 es A c T1)(hn:n=es.length):EfsT (el++[⟨A,n,c⟩]) (Zd++[es]) (T++T1):=λ F hF k hk=>by
 rw[iJ,iJ,<- hl]
 by_cases VN:k<el.length
 ·rw[if_pos VN,if_pos VN];exact h F (λ x hx=>hF x (List.mem_append_left _ hx)) k VN
 ·have:k=el.length:=by simp at hk;omega
  rw[if_neg VN,if_neg VN,if_pos this,if_pos this];exact⟨hn,hs.toRowL λ x hx=>hF x (List.mem_append_right _ hx)⟩
theorem EfsT.take{el:List Rw}{Zd:List (List Eff)}{T:HL}(h:EfsT el Zd T)(k:Nat):EfsT (el.take k) (Zd.take k) T:=λ F hF i hi=>by
 rw[List.length_take] at hi;have q1_:(Zd.take k).getD i []=Zd.getD i []:=by rw[List.getD_eq_getElem?_getD,List.getD_eq_getElem?_getD,List.getElem?_take,if_pos (by omega)]
 have q2_:(el.take k).getD i gO.dflt=el.getD i gO.dflt:=by rw[List.getD_eq_getElem?_getD,List.getD_eq_getElem?_getD,List.getElem?_take,if_pos (by omega)]
 rw[q1_,q2_];exact h F hF i (by omega)
theorem RwsT.more{rs:List Rw}{xss:List (List Inp)}{T:HL}(h:RwsT rs xss T)(T1:HL):RwsT rs xss (T++T1):=λ F hF=>h F λ x hx=>hF x (List.mem_append_left _ hx)
theorem RwsT.take{rs:List Rw}{xss:List (List Inp)}{T:HL}(h:RwsT rs xss T)(k:Nat):RwsT (rs.take k) (xss.take k) T:=λ F hF=>(h F hF).take k
theorem RwsT.drop{rs:List Rw}{xss:List (List Inp)}{T:HL}(h:RwsT rs xss T)(k:Nat):RwsT (rs.drop k) (xss.drop k) T:=λ F hF=>(h F hF).drop k
theorem RwsT.snocD{rs:List Rw}{xss:List (List Inp)}{T T1:HL}{xs:List Inp}{A:Option Addr}{c n:Nat}(h:RwsT rs xss T)(hs:ClS cS 40 xs A c T1)(h1:1 <= xs.length)(hn:n=xs.length):RwsT (rs++[⟨A,n,c⟩]) (xss++[xs]) (T++T1):=by
 obtain⟨A0,hs⟩:=hs;rcases hs with ⟨rfl,_⟩|⟨b,rfl,rfl,hc⟩
 ·simp at h1
 ·refine h.snoc (A:=some ⟨b,0,none⟩) (c:=c) (T1:=[(b,.rows 3 c (aL cS xs) 40 (0,0))]) (.inr ⟨b,0,xs++List.replicate (c-xs.length) cS.dflt,by simp,?_,by simp;omega,hc,by simp⟩) h1 hn;rw[Nat.zero_add,mP];rfl
theorem RwsT.snocI{rs:List Rw}{xss:List (List Inp)}{T:HL}{p:Rw}{xs:List Inp}(h:RwsT rs xss T)(hp:∀F,(∀x∈T,x∈F) -> RwIn F xs p):RwsT (rs++[p]) (xss++[xs]) T:=λ F hF=>by
 have hse_:=h F hF;refine⟨by simp[hse_.len],λ k hk=>?_⟩;rw[iJ,iJ,<- hse_.len]
 by_cases VN:k<rs.length
 ·rw[if_pos VN,if_pos VN];exact hse_.row k VN
 ·have:k=rs.length:=by simp at hk;omega
  rw[if_neg VN,if_neg VN,if_pos this,if_pos this];exact hp F hF
section
variable {rs_:List Bx} {ds_:List Dr} {bp gb mb:Nat} {S:Setup} {M:MemS} {k:Nat} {G0:HL}
theorem GameX.room(h:GameX rs_ ds_ bp gb mb S M k G0):M.lg.length+k <= 100000000:=by
 obtain⟨_,hm,_⟩:=h.mem;exact hm.len2
theorem GameX.raise(h:GameX rs_ ds_ bp gb mb S M k G0){k':Nat}(hk:M.lg.length+k' <= 100000000):GameX rs_ ds_ bp gb mb S M k' G0:=by
 cases h with
 | mk T U hM hU =>
  refine .mk T U ?_ hU;cases hM with
  | mk cb A cap Hl hs hc hl=>exact .mk cb A cap Hl hs hc hk
theorem uO{F:HL}(h:GameX rs_ ds_ bp gb mb S M k G0)(hF:∀x∈G0,x∈F){e:Int}(he:M.get 0=e):Sp Tryz.prog 52 #[vP gb 0] [] F (λ u H'=>u=vI e /\ H'=[]):=by
 subst he;cases h with
 | mk T U hM hU=>exact t6 S bp gb mb M k T F (hF _ (List.mem_append_left _ (List.mem_singleton.2 rfl))) hM λ x hx=>hF x (by simp[ap,hx])
theorem xn{f:FuncId}{args:Array Value}{F G:HL}{R:Value -> HL -> HL -> Prop}{M2:MemS}{k2:Nat}(h:GameX rs_ ds_ bp gb mb S M k G0)
  (hs:∀ (T X:HL),MemH mb M k T -> Sp Tryz.prog f args (ap [] [G,T]) (X++F) (λ u H'=>∃x:HL × HL,H'=ap [] [x.1,x.2] /\ (R u x.1 [] /\ MemH mb M2 k2 x.2))) :
  Sp Tryz.prog f args (ap [] [G,G0]) F (λ u H'=>∃x:HL × HL,H'=ap [] [x.1,x.2] /\ (R u x.1 [] /\ GameX rs_ ds_ bp gb mb S M2 k2 x.2)):=by
 cases h with
 | mk T U hM hU =>
  have perm:∀A B:HL,(ap [] [A,ap [(gb,Blk.lit (bP S bp mb) 121 (0,0))] [B,U]]).Perm (ap [] [A,B]++((gb,Blk.lit (bP S bp mb) 121 (0,0))::U)):=λ A B=>by
   simp only[ap,List.flatten_cons,List.flatten_nil,List.append_nil,List.nil_append,List.append_assoc,List.cons_append];exact List.Perm.append_left A List.perm_middle.symm
  refine Sp.fr (X:=(gb,Blk.lit (bP S bp mb) 121 (0,0))::U) (perm G T) (hs T _ hM) ?_;rintro u Y ⟨x,rfl,h1,hse_⟩;exact⟨_,⟨(x.1,ap [(gb,Blk.lit (bP S bp mb) 121 (0,0))] [x.2,U]),rfl,h1,.mk x.2 U hse_ hU⟩,perm x.1 x.2⟩
end
theorem Ht{α:Type}(p:α)(Tg Tn Tr Tu Te Tp Tx Tq Ts:List α):(p::(Tg++(Tn++(Tr++(Tu++(Te++(Tp++(Tx++(Tq++Ts))))))))).Perm (Tx++(p::(Tg++(Tn++(Tr++(Tu++(Te++(Tp++(Tq++Ts))))))))):=by
 have h:=List.perm_append_comm_assoc (p::(Tg++(Tn++(Tr++(Tu++(Te++Tp)))))) Tx (Tq++Ts);simpa [List.append_assoc] using h
theorem SX{rb mb w a:Nat}{ms:List Int}{G F:HL}(h:RingH rb mb w a ms G)(hF:∀x∈G,x∈F)(hl:ms.length <= 100000000):Sp Tryz.prog 76 #[vP rb 0] [] F (λ u H'=>u=vI (D3 a ms) /\ H'=[]):=by
 cases h with
 | @mk A cap n Hl hs hn h0=>exact D4 hs (λ x hx=>hF x (by simp[ap,hx])) hn (by omega) (hF _ (List.mem_append_left _ List.mem_cons_self))
inductive PeerR(rs_:List Bx)(ds_:List Dr)(bp pp pl me w:Nat)(S:Setup)(J:Nat -> Nat × Int)(P:PS (List Inp))(kv:List (Int × Value × Nat))(c sn:Nat)(X:Option (Rw × List Inp)):HL -> Prop
 | mk {gb mb rb lb cl rn rc ck un uc en ec rbk sg smb:Nat} {S2 S3:Setup} {rA uA eA:Option Addr} {rl ul el:List Rw} {N:MemS} {Tg Tn Tr Tu Te Tp Tq Ts:HL}
  (q1_:P.rows.length=rn) (q2_:P.ck=ck) (q3_:P.used.length=un) (q4_:P.effs.length=en) (q5_:P.rb=rbk)
  (hse_:SetEq S S2) (hg:GameX rs_ ds_ bp gb mb S2 P.M 0 Tg) (hb:0 <= P.M.base /\ P.M.base+(P.M.lg.length:Int) <= 20000*(c:Int))
  (hn:RingH rb mb w P.a P.ms Tn) (hkv:LocIn kv)
  (hr:SlIs jO 38 rl rA rc Tr) (hrl:rl.length=rn) (hrr:RwsT rl P.rows Tp)
  (hu:SlX jO 38 ul uA uc Tu) (hul:ul.length=un) (huu:RwsT ul P.used Tp)
  (he:SlIs gO 58 el eA ec Te) (hel:el.length=en) (hee:EfsT el P.effs Tq)
  (hse3_:SetEq S S3) (hs:GameX rs_ ds_ bp sg smb S3 N 99020000 Ts) (hsc:N.cs=WS S J P.rows sn) (hsn:sn <= rn) (hsb:0 <= N.base /\ N.base <= 1000000*(sn:Int)) (hpl:S.players=(pl:Int))
  (hX:∀p xs,X=some (p,xs) -> ∀F:HL,(∀y∈Tp,y∈F) -> RwIn F xs p) :
  PeerR rs_ ds_ bp pp pl me w S J P kv c sn X (ap [(pp,.lit [vI (pl:Int),vI (me:Int),vI (w:Int),vP gb 0,vP rb 0,.map (some lb),.slice rA rn rc,vI (ck:Int),.slice uA un uc,.slice eA en ec,vI (rbk:Int),vP sg 0] 102 (0,0)),(lb,.obj (bj kv cl))] [Tg,Tn,Tr,Tu,Te,Tp,Tq,Ts])
theorem gA{rs_:List Bx}{ds_:List Dr}{S2:Setup}{M:MemS}{bp mb k:Nat}{Tg:HL}(pp gb rb lb sg pl me w rn rc ck un uc en ec rbk:Nat)(rA uA eA:Option Addr)(e0:Int)(F:HL)(hp:(pp,.lit [vI (pl:Int),vI (me:Int),vI (w:Int),vP gb 0,vP rb 0,.map (some lb),.slice rA rn rc,vI (ck:Int),.slice uA un uc,.slice eA en ec,vI (rbk:Int),vP sg 0] 102 (0,0))∈F)(hG:GameX rs_ ds_ bp gb mb S2 M k Tg)(hT:∀x∈Tg,x∈F)(he0:M.get 0=e0):Sp Tryz.prog 18 #[vP pp 0] [] F (λ u H'=>u=vI e0 /\ H'=[]):=by
 refine aav Tryz.func18 rfl (mc hp mn) (A:=[]) (Ts:=[]) rfl λ w0=>?_;refine ae 11 [.ro 0] λ _=>aai (uO hG (λ x hx=>aq (hT x hx)) he0)<|ae 3 [] λ _=>?_;exact aaq [] [] [] ⟨rfl,rfl⟩
theorem eI(pp gb rb lb sg pl me w rn rc ck un uc en ec rbk:Nat)(rA uA eA:Option Addr)(F:HL)(hp:(pp,.lit [vI (pl:Int),vI (me:Int),vI (w:Int),vP gb 0,vP rb 0,.map (some lb),.slice rA rn rc,vI (ck:Int),.slice uA un uc,.slice eA en ec,vI (rbk:Int),vP sg 0] 102 (0,0))∈F):Sp Tryz.prog 19 #[vP pp 0] [] F (λ u H'=>u=vI (rn:Int) /\ H'=[]):=by
 refine aav Tryz.func19 rfl (mc hp mn) (A:=[]) (Ts:=[]) rfl λ w0=>?_;refine ae 15 [.ro 0] λ _=>?_;exact aaq [] [] [] ⟨rfl,rfl⟩
theorem Hu(pp gb rb lb sg pl me w rn rc ck un uc en ec rbk:Nat)(rA uA eA:Option Addr)(F:HL)(hp:(pp,.lit [vI (pl:Int),vI (me:Int),vI (w:Int),vP gb 0,vP rb 0,.map (some lb),.slice rA rn rc,vI (ck:Int),.slice uA un uc,.slice eA en ec,vI (rbk:Int),vP sg 0] 102 (0,0))∈F):Sp Tryz.prog 20 #[vP pp 0] [] F (λ u H'=>u=vI (rbk:Int) /\ H'=[]):=by
 refine aav Tryz.func20 rfl (mc hp mn) (A:=[]) (Ts:=[]) rfl λ w0=>?_;refine ae 14 [.ro 0] λ _=>?_;exact aaq [] [] [] ⟨rfl,rfl⟩
section
variable {rs_:List Bx} {ds_:List Dr} {bp pp pl me w:Nat} {S:Setup} {J:Nat -> Nat × Int} {P:PS (List Inp)} {kv:List (Int × Value × Nat)} {c sn:Nat} {X:Option (Rw × List Inp)} {G F:HL}
theorem fm(h:PeerR rs_ ds_ bp pp pl me w S J P kv c sn X G)(hF:∀x∈G,x∈F){e:Int}(he:P.M.get 0=e):Sp Tryz.prog 18 #[vP pp 0] [] F (λ u H'=>u=vI e /\ H'=[]):=by
 cases h with
 | mk q1_ q2_ q3_ q4_ q5_ hse_ hg=>exact gA _ _ _ _ _ _ _ _ _ _ _ _ _ _ _ _ _ _ _ e F (hF _ (List.mem_append_left _ List.mem_cons_self)) hg (λ x hx=>hF x (by simp[ap,hx])) he
theorem pE(h:PeerR rs_ ds_ bp pp pl me w S J P kv c sn X G)(hF:∀x∈G,x∈F):Sp Tryz.prog 20 #[vP pp 0] [] F (λ u H'=>u=vI (P.rb:Int) /\ H'=[]):=by
 cases h with
 | mk q1_ q2_ q3_ q4_ q5_ hse_ hg=>rw[q5_];exact Hu _ _ _ _ _ _ _ _ _ _ _ _ _ _ _ _ _ _ _ F (hF _ (List.mem_append_left _ List.mem_cons_self))
end
section
variable {r:Option Nat} {P:Program} {N:Nat} {D:List Deferred} {F:HL} {w0:World} {R:HL} {s:Cfg} {Q:Exit -> Act -> World -> Prop} {hards:List Nat}
theorem NG{i:Nat}(p:Nat){kv:List (Int × Value × Nat)}{cl:Nat}{k:Int}{v:Value}(hk:RD r P N D F w0 R hards [] (RG p (bj (nl kv cl k v) (kg kv cl k)) (yU N i undef s)) Q)
  (h:vF P N p (mO i s) s=some (k,v,Hj (vF P N p (mO i s) s),Hj (vF P N p (mO i s) s),bj kv cl):=by kernel_rfl) (hx:hards.contains i=true:=by kernel_rfl):RDO r P N D F w0 R hards [] i s Q:=by
 obtain⟨o,t,m,x,y,kt,et,ik,q0,q1,q2,q3,q3',Zk,q4,q5,q5',q6,q7,Tj,Ux⟩:=xm h;generalize Hj (vF P N p (mO i s) s)=b at *;obtain⟨c,kk,L,A,Ts⟩:=s;unfold mO at q0;cases c with
 | code c=>cases q0
 | ex c=>cases q0
 | ops _ _=>cases q0
 | drw ops li =>
  refine⟨λ hR=>?_⟩;simp only at q0 q3 q3' Zk q4 q5 q5' Tj Ux;have TZ:∀v L',fd N o.dst v L=some L' -> yU N i v ⟨.drw ops li,kk,L,A,Ts⟩=⟨.drw ops (bD li i true),kk,L',A,Ts⟩:=by
   intro v L' hl;unfold yU;simp only[q0,hl]
  have oF:∀L':FL,RG p (bj (nl kv cl k v) (kg kv cl k)) ⟨.drw ops (bD li i true),kk,L',A,Ts⟩=⟨.drw ops (bD li i true),kk,L',bD A p (b,.obj (bj (nl kv cl k v) (kg kv cl k))),Ts⟩:=by
   intro L';unfold RG;simp only[Tj]
  refine(mM (Q:=Q) (by simpa using q0) (σ:=Unit) (λ u _=>u=undef) (λ _=>ap (bD A p (b,.obj (bj (nl kv cl k v) (kg kv cl k)))) Ts) Ux (λ a hF=>⟨by simp[Region.wanted,q1],λ w f_ hB=>?_⟩) (λ _=>⟨λ hi=>?_,λ _ x hm=>by cases hm⟩) ?_:RDO r P N D F w0 R hards [] i ⟨.drw ops li,kk,L,A,Ts⟩ Q).h hR
  ·have hb:=f_.holds _ (List.mem_append_left _ (List.mem_append_left _ (List.mem_of_getElem? Tj)));simp only[Blk.den] at hb;have e1:a.eval m=.map (some b):=(hF.eval q3).trans q4;have e2:a.eval x=.int .i64 k:=(hF.eval q3').trans q5;have e3:a.eval y=v:=(hF.eval Zk).trans q5';have hup:=sk (P:=P) (w:=w) (k:=k) (v:=v) q6 q7 hb;have hex:(execOp a.eval o).run P w=.ok .skip { w with heap:=w.heap.setIfInBounds b (bj (nl kv cl k v) (kg kv cl k)) }:=by
    rcases q2 with q2|q2
    ·simp only[execOp,q2,e1,e2,e3,Sem.run_bind,hup,Result.andThen];rfl
    ·simp only[execOp,q2,e1,e2,e3,Sem.run_bind,hup,Result.andThen];rfl
   unfold dR;rw[hex];have iS:=cK hb;rw[fy] at f_;have S6:=f_.upd (w':={ w with heap:=w.heap.setIfInBounds b (bj (nl kv cl k v) (kg kv cl k)) }) (bl':=.obj (bj (nl kv cl k v) (kg kv cl k))) Tj (by
    show (w.heap.setIfInBounds b _)[b]?=_;rw[Array.getElem?_setIfInBounds_self_of_lt iS];rfl) (λ k' XE=>by
    show (w.heap.setIfInBounds b _)[k']?=_;rw[Array.getElem?_setIfInBounds_ne (λ e=>XE e.symm)])
   exact⟨(),rfl,by rw[fy];exact S6,⟨rfl,rfl,rfl,by simp,λ k hk=>by omega⟩⟩
  ·exact absurd (List.contains_iff_mem.1 hx) hi
  ·rintro u _ rfl L' TM hs;have h3:=hk.h hR;rw[TZ _ L' TM,oF] at h3;exact h3 hs
end
end Go.Proofs.YtdppjkjbghbnjaaGreatDoor
namespace Go.Proofs.YtdppjkjbghbnjaaGreatDoor
open IntKind
open Go.RowKit Go.Shelf
def fdC(T:HL)(s:Cfg):Cfg:=match s with
 | ⟨c,k,L,_,_⟩=>⟨c,k,L,[],[T]⟩
theorem NH{r:Option Nat}{P:Program}{N:Nat}{D:List Deferred}{F:HL}{w0:World}{R:HL}{s:Cfg}{Q:Exit -> Act -> World -> Prop}(B:HL)(Bs:List HL){T:HL}(e:T=ap B Bs)(hk:RN r P N D F w0 R (fdC T s) Q)(h:(s.A,s.Ts)=(B,Bs):=by kernel_rfl):RN r P N D F w0 R s Q:=by
 obtain⟨c,k,L,A,Ts⟩:=s;simp only[Prod.mk.injEq] at h;obtain⟨rfl,rfl⟩:=h;subst e;exact⟨λ hR a w h1 h2 h3=>hk.h hR a w h1 (by simpa [ap,fdC] using h2) h3⟩
theorem Lv(v lo hi:Int)(F:HL)(arX:lo <= v)(alY:v <= hi):Sp Tryz.prog 72 #[vI v,vI lo,vI hi] [] F (λ u H'=>u=.bool true /\ H'=[]):=by
 refine aav Tryz.func72 rfl mn (A:=[]) (Ts:=[]) rfl λ w0=>?_;refine ae 11 [] λ _=>aam (lo <= v) 10 (λ h1=>?_) λ h1=>?_
 ·refine ae 7 [] λ _=>aaq [] [] [] (v:=.bool (decide (v <= hi))) (H':=[]) ?_;exact⟨by rw[decide_eq_true alY],rfl⟩
 ·(exfalso;omega)
theorem BD(x:Inp)(F:HL)(h:fV x):Sp Tryz.prog 45 #[.agg #[vI x.dx,vI x.dy,vI x.act]] [] F (λ u H'=>u=vI 0 /\ H'=[]):=by
 have S7:=h;unfold fV at S7;refine aav Tryz.func45 rfl mn (A:=[]) (Ts:=[]) rfl λ w0=>?_;refine ae 11 [.own 0] λ n1=>aai (Lv x.dx (-1) 1 _ (by omega) (by omega))<|ae 4 [.own 0] λ _=>aai (Lv x.dy (-1) 1 _ (by omega) (by omega))<|ae 5 [.own 0] λ _=>aai (Lv x.act 0 3 _ (by omega) (by omega))<|ae 12 [] λ _=>?_;exact aaq [] [] [] ⟨rfl,rfl⟩
theorem Du{rs_:List Bx}{ds_:List Dr}{bp pp pl me w:Nat}{S:Setup}{J:Nat -> Nat × Int}{P:PS (List Inp)}{kv:List (Int × Value × Nat)}{c sn:Nat}{X:Option (Rw × List Inp)}{gb mb rb lb cl rn rc ck un uc en ec rbk sg smb:Nat}{S2 S3:Setup}{rA uA eA:Option Addr}{rl ul el:List Rw}{N:MemS}{Tg Tn Tr Tu Te Tp Tq Ts F:HL}(q1_:P.rows.length=rn)(q2_:P.ck=ck)(q3_:P.used.length=un)(q4_:P.effs.length=en)(q5_:P.rb=rbk)(hse_:SetEq S S2)(hg:GameX rs_ ds_ bp gb mb S2 P.M 0 Tg)(hb:0 <= P.M.base /\ P.M.base+(P.M.lg.length:Int) <= 20000*(c:Int))(hn:RingH rb mb w P.a P.ms Tn)(hkv:LocIn kv)(hr:SlIs jO 38 rl rA rc Tr)(hrl:rl.length=rn)(hrr:RwsT rl P.rows Tp)(hu:SlX jO 38 ul uA uc Tu)(hul:ul.length=un)(huu:RwsT ul P.used Tp)(he:SlIs gO 58 el eA ec Te)(hel:el.length=en)(hee:EfsT el P.effs Tq)(hse3_:SetEq S S3)(hs:GameX rs_ ds_ bp sg smb S3 N 99020000 Ts)(hsc:N.cs=WS S J P.rows sn)(hsn:sn <= rn)(hsb:0 <= N.base /\ N.base <= 1000000*(sn:Int))(hpl:S.players=(pl:Int))(hX:∀p xs,X=some (p,xs) -> ∀F:HL,(∀y∈Tp,y∈F) -> RwIn F xs p)(t:Int)(xi:Inp)(hi:fV xi):Sp Tryz.prog 29 #[vP pp 0,vI t,.agg #[vI xi.dx,vI xi.dy,vI xi.act]] (ap [(pp,.lit [vI (pl:Int),vI (me:Int),vI (w:Int),vP gb 0,vP rb 0,.map (some lb),.slice rA rn rc,vI (ck:Int),.slice uA un uc,.slice eA en ec,vI (rbk:Int),vP sg 0] 102 (0,0)),(lb,.obj (bj kv cl))] [Tg,Tn,Tr,Tu,Te,Tp,Tq,Ts]) F (λ u H'=>∃x:List (Int × Value × Nat) × Int,u=vI x.2 /\ PeerR rs_ ds_ bp pp pl me w S J P x.1 c sn X H'):=by
 refine aav Tryz.func29 rfl mn (A:=[(pp,.lit [vI (pl:Int),vI (me:Int),vI (w:Int),vP gb 0,vP rb 0,.map (some lb),.slice rA rn rc,vI (ck:Int),.slice uA un uc,.slice eA en ec,vI (rbk:Int),vP sg 0] 102 (0,0)),(lb,.obj (bj kv cl))]) (Ts:=[Tg,Tn,Tr,Tu,Te,Tp,Tq,Ts]) rfl λ w0=>?_;refine ae 10 (aab 3) λ n1=>aai (BD xi _ hi)<|ae 18 [] λ _=>aam (t<0) 17 (λ h2=>?_) λ h2=>?_
 ·refine ae 11 [] λ _=>aaq [] [1,2] [0,1,2,3,4,5,6,7] (v:=vI 18) (H':=(ap [(pp,.lit [vI (pl:Int),vI (me:Int),vI (w:Int),vP gb 0,vP rb 0,.map (some lb),.slice rA rn rc,vI (ck:Int),.slice uA un uc,.slice eA en ec,vI (rbk:Int),vP sg 0] 102 (0,0)),(lb,.obj (bj kv cl))] [Tg,Tn,Tr,Tu,Te,Tp,Tq,Ts])) ?_;exact⟨(kv,18),rfl,PeerR.mk q1_ q2_ q3_ q4_ q5_ hse_ hg hb hn hkv hr hrl hrr hu hul huu he hel hee hse3_ hs hsc hsn hsb hpl hX⟩
 ·refine ae 5 [] λ _=>aam (t >= 6000) 20 (λ h3=>?_) λ h3=>?_
  ·refine ae 6 [] λ _=>aaq [] [1,2] [0,1,2,3,4,5,6,7] (v:=vI 18) (H':=(ap [(pp,.lit [vI (pl:Int),vI (me:Int),vI (w:Int),vP gb 0,vP rb 0,.map (some lb),.slice rA rn rc,vI (ck:Int),.slice uA un uc,.slice eA en ec,vI (rbk:Int),vP sg 0] 102 (0,0)),(lb,.obj (bj kv cl))] [Tg,Tn,Tr,Tu,Te,Tp,Tq,Ts])) ?_;exact⟨(kv,18),rfl,PeerR.mk q1_ q2_ q3_ q4_ q5_ hse_ hg hb hn hkv hr hrl hrr hu hul huu he hel hee hse3_ hs hsc hsn hsb hpl hX⟩
  ·refine ae 8 [] λ _=>aai (eI pp gb rb lb sg pl me w rn rc ck un uc en ec rbk rA uA eA _ (az 1))<|ae 3 [] λ _=>aam (t<(rn:Int)) 24 (λ h4=>?_) λ h4=>?_
   ·refine ae 6 [] λ _=>aaq [] [1,2] [0,1,2,3,4,5,6,7] (v:=vI 20) (H':=(ap [(pp,.lit [vI (pl:Int),vI (me:Int),vI (w:Int),vP gb 0,vP rb 0,.map (some lb),.slice rA rn rc,vI (ck:Int),.slice uA un uc,.slice eA en ec,vI (rbk:Int),vP sg 0] 102 (0,0)),(lb,.obj (bj kv cl))] [Tg,Tn,Tr,Tu,Te,Tp,Tq,Ts])) ?_;exact⟨(kv,20),rfl,PeerR.mk q1_ q2_ q3_ q4_ q5_ hse_ hg hb hn hkv hr hrl hrr hu hul huu he hel hee hse3_ hs hsc hsn hsb hpl hX⟩
   ·refine ae 11 [.own 1] λ _=>?_;rcases hkv.get t with ⟨Vu,Vt⟩|⟨xl,ahG,Vu,Vt⟩
    ·refine rD 2 (kv:=kv) (cl:=cl) (k:=t) (ok:=true) (z:=.agg #[vI 0,vI 0,vI 0]) (v:=.tuple #[.agg #[vI 0,vI 0,vI 0],.bool false]) (by simp only[HN,Vu];rfl)<|ae 17 (aab 3) λ n5=>aal [6] []<|ag [] [0,4,5,1,2,3] [.own 1,.own 1,.own 1,.own 2]<|aae 6 (NG 3 (kv:=kv) (cl:=cl) (k:=t) (v:=.agg #[vI xi.dx,vI xi.dy,vI xi.act]) ?_);refine aad<|ae 6 [] λ _=>aaq [] [2,3] [0,1,2,3,4,5,6,7] (v:=vI 0) (H':=(ap [(pp,.lit [vI (pl:Int),vI (me:Int),vI (w:Int),vP gb 0,vP rb 0,.map (some lb),.slice rA rn rc,vI (ck:Int),.slice uA un uc,.slice eA en ec,vI (rbk:Int),vP sg 0] 102 (0,0)),(lb,.obj (bj (nl kv cl t (.agg #[vI xi.dx,vI xi.dy,vI xi.act])) (kg kv cl t)))] [Tg,Tn,Tr,Tu,Te,Tp,Tq,Ts])) ?_;exact⟨(_,0),rfl,PeerR.mk q1_ q2_ q3_ q4_ q5_ hse_ hg hb hn (hkv.put cl t hi) hr hrl hrr hu hul huu he hel hee hse3_ hs hsc hsn hsb hpl hX⟩
    ·refine rD 2 (kv:=kv) (cl:=cl) (k:=t) (ok:=true) (z:=.agg #[vI 0,vI 0,vI 0]) (v:=.tuple #[.agg #[vI xl.dx,vI xl.dy,vI xl.act],.bool true]) (by simp only[HN,Vu];rfl)<|ae 19 (aab 3) λ n6=>aaq [] [2,3] [0,1,2,3,4,5,6,7] (v:=vI 4) (H':=(ap [(pp,.lit [vI (pl:Int),vI (me:Int),vI (w:Int),vP gb 0,vP rb 0,.map (some lb),.slice rA rn rc,vI (ck:Int),.slice uA un uc,.slice eA en ec,vI (rbk:Int),vP sg 0] 102 (0,0)),(lb,.obj (bj kv cl))] [Tg,Tn,Tr,Tu,Te,Tp,Tq,Ts])) ?_;exact⟨(kv,4),rfl,PeerR.mk q1_ q2_ q3_ q4_ q5_ hse_ hg hb hn hkv hr hrl hrr hu hul huu he hel hee hse3_ hs hsc hsn hsb hpl hX⟩
theorem iL{rs_:List Bx}{ds_:List Dr}{bp pp pl me w:Nat}{S:Setup}{J:Nat -> Nat × Int}{P:PS (List Inp)}{kv:List (Int × Value × Nat)}{c sn:Nat}{X:Option (Rw × List Inp)}{G F:HL}(h:PeerR rs_ ds_ bp pp pl me w S J P kv c sn X G){t:Int}{xi:Inp}(hi:fV xi):Sp Tryz.prog 29 #[vP pp 0,vI t,.agg #[vI xi.dx,vI xi.dy,vI xi.act]] (ap [] [G]) F (λ u H'=>∃T9,H'=ap [] [T9] /\ ((λ u H'=>∃x:List (Int × Value × Nat) × Int,u=vI x.2 /\ PeerR rs_ ds_ bp pp pl me w S J P x.1 c sn X H') u T9)):=by
 rw[aP];cases h with
 | mk q1_ q2_ q3_ q4_ q5_ hse_ hg hb hn hkv hr hrl hrr hu hul huu he hel hee hse3_ hs hsc hsn hsb hpl hX =>
  exact(Du q1_ q2_ q3_ q4_ q5_ hse_ hg hb hn hkv hr hrl hrr hu hul huu he hel hee hse3_ hs hsc hsn hsb hpl hX t xi hi).tl
theorem xo{w:Nat}{g g':Nat -> Nat -> Value}:∀ {n:Nat},(∀i k,i<n -> k<w -> g i k=g' i k) -> bJ w g n=bJ w g' n
 | 0,_=>rfl
 | n+1,h=>by
  rw[bJ,bJ,xo λ i k hi hk=>h i k (by omega) hk];congr 1;exact List.map_congr_left λ k hk=>h n k (by omega) (List.mem_range.1 hk)
theorem qB{w n:Nat}{g g':Nat -> Nat -> Value}{ty:TypeId}{fz:Nat × Nat}(h:∀i k,i<n -> k<w -> g i k=g' i k):(Blk.rows w n g ty fz).den=(Blk.rows w n g' ty fz).den:=by
 simp only[Blk.den,xo h]
section
variable {r:Option Nat} {P:Program} {N:Nat} {D:List Deferred} {F:HL} {w0:World} {R:HL} {s:Cfg} {Q:Exit -> Act -> World -> Prop}
theorem Fa(i:Nat)(a b:Blk)(e:a.den=b.den)(hk:RN r P N D F w0 R (Ql i b s) Q)(h:Qm i s=some a.den:=by kernel_rfl):RN r P N D F w0 R s Q:=aak i b hk (h.trans (congrArg some e))
end
end Go.Proofs.YtdppjkjbghbnjaaGreatDoor
