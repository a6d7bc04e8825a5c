import Derived.Test.YtghjbimijeinfaaGreatDoorZ21
import Derived.Test.YtghjbimijeinfaaGreatDoorZ18
import Derived.Test.YtghjbimijeinfaaGreatDoorZ31
import Derived.Test.YtghjbimijeinfaaGreatDoorZ33
import Derived.Test.YtghjbimijeinfaaGreatDoorZ17
set_option maxHeartbeats 4000000
set_option maxRecDepth 100000
set_option linter.unusedSimpArgs false
set_option linter.unusedVariables false
namespace Go.Proofs.YtghjbimijeinfaaGreatDoor
open Go.RowKit
theorem FG {n:Int} (h:mU n):0 <= pS n /\ pS n < 1000:=dw h 1000 (by decide)
theorem t8 {n m:Int} (h0:0 <= n) (h1:n < m):au n m=n:=by
 unfold au
 rw [if_neg (by omega)]
 exact Int.tmod_eq_of_lt h0 h1
theorem yC {n:Int} (h:mU n):cC (pS n)=cC n:=by
 have hb:=FG h
 have e:pS (pS n)=pS n:=t8 hb.1 hb.2
 unfold cC nD
 rw [e]
theorem Cm:∀ k:Fin 1000,kg ⟨(cC ((k.1:Nat):Int)).1,(cC ((k.1:Nat):Int)).2,none,0⟩:=by decide +kernel
theorem FH {n:Int} (h:mU n) (A:Option Addr) (c:Nat):kg ⟨(cC n).1,(cC n).2,A,c⟩:=by
 have hb:=FG h
 have:=Cm ⟨(pS n).toNat,by omega⟩
 simp only at this
 rw [Int.toNat_of_nonneg hb.1,yC h] at this
 exact this
theorem K8 (i:Nat):0 <= ([1024,1024,512,2048,0]:List Int).getD i 0 /\ ([1024,1024,512,2048,0]:List Int).getD i 0 <= 4096:=by
 rcases i with _ | _ | _ | _ | _ | i
 all_goals first | decide | simp
section
variable {xs:List Int} {F:HL} {A:Option Addr} {n:Nat} {S:Setup} {T:HL}
theorem Iv (hl:ArgL F A n xs) (k:Nat) (B:Option Addr) (c:Nat):fl (sa xs k B c) ⟨-12000,-9000,12000,9000⟩:=by
 have h1:=gI hl (4+2 * k)
 have h2:=gI hl (5+2 * k)
 have h3:=K8 ((bM xs k / 5000) % 5).toNat
 simp only [fl,sa,jm,kG,and_true]
 rw [show kv xs (4+2 * k)=bN xs k from rfl] at h1
 rw [show kv xs (5+2 * k)=bM xs k from rfl] at h2
 refine ⟨h3,⟨⟨?_,?_⟩,?_,?_⟩,⟨?_,?_⟩,⟨?_,?_⟩,⟨?_,?_⟩,?_,?_⟩ <;> omega
theorem FI (i:Nat):(jl i:Int) <= 16 /\ ∀ k,k < jl i -> qa 3 ((kf i).getD k l9.dflt):=by
 rcases i with _ | _ | i
 ·exact ⟨by decide,λ k hk=>absurd hk (Nat.not_lt_zero _)⟩
 ·exact ⟨by decide,by decide⟩
 ·exact ⟨by show ((2:Nat):Int) <= 16;decide,by show ∀ k,k < 2 -> qa 3 (([⟨0,2⟩,⟨1,2⟩]:List Dr).getD k l9.dflt);decide⟩
theorem Cn (hl:ArgL F A n xs) (h:SetG xs S T):iu S rj (kf (kv xs 3 % 3).toNat)=0:=by
 have h1:=mV hl
 have h2:=pW hl
 have hn:=h.nb
 have k0:=gI hl 0
 have k1:=gI hl 1
 have k2:=gI hl 2
 obtain ⟨e1,e2,e3,e4,e5,e6,e7,e8⟩:=h.nums
 obtain ⟨⟨m1,m2⟩,-⟩:=h.maps
 have hd:=FI (kv xs 3 % 3).toNat
 unfold iu
 rw [if_pos,if_pos,if_pos]
 ·intro k hk
  obtain ⟨B,c,hb⟩:=h.bod k hk
  rw [hb,e1]
  exact Iv hl k B c
 ·refine ⟨?_,?_,⟨?_,?_⟩,?_,?_⟩
  ·have hpl:=h.pl
   simp only [jn,jm,kG,and_true,e2,e3,e4,e5,e6,e7,e8,hpl]
   refine ⟨⟨?_,?_⟩,⟨?_,?_⟩,⟨?_,?_⟩,⟨⟨?_,?_⟩,?_,?_⟩,⟨?_,?_⟩,⟨⟨?_,?_⟩,?_,?_⟩,⟨?_,?_⟩,?_,?_⟩ <;> omega
  ·rw [e1];decide
  ·rw [m1];decide
  ·rw [m2];exact hd.1
  ·rw [m1];decide
  ·rw [m1,m2];exact hd.2
 ·intro k hk
  obtain ⟨B,c,hb⟩:=h.bod k hk
  rw [hb]
  have:=gI hl (4+2 * k)
  exact FH ⟨by show _ <= kv xs (4+2 * k);omega,by show kv xs (4+2 * k) <= _;omega⟩ B c
end
theorem Sp.den {P:Program} {f:FuncId} {args:Array Value} {H F F':HL} {R:Value -> HL -> Prop} (h:Sp P f args H F R) (e:hZ F=hZ F'):Sp P f args H F' R:=by
 have e2:∀ X:HL,hZ (X++F)=hZ (X++F'):=λ X=>by simp only [hZ,List.map_append] at e ⊢;rw [e]
 intro w hR
 refine (h w (hR.den (e2 H).symm)).mono ?_
 rintro e' w' ⟨v,H',h1,h2,h3,h4⟩
 exact ⟨v,H',h1,h2,h3.den (e2 H'),h4⟩
def ArgD (F:HL) (A:Option Addr) (n:Nat) (xs:List Int):Prop:=∃ F',hZ F'=hZ F /\ ArgL F' A n xs
theorem ArgL.d {F F':HL} {A:Option Addr} {n:Nat} {xs:List Int} (h:ArgL F A n xs) (e:hZ F=hZ F'):ArgD F' A n xs:=⟨F,e,h⟩
theorem ArgD.up {F X:HL} {A:Option Addr} {n:Nat} {xs:List Int} (h:ArgD F A n xs):ArgD (X++F) A n xs:=by
 obtain ⟨F',e,h⟩:=h
 exact ⟨X++F',by simp only [hZ,List.map_append] at e ⊢;rw [e],h.up⟩
theorem ArgD.ex {F:HL} {A:Option Addr} {n:Nat} {xs:List Int} (h:ArgD F A n xs):∃ F',ArgL F' A n xs:=by
 obtain ⟨F',e,h⟩:=h
 exact ⟨F',h⟩
theorem ArgD.use {F:HL} {A:Option Addr} {n:Nat} {xs:List Int} (h:ArgD F A n xs) {P:Program} {f:FuncId} {args:Array Value} {H:HL} {R:Value -> HL -> Prop} (k:∀ F',ArgL F' A n xs -> Sp P f args H F' R):Sp P f args H F R:=by
 obtain ⟨F',e,h⟩:=h
 exact (k F' h).den e

noncomputable section
end
structure GF (xs:List Int) (S:Setup):Prop where
 pl:1 <= S.players /\ S.players <= 3
 nb:1 <= S.nb /\ S.nb <= 5
 rn:S.rn=3
 dn:S.dn <= 2
 sz:48 <= sizeOf S /\ sizeOf S <= 100
 val:iu S rj (kf (kv xs 3 % 3).toNat)=0
theorem FJ {F:HL} {A:Option Addr} {n:Nat} {xs:List Int} (hl:ArgD F A n xs) {S:Setup} {T:HL} (h:SetG xs S T):GF xs S:=by
 obtain ⟨F',hl⟩:=hl.ex
 have h1:=mV hl
 have h2:=pW hl
 have hn:=h.nb
 have hp:=h.pl
 obtain ⟨⟨m1,m2⟩,-⟩:=h.maps
 have hd:jl (kv xs 3 % 3).toNat <= 2:=by
  generalize (kv xs 3 % 3).toNat=i
  rcases i with _ | _ | i
  ·exact Nat.zero_le _
  ·exact Nat.le_of_ble_eq_true rfl
  ·exact Nat.le_refl 2
 exact ⟨by omega,by omega,m1,by omega,by unfold sizeOf;omega,Cn hl h⟩
structure SetV (S:Setup):Prop where
 pl:1 <= S.players /\ S.players <= 3
 nb:1 <= S.nb /\ S.nb <= 5
 ro:1 <= S.rounds /\ S.rounds <= 3
 fu:0 <= S.fuel /\ S.fuel <= 60
theorem aI (M:MemS) (i v:Int):(M.set i v).cs.length=M.cs.length:=by
 unfold MemS.set;split <;> simp
theorem bj {M:MemS} {i v j:Int} (h:j ≠ i):(M.set i v).get j=M.get j:=by
 unfold MemS.set
 split
 ·next hi =>
  unfold MemS.get
  simp only [List.length_set]
  split
  ·next hj =>
   rw [List.getD_eq_getElem?_getD,List.getD_eq_getElem?_getD,List.getElem?_set_ne (by omega)]
  ·rfl
 ·rfl
theorem iV {M:MemS} {i v:Int} (h:0 <= i /\ i < M.cs.length):(M.set i v).get i=v:=by
 unfold MemS.set
 rw [if_pos h]
 unfold MemS.get
 simp only [List.length_set]
 rw [if_pos h,List.getD_eq_getElem?_getD,List.getElem?_set_self (by omega)]
 rfl
theorem bI {M:MemS} {i v:Int} (h:48 <= M.cs.length) (h0:0 <= i) (h1:i < 48) (j:Int):(M.set i v).get j=if j=i then v else M.get j:=by
 by_cases e:j=i
 ·rw [if_pos e,e,iV (by omega)]
 ·rw [if_neg e,bj e]
theorem ly {S:Setup} (hp:0 <= S.players) (k:Int):af S k=-1 \/ (0 <= k /\ k < S.nb /\ af S k=48+4 * S.players+8 * k):=by
 unfold af
 split
 ·exact .inl rfl
 ·split
  ·exact .inl rfl
  ·exact .inr ⟨by omega,by omega,rfl⟩
theorem sS {S:Setup} (k:Int):(ah S k=-1 /\ (k < 0 \/ S.players <= k)) \/ (0 <= k /\ k < S.players /\ ah S k=48+4 * k):=by
 unfold ah
 split
 ·exact .inl ⟨rfl,by omega⟩
 ·split
  ·exact .inl ⟨rfl,by omega⟩
  ·exact .inr ⟨by omega,by omega,rfl⟩
structure Hi (P:Int) (M M':MemS):Prop where
 len:M'.cs.length=M.cs.length
 get:∀ j,j < 48+4 * P -> M'.get j=M.get j
theorem Hi.refl {P:Int} {M:MemS}:Hi P M M:=⟨rfl,λ _ _=>rfl⟩
theorem Hi.set {P:Int} {A M:MemS} (h:Hi P A M) {k:Int} (hk:48+4 * P <= k) (v:Int):Hi P A (M.set k v):=⟨(aI _ _ _).trans h.len,λ j hj=>(bj (by omega)).trans (h.get j hj)⟩
theorem Hi.setB {S:Setup} (hp:0 <= S.players) {A M:MemS} (h:Hi S.players A M) {k c:Int} (hb:af S k >= 0) (hc:0 <= c) (v:Int):Hi S.players A (M.set (af S k+c) v):=by
 rcases ly hp k with e | ⟨h0,h1,e⟩
 ·omega
 ·exact h.set (by omega) v
structure Kp (P:Int) (M M':MemS):Prop where
 len:M'.cs.length=M.cs.length
 get:∀ j,j <= 5 \/ (48 <= j /\ j < 48+4 * P) -> M'.get j=M.get j
theorem Kp.refl {P:Int} {M:MemS}:Kp P M M:=⟨rfl,λ _ _=>rfl⟩
theorem Kp.set {P:Int} {A M:MemS} (h:Kp P A M) {k:Int} (hk:5 < k /\ (k < 48 \/ 48+4 * P <= k)) (v:Int):Kp P A (M.set k v):=⟨(aI _ _ _).trans h.len,λ j hj=>(bj (by omega)).trans (h.get j hj)⟩
theorem Kp.trans {P:Int} {A B C:MemS} (h:Kp P A B) (h':Kp P B C):Kp P A C:=⟨h'.len.trans h.len,λ j hj=>(h'.get j hj).trans (h.get j hj)⟩
structure Ef (M:MemS) (r:VR):Prop where
 yes:r.em=true -> r.e.t=M.get 0 /\ r.e.i=M.get 11 /\ M.get 11 < 40 /\ r.M.get 11=M.get 11+1
 no:r.em=false -> r.M.get 11=M.get 11
theorem N3 {op:Int} (h:1 <= op /\ op <= 21):(0 <= eP op /\ eP op <= 2) /\ (0 <= eQ op /\ eQ op <= 1):=by
 obtain ⟨n,rfl⟩:=Int.eq_ofNat_of_zero_le (show 0 <= op by omega)
 have hn:n < 22:=by omega
 have key:∀ n:Fin 22,(0 <= (mO.getD n.1 (0,0,0)).1 /\ (mO.getD n.1 (0,0,0)).1 <= 2) /\ (0 <= (mO.getD n.1 (0,0,0)).2.1 /\ (mO.getD n.1 (0,0,0)).2.1 <= 1):=by decide
 exact key ⟨n,hn⟩
theorem FK {op n sp:Int} (h:eH op n sp=true):(1 <= op /\ op <= 21) /\ sp <= 16 /\ eP op <= sp /\ ¬ aY (aY (sp - eP op)+eQ op) > 16 /\ (eN op=0 \/ (0 <= n /\ n < eN op)):=by
 unfold eH at h
 split at h
 ·cases h
 split at h
 ·cases h
 split at h
 ·cases h
 split at h
 ·cases h
 split at h
 ·cases h
 refine ⟨by omega,by omega,by omega,by assumption,?_⟩
 split at h
 ·left;assumption
 ·split at h
  ·right;exact ⟨by omega,of_decide_eq_true h⟩
  ·cases h
theorem Iw {M:MemS} {P k v:Int} (hl:48 <= M.cs.length) (h0:0 <= M.get 11 /\ M.get 11 <= 40):Kp P M (cD k v M).M /\ (cD k v M).M.get 8=M.get 8 /\ Ef M (cD k v M):=by
 unfold cD
 split
 ·exact ⟨.refl,rfl,⟨λ h=>by simp at h,λ _=>rfl⟩⟩
 ·refine ⟨((Kp.refl).set (by omega) _).set (by omega) _,?_,⟨λ _=>⟨rfl,rfl,by omega,?_⟩,λ h=>by simp at h⟩⟩
  ·simp only
   rw [bj (by decide),bj (by decide)]
  ·simp only
   rw [iV (by rw [aI];omega),cP (by omega)]
def Gd (P:Int) (M:MemS) (r:VR):Prop:=Kp P M r.M /\ r.M.get 8=M.get 8 /\ Ef M r
theorem mu {P:Int} {M:MemS} {c:Prop} [Decidable c] {x y:VR} (hx:c -> Gd P M x) (hy:¬ c -> Gd P M y):Gd P M (if c then x else y):=by
 split
 ·exact hx (by assumption)
 ·exact hy (by assumption)
theorem Gd.base {P:Int} {M:MemS} {v:Int}:Gd P M ⟨M,v,bk,false⟩:=⟨.refl,rfl,⟨λ h=>by simp at h,λ _=>rfl⟩⟩
theorem Gd.st {P:Int} {M:MemS} {k v u:Int} (hk:(5 < k /\ k ≠ 8 /\ k ≠ 11) /\ (k < 48 \/ 48+4 * P <= k)):Gd P M ⟨M.set k v,u,bk,false⟩ :=
 ⟨(Kp.refl).set (by omega) _,bj (by omega),⟨λ h=>by simp at h,λ _=>bj (by omega)⟩⟩
theorem Gd.mite {P:Int} {M X Y:MemS} {c:Prop} [Decidable c] {u:Int} (hx:c -> Gd P M ⟨X,u,bk,false⟩) (hy:¬ c -> Gd P M ⟨Y,u,bk,false⟩):Gd P M ⟨if c then X else Y,u,bk,false⟩:=by
 split
 ·exact hx (by assumption)
 ·exact hy (by assumption)
theorem Iy {S:Setup} (hS:SetV S) {M:MemS} {op n a b:Int} (hl:48 <= M.cs.length) (h0:0 <= M.get 11 /\ M.get 11 <= 40) (hn:eN op=0 \/ (0 <= n /\ n < eN op)):Gd S.players M (aE S op n a b M):=by
 have hpl:=hS.pl
 have hnb:=hS.nb
 unfold aE
 iterate 14 (refine mu (λ _=>.base) λ _=>?_)
 refine mu (λ e=>?_) λ _=>?_
 ·subst e
  have h16:0 <= n /\ n < 16:=by
   rcases hn with h | h
   ·exact absurd h (by decide)
   ·exact h
  rw [cP (by omega)]
  exact .st (by omega)
 refine mu (λ _=>.base) λ _=>?_
 refine mu (λ e=>?_) λ _=>?_
 ·subst e
  have h8:0 <= n /\ n < 8:=by
   rcases hn with h | h
   ·exact absurd h (by decide)
   ·exact h
  refine Gd.mite (λ hb=>?_) λ _=>.base
  rcases ly (S:=S) (by omega) a with e | ⟨b0,b1,e⟩
  ·omega
  ·rw [cP (by omega)]
   exact .st (by omega)
 refine mu (λ _=>.st (by omega)) λ _=>?_
 refine mu (λ _=>.mite (λ _=>.st (by omega)) λ _=>.base) λ _=>?_
 refine mu (λ _=>?_) λ _=>.base
 obtain ⟨q1,q2,q3⟩:=Iw (P:=S.players) (k:=a) (v:=b) hl h0
 exact ⟨q1,q2,⟨q3.yes,q3.no⟩⟩
theorem Iz {P:Int} {M:MemS} {op sp pc fuel:Int} (hl:48 <= M.cs.length):Kp P M (dq op sp pc fuel M) /\ (dq op sp pc fuel M).get 8=aY (fuel - 1) /\ (dq op sp pc fuel M).get 11=M.get 11:=by
 unfold dq
 split
 ·exact ⟨((Kp.refl).set (by omega) _).set (by omega) _,by rw [bj (by decide),iV (by omega)],by rw [bj (by decide),bj (by decide)]⟩
 ·exact ⟨(((Kp.refl).set (by omega) _).set (by omega) _).set (by omega) _,by rw [bj (by decide),bj (by decide),iV (by omega)],by rw [bj (by decide),bj (by decide),bj (by decide)]⟩
theorem wM {S:Setup} (hS:SetV S) {M:MemS} {code:List Ins} {n:Nat} (hl:48 <= M.cs.length) (h0:0 <= M.get 11 /\ M.get 11 <= 40) (hf:0 <= M.get 8 /\ M.get 8 <= 60) :
  Kp S.players M (ak S code n M).M /\ Ef M (ak S code n M) /\ ((dJ code n M /\ (ak S code n M).M.get 8=M.get 8 - 1 /\ 1 <= M.get 8) \/ (¬ dJ code n M /\ bg code n M=true /\ (ak S code n M).M.get 8=M.get 8)):=by
 unfold ak
 by_cases hr:dJ code n M
 ·rw [if_pos hr]
  obtain ⟨r1,r2,r3,r4⟩:=hr
  obtain ⟨x1,x2,x3,x4,x5⟩:=FK r4
  have hp:=Iz (P:=S.players) (op:=(aZ code M).op) (sp:=M.get 7) (pc:=M.get 6) (fuel:=M.get 8) hl
  generalize hM1:dq (aZ code M).op (M.get 7) (M.get 6) (M.get 8) M=M1 at *
  obtain ⟨p1,p2,p3⟩:=hp
  rw [cP (by omega)] at p2
  have he:=Iy hS (M:=M1) (op:=(aZ code M).op) (n:=(aZ code M).n) (a:=dM (aZ code M).op (M.get 7) M) (b:=dN (aZ code M).op (M.get 7) M) (by rw [p1.len];exact hl) (by rw [p3];exact h0) x5
  unfold bQ
  rw [hM1]
  generalize aE S (aZ code M).op (aZ code M).n (dM (aZ code M).op (M.get 7) M) (dN (aZ code M).op (M.get 7) M) M1=r at *
  obtain ⟨g1,g2,g3⟩:=he
  have hE:Ef M r:=⟨λ h=>by
   obtain ⟨a1,a2,a3,a4⟩:=g3.yes h
   rw [p1.get 0 (by omega)] at a1
   rw [p3] at a2 a3 a4
   exact ⟨a1,a2,a3,a4⟩,λ h=>by rw [g3.no h,p3]⟩
  have hb:=N3 x1
  unfold b9
  split
  ·have hq:aY (aY (16+M.get 7) - eP (aZ code M).op)=16+M.get 7 - eP (aZ code M).op:=by rw [cP (x:=16+M.get 7) (by omega),cP (by omega)]
   rw [cP (x:=M.get 7 - eP (aZ code M).op) (by omega),cP (by omega)] at x4
   rw [hq]
   refine ⟨(p1.trans g1).set (by omega) _,⟨λ h=>?_,λ h=>?_⟩,.inl ⟨⟨r1,r2,r3,r4⟩,?_,by omega⟩⟩
   ·obtain ⟨a1,a2,a3,a4⟩:=hE.yes h
    exact ⟨a1,a2,a3,(bj (by omega)).trans a4⟩
   ·exact (bj (by omega)).trans (hE.no h)
   ·simp only
    rw [bj (by omega),g2,p2]
  ·exact ⟨p1.trans g1,hE,.inl ⟨⟨r1,r2,r3,r4⟩,by rw [g2,p2],by omega⟩⟩
 ·rw [if_neg hr]
  exact ⟨.refl,⟨λ h=>by simp at h,λ _=>rfl⟩,.inr ⟨hr,by unfold bg;rw [if_neg hr],rfl⟩⟩
def l6 (n i j fu:Int):Int:=(if j=0 then (n - i) * 62 else (n - i - 1) * 62+fu+1)+1+n
def l5 (n i j:Int):Int:=n * (n+1) - (i * (n+1)+j)+l6 n 0 0 0
def Jz (n i:Int):Int:=if i=0 then 0 else if i=1 then n - 1 else if i=2 then 2 * n - 3 else 3 * n - 6
def K9 (n:Int):Int:=if n=2 then 1 else if n=3 then 3 else if n=4 then 6 else if n=5 then 10 else 0
def l4 (n R i j r:Int):Int:=(if n < 2 then 0 else (R - r) * K9 n - (Jz n i+(j - i - 1)))+1+l5 n 0 0
def l3 (n R i:Int):Int:=n - i+l4 n R 0 1 0
def l2 (n R j fu:Int):Int:=(if j=0 then 62 else fu+1)+l3 n R 0
def l1 (P n R i j fu:Int):Int:=(if j=0 then (P - i) * 62 else (P - i - 1) * 62+fu+1)+1+l2 n R 0 0
def l0 (P n R i:Int):Int:=P - i+l1 P n R 0 0 0
def CJ (P n R p i j r fu:Int):Int:=if p=0 then l0 P n R i else if p=1 then l1 P n R i j fu else if p=2 then l2 n R j fu else if p=3 then l3 n R i else if p=4 then l4 n R i j r else if p=5 then l5 n i j else if p=6 then l6 n i j fu else n - i
def Lw (P n R p i j r fu:Int):Prop :=
 (p=0 /\ 0 <= i /\ i < P) \/ (p=1 /\ 0 <= i /\ i <= P /\ (j=0 \/ (j=1 /\ i < P /\ 0 <= fu /\ fu <= 60))) \/ (p=2 /\ (j=0 \/ (j=1 /\ 0 <= fu /\ fu <= 60))) \/ (p=3 /\ 0 <= i /\ i < n) \/
 (p=4 /\ 0 <= r /\ r <= R /\ (2 <= n -> 0 <= i /\ i < j /\ j < n /\ (r=R -> i=0 /\ j=1))) \/ (p=5 /\ 0 <= i /\ i < n /\ 0 <= j /\ j <= n) \/ (p=6 /\ 0 <= i /\ i <= n /\ (j=0 \/ (j=1 /\ i < n /\ 0 <= fu /\ fu <= 60))) \/ (p=7 /\ 0 <= i /\ i < n)
theorem FM {n i j:Int} (hn:1 <= n /\ n <= 5) (hi:0 <= i /\ i < n) (hj:0 <= j /\ j <= n):0 < l5 n i j:=by
 unfold l5 l6
 obtain h | h | h | h | h:n=1 \/ n=2 \/ n=3 \/ n=4 \/ n=5:=by omega
 all_goals subst h;simp;omega
theorem ua {P n R p i j r fu:Int} (hP:1 <= P /\ P <= 3) (hn:1 <= n /\ n <= 5) (hR:1 <= R /\ R <= 3) (h:Lw P n R p i j r fu):0 < CJ P n R p i j r fu:=by
 have h5:=FM hn (i:=0) (j:=0) (by omega) (by omega)
 have h4:∀ i j r,0 <= r -> r <= R -> (2 <= n -> 0 <= i /\ i < j /\ j < n) -> -9 <= (if n < 2 then 0 else (R - r) * K9 n - (Jz n i+(j - i - 1))) -> 0 < l4 n R i j r+9:=λ i j r _ _ _ h=>by unfold l4;omega
 have k4:0 < l4 n R 0 1 0:=by
  unfold l4 K9 Jz
  obtain h | h | h | h | h:n=1 \/ n=2 \/ n=3 \/ n=4 \/ n=5:=by omega
  all_goals subst h;simp;omega
 have k3:0 < l3 n R 0:=by unfold l3;omega
 have k2:∀ j fu,(j=0 \/ (j=1 /\ 0 <= fu /\ fu <= 60)) -> 0 < l2 n R j fu:=λ j fu h=>by unfold l2;split <;> omega
 have k20:=k2 0 0 (.inl rfl)
 have k1:∀ i j fu,0 <= i -> i <= P -> (j=0 \/ (j=1 /\ i < P /\ 0 <= fu /\ fu <= 60)) -> 0 < l1 P n R i j fu:=λ i j fu _ _ h=>by unfold l1;split <;> omega
 have k10:=k1 0 0 0 (by omega) (by omega) (.inl rfl)
 rcases h with h | h | h | h | h | h | h | h <;> obtain ⟨rfl,h⟩:=h
 ·show 0 < l0 P n R i
  unfold l0;omega
 ·exact k1 i j fu h.1 h.2.1 h.2.2
 ·exact k2 j fu h
 ·show 0 < l3 n R i
  unfold l3;omega
 ·show 0 < l4 n R i j r
  unfold l4
  split
  ·omega
  ·obtain ⟨h1,h2,h3⟩:=h
   obtain ⟨h3,h4',h5',-⟩:=h3 (by omega)
   have:100 < l5 n 0 0:=by
    unfold l5 l6
    obtain h | h | h | h | h:n=1 \/ n=2 \/ n=3 \/ n=4 \/ n=5:=by omega
    all_goals first | omega | (subst h;simp)
   have h6:Jz n i <= 9:=by unfold Jz;(repeat' split) <;> omega
   have h7:0 <= (R - r) * K9 n:=Int.mul_nonneg (by omega) (by unfold K9;(repeat' split) <;> omega)
   omega
 ·exact FM hn ⟨h.1,h.2.1⟩ h.2.2
 ·show 0 < l6 n i j fu
  unfold l6;split <;> omega
 ·show 0 < n - i
  omega
abbrev yD (M:MemS):Prop:=M.get 1=0 /\ M.get 2=0
structure TV (S:Setup) (ins:Nat -> Inp) (M:MemS):Prop where
 len:(M.cs.length:Int)=sizeOf S
 t0:0 <= M.get 0 /\ M.get 0 <= 1000000
 ct:Lw S.players S.nb S.rounds (M.get 1) (M.get 2) (M.get 3) (M.get 4) (M.get 8)
 pl:∀ q:Nat,(q:Int) < (if M.get 1=0 then M.get 2 else S.players) -> M.get (48+4 * q)=(ins q).dx /\ M.get (48+4 * q+1)=(ins q).dy /\ M.get (48+4 * q+2)=(ins q).act
 ec:yD M \/ (0 <= M.get 11 /\ M.get 11 <= 40)
abbrev jE (S:Setup) (M:MemS):Int:=CJ S.players S.nb S.rounds (M.get 1) (M.get 2) (M.get 3) (M.get 4) (M.get 8)
structure Nx (S:Setup) (ins:Nat -> Inp) (M:MemS) (r:VR):Prop where
 tv:TV S ins r.M
 lt:jE S r.M < jE S M
 ph:M.get 1 <= r.M.get 1
 t0:r.M.get 0=M.get 0
 ns:¬ yD r.M
 yes:r.em=true -> ¬ yD M /\ r.e.t=M.get 0 /\ r.e.i=M.get 11 /\ r.M.get 11=M.get 11+1
 no:r.em=false -> r.M.get 11=if yD M then 0 else M.get 11
theorem TV.l48 {S:Setup} (hS:SetV S) {ins:Nat -> Inp} {M:MemS} (h:TV S ins M):48 <= M.cs.length:=by
 have:=h.len;have:=hS.pl;unfold sizeOf at *;omega
theorem gK {S:Setup} (hS:SetV S) {ins:Nat -> Inp} {M N:MemS} {r:VR} {p i j q x fu:Int} (h:TV S ins M) (hp:1 <= M.get 1) (hN:Kp S.players M N) (hlen:r.M.cs.length=N.cs.length)
  (g:∀ k,r.M.get k=if k=1 then p else if k=2 then i else if k=3 then j else if k=4 then q else if k=5 then x else N.get k) (h8:N.get 8=fu)
  (hE:Ef M ⟨N,r.v,r.e,r.em⟩) (hc:Lw S.players S.nb S.rounds p i j q fu) (hph:M.get 1 <= p) (hlt:CJ S.players S.nb S.rounds p i j q fu < jE S M):Nx S ins M r:=by
 have ha:¬ yD M:=λ e=>by have:=e.1;omega
 have g0:r.M.get 0=M.get 0:=by rw [g];simp;exact hN.get 0 (by omega)
 have g1:r.M.get 1=p:=by rw [g];simp
 have g2:r.M.get 2=i:=by rw [g];simp
 have g3:r.M.get 3=j:=by rw [g];simp
 have g4:r.M.get 4=q:=by rw [g];simp
 have g8:r.M.get 8=fu:=by rw [g];simp;exact h8
 have g11:r.M.get 11=N.get 11:=by rw [g];simp
 have gp:∀ k,48 <= k -> k < 48+4 * S.players -> r.M.get k=M.get k:=λ k h1 h2=>by
  rw [g,if_neg (by omega),if_neg (by omega),if_neg (by omega),if_neg (by omega),if_neg (by omega)]
  exact hN.get k (by omega)
 have hec:0 <= M.get 11 /\ M.get 11 <= 40:=by
  rcases h.ec with e | e
  ·exact absurd e ha
  ·exact e
 refine ⟨⟨by rw [hlen,hN.len];exact h.len,by rw [g0];exact h.t0,by rw [g1,g2,g3,g4,g8];exact hc,λ k hk=>?_,.inr ?_⟩,?_,by rw [g1];exact hph,g0,λ e=>by rw [yD,g1] at e;have:=e.1;omega,λ e=>?_,λ e=>?_⟩
 ·rw [g1,if_neg (by omega)] at hk
  have:=h.pl k (by rw [if_neg (by omega)];exact hk)
  rw [gp _ (by omega) (by omega),gp _ (by omega) (by omega),gp _ (by omega) (by omega)]
  exact this
 ·rw [g11]
  cases he:r.em with
  | true=>obtain ⟨a,b,c,d⟩:=hE.yes he;simp only at d;omega
  | false=>have:=hE.no he;simp only at this;omega
 ·unfold jE;rw [g1,g2,g3,g4,g8];exact hlt
 ·obtain ⟨a,b,c,d⟩:=hE.yes e
  exact ⟨ha,a,b,by rw [g11];exact d⟩
 ·rw [if_neg ha,g11];exact hE.no e
theorem Hi.kp {P:Int} {M N:MemS} (h:Hi P M N) (hP:0 <= P):Kp P M N:=⟨h.len,λ j hj=>h.get j (by omega)⟩
theorem Hi.ef {P:Int} {M N:MemS} (h:Hi P M N) (hP:0 <= P) {v:Int} {e:Eff}:Ef M ⟨N,v,e,false⟩:=⟨λ h=>by simp at h,λ _=>h.get 11 (by omega)⟩
theorem jF {M:MemS} (h:48 <= M.cs.length) (t:Stp) (a b j:Int):(aL t a b M).get j=if j=3 then b else if j=2 then 0 else if j=1 then a else M.get j:=by
 unfold aL
 rw [bI (by simp only [aI];exact h) (by omega) (by omega),bI (by simp only [aI];exact h) (by omega) (by omega),bI h (by omega) (by omega)]
theorem fI {M:MemS} (t:Stp) (a b:Int):(aL t a b M).cs.length=M.cs.length:=by unfold aL;simp only [aI]
theorem if5 {k p i j q x z:Int} {f:Int -> Int} (h:(if k=3 then j else if k=2 then i else if k=1 then p else f k)=z) (hq:q=f 4) (hx:x=f 5):z=if k=1 then p else if k=2 then i else if k=3 then j else if k=4 then q else if k=5 then x else f k:=by
 subst h hq hx
 by_cases e1:k=1
 ·subst e1;simp
 by_cases e2:k=2
 ·subst e2;simp
 by_cases e3:k=3
 ·subst e3;simp
 by_cases e4:k=4
 ·subst e4;simp
 by_cases e5:k=5
 ·subst e5;simp
 simp [e1,e2,e3,e4,e5]
theorem N4 {k i z:Int} {f:Int -> Int} (h:(if k=2 then i else f k)=z):z=if k=1 then f 1 else if k=2 then i else if k=3 then f 3 else if k=4 then f 4 else if k=5 then f 5 else f k:=by
 subst h
 by_cases e1:k=1
 ·subst e1;simp
 by_cases e2:k=2
 ·subst e2;simp
 by_cases e3:k=3
 ·subst e3;simp
 by_cases e4:k=4
 ·subst e4;simp
 by_cases e5:k=5
 ·subst e5;simp
 simp [e1,e2,e3,e4,e5]
theorem FN {S:Setup} (hS:SetV S) {t:Stp} (ht:t.S=S) (M:MemS):Hi S.players M (bH t (bD t M)):=by
 have hp:0 <= S.players:=by have:=hS.pl;omega
 subst ht
 have ha:Hi t.S.players M (bD t M):=by
  unfold bD
  split
  ·exact (Hi.refl).setB hp (by omega) (by omega) _
  ·exact .refl
 unfold bH
 split
 ·next hm =>
  have hb:af t.S t.i >= 0:=by
   rcases ly hp t.i with e | ⟨_,_,e⟩
   ·unfold af at e
    rw [if_neg (by have:=hm.1;omega),if_neg (by have:=hm.1;omega)] at e
    have:=hm.1;omega
   ·omega
  exact (ha.setB hp hb (by omega) _).setB hp hb (by omega) _
 ·exact ha
theorem q3 {S:Setup} (hS:SetV S) {g:Gm} (hg:g.S=S) {ins:Nat -> Inp} {M:MemS} (h:TV S ins M) (hp:M.get 1=3):Nx S ins M ⟨aP (g.step M) M,0,bk,false⟩:=by
 have hpl:=hS.pl
 have hnb:=hS.nb
 have hro:=hS.ro
 have hc:0 <= M.get 2 /\ M.get 2 < S.nb:=by rcases h.ct with h | h | h | h | h | h | h | h <;> omega
 have hh:=FN hS (t:=g.step M) hg M
 have hl:=h.l48 hS
 unfold aP bV
 generalize bH (g.step M) (bD (g.step M) M)=N at *
 have hlN:48 <= N.cs.length:=by rw [hh.len];exact hl
 have e1:=hh.get 1 (by omega);have e2:=hh.get 2 (by omega);have e3:=hh.get 3 (by omega);have e4:=hh.get 4 (by omega);have e8:=hh.get 8 (by omega)
 show Nx S ins M ⟨if aY (M.get 2+1) < g.S.nb then N.set 2 (aY (M.get 2+1)) else _,0,bk,false⟩
 rw [cP (by omega),hg]
 split
 ·refine gK hS h (by omega) (hh.kp (by omega)) (aI _ _ _) (λ k=>N4 (f:=N.get) (bI hlN (by omega) (by omega) k).symm) e8 (hh.ef (by omega)) ?_ (by omega) ?_
  ·rw [e1,e3,e4,hp];exact .inr (.inr (.inr (.inl ⟨rfl,by omega,by omega⟩)))
  ·unfold jE;rw [e1,e3,e4,hp]
   show l3 S.nb S.rounds (M.get 2+1) < l3 S.nb S.rounds (M.get 2)
   unfold l3;omega
 ·refine gK hS h (by omega) (hh.kp (by omega)) ((aI _ _ _).trans (fI _ _ _)) (p:=4) (i:=0) (j:=1) (q:=0) (x:=N.get 5) (λ k=>?_) e8 (hh.ef (by omega)) ?_ (by omega) ?_
  ·rw [bI (by rw [fI];exact hlN) (by omega) (by omega),jF hlN]
   by_cases k4:k=4
   ·subst k4;simp
   ·rw [if_neg k4]
    by_cases k1:k=1
    ·subst k1;simp
    by_cases k2:k=2
    ·subst k2;simp
    by_cases k3:k=3
    ·subst k3;simp
    by_cases k5:k=5
    ·subst k5;simp
    simp [k1,k2,k3,k4,k5]
  ·exact .inr (.inr (.inr (.inr (.inl ⟨rfl,by omega,by omega,λ _=>by omega⟩))))
  ·unfold jE;rw [hp]
   show l4 S.nb S.rounds 0 1 0 < l3 S.nb S.rounds (M.get 2)
   unfold l3;omega
theorem nY {S:Setup} (hp:0 <= S.players) {k:Int} (h:0 <= k /\ k < S.nb):af S k >= 0:=by
 unfold af
 rw [if_neg (by omega),if_neg (by omega)];omega
theorem Hi.setMot {S:Setup} (hp:0 <= S.players) {A M:MemS} (h:Hi S.players A M) {t:Stp} (ht:t.S=S) {k:Int} (hb:af S k >= 0) (m:Mot):Hi S.players A (dC t k m M):=by
 subst ht
 unfold dC
 exact (((h.setB hp hb (by omega) _).setB hp hb (by omega) _).setB hp hb (by omega) _).setB hp hb (by omega) _
theorem FO {S:Setup} (hS:SetV S) {t:Stp} (ht:t.S=S) (M:MemS):Hi S.players M (dG t M):=by
 have hp:0 <= S.players:=by have:=hS.pl;omega
 unfold dG
 rw [ht]
 split
 ·next h1 =>
  split
  ·next h2 =>
   split
   ·have b1:=nY hp h1
    have b2:=nY hp h2
    unfold gh
    rw [ht]
    exact (((((Hi.refl).setMot hp ht b1 _).setMot hp ht b2 _).setB hp b1 (by omega) _).setB hp b2 (by omega) _)
   ·exact .refl
  ·exact .refl
 ·exact .refl
theorem q4 {S:Setup} (hS:SetV S) {g:Gm} (hg:g.S=S) {ins:Nat -> Inp} {M:MemS} (h:TV S ins M) (hp:M.get 1=4):Nx S ins M ⟨bK (g.step M) M,0,bk,false⟩:=by
 have hpl:=hS.pl
 have hnb:=hS.nb
 have hro:=hS.ro
 have hc:0 <= M.get 4 /\ M.get 4 <= S.rounds /\ (2 <= (S.nb:Int) -> 0 <= M.get 2 /\ M.get 2 < M.get 3 /\ M.get 3 < S.nb /\ (M.get 4=S.rounds -> M.get 2=0 /\ M.get 3=1)):=by rcases h.ct with h | h | h | h | h | h | h | h <;> omega
 have hl:=h.l48 hS
 have hh:=FO hS (t:=g.step M) hg M
 have fin:jE S M > l5 S.nb 0 0 -> Nx S ins M ⟨(aL (g.step M) 5 0 M).set 5 1024,0,bk,false⟩:=λ hlt=>by
  refine gK hS h (by omega) ((Hi.refl (P:=S.players)).kp (by omega)) ((aI _ _ _).trans (fI _ _ _)) (p:=5) (i:=0) (j:=0) (q:=M.get 4) (x:=1024) (fu:=M.get 8) (λ k=>?_) rfl ((Hi.refl (P:=S.players)).ef (by omega)) (.inr (.inr (.inr (.inr (.inr (.inl ⟨rfl,by omega,by omega,by omega,by omega⟩)))))) (by omega) hlt
  rw [bI (by rw [fI];exact hl) (by omega) (by omega),jF hl]
  by_cases k5:k=5
  ·subst k5;simp
  ·rw [if_neg k5]
   by_cases k1:k=1
   ·subst k1;simp
   by_cases k2:k=2
   ·subst k2;simp
   by_cases k3:k=3
   ·subst k3;simp
   by_cases k4:k=4
   ·subst k4;simp
   simp [k1,k2,k3,k4,k5]
 have e4l:jE S M=l4 S.nb S.rounds (M.get 2) (M.get 3) (M.get 4):=by unfold jE;rw [hp];rfl
 unfold bK
 show Nx S ins M ⟨if (g.S.nb:Int) < 2 then _ else if M.get 4 >= g.S.rounds then _ else _,0,bk,false⟩
 rw [hg]
 split
 ·next h2=>exact fin (by rw [e4l];unfold l4;rw [if_pos h2];omega)
 split
 ·next h2 h3 =>
  refine fin ?_
  have e:M.get 4=S.rounds:=by omega
  obtain ⟨c1,c2,c3,c4⟩:=hc.2.2 (by omega)
  obtain ⟨d1,d2⟩:=c4 e
  rw [e4l,e,d1,d2]
  unfold l4
  rw [if_neg (by omega),Int.sub_self,Int.zero_mul]
  show _ > _
  unfold Jz
  simp only [if_true]
  omega
 next h2 h3 =>
 obtain ⟨c1,c2,c3,-⟩:=hc.2.2 (by omega)
 show Nx S ins M ⟨(((dG (g.step M) M).set 4 (cZ (M.get 2) (M.get 3) g.S.nb (M.get 4)).1).set 2 (cZ (M.get 2) (M.get 3) g.S.nb (M.get 4)).2.1).set 3 (cZ (M.get 2) (M.get 3) g.S.nb (M.get 4)).2.2,0,bk,false⟩
 rw [hg]
 generalize dG (g.step M) M=N at *
 have hlN:48 <= N.cs.length:=by rw [hh.len];exact hl
 have e1:=hh.get 1 (by omega);have e5:=hh.get 5 (by omega);have e8:=hh.get 8 (by omega)
 have hq:(0 <= (cZ (M.get 2) (M.get 3) S.nb (M.get 4)).1 /\ (cZ (M.get 2) (M.get 3) S.nb (M.get 4)).1 <= S.rounds) /\ (0 <= (cZ (M.get 2) (M.get 3) S.nb (M.get 4)).2.1 /\ (cZ (M.get 2) (M.get 3) S.nb (M.get 4)).2.1 < (cZ (M.get 2) (M.get 3) S.nb (M.get 4)).2.2 /\ (cZ (M.get 2) (M.get 3) S.nb (M.get 4)).2.2 < S.nb /\ ((cZ (M.get 2) (M.get 3) S.nb (M.get 4)).1=S.rounds -> (cZ (M.get 2) (M.get 3) S.nb (M.get 4)).2.1=0 /\ (cZ (M.get 2) (M.get 3) S.nb (M.get 4)).2.2=1)) /\
   l4 S.nb S.rounds (cZ (M.get 2) (M.get 3) S.nb (M.get 4)).2.1 (cZ (M.get 2) (M.get 3) S.nb (M.get 4)).2.2 (cZ (M.get 2) (M.get 3) S.nb (M.get 4)).1 < l4 S.nb S.rounds (M.get 2) (M.get 3) (M.get 4):=by
  have hn2:(2:Int) <= S.nb /\ (S.nb:Int) <= 5:=by omega
  have hq4:M.get 4 < S.rounds:=by omega
  have hq0:=hc.1
  unfold cZ
  rw [cP (by omega),cP (by omega),cP (by omega),cP (by omega)]
  clear e1 e5 e8 e4l fin hc h
  generalize M.get 2=i at *
  generalize M.get 3=j at *
  generalize M.get 4=q at *
  generalize S.rounds=R at *
  generalize (S.nb:Int)=n at *
  split
  ·simp only
   refine ⟨⟨by omega,by omega⟩,⟨by omega,by omega,by omega,λ e=>by omega⟩,?_⟩
   unfold l4;rw [if_neg (by omega),if_neg (by omega)];omega
  ·split
   ·refine ⟨⟨by simp only;omega,by simp only;omega⟩,⟨by simp only;omega,by simp only;omega,by simp only;omega,λ e=>by simp only at e;omega⟩,?_⟩
    simp only
    unfold l4 Jz K9
    obtain h | h | h | h:n=2 \/ n=3 \/ n=4 \/ n=5:=by omega
    all_goals subst h
    all_goals (have:i=0 \/ i=1 \/ i=2:=by omega)
    all_goals (rcases this with rfl | rfl | rfl)
    all_goals first | omega | (simp;omega)
   ·refine ⟨⟨by simp only;omega,by simp only;omega⟩,⟨by simp only;omega,by simp only;omega,by simp only;omega,λ e=>⟨rfl,rfl⟩⟩,?_⟩
    simp only
    unfold l4 Jz K9
    obtain h | h | h | h:n=2 \/ n=3 \/ n=4 \/ n=5:=by omega
    all_goals subst h
    all_goals (have:i=0 \/ i=1 \/ i=2 \/ i=3:=by omega)
    all_goals (rcases this with rfl | rfl | rfl | rfl)
    all_goals first | omega | (simp;omega)
 generalize cZ (M.get 2) (M.get 3) S.nb (M.get 4)=z at *
 refine gK hS h (by omega) (hh.kp (by omega)) (by simp only [aI]) (p:=4) (i:=z.2.1) (j:=z.2.2) (q:=z.1) (x:=N.get 5) (λ k=>?_) e8 (hh.ef (by omega)) (.inr (.inr (.inr (.inr (.inl ⟨rfl,hq.1.1,hq.1.2,λ _=>hq.2.1⟩))))) (by omega) (by rw [e4l];exact hq.2.2)
 rw [bI (by simp only [aI];exact hlN) (by omega) (by omega),bI (by simp only [aI];exact hlN) (by omega) (by omega),bI hlN (by omega) (by omega)]
 by_cases k1:k=1
 ·subst k1;simp;omega
 by_cases k2:k=2
 ·subst k2;simp
 by_cases k3:k=3
 ·subst k3;simp
 by_cases k4:k=4
 ·subst k4;simp
 by_cases k5:k=5
 ·subst k5;simp
 simp [k1,k2,k3,k4,k5]
theorem wN {S:Setup} (hp:0 <= S.players) {A M:MemS} (h:Hi S.players A M) {t:Stp} {k c d:Int} (hb:af S k >= 0) (hc:0 <= c) (hd:0 <= d) (pos lo hi:Int):Hi S.players A (dS t (af S k+c) (af S k+d) pos lo hi M):=by
 unfold dS
 split
 ·exact h.setB hp hb hc _
 ·exact (h.setB hp hb hc _).setB hp hb hd _
theorem Co {S:Setup} (hp:0 <= S.players) {t:Stp} (ht:t.S=S) (M:MemS) (hb:af S t.i >= 0):Hi S.players M (cV t M):=by
 subst ht
 unfold cV
 exact wN hp (wN hp .refl hb (by omega) (by omega) _ _ _) hb (by omega) (by omega) _ _ _
theorem FP (t:Stp) {M:MemS} (hl:48 <= M.cs.length) (k:Int):(eI t M).get k=(if k=5 then (eI t M).get 5 else M.get k) /\ (eI t M).cs.length=M.cs.length:=by
 have id5:M.get k=if k=5 then M.get 5 else M.get k:=by
  by_cases e:k=5
  ·rw [if_pos e,e]
  ·rw [if_neg e]
 unfold eI
 split
 ·exact ⟨id5,rfl⟩
 ·split
  ·split
   ·refine ⟨?_,aI _ _ _⟩
    rw [bI hl (by omega) (by omega),bI hl (by omega) (by omega)]
    split <;> simp
   ·exact ⟨id5,rfl⟩
  ·exact ⟨id5,rfl⟩
theorem q5 {S:Setup} (hS:SetV S) {g:Gm} (hg:g.S=S) {ins:Nat -> Inp} {M:MemS} (h:TV S ins M) (hp:M.get 1=5):Nx S ins M ⟨dL (g.step M) M,0,bk,false⟩:=by
 have hpl:=hS.pl
 have hnb:=hS.nb
 have hro:=hS.ro
 have hc:(0 <= M.get 2 /\ M.get 2 < S.nb) /\ 0 <= M.get 3 /\ M.get 3 <= S.nb:=by rcases h.ct with h | h | h | h | h | h | h | h <;> omega
 have hl:=h.l48 hS
 have e5l:jE S M=l5 S.nb (M.get 2) (M.get 3):=by unfold jE;rw [hp];rfl
 unfold dL
 show Nx S ins M ⟨if 0 <= M.get 3 /\ M.get 3 < g.S.nb then (eI (g.step M) M).set 3 (aY (M.get 3+1)) else fD (g.step M) (if movP g.S (M.get 2) then cV (g.step M) M else M),0,bk,false⟩
 rw [hg]
 split
 ·next hj =>
  rw [cP (by omega)]
  have ht:=FP (g.step M) hl
  refine gK hS h (by omega) ((Hi.refl (P:=S.players)).kp (by omega)) ((aI _ _ _).trans (ht 0).2) (p:=5) (i:=M.get 2) (j:=M.get 3+1) (q:=M.get 4) (x:=(eI (g.step M) M).get 5) (fu:=M.get 8) (λ k=>?_) rfl ((Hi.refl (P:=S.players)).ef (by omega)) (.inr (.inr (.inr (.inr (.inr (.inl ⟨rfl,by omega,by omega,by omega,by omega⟩)))))) (by omega) ?_
  ·rw [bI (by rw [(ht 0).2];exact hl) (by omega) (by omega),(ht k).1]
   by_cases k1:k=1
   ·subst k1;simp;omega
   by_cases k2:k=2
   ·subst k2;simp
   by_cases k3:k=3
   ·subst k3;simp
   by_cases k4:k=4
   ·subst k4;simp
   by_cases k5:k=5
   ·subst k5;simp
   simp [k1,k2,k3,k4,k5]
  ·rw [e5l]
   show l5 S.nb (M.get 2) (M.get 3+1) < _
   unfold l5;omega
 ·next hj =>
  have ej:M.get 3=S.nb:=by omega
  have hh:Hi S.players M (if movP S (M.get 2) then cV (g.step M) M else M):=by
   split
   ·next hm=>exact Co (by omega) hg M (nY (by omega) hc.1)
   ·exact .refl
  generalize (if movP S (M.get 2) then cV (g.step M) M else M)=N at *
  have hlN:48 <= N.cs.length:=by rw [hh.len];exact hl
  have e1:=hh.get 1 (by omega);have e4:=hh.get 4 (by omega);have e8:=hh.get 8 (by omega)
  unfold fD
  show Nx S ins M ⟨if aY (M.get 2+1) < g.S.nb then ((N.set 2 (aY (M.get 2+1))).set 3 0).set 5 1024 else (aL (g.step M) 6 0 N).set 5 0,0,bk,false⟩
  rw [cP (by omega),hg]
  split
  ·refine gK hS h (by omega) (hh.kp (by omega)) (by simp only [aI]) (p:=5) (i:=M.get 2+1) (j:=0) (q:=N.get 4) (x:=1024) (λ k=>?_) e8 (hh.ef (by omega)) (.inr (.inr (.inr (.inr (.inr (.inl ⟨rfl,by omega,by omega,by omega,by omega⟩)))))) (by omega) ?_
   ·rw [bI (by simp only [aI];exact hlN) (by omega) (by omega),bI (by simp only [aI];exact hlN) (by omega) (by omega),bI hlN (by omega) (by omega)]
    by_cases k1:k=1
    ·subst k1;simp;omega
    by_cases k2:k=2
    ·subst k2;simp
    by_cases k3:k=3
    ·subst k3;simp
    by_cases k4:k=4
    ·subst k4;simp
    by_cases k5:k=5
    ·subst k5;simp
    simp [k1,k2,k3,k4,k5]
   ·rw [e5l,ej]
    show l5 S.nb (M.get 2+1) 0 < _
    unfold l5
    generalize M.get 2=i at *
    obtain h | h | h | h | h:(S.nb:Int)=1 \/ (S.nb:Int)=2 \/ (S.nb:Int)=3 \/ (S.nb:Int)=4 \/ (S.nb:Int)=5:=by omega
    all_goals rw [h];omega
  ·refine gK hS h (by omega) (hh.kp (by omega)) ((aI _ _ _).trans (fI _ _ _)) (p:=6) (i:=0) (j:=0) (q:=N.get 4) (x:=0) (λ k=>?_) e8 (hh.ef (by omega)) (.inr (.inr (.inr (.inr (.inr (.inr (.inl ⟨rfl,by omega,by omega,.inl rfl⟩))))))) (by omega) ?_
   ·rw [bI (by rw [fI];exact hlN) (by omega) (by omega),jF hlN]
    by_cases k1:k=1
    ·subst k1;simp
    by_cases k2:k=2
    ·subst k2;simp
    by_cases k3:k=3
    ·subst k3;simp
    by_cases k4:k=4
    ·subst k4;simp
    by_cases k5:k=5
    ·subst k5;simp
    simp [k1,k2,k3,k4,k5]
   ·rw [e5l,ej]
    show l6 S.nb 0 0 _ < _
    unfold l5 l6
    generalize M.get 2=i at *
    obtain h | h | h | h | h:(S.nb:Int)=1 \/ (S.nb:Int)=2 \/ (S.nb:Int)=3 \/ (S.nb:Int)=4 \/ (S.nb:Int)=5:=by omega
    all_goals rw [h];simp;omega
theorem wO {P:Int} {M:MemS} {e fu a b:Int} (hl:48 <= M.cs.length) (he:¬ e < 0):Kp P M (aM e fu a b M) /\ (aM e fu a b M).get 8=fu /\ (aM e fu a b M).get 11=M.get 11:=by
 unfold aM
 rw [if_neg he]
 refine ⟨(((((Kp.refl).set (by omega) _).set (by omega) _).set (by omega) _).set (by omega) _).set (by omega) _,?_,?_⟩
 ·rw [bj (by decide),bj (by decide),iV (by simp only [aI];omega)]
 ·rw [bj (by decide),bj (by decide),bj (by decide),bj (by decide),bj (by decide)]
theorem An {S:Setup} (hS:SetV S) {g:Gm} (hg:g.S=S) {ins:Nat -> Inp} {M:MemS} (h:TV S ins M) {p:Int} (hp:M.get 1=p) (hp1:1 <= p) (e a o:Int) (c:Bool) (hi:0 <= M.get 2 /\ M.get 2 <= 5) (hj:M.get 3=0 \/ (M.get 3=1 /\ 0 <= M.get 8 /\ M.get 8 <= 60))
  (hc0:∀ fu,Lw S.players S.nb S.rounds p (M.get 2+1) 0 (M.get 4) fu) (hc1:∀ fu,0 <= fu -> fu <= 60 -> Lw S.players S.nb S.rounds p (M.get 2) 1 (M.get 4) fu)
  (l0:∀ f f',CJ S.players S.nb S.rounds p (M.get 2+1) 0 (M.get 4) f < CJ S.players S.nb S.rounds p (M.get 2) 0 (M.get 4) f') (l1:∀ f fu,fu <= 60 -> CJ S.players S.nb S.rounds p (M.get 2) 1 (M.get 4) fu < CJ S.players S.nb S.rounds p (M.get 2) 0 (M.get 4) f)
  (l2:∀ f f',0 <= f' -> CJ S.players S.nb S.rounds p (M.get 2+1) 0 (M.get 4) f < CJ S.players S.nb S.rounds p (M.get 2) 1 (M.get 4) f') (l3:∀ f,CJ S.players S.nb S.rounds p (M.get 2) 1 (M.get 4) (f - 1) < CJ S.players S.nb S.rounds p (M.get 2) 1 (M.get 4) f) :
  Nx S ins M (dm (ez e (g.step M) a o M) (c9 e (g.step M) a o M) (g.step M) c M).z:=by
 have hl:=h.l48 hS
 have hpl:=hS.pl
 have hec:0 <= M.get 11 /\ M.get 11 <= 40:=by
  rcases h.ec with e | e
  ·have:=e.1;omega
  ·exact e
 have skip:M.get 3=0 -> Nx S ins M ⟨M.set 2 (aY (M.get 2+1)),0,bk,false⟩:=λ hj0=>by
  rw [cP (by omega)]
  refine gK hS h (by omega) ((Hi.refl (P:=S.players)).kp (by omega)) (aI _ _ _) (p:=M.get 1) (i:=M.get 2+1) (j:=M.get 3) (q:=M.get 4) (x:=M.get 5) (fu:=M.get 8) (λ k=>N4 (f:=M.get) (bI hl (by omega) (by omega) k).symm) rfl ((Hi.refl (P:=S.players)).ef (by omega)) ?_ (by omega) ?_
  ·rw [hp,hj0];exact hc0 _
  ·unfold jE;rw [hp,hj0];exact l0 _ _
 unfold dm ez c9
 show Nx S ins M (VR.z (if M.get 3=0 then _ else _))
 by_cases hj0:M.get 3=0
 ·rw [if_pos hj0]
  cases c with
  | false=>exact skip hj0
  | true =>
   rw [if_pos rfl]
   by_cases he:e < 0
   ·show Nx S ins M (VR.z (if (if M.get 3=0 then decide (e < 0) else _)=true then _ else _))
    rw [if_pos hj0,if_pos (by simpa using he)]
    show Nx S ins M ⟨(if M.get 3=0 then (if e < 0 then (⟨aM e _ a o M,0,_,_⟩:VR) else _) else _).M.set 2 _,0,(if M.get 3=0 then (if e < 0 then (⟨aM e _ a o M,0,_,_⟩:VR) else _) else _).e,(if M.get 3=0 then (if e < 0 then (⟨aM e _ a o M,0,_,_⟩:VR) else _) else _).em⟩
    rw [if_pos hj0,if_pos he]
    show Nx S ins M ⟨(aM e _ a o M).set 2 _,0,bk,false⟩
    rw [show aM e g.S.fuel a o M=M by unfold aM;rw [if_pos he]]
    exact skip hj0
   ·show Nx S ins M (VR.z (if (if M.get 3=0 then decide (e < 0) else _)=true then _ else _))
    rw [if_pos hj0,if_neg (by simpa using he)]
    show Nx S ins M ⟨(if M.get 3=0 then (if e < 0 then _ else (⟨(aM e g.S.fuel a o M).set 3 1,0,bk,false⟩:VR)) else _).M,0,(if M.get 3=0 then (if e < 0 then _ else (⟨(aM e g.S.fuel a o M).set 3 1,0,bk,false⟩:VR)) else _).e,(if M.get 3=0 then (if e < 0 then _ else (⟨(aM e g.S.fuel a o M).set 3 1,0,bk,false⟩:VR)) else _).em⟩
    rw [if_pos hj0,if_neg he,hg]
    obtain ⟨s1,s2,s3⟩:=wO (P:=S.players) (M:=M) (fu:=S.fuel) (a:=a) (b:=o) hl he
    generalize aM e S.fuel a o M=N at *
    have hlN:48 <= N.cs.length:=by rw [s1.len];exact hl
    refine gK hS h (by omega) s1 (aI _ _ _) (p:=p) (i:=M.get 2) (j:=1) (q:=M.get 4) (x:=M.get 5) (fu:=S.fuel) (λ k=>?_) s2 ⟨λ h=>by simp at h,λ _=>s3⟩ ?_ (by omega) ?_
    ·rw [bI hlN (by omega) (by omega)]
     have n1:=s1.get 1 (by omega);have n2:=s1.get 2 (by omega);have n4:=s1.get 4 (by omega);have n5:=s1.get 5 (by omega)
     by_cases k1:k=1
     ·subst k1;simp;omega
     by_cases k2:k=2
     ·subst k2;simp;omega
     by_cases k3:k=3
     ·subst k3;simp
     by_cases k4:k=4
     ·subst k4;simp;omega
     by_cases k5:k=5
     ·subst k5;simp;omega
     simp [k1,k2,k3,k4,k5]
    ·exact hc1 S.fuel hS.fu.1 hS.fu.2
    ·unfold jE;rw [hp,hj0];exact l1 _ _ hS.fu.2
 ·rw [if_neg hj0]
  obtain ⟨hj1,hf⟩:M.get 3=1 /\ (0 <= M.get 8 /\ M.get 8 <= 60):=by omega
  obtain ⟨s1,s2,s3⟩:=wM hS (M:=M) (code:=g.code) (n:=g.cn) hl hec hf
  show Nx S ins M (VR.z (if (if M.get 3=0 then _ else bg g.code g.cn M)=true then _ else _))
  rw [if_neg hj0]
  show Nx S ins M (VR.z (if bg g.code g.cn M=true then ⟨((if M.get 3=0 then _ else (⟨(ak g.S g.code g.cn M).M,0,(ak g.S g.code g.cn M).e,(ak g.S g.code g.cn M).em⟩:VR)).M.set 3 0).set 2 _,0,(if M.get 3=0 then _ else (⟨(ak g.S g.code g.cn M).M,0,(ak g.S g.code g.cn M).e,(ak g.S g.code g.cn M).em⟩:VR)).e,(if M.get 3=0 then _ else (⟨(ak g.S g.code g.cn M).M,0,(ak g.S g.code g.cn M).e,(ak g.S g.code g.cn M).em⟩:VR)).em⟩ else ⟨(if M.get 3=0 then _ else (⟨(ak g.S g.code g.cn M).M,0,(ak g.S g.code g.cn M).e,(ak g.S g.code g.cn M).em⟩:VR)).M,0,(if M.get 3=0 then _ else (⟨(ak g.S g.code g.cn M).M,0,(ak g.S g.code g.cn M).e,(ak g.S g.code g.cn M).em⟩:VR)).e,(if M.get 3=0 then _ else (⟨(ak g.S g.code g.cn M).M,0,(ak g.S g.code g.cn M).e,(ak g.S g.code g.cn M).em⟩:VR)).em⟩))
  rw [if_neg hj0,hg]
  generalize ak S g.code g.cn M=r at *
  have hlN:48 <= r.M.cs.length:=by rw [s1.len];exact hl
  have n1:=s1.get 1 (by omega);have n2:=s1.get 2 (by omega);have n3:=s1.get 3 (by omega);have n4:=s1.get 4 (by omega);have n5:=s1.get 5 (by omega)
  by_cases he:bg g.code g.cn M=true
  ·rw [if_pos he]
   show Nx S ins M ⟨(r.M.set 3 0).set 2 (aY (M.get 2+1)),0,r.e,r.em⟩
   rw [cP (by omega)]
   refine gK hS h (by omega) s1 (by simp only [aI]) (p:=p) (i:=M.get 2+1) (j:=0) (q:=M.get 4) (x:=M.get 5) (fu:=r.M.get 8) (λ k=>?_) rfl ⟨s2.yes,s2.no⟩ (hc0 _) (by omega) ?_
   ·rw [bI (by simp only [aI];exact hlN) (by omega) (by omega),bI hlN (by omega) (by omega)]
    by_cases k1:k=1
    ·subst k1;simp;omega
    by_cases k2:k=2
    ·subst k2;simp
    by_cases k3:k=3
    ·subst k3;simp
    by_cases k4:k=4
    ·subst k4;simp;omega
    by_cases k5:k=5
    ·subst k5;simp;omega
    simp [k1,k2,k3,k4,k5]
   ·unfold jE;rw [hp,hj1];exact l2 _ _ hf.1
  ·rw [if_neg he]
   show Nx S ins M ⟨r.M,0,r.e,r.em⟩
   rcases s3 with ⟨s4,s5,s6⟩ | ⟨s4,s5,s6⟩
   ·refine gK hS h (by omega) s1 rfl (p:=p) (i:=M.get 2) (j:=1) (q:=M.get 4) (x:=M.get 5) (fu:=M.get 8 - 1) (λ k=>?_) s5 ⟨s2.yes,s2.no⟩ (hc1 _ (by omega) (by omega)) (by omega) ?_
    ·show r.M.get k=_
     by_cases k1:k=1
     ·subst k1;simp;omega
     by_cases k2:k=2
     ·subst k2;simp;omega
     by_cases k3:k=3
     ·subst k3;simp;omega
     by_cases k4:k=4
     ·subst k4;simp;omega
     by_cases k5:k=5
     ·subst k5;simp;omega
     simp [k1,k2,k3,k4,k5]
    ·unfold jE;rw [hp,hj1];exact l3 _
   ·exact absurd s5 he
end Go.Proofs.YtghjbimijeinfaaGreatDoor
