import Derived.Test.YtgdcbiiopbpgaaaGreatDoorY07
import Derived.Test.YtgdcbiiopbpgaaaGreatDoorY06
set_option maxHeartbeats 4000000
set_option maxRecDepth 100000
set_option linter.unusedSimpArgs false
set_option linter.unusedVariables false
namespace Go.Proofs.YtgdcbiiopbpgaaaGreatDoor
open Go.RowKit
def jA(S:Setup):List Bod:=(List.range S.nb).map S.body
theorem fL(S:Setup):(jA S).length=S.nb:=by simp[jA]
theorem iH{S:Setup}{k:Nat}(h:k<S.nb):(jA S).getD k dB=S.body k:=by simp[jA,h]
theorem tU{F:HL}{S:Setup}(hS:SetSh F S):RowL lh 78 F (some ⟨S.bb,S.bo*9,none⟩) S.nb (jA S) :=
 .rows S.bb S.bo S.bR S.bods (0,0) S.nb (jA S) hS.blk hS.room (fL S) (λ k hk=>(iH hk).symm)
theorem ClS.open{α:Type}{e:Enc α}{T:TypeId}{xs:List α}{A:Option Addr}{c:Nat}{Hl:HL}(h:ClS e T xs A c Hl)(hx:0<xs.length):∃b,A=some ⟨b,0,none⟩ /\ Hl=[(b,.rows e.w c (aJ e xs) T (0,0))] /\ xs.length <= c:=by
 obtain⟨A0,h⟩:=h
 rcases h with ⟨rfl,_⟩|⟨b,h1,h2,h3⟩
 ·simp at hx
 ·exact⟨b,h1,h2,h3⟩
structure SetCl(F:HL)(S:Setup):Prop extends SetN S where
 blk:(S.bb,.rows 9 S.bR (jJ S.bods) 78 (0,0))∈F
 room:S.bo+S.nb <= S.bR
 shp:∀k,k<S.nb -> (RowL lA 29 F (S.body k).sh.A (S.body k).sh.poly.length (S.body k).sh.poly /\ (S.body k).sh.poly.length <= 1000000) /\ ((S.body k).sh.poly=[] \/ 3 <= (S.body k).sh.poly.length)
theorem SetIn.cl{F:HL}{S:Setup}(h:SetIn F S):SetCl F S:=⟨h.toSetN,h.blk,h.room,λ k hk=>⟨(h.shp k hk).rowL,by
 have h1:=h.shp k hk
 generalize (S.body k).sh=s at h1
 cases h1 with
 | circle r A cap=>exact .inl rfl
 | poly r l b cap h h3 h4 h5=>exact .inr h3⟩⟩
theorem SetCl.up{F X:HL}{S:Setup}(h:SetCl F S):SetCl (X++F) S:=⟨h.toSetN,List.mem_append_right _ h.blk,h.room,λ k hk=>⟨⟨(h.shp k hk).1.1.up,(h.shp k hk).1.2⟩,(h.shp k hk).2⟩⟩
theorem SetCl.toSh{F:HL}{S:Setup}(h:SetCl F S):SetSh F S:=⟨h.nb,h.blk,h.room,λ k hk=>(h.shp k hk).1⟩
theorem tV{s:Shp}(h:s.poly=[] \/ 3 <= s.poly.length)(hl:s.poly.length <= 1000000){A:Option Addr}{c:Nat}{T:HL}(hc:ClS lA 29 s.poly A c T):ShH ⟨s.r,s.poly,A,c⟩ T:=by
 intro F' hF
 rcases h with h|h
 ·rw[h];exact .circle _ _ _
 ·obtain⟨b2,rfl,rfl,h6⟩:=hc.open (by omega)
  exact .poly _ _ _ _ (hF _ (List.mem_singleton.2 rfl)) h h6 hl
def Bod.at(b:Bod)(A:Option Addr)(c:Nat):Bod:=⟨⟨b.sh.r,b.sh.poly,A,c⟩,b.mot,b.a,b.b⟩
theorem bF{α:Type}{l:List α}{i:Nat}{x d:α}(h:i<l.length):(l.set i x).getD i d=x:=by simp[h]
theorem bj{α:Type}{l:List α}{i k:Nat}{x d:α}(h:¬ i=k):(l.set i x).getD k d=l.getD k d:=by simp[List.getElem?_set,h]
theorem BB{l:List Bod}{i:Nat}(h:i<l.length)(A:Option Addr)(c:Nat):db (jJ l) i 1 (.slice A (l.getD i dB).sh.poly.length c)=jJ (l.set i ((l.getD i dB).at A c)):=by
 funext j k
 unfold db
 by_cases h1:j=i
 ·subst h1
  show _=lh.cell ((l.set j ((l.getD j dB).at A c)).getD j dB) k
  rw[bF h]
  by_cases h2:k=1
  ·subst h2;simp;rfl
  ·rw[if_neg (by simp[h2])]
   show lh.cell (l.getD j dB) k=_
   rcases k with _|_|k
   ·rfl
   ·exact absurd rfl h2
   ·rcases k with _|_|_|_|_|_|k <;> rfl
 ·rw[if_neg (by simp[h1])]
  show lh.cell (l.getD j dB) k=lh.cell ((l.set i _).getD j dB) k
  rw[bj (λ e=>h1 e.symm)]
structure SetEq(S S':Setup):Prop where
 nums:S'.players=S.players /\ S'.nb=S.nb /\ S'.box=S.box /\ S'.rn=S.rn /\ S'.dn=S.dn /\ S'.fog=S.fog /\ S'.g=S.g /\ S'.push=S.push /\ S'.drag=S.drag /\ S'.rest=S.rest /\ S'.rounds=S.rounds /\ S'.fuel=S.fuel
 bod:∀k,k<S.nb -> ∃A c,S'.body k=(S.body k).at A c
 whole:S'.bo=0 /\ S'.bods.length=S.nb
def ry(S:Setup)(rs:List Bx)(ds:List Dr)(U:HL):Prop:=∀F,(∀y∈U,y∈F) -> SetIn F S /\ MapIn F S rs ds
theorem zI(S:Setup)(rs:List Bx)(ds:List Dr)(F:HL)(hS:SetCl F S)(hM:MapIn F S rs ds)(h1:1 <= S.nb)(RY:S.rn <= 1000000)(R3:S.dn <= 1000000):Sp Tryz.prog 62 #[Setup.v S] (ap [] []) F (λ u H'=>∃x:Setup × HL,H'=ap [] [x.2] /\ (u=Setup.v x.1 /\ SetEq S x.1 /\ ry x.1 rs ds x.2)):=by
 have hp:=hS.pl
 have hn:=hS.nb
 have hr:=hS.room
 refine Sp.run Tryz.func62 rfl (mc hS.blk mn) (A:=[]) (Ts:=[]) rfl λ w0=>?_
 refine ae 10 [.own 1] λ n1=>RN.ct (Hp:=[]) (Tp:=[]) [] [] (lC (some ⟨S.bb,S.bo*9,none⟩) S.nb S.bc (jA S) _ (RowL.src uU (by decide) (tU hS.toSh).up) (by omega)) ?_
 rintro _ ⟨A2,c3,T4⟩ ⟨rfl,hc5⟩
 dsimp only at hc5
 refine ae 7 [.own 1] λ _=>?_
 obtain⟨bb,rfl,rfl,RJ⟩:=hc5.open (by rw[fL];omega)
 have hcap:S.nb <= c3:=by rw[fL] at RJ;exact RJ
 refine pK 0 (x:=(bb,.rows 9 c3 (jJ (jA S)) 78 (0,0)))<|ae 7 [.own 2] λ _=>RN.nt<|RN.loop (σ:=Nat × List Bod × HL) (λ ⟨i,bods,U_⟩=>⟨[(1,vP (n1+0) 0),(2,vP (n1+1) 0),(10,vI (S.nb:Int)),(11,vI (i:Int))],[(bb,.rows 9 c3 (jJ bods) 78 (0,0)),((n1+1),.lit [vI 0,.slice none 0 0,vI 0,vI 0,vI 0,vI 0,.slice none 0 0,.slice none 0 0,vI 0,vI 0,vI 0,vI 0,vI 0,vI 0,vI 0,vI 0] 31 (0,0)),((n1+0),.lit [vI S.players,vS bb 0 S.nb c3,vI S.box.x0,vI S.box.y0,vI S.box.x1,vI S.box.y1,.slice S.rA S.rn S.rc,.slice S.dA S.dn S.dc,vI S.fog,vI S.g.x,vI S.g.y,vI S.push,vI S.drag,vI S.rest,vI S.rounds,vI S.fuel] 31 (0,0))],[U_],i <= S.nb /\ bods.length=S.nb /\ (∀k,k<S.nb -> ∃A c,bods.getD k dB=(S.body k).at A c) /\ (∀k,k<i -> ShH (bods.getD k dB).sh U_) /\ ∀k,i <= k -> k<S.nb -> bods.getD k dB=S.body k,S.nb-i⟩) (0,jA S,[]) [0,1,2] [0] (⟨Nat.zero_le _,fL S,λ k hk=>⟨_,_,iH hk⟩,λ k hk=>absurd hk (Nat.not_lt_zero _),λ k _ hk=>iH hk⟩) ?_
 rintro⟨i,bods,U_⟩ ⟨Tf,Rp,RH,S_,TZ⟩ V9
 refine ae 6 [] λ _=>RN.em ((i:Int)<(S.nb:Int)) 12 (λ h8=>?_) λ h8=>?_
 ·refine ae 7 [] λ _=>?_
  have SC:(RowL lA 29 F (bods.getD i dB).sh.A (bods.getD i dB).sh.poly.length (bods.getD i dB).sh.poly /\ (bods.getD i dB).sh.poly.length <= 1000000) /\ ((bods.getD i dB).sh.poly=[] \/ 3 <= (bods.getD i dB).sh.poly.length):=by rw[TZ i (Nat.le_refl _) (by omega)];exact hS.shp i (by omega)
  have Q3:=SC.1.1
  have WI:(bods.getD i dB).sh.poly.length <= 100000000:=by have:=SC.1.2;omega
  refine ae 4 [] λ _=>RN.draw [14] []<|aG [] [0,2,3,5,1,4,6,7,8,9] [.own 2,.own 2,.ix i,.row 0 i 1] [((0+i*9)+1)=i*9+1 /\ i<c3,(i:Int)=((i:Nat):Int) /\ i<S.nb]<|RD.one 10 (RDO.ct [] (Hp:=[]) (Tp:=[]) [] [] (mH ((bods.getD i dB).sh.A) ((bods.getD i dB).sh.poly.length) ((bods.getD i dB).sh.cap) ((bods.getD i dB).sh.poly) _ (RowL.src zE (by decide) Q3.up) WI) ?_)
  rintro _ ⟨A9,Ug,Of⟩ ⟨rfl,VD⟩
  dsimp only at VD
  refine aG [] [11,12,13] [.ix i] [(i:Int)=((i:Nat):Int) /\ i<S.nb]<|RD.one 14 (eC [] [.row 0 i 1] [((0+i*9)+1)=i*9+1 /\ i<c3] λ _=>?_)
  refine RD.fin<|ai 6 [.nw] [aU ((i:Int)+1)] λ _=>cj 0 (congrArg (λ v_=>(.rows 9 c3 v_ 78 (0,0):Blk)) (show (db (jJ bods) i 1 (.slice A9 ((bods.getD i dB).sh.poly.length) Ug))=(jJ (bods.set i ((bods.getD i dB).at A9 Ug))) from (BB (by omega) A9 Ug)))<|kV [1,0]<|mE ?_
  refine V9 (i+1,(bods.set i ((bods.getD i dB).at A9 Ug)),U_++Of) [0,1,2] [0] ?_
  try dsimp only
  refine⟨⟨by omega,by rw[List.length_set];exact Rp,λ t ht=>?_,λ t ht=>?_,λ t Xc Rj=>?_⟩,by omega⟩
  ·rcases Decidable.em (i=t) with rfl|h_
   ·rw[bF (by omega),TZ i (Nat.le_refl _) ht];exact⟨_,_,rfl⟩
   ·rw[bj h_];exact RH t ht
  ·rcases Decidable.em (i=t) with rfl|h_
   ·rw[bF (by omega)];exact ShH.right (tV SC.2 SC.1.2 VD)
   ·rw[bj h_];exact(S_ t (by omega)).left
  ·rw[bj (by omega)];exact TZ t (by omega) Rj
 ·refine ae 10 [.own 2] λ _=>RN.ct (Hp:=[]) (Tp:=[]) [] [] (mI S.rA S.rn S.rc rs _ (RowL.src Gl (by decide) hM.rooms.up) (by omega)) ?_
  rintro _ ⟨A13,c14,Sz⟩ ⟨rfl,VC⟩
  dsimp only at VC
  refine ae 8 [.own 2,.own 2] λ _=>RN.ct (Hp:=[]) (Tp:=[]) [] [] (lD S.dA S.dn S.dc ds _ (RowL.src Gn (by decide) hM.doors.up) (by omega)) ?_
  rintro _ ⟨Zi,Zc,Uh⟩ ⟨rfl,VB⟩
  dsimp only at VB
  refine ae 10 (ow 2 17++ow 1 16) λ _=>RN.ret (ow 1 16) [0] [0,1,2] (v:=.agg #[vI S.players,vS bb 0 S.nb c3,vI S.box.x0,vI S.box.y0,vI S.box.x1,vI S.box.y1,.slice A13 S.rn c14,.slice Zi S.dn Zc,vI S.fog,vI S.g.x,vI S.g.y,vI S.push,vI S.drag,vI S.rest,vI S.rounds,vI S.fuel]) (H':=(ap [(bb,.rows 9 c3 (jJ bods) 78 (0,0))] [Uh,Sz,U_])) ?_
  have ei:i=S.nb:=by omega
  subst ei
  have Tj:∀k,bods.getD (0+k) dB=bods.getD k dB:=λ k=>by rw[Nat.zero_add]
  refine⟨((⟨S.players,bb,0,S.nb,c3,c3,bods,S.box,A13,S.rn,c14,Zi,S.dn,Zc,S.fog,S.g,S.push,S.drag,S.rest,S.rounds,S.fuel⟩:Setup),[(bb,.rows 9 c3 (jJ bods) 78 (0,0))]++(Uh++Sz++U_)),(by simp[ap]),rfl,⟨⟨rfl,rfl,rfl,rfl,rfl,rfl,rfl,rfl,rfl,rfl,rfl,rfl⟩,λ k hk=>?_,rfl,Rp⟩,λ F2 hF=>⟨⟨⟨hp,by omega⟩,hF _ (by simp),(by show 0+S.nb <= c3;omega),λ k hk=>?_⟩,?_,?_⟩⟩
  ·obtain⟨A,c,h⟩:=RH k hk;exact⟨A,c,by show bods.getD (0+k) dB=_;rw[Tj];exact h⟩
  ·show ShIn F2 (bods.getD (0+k) dB).sh;rw[Tj];exact S_ k hk F2 λ x hx=>hF x (by simp[hx])
  ·have h_:=VC.rowL (F:=F2) λ x hx=>hF x (by simp[hx]);rw[hM.rooms.len] at h_;exact h_
  ·have h_:=VB.rowL (F:=F2) λ x hx=>hF x (by simp[hx]);rw[hM.doors.len] at h_;exact h_
theorem zJ{S:Setup}(h:SetN S){i:Nat}(hi:i<S.nb):db (db (db (db (db (db (aN (eS S i)) ((af S i).toNat+0) 0 (vI (S.body i).mot.px)) ((af S i).toNat+1) 0 (vI (S.body i).mot.py)) ((af S i).toNat+2) 0 (vI (S.body i).mot.vx)) ((af S i).toNat+3) 0 (vI (S.body i).mot.vy)) ((af S i).toNat+4) 0 (vI (S.body i).a)) ((af S i).toNat+5) 0 (vI (S.body i).b)=aN (eS S (i+1)):=by
 have hb:=oY h hi
 rw[<- Dw h hi]
 rw[show (af S i+1).toNat=(af S i).toNat+1 by omega,show (af S i+2).toNat=(af S i).toNat+2 by omega,show (af S i+3).toNat=(af S i).toNat+3 by omega,show (af S i+4).toNat=(af S i).toNat+4 by omega,show (af S i+5).toNat=(af S i).toNat+5 by omega]
 rfl
theorem DB(S:Setup)(F:HL)(hS:SetCl F S):Sp Tryz.prog 64 #[Setup.v S] (ap [] []) F (λ u H'=>∃q,H'=ap [(q,.rows 1 (sizeOf S).toNat (aN (eS S S.nb)) 3 (0,0))] [] /\ u=vS q 0 (sizeOf S).toNat (sizeOf S).toNat):=by
 have hp:=hS.pl
 have hn:=hS.nb
 have hr:=hS.room
 have hz:=Dv hS.toSetN
 refine Sp.run Tryz.func64 rfl (mc hS.blk mn) (A:=[]) (Ts:=[]) rfl λ w0=>?_
 refine ae 13 [.own 0] λ n1=>RN.em (S.players<0) 10 (λ h2=>?_) λ h2=>?_
 ·(exfalso;omega)
 ·refine ae 6 [.own 0] λ _=>RN.em (S.players>1048576) 14 (λ h3=>?_) λ h3=>?_
  ·(exfalso;omega)
  ·refine ae 6 (ow 0 16) λ _=>RN.cp (CQ S _ hS.toSetN)<|ai 14 [.mk ((sizeOf S).toNat) ((sizeOf S).toNat),.own 1] [sizeOf S=(((sizeOf S).toNat:Nat):Int) /\ sizeOf S=(((sizeOf S).toNat:Nat):Int) /\ (sizeOf S).toNat <= (sizeOf S).toNat /\ 8*((sizeOf S).toNat) <= 140737488355328 /\ 1=1 /\ (sizeOf S).toNat <= 9223372036854775807] λ n4=>cj 0 (congrArg (λ v_=>(.rows 1 ((sizeOf S).toNat) v_ 3 (0,0):Blk)) (show (il [vI 0])=(aN (eS S 0)) from (by rw[tN (sizeOf S).toNat] <;> rfl)))<|RN.loop (σ:=Nat) (λ i=>⟨[(1,vP (n1+0) 0),(3,vS (n4+0) 0 ((sizeOf S).toNat) ((sizeOf S).toNat)),(19,vS S.bb (S.bo*9) S.nb S.bc),(20,vI (S.nb:Int)),(21,vI (i:Int))],[((n4+0),.rows 1 ((sizeOf S).toNat) (aN (eS S i)) 3 (0,0)),((n1+0),.lit (Setup.l S) 31 (0,0))],[],i <= S.nb,S.nb-i⟩) 0 [0,1] [] (Nat.zero_le _) ?_
   rintro i hI5 X1
   refine ae 6 [] λ _=>RN.em ((i:Int)<(S.nb:Int)) 22 (λ h7=>?_) λ h7=>?_
   ·have hbi:=oY hS.toSetN (i:=i) (by omega)
    refine ai 20 ([.ix i,.rorow 0 (S.bo+i) 0,.rorow 0 (S.bo+i) 1,.rorow 0 (S.bo+i) 2,.rorow 0 (S.bo+i) 3,.rorow 0 (S.bo+i) 4,.rorow 0 (S.bo+i) 5,.rorow 0 (S.bo+i) 6,.rorow 0 (S.bo+i) 7,.rorow 0 (S.bo+i) 8]++ow 0 9++ow 2 16) [((S.bo*9+i*9)+8)=(S.bo+i)*9+8 /\ (S.bo+i)<S.bR,((S.bo*9+i*9)+7)=(S.bo+i)*9+7 /\ (S.bo+i)<S.bR,((S.bo*9+i*9)+6)=(S.bo+i)*9+6 /\ (S.bo+i)<S.bR,((S.bo*9+i*9)+5)=(S.bo+i)*9+5 /\ (S.bo+i)<S.bR,((S.bo*9+i*9)+4)=(S.bo+i)*9+4 /\ (S.bo+i)<S.bR,((S.bo*9+i*9)+3)=(S.bo+i)*9+3 /\ (S.bo+i)<S.bR,((S.bo*9+i*9)+2)=(S.bo+i)*9+2 /\ (S.bo+i)<S.bR,((S.bo*9+i*9)+1)=(S.bo+i)*9+1 /\ (S.bo+i)<S.bR,(S.bo*9+i*9)=(S.bo+i)*9+0 /\ (S.bo+i)<S.bR,(i:Int)=((i:Nat):Int) /\ i<S.nb] λ n8=>RN.cp (cO S (i:Int) _ hS.toSetN) ?_
    have hb9:=cN hS.toSetN (i:Int)
    refine ai 5 [.sl ((af S (i:Int)).toNat) ((sizeOf S).toNat) false] [af S (i:Int)=(((af S (i:Int)).toNat:Nat):Int) /\ (sizeOf S).toNat=(sizeOf S).toNat /\ (af S (i:Int)).toNat <= (sizeOf S).toNat /\ (sizeOf S).toNat <= (sizeOf S).toNat /\ (sizeOf S).toNat≠(af S (i:Int)).toNat] λ _=>RN.draw [11,13] [0,2]<|aG [0,2] [0,1,2,6,3,7,4,8,5,9,10] [.own 0,.ro 0,.ix 0] [0=((0:Nat):Int) /\ 0<((sizeOf S).toNat-(af S (i:Int)).toNat)]<|RD.one 11 (eC [0,2] [.row 1 (((af S (i:Int)).toNat)+0) 0] [((0+((af S (i:Int)).toNat)*1)+0*1)=(((af S (i:Int)).toNat)+0)*1+0 /\ (((af S (i:Int)).toNat)+0)<((sizeOf S).toNat)] λ _=>?_)
    refine aG [0,2] [12] [.ix 1] [1=((1:Nat):Int) /\ 1<((sizeOf S).toNat-(af S (i:Int)).toNat)]<|RD.one 13 (eC [0,2] [.row 1 (((af S (i:Int)).toNat)+1) 0] [((0+((af S (i:Int)).toNat)*1)+1*1)=(((af S (i:Int)).toNat)+1)*1+0 /\ (((af S (i:Int)).toNat)+1)<((sizeOf S).toNat)] λ _=>?_)
    refine RD.fin<|ae 2 [] λ _=>RN.draw [11,13] [0,2]<|aG [0,2] [0,1,2,6,3,7,4,8,5,9,10] [.own 0,.ro 0,.ix 2] [2=((2:Nat):Int) /\ 2<((sizeOf S).toNat-(af S (i:Int)).toNat)]<|RD.one 11 (eC [0,2] [.row 1 (((af S (i:Int)).toNat)+2) 0] [((0+((af S (i:Int)).toNat)*1)+2*1)=(((af S (i:Int)).toNat)+2)*1+0 /\ (((af S (i:Int)).toNat)+2)<((sizeOf S).toNat)] λ _=>?_)
    refine aG [0,2] [12] [.ix 3] [3=((3:Nat):Int) /\ 3<((sizeOf S).toNat-(af S (i:Int)).toNat)]<|RD.one 13 (eC [0,2] [.row 1 (((af S (i:Int)).toNat)+3) 0] [((0+((af S (i:Int)).toNat)*1)+3*1)=(((af S (i:Int)).toNat)+3)*1+0 /\ (((af S (i:Int)).toNat)+3)<((sizeOf S).toNat)] λ _=>?_)
    refine RD.fin<|ae 1 [] λ _=>RN.draw [7,9] [0,2]<|aG [0,2] [0,1,2,4,3,5,6] [.own 0,.ro 0,.ix 4] [4=((4:Nat):Int) /\ 4<((sizeOf S).toNat-(af S (i:Int)).toNat)]<|RD.one 7 (eC [0,2] [.row 1 (((af S (i:Int)).toNat)+4) 0] [((0+((af S (i:Int)).toNat)*1)+4*1)=(((af S (i:Int)).toNat)+4)*1+0 /\ (((af S (i:Int)).toNat)+4)<((sizeOf S).toNat)] λ _=>?_)
    refine aG [0,2] [8] [.ix 5] [5=((5:Nat):Int) /\ 5<((sizeOf S).toNat-(af S (i:Int)).toNat)]<|RD.one 9 (eC [0,2] [.row 1 (((af S (i:Int)).toNat)+5) 0] [((0+((af S (i:Int)).toNat)*1)+5*1)=(((af S (i:Int)).toNat)+5)*1+0 /\ (((af S (i:Int)).toNat)+5)<((sizeOf S).toNat)] λ _=>?_)
    refine RD.fin<|ai 6 [.nw] [aU ((i:Int)+1)] λ _=>cj 1 (congrArg (λ v_=>(.rows 1 ((sizeOf S).toNat) v_ 3 (0,0):Blk)) (show (db (db (db (db (db (db (aN (eS S i)) (((af S (i:Int)).toNat)+0) 0 (vI ((S.bods.getD (S.bo+i) dB).mot.px))) (((af S (i:Int)).toNat)+1) 0 (vI ((S.bods.getD (S.bo+i) dB).mot.py))) (((af S (i:Int)).toNat)+2) 0 (vI ((S.bods.getD (S.bo+i) dB).mot.vx))) (((af S (i:Int)).toNat)+3) 0 (vI ((S.bods.getD (S.bo+i) dB).mot.vy))) (((af S (i:Int)).toNat)+4) 0 (vI ((S.bods.getD (S.bo+i) dB).a))) (((af S (i:Int)).toNat)+5) 0 (vI ((S.bods.getD (S.bo+i) dB).b)))=(aN (eS S (i+1))) from (by rw[<- zJ hS.toSetN (i:=i) (by omega)] <;> kernel_rfl))) ?_
    refine X1 (i+1) [1,2] [] ?_
    try dsimp only
    exact⟨by omega,by omega⟩
   ·refine ae 12 [] λ _=>RN.ret [] [0] [] (v:=vS (n4+0) 0 ((sizeOf S).toNat) ((sizeOf S).toNat)) (H':=[((n4+0),.rows 1 ((sizeOf S).toNat) (aN (eS S i)) 3 (0,0))]) ?_
    have ei:i=S.nb:=by omega
    subst ei
    exact⟨_,rfl,rfl⟩
abbrev d8(S:Setup)(bp mb:Nat):List Value:=[vI S.players,vS S.bb (S.bo*9) S.nb S.bc,vI S.box.x0,vI S.box.y0,vI S.box.x1,vI S.box.y1,.slice S.rA S.rn S.rc,.slice S.dA S.dn S.dc,vI S.fog,vI S.g.x,vI S.g.y,vI S.push,vI S.drag,vI S.rest,vI S.rounds,vI S.fuel,vP bp 0,vP mb 0]
inductive GameH(rs:List Bx)(ds:List Dr)(bp gb:Nat)(S:Setup)(M:MemS)(k:Nat):HL -> Prop
 | mk (mb:Nat) (T U:HL) (hM:MemH mb M k T) (hU:ry S rs ds U):GameH rs ds bp gb S M k (ap [(gb,.lit (d8 S bp mb) 140 (0,0))] [T,U])
theorem Gx(q:Nat)(cs:List Int)(n k cap:Nat)(F:HL)(hn:cs.length=n)(hq:(q,.rows 1 n (aN cs) 3 (0,0))∈F)(hc:n <= 1000000)(hk:k <= 100000000)(hcap:n <= cap):Sp Tryz.prog 63 #[vS q 0 n cap] (ap [] []) F (λ u H'=>∃x:Nat × HL,H'=ap [] [x.2] /\ (u=vP x.1 0 /\ MemH x.1 ⟨cs,[],0⟩ k x.2)):=by
 subst hn
 exact J4 q cs k cap F hq hc hk hcap
theorem om(S:Setup)(rs:List Bx)(ds:List Dr)(bp:Nat)(F:HL)(hS:SetCl F S)(hM:MapIn F S rs ds)(h1:1 <= S.nb)(RY:S.rn <= 1000000)(R3:S.dn <= 1000000)(ID:(sizeOf S).toNat <= 1000000)(hv:i0 S rs ds=0)(k:Nat)(hk:k <= 100000000):Sp Tryz.prog 34 #[Setup.v S,vP bp 0] (ap [] []) F (λ u H'=>∃x:Nat × Setup × HL,H'=ap [] [x.2.2] /\ (u=.tuple #[vP x.1 0,vI 0] /\ SetEq S x.2.1 /\ GameH rs ds bp x.1 x.2.1 ⟨eS S S.nb,[],0⟩ k x.2.2)):=by
 refine Sp.run Tryz.func34 rfl mn (A:=[]) (Ts:=[]) rfl λ w0=>?_
 refine ae 11 (ow 0 16) λ n1=>RN.cp (Ka S rs ds _ hS.up.toSh hM.up)<|ae 9 [] λ _=>cH 10 (nt (decide_eq_true hv))<|ae 4 [] λ _=>RN.draw [] []<|ag [] [0,2,3] (ow 0 32)<|RD.one 1 (RDO.ct [] (Hp:=[]) (Tp:=[]) [] [] (zI S rs ds _ hS.up hM.up h1 RY R3) ?_)
 rintro _ ⟨S2,U3⟩ ⟨rfl,XH,hU5⟩
 dsimp only at XH hU5
 refine RD.one 4 (RDO.ct [] (Hp:=[]) (Tp:=[]) [] [] (DB S _ hS.up) ?_)
 rintro _ q6 rfl
 refine RD.one 5 (RDO.ct [] (Hp:=[]) (Tp:=[]) [] [] (Gx q6 (eS S S.nb) ((sizeOf S).toNat) k ((sizeOf S).toNat) _ (gL _ _) (az 0) ID hk (Nat.le_refl _)) ?_)
 rintro _ ⟨m7,T8⟩ ⟨rfl,UJ⟩
 dsimp only at UJ
 refine ag [] [6] []<|RD.one 7 (RDO.ev [] [] λ Sg=>?_)
 refine ag [] [8,9] []<|RD.fin<|ae 1 [] λ _=>RN.ret [] [0] [0,1] (v:=.tuple #[vP (Sg+0) 0,vI 0]) (H':=(ap [((Sg+0),.lit [vI S2.players,vS S2.bb (S2.bo*9) S2.nb S2.bc,vI S2.box.x0,vI S2.box.y0,vI S2.box.x1,vI S2.box.y1,.slice S2.rA S2.rn S2.rc,.slice S2.dA S2.dn S2.dc,vI S2.fog,vI S2.g.x,vI S2.g.y,vI S2.push,vI S2.drag,vI S2.rest,vI S2.rounds,vI S2.fuel,vP bp 0,vP m7 0] 140 (0,0))] [T8,U3])) ?_
 exact⟨((Sg+0),S2,ap [((Sg+0),.lit (d8 S2 bp m7) 140 (0,0))] [T8,U3]),by simp[ap],rfl,XH,.mk _ _ _ UJ hU5⟩
theorem Gy(S:Setup)(bp gb mb:Nat)(F:HL)(hg:(gb,.lit (d8 S bp mb) 140 (0,0))∈F):Sp Tryz.prog 38 #[vP gb 0] [] F (λ u H'=>u=vP mb 0 /\ H'=[]):=by
 refine Sp.run Tryz.func38 rfl (mc hg mn) (A:=[]) (Ts:=[]) rfl λ w0=>?_
 refine ae 14 [.ro 0] λ _=>?_
 exact RN.ret [] [] [] ⟨rfl,rfl⟩
def fN(cs:List Int):Prop:=(cs.getD 1 0=0 /\ cs.getD 2 0=0 /\ cs.getD 3 0=0 /\ cs.getD 4 0=0 /\ cs.getD 5 0=0 /\ cs.getD 6 0=0 /\ cs.getD 7 0=0 /\ cs.getD 8 0=0 /\ cs.getD 9 0=0 /\ cs.getD 10 0=0) /\ cs.getD 0 0 >= 0 /\ cs.getD 0 0 <= 6000
instance (cs:List Int):Decidable (fN cs):=inferInstanceAs (Decidable (_ /\ _))
def lj(cs:List Int)(M:MemS):Nat -> MemS
 | 0=>M
 | i+1=>if (lj cs M i).get (i:Int)=cs.getD i 0 then lj cs M i else (lj cs M i).set (i:Int) (cs.getD i 0)
theorem Kb(M:MemS)(i v:Int):(M.set i v).cs.length=M.cs.length:=by
 unfold MemS.set;split <;> simp
theorem oq(cs:List Int)(M:MemS):∀i,(lj cs M i).cs.length=M.cs.length
 | 0=>rfl
 | i+1=>by
  rw[lj];split
  ·exact oq cs M i
  ·rw[Kb];exact oq cs M i
theorem BC(cs:List Int)(M:MemS):∀i,i <= M.cs.length -> ∀k,(lj cs M i).cs.getD k 0=if k<i then cs.getD k 0 else M.cs.getD k 0
 | 0,_,k=>by rw[if_neg (Nat.not_lt_zero k)];rfl
 | i+1,h,k=>by
  have ih:=BC cs M i (by omega)
  have hl:=oq cs M i
  rw[lj]
  split
  ·next he =>
   unfold MemS.get at he
   rw[if_pos (by omega),Int.toNat_natCast] at he
   by_cases h1:k=i
   ·subst h1;rw[if_pos (by omega)];exact he
   ·rw[ih k]
    by_cases h2:k<i
    ·rw[if_pos h2,if_pos (by omega)]
    ·rw[if_neg h2,if_neg (by omega)]
  ·unfold MemS.set
   rw[if_pos (by omega),Int.toNat_natCast]
   by_cases h1:k=i
   ·subst h1
    rw[if_pos (by omega)]
    exact bF (by omega)
   ·show ((lj cs M i).cs.set i _).getD k 0=_
    rw[bj (λ e=>h1 e.symm),ih k]
    by_cases h2:k<i
    ·rw[if_pos h2,if_pos (by omega)]
    ·rw[if_neg h2,if_neg (by omega)]
theorem Gz{cs:List Int}{M:MemS}{n:Nat}(h:n=M.cs.length)(hc:n <= cs.length):(lj cs M n).cs=cs.take n:=by
 apply List.ext_getElem?
 intro k
 have h1:=BC cs M n (by omega) k
 have hl:=oq cs M n
 by_cases hk:k<n
 ·rw[if_pos hk,List.getD_eq_getElem?_getD,List.getD_eq_getElem?_getD,List.getElem?_eq_getElem (by omega),List.getElem?_eq_getElem (by omega)] at h1
  rw[List.getElem?_take,if_pos hk,List.getElem?_eq_getElem (by omega),List.getElem?_eq_getElem (by omega)]
  exact congrArg some h1
 ·rw[List.getElem?_eq_none (by omega),List.getElem?_eq_none (by rw[List.length_take];omega)]
theorem Kd(cs:List Int)(q n N cap:Nat)(F:HL)(hq:(q,.rows 1 N (aN cs) 3 (0,0))∈F)(hN:n <= N)(TC:48 <= n):Sp Tryz.prog 66 #[vS q 0 n cap] [] F (λ u H'=>u=.bool (decide (fN cs)) /\ H'=[]):=by
 refine Sp.run Tryz.func66 rfl (mc hq mn) (A:=[]) (Ts:=[]) rfl λ w0=>?_
 refine ae 20 (ow 0 20) λ n1=>RN.rounds 10<|ai 26 [.gen,.gen,.ix 1,.rorow 0 1 0] [(0+1*1)=1*1+0 /\ 1<N,1=((1:Nat):Int) /\ 1<n] λ _=>RN.en (cs.getD 1 0=0) 15 (λ h2=>?_) λ h2=>?_
 ·refine ai 35 [.gen,.gen,.gen,.ix 2,.rorow 0 2 0] [(0+2*1)=2*1+0 /\ 2<N,2=((2:Nat):Int) /\ 2<n] λ _=>RN.en (cs.getD 2 0=0) 15 (λ h3=>?_) λ h3=>?_
  ·refine ai 35 [.gen,.gen,.gen,.ix 3,.rorow 0 3 0] [(0+3*1)=3*1+0 /\ 3<N,3=((3:Nat):Int) /\ 3<n] λ _=>RN.en (cs.getD 3 0=0) 15 (λ h4=>?_) λ h4=>?_
   ·refine ai 35 [.gen,.gen,.gen,.ix 4,.rorow 0 4 0] [(0+4*1)=4*1+0 /\ 4<N,4=((4:Nat):Int) /\ 4<n] λ _=>RN.en (cs.getD 4 0=0) 15 (λ h5=>?_) λ h5=>?_
    ·refine ai 35 [.gen,.gen,.gen,.ix 5,.rorow 0 5 0] [(0+5*1)=5*1+0 /\ 5<N,5=((5:Nat):Int) /\ 5<n] λ _=>RN.en (cs.getD 5 0=0) 15 (λ h6=>?_) λ h6=>?_
     ·refine ai 35 [.gen,.gen,.gen,.ix 6,.rorow 0 6 0] [(0+6*1)=6*1+0 /\ 6<N,6=((6:Nat):Int) /\ 6<n] λ _=>RN.en (cs.getD 6 0=0) 15 (λ h7=>?_) λ h7=>?_
      ·refine ai 35 [.gen,.gen,.gen,.ix 7,.rorow 0 7 0] [(0+7*1)=7*1+0 /\ 7<N,7=((7:Nat):Int) /\ 7<n] λ _=>RN.en (cs.getD 7 0=0) 15 (λ h8=>?_) λ h8=>?_
       ·refine ai 35 [.gen,.gen,.gen,.ix 8,.rorow 0 8 0] [(0+8*1)=8*1+0 /\ 8<N,8=((8:Nat):Int) /\ 8<n] λ _=>RN.en (cs.getD 8 0=0) 15 (λ h9=>?_) λ h9=>?_
        ·refine ai 35 [.gen,.gen,.gen,.ix 9,.rorow 0 9 0] [(0+9*1)=9*1+0 /\ 9<N,9=((9:Nat):Int) /\ 9<n] λ _=>RN.en (cs.getD 9 0=0) 15 (λ Uf=>?_) λ Uf=>?_
         ·refine ai 35 [.gen,.gen,.gen,.ix 10,.rorow 0 10 0] [(0+10*1)=10*1+0 /\ 10<N,10=((10:Nat):Int) /\ 10<n] λ _=>RN.en (cs.getD 10 0=0) 15 (λ Sr=>?_) λ Sr=>?_
          ·refine ai 28 [.ix 0,.rorow 0 0 0] [(0+0*1)=0*1+0 /\ 0<N,0=((0:Nat):Int) /\ 0<n] λ _=>RN.em (cs.getD 0 0 >= 0) 21 (λ RE=>?_) λ RE=>?_
           ·refine ai 8 [.ix 0,.rorow 0 0 0] [(0+0*1)=0*1+0 /\ 0<N,0=((0:Nat):Int) /\ 0<n] λ _=>RN.ret [] [] [] (v:=.bool (decide (cs.getD 0 0 <= 6000))) (H':=[]) ?_
            exact⟨congrArg Value.bool (decide_eq_decide.2 ⟨λ h_=>by unfold fN;omega,λ h_=>by unfold fN at h_;omega⟩),rfl⟩
           ·refine ae 8 [] λ _=>RN.ret [] [] [] (v:=.bool false) (H':=[]) ?_
            exact⟨congrArg Value.bool (decide_eq_false (show ¬ fN cs from λ h_=>by unfold fN at h_;omega)).symm,rfl⟩
          ·refine ae 6 [] λ _=>RN.ret [] [] [] (v:=.bool false) (H':=[]) ?_
           exact⟨congrArg Value.bool (decide_eq_false (show ¬ fN cs from λ h_=>by unfold fN at h_;omega)).symm,rfl⟩
         ·refine ae 6 [] λ _=>RN.ret [] [] [] (v:=.bool false) (H':=[]) ?_
          exact⟨congrArg Value.bool (decide_eq_false (show ¬ fN cs from λ h_=>by unfold fN at h_;omega)).symm,rfl⟩
        ·refine ae 6 [] λ _=>RN.ret [] [] [] (v:=.bool false) (H':=[]) ?_
         exact⟨congrArg Value.bool (decide_eq_false (show ¬ fN cs from λ h_=>by unfold fN at h_;omega)).symm,rfl⟩
       ·refine ae 6 [] λ _=>RN.ret [] [] [] (v:=.bool false) (H':=[]) ?_
        exact⟨congrArg Value.bool (decide_eq_false (show ¬ fN cs from λ h_=>by unfold fN at h_;omega)).symm,rfl⟩
      ·refine ae 6 [] λ _=>RN.ret [] [] [] (v:=.bool false) (H':=[]) ?_
       exact⟨congrArg Value.bool (decide_eq_false (show ¬ fN cs from λ h_=>by unfold fN at h_;omega)).symm,rfl⟩
     ·refine ae 6 [] λ _=>RN.ret [] [] [] (v:=.bool false) (H':=[]) ?_
      exact⟨congrArg Value.bool (decide_eq_false (show ¬ fN cs from λ h_=>by unfold fN at h_;omega)).symm,rfl⟩
    ·refine ae 6 [] λ _=>RN.ret [] [] [] (v:=.bool false) (H':=[]) ?_
     exact⟨congrArg Value.bool (decide_eq_false (show ¬ fN cs from λ h_=>by unfold fN at h_;omega)).symm,rfl⟩
   ·refine ae 6 [] λ _=>RN.ret [] [] [] (v:=.bool false) (H':=[]) ?_
    exact⟨congrArg Value.bool (decide_eq_false (show ¬ fN cs from λ h_=>by unfold fN at h_;omega)).symm,rfl⟩
  ·refine ae 6 [] λ _=>RN.ret [] [] [] (v:=.bool false) (H':=[]) ?_
   exact⟨congrArg Value.bool (decide_eq_false (show ¬ fN cs from λ h_=>by unfold fN at h_;omega)).symm,rfl⟩
 ·refine ae 6 [] λ _=>RN.ret [] [] [] (v:=.bool false) (H':=[]) ?_
  exact⟨congrArg Value.bool (decide_eq_false (show ¬ fN cs from λ h_=>by unfold fN at h_;omega)).symm,rfl⟩
theorem xm(S:Setup)(bp gb mb:Nat)(cs:List Int)(q n N cap:Nat)(M:MemS)(k:Nat)(T U F:HL)(hM:MemH mb M (k+n) T)(hq:(q,.rows 1 N (aN cs) 3 (0,0))∈F)(hN:n <= N)(TC:48 <= M.cs.length):Sp Tryz.prog 35 #[vP gb 0,vS q 0 n cap] (ap [(gb,.lit (d8 S bp mb) 140 (0,0))] [T,U]) F (λ u H'=>∃x:HL,H'=ap [(gb,.lit (d8 S bp mb) 140 (0,0))] [x,U] /\ ((((n:Int)=(M.cs.length:Int) /\ fN cs) /\ u=vI 0 /\ MemH mb (lj cs M n) k x) \/ (¬ ((n:Int)=(M.cs.length:Int) /\ fN cs) /\ u=vI 1 /\ x=T))):=by
 have hl_:=hM.len
 refine Sp.run Tryz.func35 rfl (mc hq mn) (A:=[(gb,.lit (d8 S bp mb) 140 (0,0))]) (Ts:=[T,U]) rfl λ w0=>?_
 refine ae 14 [.own 0] λ _=>RN.cp (vh hM (ar 0))<|ae 2 [] λ _=>RN.en ((n:Int)=(M.cs.length:Int)) 15 (λ h1=>?_) λ h1=>?_
 ·refine ae 1 [] λ _=>RN.cp (Kd cs q n N cap _ (aq hq) hN (by omega))<|ae 4 [] λ _=>RN.en (fN cs) 19 (λ h2=>?_) λ h2=>?_
  ·refine ae 12 [] λ _=>RN.loop (σ:=Nat × HL) (λ ⟨i,T_⟩=>⟨[(0,vP gb 0),(20,vS q 0 n cap),(21,vI (n:Int)),(22,vI (i:Int))],[(gb,.lit (d8 S bp mb) 140 (0,0))],[T_,U],i <= n /\ MemH mb (lj cs M i) (k+(n-i)) T_,n-i⟩) (0,T) [0] [0,1] (⟨Nat.zero_le _,hM⟩) ?_
   rintro⟨i,T_⟩ ⟨RT,SW⟩ mt4
   refine ae 6 [] λ _=>RN.em ((i:Int)<(n:Int)) 23 (λ h5=>?_) λ h5=>?_
   ·refine ae 7 [] λ _=>?_
    replace SW:=SW.weak (k':=k+(n-(i+1))+1) (by omega)
    refine ai 14 [.ix i,.rorow 0 i 0,.own 0] [(0+i*1)=i*1+0 /\ i<N,(i:Int)=((i:Nat):Int) /\ i<n] λ _=>RN.cp (aw (i:Int) SW (ar 0))<|ae 4 [] λ _=>RN.en ((lj cs M i).get (i:Int)=cs.getD i 0) 34 (λ h6=>?_) λ h6=>?_
    ·refine ai 8 [.nw] [aU ((i:Int)+1)] λ _=>?_
     refine mt4 (i+1,T_) [0] [0,1] ?_
     try dsimp only
     exact⟨⟨by omega,SW.cast (by rw[lj,if_pos h6]) (by omega)⟩,by omega⟩
    ·refine ae 8 [.own 0] λ _=>RN.ct [] [0] (aj (i:Int) (cs.getD i 0) SW) ?_
     rintro _ T7 Sw
     refine ai 7 [.nw] [aU ((i:Int)+1)] λ _=>?_
     refine mt4 (i+1,T7) [0] [0,1] ?_
     try dsimp only
     exact⟨⟨by omega,Sw.cast (by rw[lj,if_neg h6]) (by omega)⟩,by omega⟩
   ·refine ae 11 [] λ _=>RN.ret [] [0] [0,1] (v:=vI 0) (H':=(ap [(gb,.lit (d8 S bp mb) 140 (0,0))] [T_,U])) ?_
    obtain rfl:i=n:=by omega
    exact⟨T_,rfl,.inl ⟨⟨by omega,by assumption⟩,rfl,SW.weak (by omega)⟩⟩
  ·refine ae 6 [] λ _=>RN.ret [] [0] [0,1] (v:=vI 1) (H':=(ap [(gb,.lit (d8 S bp mb) 140 (0,0))] [T,U])) ?_
   exact⟨T,rfl,.inr ⟨λ h_=>by first|exact absurd h_.2 (by assumption)|omega,rfl,rfl⟩⟩
 ·refine ae 12 [] λ _=>RN.ret [] [0] [0,1] (v:=vI 1) (H':=(ap [(gb,.lit (d8 S bp mb) 140 (0,0))] [T,U])) ?_
  exact⟨T,rfl,.inr ⟨λ h_=>by first|exact absurd h_.2 (by assumption)|omega,rfl,rfl⟩⟩
theorem MemH.len2{mb:Nat}{M:MemS}{k:Nat}{T:HL}(h:MemH mb M k T):M.lg.length+k <= 100000000:=by
 cases h with
 | mk cb A cap Hl hs hc hl=>exact hl
def OH(na nb:Nat)(xs ys:List Int):Prop:=na=nb /\ ∀k,k<na -> xs.getD k 0=ys.getD k 0
instance (na nb:Nat) (xs ys:List Int):Decidable (OH na nb xs ys):=inferInstanceAs (Decidable (_ /\ _))
def j4(x:Inp):Prop:=(¬ x.dx < -1 /\ ¬ x.dx>1) /\ (¬ x.dy < -1 /\ ¬ x.dy>1) /\ ¬ x.act<0 /\ ¬ x.act>3
instance (x:Inp):Decidable (j4 x):=inferInstanceAs (Decidable (_ /\ _))
def fF(pl:Int)(n:Nat)(xs:List Inp)(now:Int):Int:=if (n:Int)=pl then (if ∀k,k<n -> j4 (xs.getD k dI) then (if now >= 6000 then 2 else 0) else 1) else 17
theorem xn(mb cb n:Nat)(A:Option Addr)(m cap:Nat)(base:Int)(F:HL)(hm:(mb,.lit [vS cb 0 n n,.slice A m cap,vI base] 186 (0,0))∈F):Sp Tryz.prog 72 #[vP mb 0] [] F (λ u H'=>u=vI (bg (base+(m:Int))) /\ H'=[]):=by
 refine Sp.run Tryz.func72 rfl (mc hm mn) (A:=[]) (Ts:=[]) rfl λ w0=>?_
 refine ae 6 [] λ _=>RN.draw [] []<|ag [] [0,4,1,5,2,6,3,7,8,9,10] [.ro 0,.ro 0]<|RD.fin<|ae 1 [] λ _=>?_
 exact RN.ret [] [] [] ⟨rfl,rfl⟩
theorem xo{mb:Nat}{M:MemS}{k:Nat}{T F:HL}(h:MemH mb M k T)(hs:∀x∈T,x∈F):Sp Tryz.prog 72 #[vP mb 0] [] F (λ u H'=>u=vI (bg (M.base+(M.lg.length:Int))) /\ H'=[]):=by
 cases h with
 | mk cb A cap Hl Uo hc hl=>exact xn mb cb M.cs.length A M.lg.length cap M.base F (hs _ (by simp))
theorem xp(S:Setup)(bp gb mb:Nat)(M:MemS)(k:Nat)(T F:HL)(hg:(gb,.lit (d8 S bp mb) 140 (0,0))∈F)(hM:MemH mb M k T)(hT:∀x∈T,x∈F):Sp Tryz.prog 121 #[vP gb 0] [] F (λ u H'=>u=vI (M.get 0) /\ H'=[]):=by
 refine Sp.run Tryz.func121 rfl (mc hg mn) (A:=[]) (Ts:=[]) rfl λ w0=>?_
 refine ae 11 [.ro 0] λ _=>RN.cp (aw 0 hM (λ x hx=>aq (hT x hx)))<|ae 3 [] λ _=>?_
 exact RN.ret [] [] [] ⟨rfl,rfl⟩
theorem zK(S:Setup)(bp gb mb:Nat)(M:MemS)(k:Nat)(A:Option Addr)(n cap:Nat)(xs:List Inp)(T F:HL)(hg:(gb,.lit (d8 S bp mb) 140 (0,0))∈F)(hM:MemH mb M k T)(hT:∀x∈T,x∈F)(hl:RowL eE 119 F A n xs)(hn:n <= 1000000):Sp Tryz.prog 101 #[vP gb 0,.slice A n cap] [] F (λ u H'=>u=vI (fF S.players n xs (M.get 0)) /\ H'=[]):=by
 refine Sp.run Tryz.func101 rfl (mc hg mn) (A:=[]) (Ts:=[]) rfl λ w0=>?_
 refine ae 18 [.ro 0] λ _=>RN.en ((n:Int)=S.players) 14 (λ h1=>?_) λ h1=>?_
 ·refine ae 12 [] λ _=>RN.loop (σ:=Nat) (λ k_=>⟨[(0,vP gb 0),(15,.slice A n cap),(16,vI (n:Int)),(17,vI (k_:Int))],[],[],k_ <= n /\ ∀t,t<k_ -> j4 (xs.getD t dI),n-k_⟩) 0 [] [] (⟨Nat.zero_le _,λ t ht=>absurd ht (Nat.not_lt_zero _)⟩) ?_
  rintro k_ ⟨hkl,dO⟩ Ri
  refine ae 6 [] λ _=>RN.em ((k_:Int)<(n:Int)) 18 (λ h4=>?_) λ h4=>?_
  ·refine ae 7 [] λ _=>?_
   obtain⟨qx5,AS,TH,fx5,Za,R_,TN,Yk,TU⟩:=hl.at (k:=k_) (by omega)
   refine aB 15 (congrArg (λ v_=>(.slice v_ n cap:Value)) R_)<|RN.ro (λ _=>(mc hg (mc TN mn)))<|ai 2 [.ix k_,.rorow 1 (AS+k_) 0,.rorow 1 (AS+k_) 1,.rorow 1 (AS+k_) 2] [((AS*3+k_*3)+2)=(AS+k_)*3+2 /\ (AS+k_)<TH,((AS*3+k_*3)+1)=(AS+k_)*3+1 /\ (AS+k_)<TH,(AS*3+k_*3)=(AS+k_)*3+0 /\ (AS+k_)<TH,(k_:Int)=((k_:Nat):Int) /\ k_<n] λ _=>aB 20 (congrArg (λ v_=>(.agg #[vI v_.dx,vI v_.dy,vI v_.act]:Value)) TU)<|ae 10 [.own 0,.own 0,.own 0,.own 0] λ n6=>RN.em ((xs.getD k_ dI).dx<(-1)) 24 (λ h7=>?_) λ h7=>?_
   ·refine ae 32 [] λ _=>RN.ret [] [] [] (v:=vI 1) (H':=[]) ?_
    exact⟨by rw[fF,if_pos (by omega),if_neg (λ h_=>by have Rj:=h_ k_ (by omega);unfold j4 at Rj;omega)],rfl⟩
   ·refine ae 5 [.own 0] λ _=>RN.em ((xs.getD k_ dI).dx>1) 29 (λ h8=>?_) λ h8=>?_
    ·refine ae 27 [] λ _=>RN.ret [] [] [] (v:=vI 1) (H':=[]) ?_
     exact⟨by rw[fF,if_pos (by omega),if_neg (λ h_=>by have Rj:=h_ k_ (by omega);unfold j4 at Rj;omega)],rfl⟩
    ·refine ae 5 [.own 0] λ _=>RN.em ((xs.getD k_ dI).dy<(-1)) 34 (λ h9=>?_) λ h9=>?_
     ·refine ae 22 [] λ _=>RN.ret [] [] [] (v:=vI 1) (H':=[]) ?_
      exact⟨by rw[fF,if_pos (by omega),if_neg (λ h_=>by have Rj:=h_ k_ (by omega);unfold j4 at Rj;omega)],rfl⟩
     ·refine ae 5 [.own 0] λ _=>RN.em ((xs.getD k_ dI).dy>1) 39 (λ Uf=>?_) λ Uf=>?_
      ·refine ae 17 [] λ _=>RN.ret [] [] [] (v:=vI 1) (H':=[]) ?_
       exact⟨by rw[fF,if_pos (by omega),if_neg (λ h_=>by have Rj:=h_ k_ (by omega);unfold j4 at Rj;omega)],rfl⟩
      ·refine ae 5 [.own 0] λ _=>RN.em ((xs.getD k_ dI).act<0) 44 (λ Sr=>?_) λ Sr=>?_
       ·refine ae 12 [] λ _=>RN.ret [] [] [] (v:=vI 1) (H':=[]) ?_
        exact⟨by rw[fF,if_pos (by omega),if_neg (λ h_=>by have Rj:=h_ k_ (by omega);unfold j4 at Rj;omega)],rfl⟩
       ·refine ae 6 [.own 0] λ _=>RN.em ((xs.getD k_ dI).act>3) 48 (λ RE=>?_) λ RE=>?_
        ·refine ae 6 [] λ _=>RN.ret [] [] [] (v:=vI 1) (H':=[]) ?_
         exact⟨by rw[fF,if_pos (by omega),if_neg (λ h_=>by have Rj:=h_ k_ (by omega);unfold j4 at Rj;omega)],rfl⟩
        ·refine ai 8 [.nw] [aU ((k_:Int)+1)] λ _=>aB 15 (congrArg (λ v_=>(.slice v_ n cap:Value)) R_.symm) ?_
         refine Ri (k_+1) [] [] ?_
         try dsimp only
         refine⟨⟨by omega,λ t ht=>?_⟩,by omega⟩
         rcases Nat.lt_or_ge t k_ with h_|h_
         ·exact dO t h_
         ·obtain rfl:t=k_:=by omega
          exact⟨⟨h7,h8⟩,⟨h9,Uf⟩,Sr,RE⟩
  ·refine ae 10 [] λ _=>RN.cp (xp S bp gb mb M k T _ (aq hg) hM (λ x hx=>aq (hT x hx)))<|ae 3 [] λ _=>RN.em (M.get 0 >= 6000) 52 (λ Sq=>?_) λ Sq=>?_
   ·refine ae 6 [] λ _=>RN.ret [] [] [] (v:=vI 2) (H':=[]) ?_
    exact⟨by rw[fF,if_pos (by omega),if_pos (λ t ht=>dO t (by omega)),if_pos (by omega)],rfl⟩
   ·refine ae 8 [] λ _=>RN.ret [] [] [] (v:=vI 0) (H':=[]) ?_
    exact⟨by rw[fF,if_pos (by omega),if_pos (λ t ht=>dO t (by omega)),if_neg (by omega)],rfl⟩
 ·refine ae 6 [] λ _=>RN.ret [] [] [] (v:=vI 17) (H':=[]) ?_
  exact⟨by rw[fF,if_neg (by omega)],rfl⟩
theorem DC(gb ib io ni ic:Nat)(F:HL):Sp Tryz.prog 104 #[vP gb 0,vS ib (io*3) ni ic] (ap [] []) F (λ u H'=>∃n:Nat,H'=ap [((n+1),.lit [vS ib (io*3) ni ic] 54 (0,0)),((n+0),.lit [vP gb 0] 83 (0,0))] [] /\ u=.func (.func 123) #[] #[vP (n+0) 0,vP (n+1) 0]):=by
 refine Sp.run Tryz.func104 rfl mn (A:=[]) (Ts:=[]) rfl λ w0=>?_
 refine ae 13 [] λ n1=>RN.ret [] [0,1] [] (v:=.func (.func 123) #[] #[vP (n1+0) 0,vP (n1+1) 0]) (H':=(ap [((n1+1),.lit [vS ib (io*3) ni ic] 54 (0,0)),((n1+0),.lit [vP gb 0] 83 (0,0))] [])) ?_
 exact⟨_,rfl,rfl⟩
end Go.Proofs.YtgdcbiiopbpgaaaGreatDoor
