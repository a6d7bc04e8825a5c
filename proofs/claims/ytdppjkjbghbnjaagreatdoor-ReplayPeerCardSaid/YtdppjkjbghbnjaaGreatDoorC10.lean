import Derived.Test.YtdppjkjbghbnjaaGreatDoorC09
set_option maxHeartbeats 4000000
set_option maxRecDepth 100000
set_option linter.all false
namespace Go.Proofs.YtdppjkjbghbnjaaGreatDoor
open Go.RowKit
def jA(S:Setup):List Bod:=(List.range S.nb).map S.body
theorem fP(S:Setup):(jA S).length=S.nb:=by simp[jA]
theorem iJ{S:Setup}{k:Nat}(h:k<S.nb):(jA S).getD k dB=S.body k:=by simp[jA,h]
theorem tM{F:HL}{S:Setup}(hS:SetSh F S):RowL kZ 90 F (some ⟨S.bb,S.bo*9,none⟩) S.nb (jA S) :=
 .rows S.bb S.bo S.bR S.bods (0,0) S.nb (jA S) hS.blk hS.room (fP S) (λ k hk=>(iJ hk).symm)
theorem ClS.open{α:Type}{e:Enc α}{T:TypeId}{xs:List α}{A:Option Addr}{c:Nat}{Hl:HL}(h:ClS e T xs A c Hl)(hx:0<xs.length):∃b,A=some ⟨b,0,none⟩ /\ Hl=[(b,.rows e.w c (aL e xs) T (0,0))] /\ xs.length <= c:=by
 obtain⟨A0,h⟩:=h;rcases h with ⟨rfl,_⟩|⟨b,h1,h2,h3⟩
 ·simp at hx
 ·exact⟨b,h1,h2,h3⟩
structure SetCl(F:HL)(S:Setup):Prop extends SetN S where
 blk:(S.bb,.rows 9 S.bR (je S.bods) 90 (0,0))∈F
 room:S.bo+S.nb <= S.bR
 shp:∀k,k<S.nb -> (RowL lw 29 F (S.body k).sh.A (S.body k).sh.poly.length (S.body k).sh.poly /\ (S.body k).sh.poly.length <= 1000000) /\ ((S.body k).sh.poly=[] \/ 3 <= (S.body k).sh.poly.length)
theorem SetIn.cl{F:HL}{S:Setup}(h:SetIn F S):SetCl F S:=⟨h.toSetN,h.blk,h.room,λ k hk=>⟨(h.shp k hk).rowL,by
 have h1:=h.shp k hk;generalize (S.body k).sh=s at h1;cases h1 with
 | circle r A cap=>exact .inl rfl
 | poly r l b cap h h3 h4 h5=>exact .inr h3⟩⟩
theorem SetCl.up{F X:HL}{S:Setup}(h:SetCl F S):SetCl (X++F) S:=⟨h.toSetN,aay _ h.blk,h.room,λ k hk=>⟨⟨(h.shp k hk).1.1.up,(h.shp k hk).1.2⟩,(h.shp k hk).2⟩⟩
theorem SetCl.toSh{F:HL}{S:Setup}(h:SetCl F S):SetSh F S:=⟨h.nb,h.blk,h.room,λ k hk=>(h.shp k hk).1⟩
theorem tN{s:Shp}(h:s.poly=[] \/ 3 <= s.poly.length)(hl:s.poly.length <= 1000000){A:Option Addr}{c:Nat}{T:HL}(hc:ClS lw 29 s.poly A c T):ShH ⟨s.r,s.poly,A,c⟩ T:=by
 intro F' hF;rcases h with h|h
 ·rw[h];exact .circle _ _ _
 ·obtain⟨b2,rfl,rfl,h6⟩:=hc.open (by omega);exact .poly _ _ _ _ (hF _ (List.mem_singleton.2 rfl)) h h6 hl
def Bod.at(b:Bod)(A:Option Addr)(c:Nat):Bod:=⟨⟨b.sh.r,b.sh.poly,A,c⟩,b.mot,b.a,b.b⟩
theorem dC{α:Type}{l:List α}{i:Nat}{x d:α}(h:i<l.length):(l.set i x).getD i d=x:=by simp[h]
theorem cW{α:Type}{l:List α}{i k:Nat}{x d:α}(h:¬ i=k):(l.set i x).getD k d=l.getD k d:=by simp[List.getElem?_set,h]
theorem Ce{l:List Bod}{i:Nat}(h:i<l.length)(A:Option Addr)(c:Nat):cT (je l) i 1 (.slice A (l.getD i dB).sh.poly.length c)=je (l.set i ((l.getD i dB).at A c)):=by
 funext j k;unfold cT
 by_cases h1:j=i
 ·subst h1;show _=kZ.cell ((l.set j ((l.getD j dB).at A c)).getD j dB) k;rw[dC h]
  by_cases h2:k=1
  ·subst h2;simp;rfl
  ·rw[if_neg (by simp[h2])];show kZ.cell (l.getD j dB) k=_;rcases k with _|_|k
   ·rfl
   ·exact absurd rfl h2
   ·rcases k with _|_|_|_|_|_|k <;> rfl
 ·rw[if_neg (by simp[h1])];show kZ.cell (l.getD j dB) k=kZ.cell ((l.set i _).getD j dB) k;rw[cW (λ e=>h1 e.symm)]
structure SetEq(S S':Setup):Prop where
 nums:S'.players=S.players /\ S'.nb=S.nb /\ S'.box=S.box /\ S'.rn=S.rn /\ S'.dn=S.dn /\ S'.fog=S.fog /\ S'.g=S.g /\ S'.push=S.push /\ S'.drag=S.drag /\ S'.rest=S.rest /\ S'.rounds=S.rounds /\ S'.fuel=S.fuel
 bod:∀k,k<S.nb -> ∃A c,S'.body k=(S.body k).at A c
 whole:S'.bo=0 /\ S'.bods.length=S.nb
def rq(S:Setup)(rs:List Bx)(ds:List Dr)(U:HL):Prop:=∀F,(∀y∈U,y∈F) -> SetIn F S /\ MapIn F S rs ds
theorem Ar(S:Setup)(rs:List Bx)(ds:List Dr)(F:HL)(hS:SetCl F S)(hM:MapIn F S rs ds)(h1:1 <= S.nb)(Sq:S.rn <= 1000000)(Ut:S.dn <= 1000000):Sp Tryz.prog 86 #[Setup.v S] (ap [] []) F (λ u H'=>∃x:Setup × HL,H'=ap [] [x.2] /\ (u=Setup.v x.1 /\ SetEq S x.1 /\ rq x.1 rs ds x.2)):=by
 have hp:=hS.pl;have hn:=hS.nb;have hr:=hS.room;refine aau Tryz.func86 rfl (mc hS.blk mn) (A:=[]) (Ts:=[]) rfl λ w0=>?_;refine ae 10 [.own 1] λ n1=>aaj (Hp:=[]) (Tp:=[]) [] [] (lx (some ⟨S.bb,S.bo*9,none⟩) S.nb S.bc (jA S) _ (RowL.src uW (by decide) (tM hS.toSh).up) (by omega)) ?_;rintro _ ⟨A2,c3,T4⟩ ⟨rfl,hc5⟩;dsimp only at hc5;refine ae 7 [.own 1] λ _=>?_;obtain⟨bb,rfl,rfl,SX⟩:=hc5.open (by rw[fP];omega);have hcap:S.nb <= c3:=by rw[fP] at SX;exact SX
 refine tc 0 (x:=(bb,.rows 9 c3 (je (jA S)) 90 (0,0)))<|ae 7 [.own 2] λ _=>aap<|aao (σ:=Nat × List Bod × HL) (λ ⟨i,bods,U_⟩=>⟨[(1,vP (n1+0) 0),(2,vP (n1+1) 0),(10,vI (S.nb:Int)),(11,vI (i:Int))],[(bb,.rows 9 c3 (je bods) 90 (0,0)),((n1+1),.lit [vI 0,.slice none 0 0,vI 0,vI 0,vI 0,vI 0,.slice none 0 0,.slice none 0 0,vI 0,vI 0,vI 0,vI 0,vI 0,vI 0,vI 0,vI 0] 31 (0,0)),((n1+0),.lit [vI S.players,vS bb 0 S.nb c3,vI S.box.x0,vI S.box.y0,vI S.box.x1,vI S.box.y1,.slice S.rA S.rn S.rc,.slice S.dA S.dn S.dc,vI S.fog,vI S.g.x,vI S.g.y,vI S.push,vI S.drag,vI S.rest,vI S.rounds,vI S.fuel] 31 (0,0))],[U_],i <= S.nb /\ bods.length=S.nb /\ (∀k,k<S.nb -> ∃A c,bods.getD k dB=(S.body k).at A c) /\ (∀k,k<i -> ShH (bods.getD k dB).sh U_) /\ ∀k,i <= k -> k<S.nb -> bods.getD k dB=S.body k,S.nb-i⟩) (0,jA S,[]) [0,1,2] [0] (⟨aaL _,fP S,λ k hk=>⟨_,_,iJ hk⟩,λ k hk=>absurd hk (Nat.not_lt_zero _),λ k _ hk=>iJ hk⟩) ?_;rintro⟨i,bods,U_⟩ ⟨UD,SD,UO,UN,Vt⟩ Xt;refine ae 6 [] λ _=>aam ((i:Int)<(S.nb:Int)) 12 (λ h8=>?_) λ h8=>?_
 ·refine ae 7 [] λ _=>?_;have Ul:(RowL lw 29 F (bods.getD i dB).sh.A (bods.getD i dB).sh.poly.length (bods.getD i dB).sh.poly /\ (bods.getD i dB).sh.poly.length <= 1000000) /\ ((bods.getD i dB).sh.poly=[] \/ 3 <= (bods.getD i dB).sh.poly.length):=by rw[Vt i (aaK _) (by omega)];exact hS.shp i (by omega)
  have TI:=Ul.1.1;have ZA:(bods.getD i dB).sh.poly.length <= 100000000:=by have:=Ul.1.2;omega
  refine ae 4 [] λ _=>aal [14] []<|aA [] [0,2,3,5,1,4,6,7,8,9] [.own 2,.own 2,.ix i,.row 0 i 1] [((0+i*9)+1)=i*9+1 /\ i<c3,(i:Int)=((i:Nat):Int) /\ i<S.nb]<|aae 10 (aaf [] (Hp:=[]) (Tp:=[]) [] [] (mC ((bods.getD i dB).sh.A) ((bods.getD i dB).sh.poly.length) ((bods.getD i dB).sh.cap) ((bods.getD i dB).sh.poly) _ (RowL.src An (by decide) TI.up) ZA) ?_);rintro _ ⟨A9,Xr,OF⟩ ⟨rfl,W0⟩;dsimp only at W0;refine aA [] [11,12,13] [.ix i] [(i:Int)=((i:Nat):Int) /\ i<S.nb]<|aae 14 (dM [] [.row 0 i 1] [((0+i*9)+1)=i*9+1 /\ i<c3] λ _=>?_);refine aad<|ai 6 [.nw] [bn ((i:Int)+1)] λ _=>aah 0 (congrArg (λ v_=>(.rows 9 c3 v_ 90 (0,0):Blk)) (show (cT (je bods) i 1 (.slice A9 ((bods.getD i dB).sh.poly.length) Xr))=(je (bods.set i ((bods.getD i dB).at A9 Xr))) from (Ce (by omega) A9 Xr)))<|ll [1,0]<|my ?_;refine Xt (i+1,(bods.set i ((bods.getD i dB).at A9 Xr)),U_++OF) [0,1,2] [0] ?_
  try dsimp only
  refine⟨⟨by omega,by rw[List.length_set];exact SD,λ t ht=>?_,λ t ht=>?_,λ t YV S7=>?_⟩,by omega⟩
  ·rcases Decidable.em (i=t) with rfl|h_
   ·rw[dC (by omega),Vt i (aaK _) ht];exact⟨_,_,rfl⟩
   ·rw[cW h_];exact UO t ht
  ·rcases Decidable.em (i=t) with rfl|h_
   ·rw[dC (by omega)];exact ShH.right (tN Ul.2 Ul.1.2 W0)
   ·rw[cW h_];exact(UN t (by omega)).left
  ·rw[cW (by omega)];exact Vt t (by omega) S7
 ·refine ae 10 [.own 2] λ _=>aaj (Hp:=[]) (Tp:=[]) [] [] (mD S.rA S.rn S.rc rs _ (RowL.src Ht (by decide) hM.rooms.up) (by omega)) ?_;rintro _ ⟨A13,c14,SP⟩ ⟨rfl,WZ⟩;dsimp only at WZ;refine ae 8 (ow 2 2) λ _=>aaj (Hp:=[]) (Tp:=[]) [] [] (ly S.dA S.dn S.dc ds _ (RowL.src Hu (by decide) hM.doors.up) (by omega)) ?_;rintro _ ⟨A17,c18,VB⟩ ⟨rfl,WY⟩;dsimp only at WY;refine ae 10 (ow 2 17++ow 1 16) λ _=>aaq (ow 1 16) [0] [0,1,2] (v:=.agg #[vI S.players,vS bb 0 S.nb c3,vI S.box.x0,vI S.box.y0,vI S.box.x1,vI S.box.y1,.slice A13 S.rn c14,.slice A17 S.dn c18,vI S.fog,vI S.g.x,vI S.g.y,vI S.push,vI S.drag,vI S.rest,vI S.rounds,vI S.fuel]) (H':=(ap [(bb,.rows 9 c3 (je bods) 90 (0,0))] [VB,SP,U_])) ?_;have ei:i=S.nb:=by omega
  subst ei;have UY:∀k,bods.getD (0+k) dB=bods.getD k dB:=λ k=>by rw[Nat.zero_add]
  refine⟨((⟨S.players,bb,0,S.nb,c3,c3,bods,S.box,A13,S.rn,c14,A17,S.dn,c18,S.fog,S.g,S.push,S.drag,S.rest,S.rounds,S.fuel⟩:Setup),[(bb,.rows 9 c3 (je bods) 90 (0,0))]++(VB++SP++U_)),(by simp[ap]),rfl,⟨⟨rfl,rfl,rfl,rfl,rfl,rfl,rfl,rfl,rfl,rfl,rfl,rfl⟩,λ k hk=>?_,rfl,SD⟩,λ F2 hF=>⟨⟨⟨hp,by omega⟩,hF _ (by simp),(by show 0+S.nb <= c3;omega),λ k hk=>?_⟩,?_,?_⟩⟩
  ·obtain⟨A,c,h⟩:=UO k hk;exact⟨A,c,by show bods.getD (0+k) dB=_;rw[UY];exact h⟩
  ·show ShIn F2 (bods.getD (0+k) dB).sh;rw[UY];exact UN k hk F2 λ x hx=>hF x (by simp[hx])
  ·have h_:=WZ.rowL (F:=F2) λ x hx=>hF x (by simp[hx]);rw[hM.rooms.len] at h_;exact h_
  ·have h_:=WY.rowL (F:=F2) λ x hx=>hF x (by simp[hx]);rw[hM.doors.len] at h_;exact h_
theorem Au{S:Setup}(h:SetN S){i:Nat}(hi:i<S.nb):cT (cT (cT (cT (cT (cT (aE (cV S i)) ((af S i).toNat+0) 0 (vI (S.body i).mot.px)) ((af S i).toNat+1) 0 (vI (S.body i).mot.py)) ((af S i).toNat+2) 0 (vI (S.body i).mot.vx)) ((af S i).toNat+3) 0 (vI (S.body i).mot.vy)) ((af S i).toNat+4) 0 (vI (S.body i).a)) ((af S i).toNat+5) 0 (vI (S.body i).b)=aE (cV S (i+1)):=by
 have hb:=oU h hi;rw[<- Et h hi];rw[show (af S i+1).toNat=(af S i).toNat+1 by omega,show (af S i+2).toNat=(af S i).toNat+2 by omega,show (af S i+3).toNat=(af S i).toNat+3 by omega,show (af S i+4).toNat=(af S i).toNat+4 by omega,show (af S i+5).toNat=(af S i).toNat+5 by omega];rfl
theorem Ez(S:Setup)(F:HL)(hS:SetCl F S):Sp Tryz.prog 88 #[Setup.v S] (ap [] []) F (λ u H'=>∃q,H'=ap [(q,.rows 1 (sizeOf S).toNat (aE (cV S S.nb)) 3 (0,0))] [] /\ u=vS q 0 (sizeOf S).toNat (sizeOf S).toNat):=by
 have hp:=hS.pl;have hn:=hS.nb;have hr:=hS.room;have hz:=Es hS.toSetN;refine aau Tryz.func88 rfl (mc hS.blk mn) (A:=[]) (Ts:=[]) rfl λ w0=>?_;refine ae 13 [.own 0] λ n1=>aam (S.players<0) 10 (λ h2=>?_) λ h2=>?_
 ·(exfalso;omega)
 ·refine ae 6 [.own 0] λ _=>aam (S.players>1048576) 14 (λ h3=>?_) λ h3=>?_
  ·(exfalso;omega)
  ·refine ae 6 (ow 0 16) λ _=>aai (Dz S _ hS.toSetN)<|ai 14 [.mk ((sizeOf S).toNat) ((sizeOf S).toNat),.own 1] [sizeOf S=(((sizeOf S).toNat:Nat):Int) /\ sizeOf S=(((sizeOf S).toNat:Nat):Int) /\ (sizeOf S).toNat <= (sizeOf S).toNat /\ 8*((sizeOf S).toNat) <= 140737488355328 /\ 1=1 /\ (sizeOf S).toNat <= 9223372036854775807] λ n4=>aah 0 (congrArg (λ v_=>(.rows 1 ((sizeOf S).toNat) v_ 3 (0,0):Blk)) (show (kX [vI 0])=(aE (cV S 0)) from (by rw[tG (sizeOf S).toNat] <;> rfl)))<|aao (σ:=Nat) (λ i=>⟨[(1,vP (n1+0) 0),(3,vS (n4+0) 0 ((sizeOf S).toNat) ((sizeOf S).toNat)),(19,vS S.bb (S.bo*9) S.nb S.bc),(20,vI (S.nb:Int)),(21,vI (i:Int))],[((n4+0),.rows 1 ((sizeOf S).toNat) (aE (cV S i)) 3 (0,0)),((n1+0),.lit (Setup.l S) 31 (0,0))],[],i <= S.nb,S.nb-i⟩) 0 [0,1] [] (aaL _) ?_;rintro i hI5 XI;refine ae 6 [] λ _=>aam ((i:Int)<(S.nb:Int)) 22 (λ h7=>?_) λ h7=>?_
   ·have hbi:=oU hS.toSetN (i:=i) (by omega);refine ai 20 ([.ix i,.rorow 0 (S.bo+i) 0,.rorow 0 (S.bo+i) 1,.rorow 0 (S.bo+i) 2,.rorow 0 (S.bo+i) 3,.rorow 0 (S.bo+i) 4,.rorow 0 (S.bo+i) 5,.rorow 0 (S.bo+i) 6,.rorow 0 (S.bo+i) 7,.rorow 0 (S.bo+i) 8]++ow 0 9++ow 2 16) [((S.bo*9+i*9)+8)=(S.bo+i)*9+8 /\ (S.bo+i)<S.bR,((S.bo*9+i*9)+7)=(S.bo+i)*9+7 /\ (S.bo+i)<S.bR,((S.bo*9+i*9)+6)=(S.bo+i)*9+6 /\ (S.bo+i)<S.bR,((S.bo*9+i*9)+5)=(S.bo+i)*9+5 /\ (S.bo+i)<S.bR,((S.bo*9+i*9)+4)=(S.bo+i)*9+4 /\ (S.bo+i)<S.bR,((S.bo*9+i*9)+3)=(S.bo+i)*9+3 /\ (S.bo+i)<S.bR,((S.bo*9+i*9)+2)=(S.bo+i)*9+2 /\ (S.bo+i)<S.bR,((S.bo*9+i*9)+1)=(S.bo+i)*9+1 /\ (S.bo+i)<S.bR,(S.bo*9+i*9)=(S.bo+i)*9+0 /\ (S.bo+i)<S.bR,(i:Int)=((i:Nat):Int) /\ i<S.nb] λ n8=>aai (cQ S (i:Int) _ hS.toSetN) ?_;have hb9:=cP hS.toSetN (i:Int);refine ai 5 [.sl ((af S (i:Int)).toNat) ((sizeOf S).toNat) false] [af S (i:Int)=(((af S (i:Int)).toNat:Nat):Int) /\ (sizeOf S).toNat=(sizeOf S).toNat /\ (af S (i:Int)).toNat <= (sizeOf S).toNat /\ (sizeOf S).toNat <= (sizeOf S).toNat /\ (sizeOf S).toNat≠(af S (i:Int)).toNat] λ _=>aal [11,13] [0,2]<|aA [0,2] [0,1,2,6,3,7,4,8,5,9,10] [.own 0,.ro 0,.ix 0] [0=((0:Nat):Int) /\ 0<((sizeOf S).toNat-(af S (i:Int)).toNat)]<|aae 11 (dM [0,2] [.row 1 (((af S (i:Int)).toNat)+0) 0] [((0+((af S (i:Int)).toNat)*1)+0*1)=(((af S (i:Int)).toNat)+0)*1+0 /\ (((af S (i:Int)).toNat)+0)<((sizeOf S).toNat)] λ _=>?_);refine aA [0,2] [12] [.ix 1] [1=((1:Nat):Int) /\ 1<((sizeOf S).toNat-(af S (i:Int)).toNat)]<|aae 13 (dM [0,2] [.row 1 (((af S (i:Int)).toNat)+1) 0] [((0+((af S (i:Int)).toNat)*1)+1*1)=(((af S (i:Int)).toNat)+1)*1+0 /\ (((af S (i:Int)).toNat)+1)<((sizeOf S).toNat)] λ _=>?_);refine aad<|ae 2 [] λ _=>aal [11,13] [0,2]<|aA [0,2] [0,1,2,6,3,7,4,8,5,9,10] [.own 0,.ro 0,.ix 2] [2=((2:Nat):Int) /\ 2<((sizeOf S).toNat-(af S (i:Int)).toNat)]<|aae 11 (dM [0,2] [.row 1 (((af S (i:Int)).toNat)+2) 0] [((0+((af S (i:Int)).toNat)*1)+2*1)=(((af S (i:Int)).toNat)+2)*1+0 /\ (((af S (i:Int)).toNat)+2)<((sizeOf S).toNat)] λ _=>?_);refine aA [0,2] [12] [.ix 3] [3=((3:Nat):Int) /\ 3<((sizeOf S).toNat-(af S (i:Int)).toNat)]<|aae 13 (dM [0,2] [.row 1 (((af S (i:Int)).toNat)+3) 0] [((0+((af S (i:Int)).toNat)*1)+3*1)=(((af S (i:Int)).toNat)+3)*1+0 /\ (((af S (i:Int)).toNat)+3)<((sizeOf S).toNat)] λ _=>?_);refine aad<|ae 1 [] λ _=>aal [7,9] [0,2]<|aA [0,2] [0,1,2,4,3,5,6] [.own 0,.ro 0,.ix 4] [4=((4:Nat):Int) /\ 4<((sizeOf S).toNat-(af S (i:Int)).toNat)]<|aae 7 (dM [0,2] [.row 1 (((af S (i:Int)).toNat)+4) 0] [((0+((af S (i:Int)).toNat)*1)+4*1)=(((af S (i:Int)).toNat)+4)*1+0 /\ (((af S (i:Int)).toNat)+4)<((sizeOf S).toNat)] λ _=>?_);refine aA [0,2] [8] [.ix 5] [5=((5:Nat):Int) /\ 5<((sizeOf S).toNat-(af S (i:Int)).toNat)]<|aae 9 (dM [0,2] [.row 1 (((af S (i:Int)).toNat)+5) 0] [((0+((af S (i:Int)).toNat)*1)+5*1)=(((af S (i:Int)).toNat)+5)*1+0 /\ (((af S (i:Int)).toNat)+5)<((sizeOf S).toNat)] λ _=>?_);refine aad<|ai 6 [.nw] [bn ((i:Int)+1)] λ _=>aah 1 (congrArg (λ v_=>(.rows 1 ((sizeOf S).toNat) v_ 3 (0,0):Blk)) (show (cT (cT (cT (cT (cT (cT (aE (cV S i)) (((af S (i:Int)).toNat)+0) 0 (vI ((S.bods.getD (S.bo+i) dB).mot.px))) (((af S (i:Int)).toNat)+1) 0 (vI ((S.bods.getD (S.bo+i) dB).mot.py))) (((af S (i:Int)).toNat)+2) 0 (vI ((S.bods.getD (S.bo+i) dB).mot.vx))) (((af S (i:Int)).toNat)+3) 0 (vI ((S.bods.getD (S.bo+i) dB).mot.vy))) (((af S (i:Int)).toNat)+4) 0 (vI ((S.bods.getD (S.bo+i) dB).a))) (((af S (i:Int)).toNat)+5) 0 (vI ((S.bods.getD (S.bo+i) dB).b)))=(aE (cV S (i+1))) from (by rw[<- Au hS.toSetN (i:=i) (by omega)] <;> kernel_rfl))) ?_;refine XI (i+1) [1,2] [] ?_
    try dsimp only
    exact⟨by omega,by omega⟩
   ·refine ae 12 [] λ _=>aaq [] [0] [] (v:=vS (n4+0) 0 ((sizeOf S).toNat) ((sizeOf S).toNat)) (H':=[((n4+0),.rows 1 ((sizeOf S).toNat) (aE (cV S i)) 3 (0,0))]) ?_;have ei:i=S.nb:=by omega
    subst ei;exact⟨_,rfl,rfl⟩
abbrev dD(S:Setup)(bp mb:Nat):List Value:=[vI S.players,vS S.bb (S.bo*9) S.nb S.bc,vI S.box.x0,vI S.box.y0,vI S.box.x1,vI S.box.y1,.slice S.rA S.rn S.rc,.slice S.dA S.dn S.dc,vI S.fog,vI S.g.x,vI S.g.y,vI S.push,vI S.drag,vI S.rest,vI S.rounds,vI S.fuel,vP bp 0,vP mb 0]
inductive GameH(rs:List Bx)(ds:List Dr)(bp gb:Nat)(S:Setup)(M:MemS)(k:Nat):HL -> Prop
 | mk (mb:Nat) (T U:HL) (hM:MemH mb M k T) (hU:rq S rs ds U):GameH rs ds bp gb S M k (ap [(gb,.lit (dD S bp mb) 121 (0,0))] [T,U])
theorem HE(q:Nat)(cs:List Int)(n k cap:Nat)(F:HL)(hn:cs.length=n)(hq:(q,.rows 1 n (aE cs) 3 (0,0))∈F)(hc:n <= 1000000)(hk:k <= 100000000)(hcap:n <= cap):Sp Tryz.prog 87 #[vS q 0 n cap] (ap [] []) F (λ u H'=>∃x:Nat × HL,H'=ap [] [x.2] /\ (u=vP x.1 0 /\ MemH x.1 ⟨cs,[],0⟩ k x.2)):=by
 subst hn;exact Lc q cs k cap F hq hc hk hcap
theorem lA(S:Setup)(rs:List Bx)(ds:List Dr)(bp:Nat)(F:HL)(hS:SetCl F S)(hM:MapIn F S rs ds)(h1:1 <= S.nb)(Sq:S.rn <= 1000000)(Ut:S.dn <= 1000000)(D_:(sizeOf S).toNat <= 1000000)(hv:jL S rs ds=0)(k:Nat)(hk:k <= 100000000):Sp Tryz.prog 60 #[Setup.v S,vP bp 0] (ap [] []) F (λ u H'=>∃x:Nat × Setup × HL,H'=ap [] [x.2.2] /\ (u=.tuple #[vP x.1 0,vI 0] /\ SetEq S x.2.1 /\ GameH rs ds bp x.1 x.2.1 ⟨cV S S.nb,[],0⟩ k x.2.2)):=by
 refine aau Tryz.func60 rfl mn (A:=[]) (Ts:=[]) rfl λ w0=>?_;refine ae 11 (ow 0 16) λ n1=>aai (Lj S rs ds _ hS.up.toSh hM.up)<|ae 9 [] λ _=>db 10 (nt (aba hv))<|ae 4 [] λ _=>aal [] []<|ag [] [0,2,3] (ow 0 32)<|aae 1 (aaf [] (Hp:=[]) (Tp:=[]) [] [] (Ar S rs ds _ hS.up hM.up h1 Sq Ut) ?_);rintro _ ⟨S2,U3⟩ ⟨rfl,YM,hU5⟩;dsimp only at YM hU5;refine aae 4 (aaf [] (Hp:=[]) (Tp:=[]) [] [] (Ez S _ hS.up) ?_);rintro _ q6 rfl;refine aae 5 (aaf [] (Hp:=[]) (Tp:=[]) [] [] (HE q6 (cV S S.nb) ((sizeOf S).toNat) k ((sizeOf S).toNat) _ (fZ _ _) (aw 0) D_ hk (aaK _)) ?_);rintro _ ⟨m7,T8⟩ ⟨rfl,V1⟩;dsimp only at V1;refine ag [] [6] []<|aae 7 (aag [] [] λ TG=>?_);refine ag [] [8,9] []<|aad<|ae 1 [] λ _=>aaq [] [0] [0,1] (v:=.tuple #[vP (TG+0) 0,vI 0]) (H':=(ap [((TG+0),.lit [vI S2.players,vS S2.bb (S2.bo*9) S2.nb S2.bc,vI S2.box.x0,vI S2.box.y0,vI S2.box.x1,vI S2.box.y1,.slice S2.rA S2.rn S2.rc,.slice S2.dA S2.dn S2.dc,vI S2.fog,vI S2.g.x,vI S2.g.y,vI S2.push,vI S2.drag,vI S2.rest,vI S2.rounds,vI S2.fuel,vP bp 0,vP m7 0] 121 (0,0))] [T8,U3])) ?_;exact⟨((TG+0),S2,ap [((TG+0),.lit (dD S2 bp m7) 121 (0,0))] [T8,U3]),by simp[ap],rfl,YM,.mk _ _ _ V1 hU5⟩
theorem HF(S:Setup)(bp gb mb:Nat)(F:HL)(hg:(gb,.lit (dD S bp mb) 121 (0,0))∈F):Sp Tryz.prog 55 #[vP gb 0] [] F (λ u H'=>u=vP mb 0 /\ H'=[]):=by
 refine aau Tryz.func55 rfl (mc hg mn) (A:=[]) (Ts:=[]) rfl λ w0=>?_;refine ae 14 [.ro 0] λ _=>?_;exact aaq [] [] [] ⟨rfl,rfl⟩
def fS(cs:List Int):Prop:=(cs.getD 1 0=0 /\ cs.getD 2 0=0 /\ cs.getD 3 0=0 /\ cs.getD 4 0=0 /\ cs.getD 5 0=0 /\ cs.getD 6 0=0 /\ cs.getD 7 0=0 /\ cs.getD 8 0=0 /\ cs.getD 9 0=0 /\ cs.getD 10 0=0) /\ cs.getD 0 0 >= 0 /\ cs.getD 0 0 <= 6000
instance (cs:List Int):Decidable (fS cs):=inferInstanceAs (Decidable (_ /\ _))
def lc(cs:List Int)(M:MemS):Nat -> MemS
 | 0=>M
 | i+1=>if (lc cs M i).get (i:Int)=cs.getD i 0 then lc cs M i else (lc cs M i).set (i:Int) (cs.getD i 0)
theorem Lk(M:MemS)(i v:Int):(M.set i v).cs.length=M.cs.length:=by
 unfold MemS.set;split <;> simp
theorem nZ(cs:List Int)(M:MemS):∀i,(lc cs M i).cs.length=M.cs.length
 | 0=>rfl
 | i+1=>by
  rw[lc];split
  ·exact nZ cs M i
  ·rw[Lk];exact nZ cs M i
theorem Cf(cs:List Int)(M:MemS):∀i,i <= M.cs.length -> ∀k,(lc cs M i).cs.getD k 0=if k<i then cs.getD k 0 else M.cs.getD k 0
 | 0,_,k=>by rw[if_neg (Nat.not_lt_zero k)];rfl
 | i+1,h,k=>by
  have ih:=Cf cs M i (by omega);have hl:=nZ cs M i;rw[lc];split
  ·next he =>
   unfold MemS.get at he;rw[if_pos (by omega),Int.toNat_natCast] at he
   by_cases h1:k=i
   ·subst h1;rw[if_pos (by omega)];exact he
   ·rw[ih k]
    by_cases h2:k<i
    ·rw[if_pos h2,if_pos (by omega)]
    ·rw[if_neg h2,if_neg (by omega)]
  ·unfold MemS.set;rw[if_pos (by omega),Int.toNat_natCast]
   by_cases h1:k=i
   ·subst h1;rw[if_pos (by omega)];exact dC (by omega)
   ·show ((lc cs M i).cs.set i _).getD k 0=_;rw[cW (λ e=>h1 e.symm),ih k]
    by_cases h2:k<i
    ·rw[if_pos h2,if_pos (by omega)]
    ·rw[if_neg h2,if_neg (by omega)]
theorem HG{cs:List Int}{M:MemS}{n:Nat}(h:n=M.cs.length)(hc:n <= cs.length):(lc cs M n).cs=cs.take n:=by
 apply List.ext_getElem?;intro k;have h1:=Cf cs M n (by omega) k;have hl:=nZ cs M n
 by_cases hk:k<n
 ·rw[if_pos hk,aaI,aaI,aaT (by omega),aaT (by omega)] at h1;rw[aa7,if_pos hk,aaT (by omega),aaT (by omega)];exact congrArg some h1
 ·rw[List.getElem?_eq_none (by omega),List.getElem?_eq_none (by rw[aaQ];omega)]
theorem Ll(cs:List Int)(q n N cap:Nat)(F:HL)(hq:(q,.rows 1 N (aE cs) 3 (0,0))∈F)(hN:n <= N)(U9:48 <= n):Sp Tryz.prog 91 #[vS q 0 n cap] [] F (λ u H'=>u=.bool (decide (fS cs)) /\ H'=[]):=by
 refine aau Tryz.func91 rfl (mc hq mn) (A:=[]) (Ts:=[]) rfl λ w0=>?_;refine ae 20 (ow 0 20) λ n1=>aar 10<|ai 26 [.gen,.gen,.ix 1,.rorow 0 1 0] [(0+1*1)=1*1+0 /\ 1<N,1=((1:Nat):Int) /\ 1<n] λ _=>aan (cs.getD 1 0=0) 15 (λ h2=>?_) λ h2=>?_
 ·refine ai 35 [.gen,.gen,.gen,.ix 2,.rorow 0 2 0] [(0+2*1)=2*1+0 /\ 2<N,2=((2:Nat):Int) /\ 2<n] λ _=>aan (cs.getD 2 0=0) 15 (λ h3=>?_) λ h3=>?_
  ·refine ai 35 [.gen,.gen,.gen,.ix 3,.rorow 0 3 0] [(0+3*1)=3*1+0 /\ 3<N,3=((3:Nat):Int) /\ 3<n] λ _=>aan (cs.getD 3 0=0) 15 (λ h4=>?_) λ h4=>?_
   ·refine ai 35 [.gen,.gen,.gen,.ix 4,.rorow 0 4 0] [(0+4*1)=4*1+0 /\ 4<N,4=((4:Nat):Int) /\ 4<n] λ _=>aan (cs.getD 4 0=0) 15 (λ h5=>?_) λ h5=>?_
    ·refine ai 35 [.gen,.gen,.gen,.ix 5,.rorow 0 5 0] [(0+5*1)=5*1+0 /\ 5<N,5=((5:Nat):Int) /\ 5<n] λ _=>aan (cs.getD 5 0=0) 15 (λ h6=>?_) λ h6=>?_
     ·refine ai 35 [.gen,.gen,.gen,.ix 6,.rorow 0 6 0] [(0+6*1)=6*1+0 /\ 6<N,6=((6:Nat):Int) /\ 6<n] λ _=>aan (cs.getD 6 0=0) 15 (λ h7=>?_) λ h7=>?_
      ·refine ai 35 [.gen,.gen,.gen,.ix 7,.rorow 0 7 0] [(0+7*1)=7*1+0 /\ 7<N,7=((7:Nat):Int) /\ 7<n] λ _=>aan (cs.getD 7 0=0) 15 (λ h8=>?_) λ h8=>?_
       ·refine ai 35 [.gen,.gen,.gen,.ix 8,.rorow 0 8 0] [(0+8*1)=8*1+0 /\ 8<N,8=((8:Nat):Int) /\ 8<n] λ _=>aan (cs.getD 8 0=0) 15 (λ h9=>?_) λ h9=>?_
        ·refine ai 35 [.gen,.gen,.gen,.ix 9,.rorow 0 9 0] [(0+9*1)=9*1+0 /\ 9<N,9=((9:Nat):Int) /\ 9<n] λ _=>aan (cs.getD 9 0=0) 15 (λ Uh=>?_) λ Uh=>?_
         ·refine ai 35 [.gen,.gen,.gen,.ix 10,.rorow 0 10 0] [(0+10*1)=10*1+0 /\ 10<N,10=((10:Nat):Int) /\ 10<n] λ _=>aan (cs.getD 10 0=0) 15 (λ Tw=>?_) λ Tw=>?_
          ·refine ai 28 [.ix 0,.rorow 0 0 0] [(0+0*1)=0*1+0 /\ 0<N,0=((0:Nat):Int) /\ 0<n] λ _=>aam (cs.getD 0 0 >= 0) 21 (λ SO=>?_) λ SO=>?_
           ·refine ai 8 [.ix 0,.rorow 0 0 0] [(0+0*1)=0*1+0 /\ 0<N,0=((0:Nat):Int) /\ 0<n] λ _=>aaq [] [] [] (v:=.bool (decide (cs.getD 0 0 <= 6000))) (H':=[]) ?_;exact⟨congrArg Value.bool (decide_eq_decide.2 ⟨λ h_=>by unfold fS;omega,λ h_=>by unfold fS at h_;omega⟩),rfl⟩
           ·refine ae 8 [] λ _=>aaq [] [] [] (v:=.bool false) (H':=[]) ?_;exact⟨congrArg Value.bool (aa9 (show ¬ fS cs from λ h_=>by unfold fS at h_;omega)).symm,rfl⟩
          ·refine ae 6 [] λ _=>aaq [] [] [] (v:=.bool false) (H':=[]) ?_;exact⟨congrArg Value.bool (aa9 (show ¬ fS cs from λ h_=>by unfold fS at h_;omega)).symm,rfl⟩
         ·refine ae 6 [] λ _=>aaq [] [] [] (v:=.bool false) (H':=[]) ?_;exact⟨congrArg Value.bool (aa9 (show ¬ fS cs from λ h_=>by unfold fS at h_;omega)).symm,rfl⟩
        ·refine ae 6 [] λ _=>aaq [] [] [] (v:=.bool false) (H':=[]) ?_;exact⟨congrArg Value.bool (aa9 (show ¬ fS cs from λ h_=>by unfold fS at h_;omega)).symm,rfl⟩
       ·refine ae 6 [] λ _=>aaq [] [] [] (v:=.bool false) (H':=[]) ?_;exact⟨congrArg Value.bool (aa9 (show ¬ fS cs from λ h_=>by unfold fS at h_;omega)).symm,rfl⟩
      ·refine ae 6 [] λ _=>aaq [] [] [] (v:=.bool false) (H':=[]) ?_;exact⟨congrArg Value.bool (aa9 (show ¬ fS cs from λ h_=>by unfold fS at h_;omega)).symm,rfl⟩
     ·refine ae 6 [] λ _=>aaq [] [] [] (v:=.bool false) (H':=[]) ?_;exact⟨congrArg Value.bool (aa9 (show ¬ fS cs from λ h_=>by unfold fS at h_;omega)).symm,rfl⟩
    ·refine ae 6 [] λ _=>aaq [] [] [] (v:=.bool false) (H':=[]) ?_;exact⟨congrArg Value.bool (aa9 (show ¬ fS cs from λ h_=>by unfold fS at h_;omega)).symm,rfl⟩
   ·refine ae 6 [] λ _=>aaq [] [] [] (v:=.bool false) (H':=[]) ?_;exact⟨congrArg Value.bool (aa9 (show ¬ fS cs from λ h_=>by unfold fS at h_;omega)).symm,rfl⟩
  ·refine ae 6 [] λ _=>aaq [] [] [] (v:=.bool false) (H':=[]) ?_;exact⟨congrArg Value.bool (aa9 (show ¬ fS cs from λ h_=>by unfold fS at h_;omega)).symm,rfl⟩
 ·refine ae 6 [] λ _=>aaq [] [] [] (v:=.bool false) (H':=[]) ?_;exact⟨congrArg Value.bool (aa9 (show ¬ fS cs from λ h_=>by unfold fS at h_;omega)).symm,rfl⟩
theorem xM(S:Setup)(bp gb mb:Nat)(cs:List Int)(q n N cap:Nat)(M:MemS)(k:Nat)(T U F:HL)(hM:MemH mb M (k+n) T)(hq:(q,.rows 1 N (aE cs) 3 (0,0))∈F)(hN:n <= N)(U9:48 <= M.cs.length):Sp Tryz.prog 64 #[vP gb 0,vS q 0 n cap] (ap [(gb,.lit (dD S bp mb) 121 (0,0))] [T,U]) F (λ u H'=>∃x:HL,H'=ap [(gb,.lit (dD S bp mb) 121 (0,0))] [x,U] /\ ((((n:Int)=(M.cs.length:Int) /\ fS cs) /\ u=vI 0 /\ MemH mb (lc cs M n) k x) \/ (¬ ((n:Int)=(M.cs.length:Int) /\ fS cs) /\ u=vI 1 /\ x=T))):=by
 have U5:=hM.len;refine aau Tryz.func64 rfl (mc hq mn) (A:=[(gb,.lit (dD S bp mb) 121 (0,0))]) (Ts:=[T,U]) rfl λ w0=>?_;refine ae 14 [.own 0] λ _=>aai (vq hM (ar 0))<|ae 2 [] λ _=>aan ((n:Int)=(M.cs.length:Int)) 15 (λ h1=>?_) λ h1=>?_
 ·refine ae 1 [] λ _=>aai (Ll cs q n N cap _ (au hq) hN (by omega))<|ae 4 [] λ _=>aan (fS cs) 19 (λ h2=>?_) λ h2=>?_
  ·refine ae 12 [] λ _=>aao (σ:=Nat × HL) (λ ⟨i,T_⟩=>⟨[(0,vP gb 0),(20,vS q 0 n cap),(21,vI (n:Int)),(22,vI (i:Int))],[(gb,.lit (dD S bp mb) 121 (0,0))],[T_,U],i <= n /\ MemH mb (lc cs M i) (k+(n-i)) T_,n-i⟩) (0,T) [0] [0,1] (⟨aaL _,hM⟩) ?_;rintro⟨i,T_⟩ ⟨SW,Wg⟩ mt4;refine ae 6 [] λ _=>aam ((i:Int)<(n:Int)) 23 (λ h5=>?_) λ h5=>?_
   ·refine ae 7 [] λ _=>?_
    replace Wg:=Wg.weak (k':=k+(n-(i+1))+1) (by omega)
    refine ai 14 [.ix i,.rorow 0 i 0,.own 0] [(0+i*1)=i*1+0 /\ i<N,(i:Int)=((i:Nat):Int) /\ i<n] λ _=>aai (av (i:Int) Wg (ar 0))<|ae 4 [] λ _=>aan ((lc cs M i).get (i:Int)=cs.getD i 0) 34 (λ h6=>?_) λ h6=>?_
    ·refine ai 8 [.nw] [bn ((i:Int)+1)] λ _=>?_;refine mt4 (i+1,T_) [0] [0,1] ?_
     try dsimp only
     exact⟨⟨by omega,Wg.cast (by rw[lc,if_pos h6]) (by omega)⟩,by omega⟩
    ·refine ae 8 [.own 0] λ _=>aaj [] [0] (aj (i:Int) (cs.getD i 0) Wg) ?_;rintro _ T7 Ug;refine ai 7 [.nw] [bn ((i:Int)+1)] λ _=>?_;refine mt4 (i+1,T7) [0] [0,1] ?_
     try dsimp only
     exact⟨⟨by omega,Ug.cast (by rw[lc,if_neg h6]) (by omega)⟩,by omega⟩
   ·refine ae 11 [] λ _=>aaq [] [0] [0,1] (v:=vI 0) (H':=(ap [(gb,.lit (dD S bp mb) 121 (0,0))] [T_,U])) ?_;obtain rfl:i=n:=by omega
    exact⟨T_,rfl,.inl ⟨⟨by omega,by assumption⟩,rfl,Wg.weak (by omega)⟩⟩
  ·refine ae 6 [] λ _=>aaq [] [0] [0,1] (v:=vI 1) (H':=(ap [(gb,.lit (dD S bp mb) 121 (0,0))] [T,U])) ?_;exact⟨T,rfl,.inr ⟨λ h_=>by first|exact absurd h_.2 (by assumption)|omega,rfl,rfl⟩⟩
 ·refine ae 12 [] λ _=>aaq [] [0] [0,1] (v:=vI 1) (H':=(ap [(gb,.lit (dD S bp mb) 121 (0,0))] [T,U])) ?_;exact⟨T,rfl,.inr ⟨λ h_=>by first|exact absurd h_.2 (by assumption)|omega,rfl,rfl⟩⟩
theorem MemH.len2{mb:Nat}{M:MemS}{k:Nat}{T:HL}(h:MemH mb M k T):M.lg.length+k <= 100000000:=by
 cases h with
 | mk cb A cap Hl hs hc hl=>exact hl
def tP(na nb:Nat)(xs ys:List Int):Prop:=na=nb /\ ∀k,k<na -> xs.getD k 0=ys.getD k 0
instance (na nb:Nat) (xs ys:List Int):Decidable (tP na nb xs ys):=inferInstanceAs (Decidable (_ /\ _))
theorem EA(qa qb na nb Na Nb ca cb:Nat)(xs ys:List Int)(F:HL)(ha:(qa,.rows 1 Na (aE xs) 3 (0,0))∈F)(hb:(qb,.rows 1 Nb (aE ys) 3 (0,0))∈F)(hna:na <= Na)(Wc:nb <= Nb)(hn:na <= 1000000):Sp Tryz.prog 27 #[vS qa 0 na ca,vS qb 0 nb cb] [] F (λ u H'=>u=.bool (decide (tP na nb xs ys)) /\ H'=[]):=by
 refine aau Tryz.func27 rfl (mc ha (mc hb mn)) (A:=[]) (Ts:=[]) rfl λ w0=>?_;refine ae 15 [] λ _=>aan ((na:Int)=(nb:Int)) 10 (λ h1=>?_) λ h1=>?_
 ·refine ae 10 [] λ _=>aao (σ:=Nat) (λ i=>⟨[(0,vS qa 0 na ca),(1,vS qb 0 nb cb),(5,vI (i:Int))],[],[],i <= na /\ ∀t,t<i -> xs.getD t 0=ys.getD t 0,na-i⟩) 0 [] [] (⟨aaL _,λ t ht=>absurd ht (Nat.not_lt_zero _)⟩) ?_;rintro i ⟨UD,hs1⟩ Sm;refine ae 9 [] λ _=>aam ((i:Int)<(na:Int)) 14 (λ h4=>?_) λ h4=>?_
  ·refine ae 6 [] λ _=>aal [] []<|aA [] [0,1,4,5,2,6,3,7,8] [.ix i,.ix i,.rorow 0 i 0,.rorow 1 i 0] [(0+i*1)=i*1+0 /\ i<Nb,(0+i*1)=i*1+0 /\ i<Na,(i:Int)=((i:Nat):Int) /\ i<nb,(i:Int)=((i:Nat):Int) /\ i<na]<|aad<|ae 1 [] λ _=>aan (xs.getD i 0=ys.getD i 0) 25 (λ h5=>?_) λ h5=>?_
   ·refine ai 9 [.nw] [bn ((i:Int)+1)] λ _=>?_;refine Sm (i+1) [] [] ?_
    try dsimp only
    refine⟨⟨by omega,λ t ht=>?_⟩,by omega⟩;rcases aaZ t i with h_|h_
    ·exact hs1 t h_
    ·obtain rfl:t=i:=by omega
     exact h5
   ·refine ae 6 [] λ _=>aaq [] [] [] (v:=.bool false) (H':=[]) ?_;exact⟨congrArg Value.bool (aa9 (show ¬ tP na nb xs ys from λ h_=>h5 (h_.2 i (by omega)))).symm,rfl⟩
  ·refine ae 11 [] λ _=>aaq [] [] [] (v:=.bool true) (H':=[]) ?_;exact⟨congrArg Value.bool (aba (show tP na nb xs ys from ⟨by omega,λ t ht=>hs1 t (by omega)⟩)).symm,rfl⟩
 ·refine ae 6 [] λ _=>aaq [] [] [] (v:=.bool false) (H':=[]) ?_;exact⟨congrArg Value.bool (aa9 (show ¬ tP na nb xs ys from λ h_=>by have:=h_.1;omega)).symm,rfl⟩
theorem Lm(b:Bool)(qa qb na nb Na Nb ca cb:Nat)(xs ys:List Int)(F:HL)(ha:(qa,.rows 1 Na (aE xs) 3 (0,0))∈F)(hb:(qb,.rows 1 Nb (aE ys) 3 (0,0))∈F)(hna:na <= Na)(Wc:nb <= Nb)(hn:na <= 1000000)(he:decide (tP na nb xs ys)=b):Sp Tryz.prog 27 #[vS qa 0 na ca,vS qb 0 nb cb] [] F (λ u H'=>u=.bool b /\ H'=[]):=he ▸ EA qa qb na nb Na Nb ca cb xs ys F ha hb hna Wc hn
def gl(x:Inp):Prop:=(¬ x.dx < -1 /\ ¬ x.dx>1) /\ (¬ x.dy < -1 /\ ¬ x.dy>1) /\ ¬ x.act<0 /\ ¬ x.act>3
instance (x:Inp):Decidable (gl x):=inferInstanceAs (Decidable (_ /\ _))
def fI(pl:Int)(n:Nat)(xs:List Inp)(now:Int):Int:=if (n:Int)=pl then (if ∀k,k<n -> gl (xs.getD k dI) then (if now >= 6000 then 2 else 0) else 1) else 17
theorem xN(mb cb n:Nat)(A:Option Addr)(m cap:Nat)(base:Int)(F:HL)(hm:(mb,.lit [vS cb 0 n n,.slice A m cap,vI base] 162 (0,0))∈F):Sp Tryz.prog 59 #[vP mb 0] [] F (λ u H'=>u=vI (bd (base+(m:Int))) /\ H'=[]):=by
 refine aau Tryz.func59 rfl (mc hm mn) (A:=[]) (Ts:=[]) rfl λ w0=>?_;refine ae 6 [] λ _=>aal [] []<|ag [] [0,4,1,5,2,6,3,7,8,9,10] [.ro 0,.ro 0]<|aad<|ae 1 [] λ _=>?_;exact aaq [] [] [] ⟨rfl,rfl⟩
theorem xO{mb:Nat}{M:MemS}{k:Nat}{T F:HL}(h:MemH mb M k T)(hs:∀x∈T,x∈F):Sp Tryz.prog 59 #[vP mb 0] [] F (λ u H'=>u=vI (bd (M.base+(M.lg.length:Int))) /\ H'=[]):=by
 cases h with
 | mk cb A cap Hl UA hc hl=>exact xN mb cb M.cs.length A M.lg.length cap M.base F (hs _ (by simp))
theorem rt(S:Setup)(bp gb mb:Nat)(M:MemS)(k:Nat)(T F:HL)(hg:(gb,.lit (dD S bp mb) 121 (0,0))∈F)(hM:MemH mb M k T)(hT:∀x∈T,x∈F):Sp Tryz.prog 52 #[vP gb 0] [] F (λ u H'=>u=vI (M.get 0) /\ H'=[]):=by
 refine aau Tryz.func52 rfl (mc hg mn) (A:=[]) (Ts:=[]) rfl λ w0=>?_;refine ae 11 [.ro 0] λ _=>aai (av 0 hM (λ x hx=>au (hT x hx)))<|ae 3 [] λ _=>?_;exact aaq [] [] [] ⟨rfl,rfl⟩
theorem Av(S:Setup)(bp gb mb:Nat)(M:MemS)(k:Nat)(A:Option Addr)(n cap:Nat)(xs:List Inp)(T F:HL)(hg:(gb,.lit (dD S bp mb) 121 (0,0))∈F)(hM:MemH mb M k T)(hT:∀x∈T,x∈F)(hl:RowL cL 40 F A n xs)(hn:n <= 1000000):Sp Tryz.prog 80 #[vP gb 0,.slice A n cap] [] F (λ u H'=>u=vI (fI S.players n xs (M.get 0)) /\ H'=[]):=by
 refine aau Tryz.func80 rfl (mc hg mn) (A:=[]) (Ts:=[]) rfl λ w0=>?_;refine ae 18 [.ro 0] λ _=>aan ((n:Int)=S.players) 14 (λ h1=>?_) λ h1=>?_
 ·refine ae 12 [] λ _=>aao (σ:=Nat) (λ k_=>⟨[(0,vP gb 0),(15,.slice A n cap),(16,vI (n:Int)),(17,vI (k_:Int))],[],[],k_ <= n /\ ∀t,t<k_ -> gl (xs.getD t dI),n-k_⟩) 0 [] [] (⟨aaL _,λ t ht=>absurd ht (Nat.not_lt_zero _)⟩) ?_;rintro k_ ⟨hkl,g_⟩ Sm;refine ae 6 [] λ _=>aam ((k_:Int)<(n:Int)) 18 (λ h4=>?_) λ h4=>?_
  ·refine ae 7 [] λ _=>?_;obtain⟨qx5,I_,Wm,fx5,aaD,TY,US,ZB,Vq⟩:=hl.at (k:=k_) (by omega);refine aK 15 (congrArg (λ v_=>(.slice v_ n cap:Value)) TY)<|RN.ro (λ _=>(mc hg (mc US mn)))<|ai 2 [.ix k_,.rorow 1 (I_+k_) 0,.rorow 1 (I_+k_) 1,.rorow 1 (I_+k_) 2] [((I_*3+k_*3)+2)=(I_+k_)*3+2 /\ (I_+k_)<Wm,((I_*3+k_*3)+1)=(I_+k_)*3+1 /\ (I_+k_)<Wm,(I_*3+k_*3)=(I_+k_)*3+0 /\ (I_+k_)<Wm,(k_:Int)=((k_:Nat):Int) /\ k_<n] λ _=>aK 20 (congrArg (λ v_=>(.agg #[vI v_.dx,vI v_.dy,vI v_.act]:Value)) Vq)<|ae 10 (aab 4) λ n6=>aam ((xs.getD k_ dI).dx<(-1)) 24 (λ h7=>?_) λ h7=>?_
   ·refine ae 32 [] λ _=>aaq [] [] [] (v:=vI 1) (H':=[]) ?_;exact⟨by rw[fI,if_pos (by omega),if_neg (λ h_=>by have S7:=h_ k_ (by omega);unfold gl at S7;omega)],rfl⟩
   ·refine ae 5 [.own 0] λ _=>aam ((xs.getD k_ dI).dx>1) 29 (λ h8=>?_) λ h8=>?_
    ·refine ae 27 [] λ _=>aaq [] [] [] (v:=vI 1) (H':=[]) ?_;exact⟨by rw[fI,if_pos (by omega),if_neg (λ h_=>by have S7:=h_ k_ (by omega);unfold gl at S7;omega)],rfl⟩
    ·refine ae 5 [.own 0] λ _=>aam ((xs.getD k_ dI).dy<(-1)) 34 (λ h9=>?_) λ h9=>?_
     ·refine ae 22 [] λ _=>aaq [] [] [] (v:=vI 1) (H':=[]) ?_;exact⟨by rw[fI,if_pos (by omega),if_neg (λ h_=>by have S7:=h_ k_ (by omega);unfold gl at S7;omega)],rfl⟩
     ·refine ae 5 [.own 0] λ _=>aam ((xs.getD k_ dI).dy>1) 39 (λ Uh=>?_) λ Uh=>?_
      ·refine ae 17 [] λ _=>aaq [] [] [] (v:=vI 1) (H':=[]) ?_;exact⟨by rw[fI,if_pos (by omega),if_neg (λ h_=>by have S7:=h_ k_ (by omega);unfold gl at S7;omega)],rfl⟩
      ·refine ae 5 [.own 0] λ _=>aam ((xs.getD k_ dI).act<0) 44 (λ Tw=>?_) λ Tw=>?_
       ·refine ae 12 [] λ _=>aaq [] [] [] (v:=vI 1) (H':=[]) ?_;exact⟨by rw[fI,if_pos (by omega),if_neg (λ h_=>by have S7:=h_ k_ (by omega);unfold gl at S7;omega)],rfl⟩
       ·refine ae 6 [.own 0] λ _=>aam ((xs.getD k_ dI).act>3) 48 (λ SO=>?_) λ SO=>?_
        ·refine ae 6 [] λ _=>aaq [] [] [] (v:=vI 1) (H':=[]) ?_;exact⟨by rw[fI,if_pos (by omega),if_neg (λ h_=>by have S7:=h_ k_ (by omega);unfold gl at S7;omega)],rfl⟩
        ·refine ai 8 [.nw] [bn ((k_:Int)+1)] λ _=>aK 15 (congrArg (λ v_=>(.slice v_ n cap:Value)) TY.symm) ?_;refine Sm (k_+1) [] [] ?_
         try dsimp only
         refine⟨⟨by omega,λ t ht=>?_⟩,by omega⟩;rcases aaZ t k_ with h_|h_
         ·exact g_ t h_
         ·obtain rfl:t=k_:=by omega
          exact⟨⟨h7,h8⟩,⟨h9,Uh⟩,Tw,SO⟩
  ·refine ae 10 [] λ _=>aai (rt S bp gb mb M k T _ (au hg) hM (λ x hx=>au (hT x hx)))<|ae 3 [] λ _=>aam (M.get 0 >= 6000) 52 (λ TZ=>?_) λ TZ=>?_
   ·refine ae 6 [] λ _=>aaq [] [] [] (v:=vI 2) (H':=[]) ?_;exact⟨by rw[fI,if_pos (by omega),if_pos (λ t ht=>g_ t (by omega)),if_pos (by omega)],rfl⟩
   ·refine ae 8 [] λ _=>aaq [] [] [] (v:=vI 0) (H':=[]) ?_;exact⟨by rw[fI,if_pos (by omega),if_pos (λ t ht=>g_ t (by omega)),if_neg (by omega)],rfl⟩
 ·refine ae 6 [] λ _=>aaq [] [] [] (v:=vI 17) (H':=[]) ?_;exact⟨by rw[fI,if_neg (by omega)],rfl⟩
theorem EB(gb ib io ni ic:Nat)(F:HL):Sp Tryz.prog 83 #[vP gb 0,vS ib (io*3) ni ic] (ap [] []) F (λ u H'=>∃n:Nat,H'=ap [((n+1),.lit [vS ib (io*3) ni ic] 38 (0,0)),((n+0),.lit [vP gb 0] 97 (0,0))] [] /\ u=.func (.func 105) #[] #[vP (n+0) 0,vP (n+1) 0]):=by
 refine aau Tryz.func83 rfl mn (A:=[]) (Ts:=[]) rfl λ w0=>?_;refine ae 13 [] λ n1=>aaq [] [0,1] [] (v:=.func (.func 105) #[] #[vP (n1+0) 0,vP (n1+1) 0]) (H':=(ap [((n1+1),.lit [vS ib (io*3) ni ic] 38 (0,0)),((n1+0),.lit [vP gb 0] 97 (0,0))] [])) ?_;exact⟨_,rfl,rfl⟩
end Go.Proofs.YtdppjkjbghbnjaaGreatDoor
