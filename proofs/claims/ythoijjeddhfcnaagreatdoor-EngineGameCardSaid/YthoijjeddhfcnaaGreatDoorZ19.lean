import Derived.Test.YthoijjeddhfcnaaGreatDoorZ18
import Derived.Test.YthoijjeddhfcnaaGreatDoorZ14
set_option maxHeartbeats 4000000
set_option maxRecDepth 100000
set_option linter.unusedSimpArgs false
set_option linter.unusedVariables false
namespace Go.Proofs.YthoijjeddhfcnaaGreatDoor
open Go.RowKit
def kf(S:Setup):List Bod:=(List.range S.nb).map S.body
theorem jq(S:Setup):(kf S).length=S.nb:=by simp[kf]
theorem js{S:Setup}{k:Nat}(h:k<S.nb):(kf S).getD k dB=S.body k:=by simp[kf,h]
theorem B9{F:HL}{S:Setup}(hS:SetSh F S):RowL jM 73 F (some ⟨S.bb,S.bo*9,none⟩) S.nb (kf S) :=
 .rows S.bb S.bo S.bR S.bods (0,0) S.nb (kf S) hS.blk hS.room (jq S) (λ k hk=>(js hk).symm)
theorem ClS.open{α:Type}{e:Enc α}{T:TypeId}{xs:List α}{A:Option Addr}{c:Nat}{Hl:HL}(h:ClS e T xs A c Hl)(hx:0<xs.length):∃b,A=some ⟨b,0,none⟩ /\ Hl=[(b,.rows e.w c (aD e xs) T (0,0))] /\ xs.length <= c:=by
 obtain⟨A0,h⟩:=h
 rcases h with ⟨rfl,_⟩|⟨b,h1,h2,h3⟩
 ·simp at hx
 ·exact⟨b,h1,h2,h3⟩
structure SetCl(F:HL)(S:Setup):Prop extends SetN S where
 blk:(S.bb,.rows 9 S.bR (ge S.bods) 73 (0,0))∈F
 room:S.bo+S.nb <= S.bR
 shp:∀k,k<S.nb -> (RowL lI 29 F (S.body k).sh.A (S.body k).sh.poly.length (S.body k).sh.poly /\ (S.body k).sh.poly.length <= 1000000) /\ ((S.body k).sh.poly=[] \/ 3 <= (S.body k).sh.poly.length)
theorem SetIn.cl{F:HL}{S:Setup}(h:SetIn F S):SetCl F S:=⟨h.toSetN,h.blk,h.room,λ k hk=>⟨(h.shp k hk).rowL,by
 have h1:=h.shp k hk
 generalize (S.body k).sh=s at h1
 cases h1 with
 | circle r A cap=>exact .inl rfl
 | poly r l b cap h h3 h4 h5=>exact .inr h3⟩⟩
theorem SetCl.up{F X:HL}{S:Setup}(h:SetCl F S):SetCl (X++F) S:=⟨h.toSetN,List.mem_append_right _ h.blk,h.room,λ k hk=>⟨⟨(h.shp k hk).1.1.up,(h.shp k hk).1.2⟩,(h.shp k hk).2⟩⟩
theorem SetCl.toSh{F:HL}{S:Setup}(h:SetCl F S):SetSh F S:=⟨h.nb,h.blk,h.room,λ k hk=>(h.shp k hk).1⟩
theorem Ca{s:Shp}(h:s.poly=[] \/ 3 <= s.poly.length)(hl:s.poly.length <= 1000000){A:Option Addr}{c:Nat}{T:HL}(hc:ClS lI 29 s.poly A c T):ShH ⟨s.r,s.poly,A,c⟩ T:=by
 intro F' hF
 rcases h with h|h
 ·rw[h];exact .circle _ _ _
 ·obtain⟨b2,rfl,rfl,h6⟩:=hc.open (by omega)
  exact .poly _ _ _ _ (hF _ (List.mem_singleton.2 rfl)) h h6 hl
def Bod.at(b:Bod)(A:Option Addr)(c:Nat):Bod:=⟨⟨b.sh.r,b.sh.poly,A,c⟩,b.mot,b.a,b.b⟩
theorem i8{α:Type}{l:List α}{i:Nat}{x d:α}(h:i<l.length):(l.set i x).getD i d=x:=by simp[h]
theorem gM{α:Type}{l:List α}{i k:Nat}{x d:α}(h:¬ i=k):(l.set i x).getD k d=l.getD k d:=by simp[List.getElem?_set,h]
theorem Iv{l:List Bod}{i:Nat}(h:i<l.length)(A:Option Addr)(c:Nat):cM (ge l) i 1 (.slice A (l.getD i dB).sh.poly.length c)=ge (l.set i ((l.getD i dB).at A c)):=by
 funext j k
 unfold cM
 by_cases h1:j=i
 ·subst h1
  show _=jM.cell ((l.set j ((l.getD j dB).at A c)).getD j dB) k
  rw[i8 h]
  by_cases h2:k=1
  ·subst h2;simp;rfl
  ·rw[if_neg (by simp[h2])]
   show jM.cell (l.getD j dB) k=_
   rcases k with _|_|k
   ·rfl
   ·exact absurd rfl h2
   ·rcases k with _|_|_|_|_|_|k <;> rfl
 ·rw[if_neg (by simp[h1])]
  show jM.cell (l.getD j dB) k=jM.cell ((l.set i _).getD j dB) k
  rw[gM (λ e=>h1 e.symm)]
structure SetEq(S S':Setup):Prop where
 nums:S'.players=S.players /\ S'.nb=S.nb /\ S'.box=S.box /\ S'.rn=S.rn /\ S'.dn=S.dn /\ S'.fog=S.fog /\ S'.g=S.g /\ S'.push=S.push /\ S'.drag=S.drag /\ S'.rest=S.rest /\ S'.rounds=S.rounds /\ S'.fuel=S.fuel
 bod:∀k,k<S.nb -> ∃A c,S'.body k=(S.body k).at A c
 whole:S'.bo=0 /\ S'.bods.length=S.nb
def vD(S:Setup)(rs:List Bx)(ds:List Dr)(U:HL):Prop:=∀F,(∀y∈U,y∈F) -> SetIn F S /\ MapIn F S rs ds
theorem ye(S:Setup)(rs:List Bx)(ds:List Dr)(F:HL)(hS:SetCl F S)(hM:MapIn F S rs ds)(h1:1 <= S.nb)(UN:S.rn <= 1000000)(UW:S.dn <= 1000000):Sp Tryz.prog 26 #[(Setup.v S)] [] F (λ u H'=>∃x:Setup × HL,H'=ap [] [x.2] /\ (u=Setup.v x.1 /\ SetEq S x.1 /\ vD x.1 rs ds x.2)):=by
 have hp:=hS.pl
 have hn:=hS.nb
 have hr:=hS.room
 refine Sp.run Tryz.func26 rfl (mc hS.blk mn) (A:=[]) (Ts:=[]) rfl λ w0=>?_
 refine aa 10 [.own 1] λ n1=>RN.ct (Hp:=[]) (Tp:=[]) [] [] (pE (some ⟨S.bb,S.bo*9,none⟩) S.nb S.bc (kf S) _ (RowL.src xz (by decide) (B9 hS.toSh).up) (by omega)) ?_
 rintro _ ⟨A2,c3,T4⟩ ⟨rfl,hc5⟩
 dsimp only at hc5
 refine aa 7 [.own 1] λ _=>?_
 obtain⟨bb,rfl,rfl,Q6⟩:=hc5.open (by rw[jq];omega)
 have hcap:S.nb <= c3:=by rw[jq] at Q6;exact Q6
 refine DH 0 (x:=(bb,.rows 9 c3 (ge (kf S)) 73 (0,0)))<|aa 7 [.own 2] λ _=>RN.nt<|RN.loop (σ:=Nat × List Bod × HL) (λ ⟨i,bods,U_⟩=>⟨[(1,vP (n1+0) 0),(2,vP (n1+1) 0),(10,vI (S.nb:Int)),(11,vI (i:Int))],[(bb,.rows 9 c3 (ge bods) 73 (0,0)),((n1+1),.lit [vI 0,.slice none 0 0,vI 0,vI 0,vI 0,vI 0,.slice none 0 0,.slice none 0 0,vI 0,vI 0,vI 0,vI 0,vI 0,vI 0,vI 0,vI 0] 31 (0,0)),((n1+0),.lit [vI S.players,vS bb 0 S.nb c3,vI S.box.x0,vI S.box.y0,vI S.box.x1,vI S.box.y1,.slice S.rA S.rn S.rc,.slice S.dA S.dn S.dc,vI S.fog,vI S.g.x,vI S.g.y,vI S.push,vI S.drag,vI S.rest,vI S.rounds,vI S.fuel] 31 (0,0))],[U_],i <= S.nb /\ bods.length=S.nb /\ (∀k,k<S.nb -> ∃A c,bods.getD k dB=(S.body k).at A c) /\ (∀k,k<i -> ShH (bods.getD k dB).sh U_) /\ ∀k,i <= k -> k<S.nb -> bods.getD k dB=S.body k,S.nb-i⟩) (0,kf S,[]) [0,1,2] [0] (⟨Nat.zero_le _,jq S,λ k hk=>⟨_,_,js hk⟩,λ k hk=>absurd hk (Nat.not_lt_zero _),λ k _ hk=>js hk⟩) ?_
 rintro⟨i,bods,U_⟩ ⟨QT,Ql,UL,SD,VS⟩ Ww
 refine aa 6 [] λ _=>RN.em ((i:Int)<(S.nb:Int)) 12 (λ h8=>?_) λ h8=>?_
 ·refine aa 7 [] λ _=>?_
  have TQ:(RowL lI 29 F (bods.getD i dB).sh.A (bods.getD i dB).sh.poly.length (bods.getD i dB).sh.poly /\ (bods.getD i dB).sh.poly.length <= 1000000) /\ ((bods.getD i dB).sh.poly=[] \/ 3 <= (bods.getD i dB).sh.poly.length):=by rw[VS i (Nat.le_refl _) (by omega)];exact hS.shp i (by omega)
  have ZR:=TQ.1.1
  have ZW:(bods.getD i dB).sh.poly.length <= 100000000:=by have:=TQ.1.2;omega
  refine aa 4 [] λ _=>RN.draw [14] []<|aL [] [0,2,3,5,1,4,6,7,8,9] [.own 2,.own 2,.ix i,.row 0 i 1] [((0+i*9)+1)=i*9+1 /\ i<c3,(i:Int)=((i:Nat):Int) /\ i<S.nb]<|RD.one 10 (RDO.ct [] (Hp:=[]) (Tp:=[]) [] [] (qU ((bods.getD i dB).sh.A) ((bods.getD i dB).sh.poly.length) ((bods.getD i dB).sh.cap) ((bods.getD i dB).sh.poly) _ (RowL.src EK (by decide) ZR.up) ZW) ?_)
  rintro _ ⟨A9,WM,Pp⟩ ⟨rfl,XP⟩
  dsimp only at XP
  refine aL [] [11,12,13] [.ix i] [(i:Int)=((i:Nat):Int) /\ i<S.nb]<|RD.one 14 (bT [] [.row 0 i 1] [((0+i*9)+1)=i*9+1 /\ i<c3] λ _=>?_)
  refine RD.fin<|aq 6 [.nw] [bF ((i:Int)+1)] λ _=>fS 0 (congrArg (λ v_=>(.rows 9 c3 v_ 73 (0,0):Blk)) (show (cM (ge bods) i 1 (.slice A9 ((bods.getD i dB).sh.poly.length) WM))=(ge (bods.set i ((bods.getD i dB).at A9 WM))) from (Iv (by omega) A9 WM)))<|DG [1,0]<|JV ?_
  refine Ww (i+1,(bods.set i ((bods.getD i dB).at A9 WM)),U_++Pp) [0,1,2] [0] ?_
  try dsimp only
  refine⟨⟨by omega,by rw[List.length_set];exact Ql,λ t ht=>?_,λ t ht=>?_,λ t PY L_=>?_⟩,by omega⟩
  ·rcases Decidable.em (i=t) with rfl|h_
   ·rw[i8 (by omega),VS i (Nat.le_refl _) ht];exact⟨_,_,rfl⟩
   ·rw[gM h_];exact UL t ht
  ·rcases Decidable.em (i=t) with rfl|h_
   ·rw[i8 (by omega)];exact ShH.right (Ca TQ.2 TQ.1.2 XP)
   ·rw[gM h_];exact(SD t (by omega)).left
  ·rw[gM (by omega)];exact VS t (by omega) L_
 ·refine aa 10 [.own 2] λ _=>RN.ct (Hp:=[]) (Tp:=[]) [] [] (qV S.rA S.rn S.rc rs _ (RowL.src Kd (by decide) hM.rooms.up) (by omega)) ?_
  rintro _ ⟨A13,c14,QQ⟩ ⟨rfl,XO⟩
  dsimp only at XO
  refine aa 8 [.own 2,.own 2] λ _=>RN.ct (Hp:=[]) (Tp:=[]) [] [] (pJ S.dA S.dn S.dc ds _ (RowL.src Ke (by decide) hM.doors.up) (by omega)) ?_
  rintro _ ⟨Y_,Y1,RS⟩ ⟨rfl,XM⟩
  dsimp only at XM
  refine aa 10 (ow 2 17++ow 1 16) λ _=>RN.ret (ow 1 16) [0] [0,1,2] (v:=.agg #[vI S.players,vS bb 0 S.nb c3,vI S.box.x0,vI S.box.y0,vI S.box.x1,vI S.box.y1,.slice A13 S.rn c14,.slice Y_ S.dn Y1,vI S.fog,vI S.g.x,vI S.g.y,vI S.push,vI S.drag,vI S.rest,vI S.rounds,vI S.fuel]) (H':=(ap [(bb,.rows 9 c3 (ge bods) 73 (0,0))] [RS,QQ,U_])) ?_
  have ei:i=S.nb:=by omega
  subst ei
  have SV:∀k,bods.getD (0+k) dB=bods.getD k dB:=λ k=>by rw[Nat.zero_add]
  refine⟨((⟨S.players,bb,0,S.nb,c3,c3,bods,S.box,A13,S.rn,c14,Y_,S.dn,Y1,S.fog,S.g,S.push,S.drag,S.rest,S.rounds,S.fuel⟩:Setup),[(bb,.rows 9 c3 (ge bods) 73 (0,0))]++(RS++QQ++U_)),(by simp[ap]),rfl,⟨⟨rfl,rfl,rfl,rfl,rfl,rfl,rfl,rfl,rfl,rfl,rfl,rfl⟩,λ k hk=>?_,rfl,Ql⟩,λ F2 hF=>⟨⟨⟨hp,by omega⟩,hF _ (by simp),(by show 0+S.nb <= c3;omega),λ k hk=>?_⟩,?_,?_⟩⟩
  ·obtain⟨A,c,h⟩:=UL k hk;exact⟨A,c,by show bods.getD (0+k) dB=_;rw[SV];exact h⟩
  ·show ShIn F2 (bods.getD (0+k) dB).sh;rw[SV];exact SD k hk F2 λ x hx=>hF x (by simp[hx])
  ·have h_:=XO.rowL (F:=F2) λ x hx=>hF x (by simp[hx]);rw[hM.rooms.len] at h_;exact h_
  ·have h_:=XM.rowL (F:=F2) λ x hx=>hF x (by simp[hx]);rw[hM.doors.len] at h_;exact h_
theorem yf(S:Setup)(rs:List Bx)(ds:List Dr)(F:HL)(hS:SetCl F S)(hM:MapIn F S rs ds)(h1:1 <= S.nb)(UN:S.rn <= 1000000)(UW:S.dn <= 1000000):Sp Tryz.prog 26 #[Setup.v S] (ap [] []) F (λ u H'=>∃x:Setup × HL,H'=ap [] [x.2] /\ (u=Setup.v x.1 /\ SetEq S x.1 /\ vD x.1 rs ds x.2)):=ye S rs ds F hS hM h1 UN UW
theorem yg{S:Setup}(h:SetN S){i:Nat}(hi:i<S.nb):cM (cM (cM (cM (cM (cM (bk (d7 S i)) ((ae S i).toNat+0) 0 (vI (S.body i).mot.px)) ((ae S i).toNat+1) 0 (vI (S.body i).mot.py)) ((ae S i).toNat+2) 0 (vI (S.body i).mot.vx)) ((ae S i).toNat+3) 0 (vI (S.body i).mot.vy)) ((ae S i).toNat+4) 0 (vI (S.body i).a)) ((ae S i).toNat+5) 0 (vI (S.body i).b)=bk (d7 S (i+1)):=by
 have hb:=lj h hi
 rw[<- B3 h hi]
 rw[show (ae S i+1).toNat=(ae S i).toNat+1 by omega,show (ae S i+2).toNat=(ae S i).toNat+2 by omega,show (ae S i+3).toNat=(ae S i).toNat+3 by omega,show (ae S i+4).toNat=(ae S i).toNat+4 by omega,show (ae S i+5).toNat=(ae S i).toNat+5 by omega]
 rfl
theorem Cb(S:Setup)(F:HL)(hS:SetCl F S):Sp Tryz.prog 9 #[(Setup.v S)] [] F (λ u H'=>∃q,H'=ap [(q,.rows 1 (sizeOf S).toNat (bk (d7 S S.nb)) 3 (0,0))] [] /\ u=vS q 0 (sizeOf S).toNat (sizeOf S).toNat):=by
 have hp:=hS.pl
 have hn:=hS.nb
 have hr:=hS.room
 have hz:=nC hS.toSetN
 refine Sp.run Tryz.func9 rfl (mc hS.blk mn) (A:=[]) (Ts:=[]) rfl λ w0=>?_
 refine aa 13 [.own 0] λ n1=>RN.em (S.players<0) 10 (λ h2=>?_) λ h2=>?_
 ·(exfalso;omega)
 ·refine aa 6 [.own 0] λ _=>RN.em (S.players>1048576) 14 (λ h3=>?_) λ h3=>?_
  ·(exfalso;omega)
  ·refine aa 6 (ow 0 16) λ _=>al (Bo S _ hS.toSetN)<|aq 14 [.mk ((sizeOf S).toNat) ((sizeOf S).toNat),.own 1] [sizeOf S=(((sizeOf S).toNat:Nat):Int) /\ sizeOf S=(((sizeOf S).toNat:Nat):Int) /\ (sizeOf S).toNat <= (sizeOf S).toNat /\ 8*((sizeOf S).toNat) <= 140737488355328 /\ 1=1 /\ (sizeOf S).toNat <= 9223372036854775807] λ n4=>fS 0 (congrArg (λ v_=>(.rows 1 ((sizeOf S).toNat) v_ 3 (0,0):Blk)) (show (lX [vI 0])=(bk (d7 S 0)) from (by rw[rT (sizeOf S).toNat] <;> rfl)))<|RN.loop (σ:=Nat) (λ i=>⟨[(1,vP (n1+0) 0),(3,vS (n4+0) 0 ((sizeOf S).toNat) ((sizeOf S).toNat)),(19,vS S.bb (S.bo*9) S.nb S.bc),(20,vI (S.nb:Int)),(21,vI (i:Int))],[((n4+0),.rows 1 ((sizeOf S).toNat) (bk (d7 S i)) 3 (0,0)),((n1+0),.lit (Setup.l S) 31 (0,0))],[],i <= S.nb,S.nb-i⟩) 0 [0,1] [] (Nat.zero_le _) ?_
   rintro i hI5 So
   refine aa 6 [] λ _=>RN.em ((i:Int)<(S.nb:Int)) 22 (λ h7=>?_) λ h7=>?_
   ·have YR:=lj hS.toSetN (i:=i) (by omega)
    refine aq 20 ([.ix i,.rorow 0 (S.bo+i) 0,.rorow 0 (S.bo+i) 1,.rorow 0 (S.bo+i) 2,.rorow 0 (S.bo+i) 3,.rorow 0 (S.bo+i) 4,.rorow 0 (S.bo+i) 5,.rorow 0 (S.bo+i) 6,.rorow 0 (S.bo+i) 7,.rorow 0 (S.bo+i) 8]++ow 0 9++ow 2 16) [((S.bo*9+i*9)+8)=(S.bo+i)*9+8 /\ (S.bo+i)<S.bR,((S.bo*9+i*9)+7)=(S.bo+i)*9+7 /\ (S.bo+i)<S.bR,((S.bo*9+i*9)+6)=(S.bo+i)*9+6 /\ (S.bo+i)<S.bR,((S.bo*9+i*9)+5)=(S.bo+i)*9+5 /\ (S.bo+i)<S.bR,((S.bo*9+i*9)+4)=(S.bo+i)*9+4 /\ (S.bo+i)<S.bR,((S.bo*9+i*9)+3)=(S.bo+i)*9+3 /\ (S.bo+i)<S.bR,((S.bo*9+i*9)+2)=(S.bo+i)*9+2 /\ (S.bo+i)<S.bR,((S.bo*9+i*9)+1)=(S.bo+i)*9+1 /\ (S.bo+i)<S.bR,(S.bo*9+i*9)=(S.bo+i)*9+0 /\ (S.bo+i)<S.bR,(i:Int)=((i:Nat):Int) /\ i<S.nb] λ n8=>al (cy S (i:Int) _ hS.toSetN) ?_
    have hb9:=cw hS.toSetN (i:Int)
    refine aq 5 [.sl ((ae S (i:Int)).toNat) ((sizeOf S).toNat) false] [ae S (i:Int)=(((ae S (i:Int)).toNat:Nat):Int) /\ (sizeOf S).toNat=(sizeOf S).toNat /\ (ae S (i:Int)).toNat <= (sizeOf S).toNat /\ (sizeOf S).toNat <= (sizeOf S).toNat /\ (sizeOf S).toNat≠(ae S (i:Int)).toNat] λ _=>RN.draw [11,13] [0,2]<|aL [0,2] [0,1,2,6,3,7,4,8,5,9,10] [.own 0,.ro 0,.ix 0] [0=((0:Nat):Int) /\ 0<((sizeOf S).toNat-(ae S (i:Int)).toNat)]<|RD.one 11 (bT [0,2] [.row 1 (((ae S (i:Int)).toNat)+0) 0] [((0+((ae S (i:Int)).toNat)*1)+0*1)=(((ae S (i:Int)).toNat)+0)*1+0 /\ (((ae S (i:Int)).toNat)+0)<((sizeOf S).toNat)] λ _=>?_)
    refine aL [0,2] [12] [.ix 1] [1=((1:Nat):Int) /\ 1<((sizeOf S).toNat-(ae S (i:Int)).toNat)]<|RD.one 13 (bT [0,2] [.row 1 (((ae S (i:Int)).toNat)+1) 0] [((0+((ae S (i:Int)).toNat)*1)+1*1)=(((ae S (i:Int)).toNat)+1)*1+0 /\ (((ae S (i:Int)).toNat)+1)<((sizeOf S).toNat)] λ _=>?_)
    refine RD.fin<|aa 2 [] λ _=>RN.draw [11,13] [0,2]<|aL [0,2] [0,1,2,6,3,7,4,8,5,9,10] [.own 0,.ro 0,.ix 2] [2=((2:Nat):Int) /\ 2<((sizeOf S).toNat-(ae S (i:Int)).toNat)]<|RD.one 11 (bT [0,2] [.row 1 (((ae S (i:Int)).toNat)+2) 0] [((0+((ae S (i:Int)).toNat)*1)+2*1)=(((ae S (i:Int)).toNat)+2)*1+0 /\ (((ae S (i:Int)).toNat)+2)<((sizeOf S).toNat)] λ _=>?_)
    refine aL [0,2] [12] [.ix 3] [3=((3:Nat):Int) /\ 3<((sizeOf S).toNat-(ae S (i:Int)).toNat)]<|RD.one 13 (bT [0,2] [.row 1 (((ae S (i:Int)).toNat)+3) 0] [((0+((ae S (i:Int)).toNat)*1)+3*1)=(((ae S (i:Int)).toNat)+3)*1+0 /\ (((ae S (i:Int)).toNat)+3)<((sizeOf S).toNat)] λ _=>?_)
    refine RD.fin<|aa 1 [] λ _=>RN.draw [7,9] [0,2]<|aL [0,2] [0,1,2,4,3,5,6] [.own 0,.ro 0,.ix 4] [4=((4:Nat):Int) /\ 4<((sizeOf S).toNat-(ae S (i:Int)).toNat)]<|RD.one 7 (bT [0,2] [.row 1 (((ae S (i:Int)).toNat)+4) 0] [((0+((ae S (i:Int)).toNat)*1)+4*1)=(((ae S (i:Int)).toNat)+4)*1+0 /\ (((ae S (i:Int)).toNat)+4)<((sizeOf S).toNat)] λ _=>?_)
    refine aL [0,2] [8] [.ix 5] [5=((5:Nat):Int) /\ 5<((sizeOf S).toNat-(ae S (i:Int)).toNat)]<|RD.one 9 (bT [0,2] [.row 1 (((ae S (i:Int)).toNat)+5) 0] [((0+((ae S (i:Int)).toNat)*1)+5*1)=(((ae S (i:Int)).toNat)+5)*1+0 /\ (((ae S (i:Int)).toNat)+5)<((sizeOf S).toNat)] λ _=>?_)
    refine RD.fin<|aq 6 [.nw] [bF ((i:Int)+1)] λ _=>fS 1 (congrArg (λ v_=>(.rows 1 ((sizeOf S).toNat) v_ 3 (0,0):Blk)) (show (cM (cM (cM (cM (cM (cM (bk (d7 S i)) (((ae S (i:Int)).toNat)+0) 0 (vI ((S.bods.getD (S.bo+i) dB).mot.px))) (((ae S (i:Int)).toNat)+1) 0 (vI ((S.bods.getD (S.bo+i) dB).mot.py))) (((ae S (i:Int)).toNat)+2) 0 (vI ((S.bods.getD (S.bo+i) dB).mot.vx))) (((ae S (i:Int)).toNat)+3) 0 (vI ((S.bods.getD (S.bo+i) dB).mot.vy))) (((ae S (i:Int)).toNat)+4) 0 (vI ((S.bods.getD (S.bo+i) dB).a))) (((ae S (i:Int)).toNat)+5) 0 (vI ((S.bods.getD (S.bo+i) dB).b)))=(bk (d7 S (i+1))) from (by rw[<- yg hS.toSetN (i:=i) (by omega)] <;> kernel_rfl))) ?_
    refine So (i+1) [1,2] [] ?_
    try dsimp only
    exact⟨by omega,by omega⟩
   ·refine aa 12 [] λ _=>RN.ret [] [0] [] (v:=vS (n4+0) 0 ((sizeOf S).toNat) ((sizeOf S).toNat)) (H':=[((n4+0),.rows 1 ((sizeOf S).toNat) (bk (d7 S i)) 3 (0,0))]) ?_
    have ei:i=S.nb:=by omega
    subst ei
    exact⟨_,rfl,rfl⟩
abbrev ij(S:Setup)(bp mb:Nat):List Value:=[vI S.players,vS S.bb (S.bo*9) S.nb S.bc,vI S.box.x0,vI S.box.y0,vI S.box.x1,vI S.box.y1,.slice S.rA S.rn S.rc,.slice S.dA S.dn S.dc,vI S.fog,vI S.g.x,vI S.g.y,vI S.push,vI S.drag,vI S.rest,vI S.rounds,vI S.fuel,vP bp 0,vP mb 0]
inductive GameH(rs:List Bx)(ds:List Dr)(bp gb:Nat)(S:Setup)(M:MemS)(k:Nat):HL -> Prop
 | mk (mb:Nat) (T U:HL) (hM:MemH mb M k T) (hU:vD S rs ds U):GameH rs ds bp gb S M k (ap [(gb,.lit (ij S bp mb) 86 (0,0))] [T,U])
theorem vE(S:Setup)(F:HL)(hS:SetCl F S):Sp Tryz.prog 9 #[Setup.v S] (ap [] []) F (λ u H'=>∃q,H'=ap [(q,.rows 1 (sizeOf S).toNat (bk (d7 S S.nb)) 3 (0,0))] [] /\ u=vS q 0 (sizeOf S).toNat (sizeOf S).toNat):=Cb S F hS
theorem vF(q:Nat)(cs:List Int)(n k cap:Nat)(F:HL)(hn:cs.length=n)(hq:(q,.rows 1 n (bk cs) 3 (0,0))∈F)(hc:n <= 1000000)(hk:k <= 100000000)(hcap:n <= cap):Sp Tryz.prog 8 #[vS q 0 n cap] (ap [] []) F (λ u H'=>∃x:Nat × HL,H'=ap [] [x.2] /\ (u=vP x.1 0 /\ MemH x.1 ⟨cs,[],0⟩ k x.2)):=by
 subst hn
 exact Il q cs k cap F hq hc hk hcap
theorem EV(S:Setup)(rs:List Bx)(ds:List Dr)(bp:Nat)(F:HL)(hS:SetCl F S)(hM:MapIn F S rs ds)(h1:1 <= S.nb)(UN:S.rn <= 1000000)(UW:S.dn <= 1000000)(Pz:(sizeOf S).toNat <= 1000000)(hv:kK S rs ds=0)(k:Nat)(hk:k <= 100000000):Sp Tryz.prog 7 #[(Setup.v S),vP bp 0] [] F (λ u H'=>∃x:Nat × Setup × HL,H'=ap [] [x.2.2] /\ (u=.tuple #[vP x.1 0,vI 0] /\ SetEq S x.2.1 /\ GameH rs ds bp x.1 x.2.1 ⟨d7 S S.nb,[],0⟩ k x.2.2)):=by
 refine Sp.run Tryz.func7 rfl mn (A:=[]) (Ts:=[]) rfl λ w0=>?_
 refine aa 11 (ow 0 16) λ n1=>al (Iu S rs ds _ hS.up.toSh hM.up)<|aa 9 [] λ _=>dR 10 (nt (decide_eq_true hv))<|aa 4 [] λ _=>RN.draw [] []<|af [] [0,2,3] (ow 0 32)<|RD.one 1 (RDO.ct [] (Hp:=[]) (Tp:=[]) [] [] (yf S rs ds _ hS.up hM.up h1 UN UW) ?_)
 rintro _ ⟨S2,U3⟩ ⟨rfl,he4,hU5⟩
 dsimp only at he4 hU5
 refine RD.one 4 (RDO.ct [] (Hp:=[]) (Tp:=[]) [] [] (vE S _ hS.up) ?_)
 rintro _ q6 rfl
 refine RD.one 5 (RDO.ct [] (Hp:=[]) (Tp:=[]) [] [] (vF q6 (d7 S S.nb) ((sizeOf S).toNat) k ((sizeOf S).toNat) _ (ii _ _) (aC 0) Pz hk (Nat.le_refl _)) ?_)
 rintro _ ⟨m7,T8⟩ ⟨rfl,R5⟩
 dsimp only at R5
 refine af [] [6] []<|RD.one 7 (RDO.ev [] [] λ Qw=>?_)
 refine af [] [8,9] []<|RD.fin<|aa 1 [] λ _=>RN.ret [] [0] [0,1] (v:=.tuple #[vP (Qw+0) 0,vI 0]) (H':=(ap [((Qw+0),.lit [vI S2.players,vS S2.bb (S2.bo*9) S2.nb S2.bc,vI S2.box.x0,vI S2.box.y0,vI S2.box.x1,vI S2.box.y1,.slice S2.rA S2.rn S2.rc,.slice S2.dA S2.dn S2.dc,vI S2.fog,vI S2.g.x,vI S2.g.y,vI S2.push,vI S2.drag,vI S2.rest,vI S2.rounds,vI S2.fuel,vP bp 0,vP m7 0] 86 (0,0))] [T8,U3])) ?_
 exact⟨((Qw+0),S2,ap [((Qw+0),.lit (ij S2 bp m7) 86 (0,0))] [T8,U3]),by simp[ap],rfl,he4,.mk _ _ _ R5 hU5⟩
theorem EW(S:Setup)(rs:List Bx)(ds:List Dr)(bp:Nat)(F:HL)(hS:SetCl F S)(hM:MapIn F S rs ds)(h1:1 <= S.nb)(UN:S.rn <= 1000000)(UW:S.dn <= 1000000)(Pz:(sizeOf S).toNat <= 1000000)(hv:kK S rs ds=0)(k:Nat)(hk:k <= 100000000):Sp Tryz.prog 7 #[Setup.v S,vP bp 0] (ap [] []) F (λ u H'=>∃x:Nat × Setup × HL,H'=ap [] [x.2.2] /\ (u=.tuple #[vP x.1 0,vI 0] /\ SetEq S x.2.1 /\ GameH rs ds bp x.1 x.2.1 ⟨d7 S S.nb,[],0⟩ k x.2.2)):=EV S rs ds bp F hS hM h1 UN UW Pz hv k hk
theorem EY(S:Setup)(bp gb mb:Nat)(F:HL)(hg:(gb,.lit (ij S bp mb) 86 (0,0))∈F):Sp Tryz.prog 17 #[vP gb 0] [] F (λ u H'=>u=vP mb 0 /\ H'=[]):=by
 refine Sp.run Tryz.func17 rfl (mc hg mn) (A:=[]) (Ts:=[]) rfl λ w0=>?_
 refine aa 14 [.ro 0] λ _=>?_
 exact RN.ret [] [] [] ⟨rfl,rfl⟩
def OU(cs:List Int):Prop:=(cs.getD 1 0=0 /\ cs.getD 2 0=0 /\ cs.getD 3 0=0 /\ cs.getD 4 0=0 /\ cs.getD 5 0=0 /\ cs.getD 6 0=0 /\ cs.getD 7 0=0 /\ cs.getD 8 0=0 /\ cs.getD 9 0=0 /\ cs.getD 10 0=0) /\ cs.getD 0 0 >= 0 /\ cs.getD 0 0 <= 6000
instance (cs:List Int):Decidable (OU cs):=inferInstanceAs (Decidable (_ /\ _))
def rZ(na nb:Nat)(xs ys:List Int):Prop:=na=nb /\ ∀k,k<na -> xs.getD k 0=ys.getD k 0
instance (na nb:Nat) (xs ys:List Int):Decidable (rZ na nb xs ys):=inferInstanceAs (Decidable (_ /\ _))
theorem Cc(qa qb na nb Na Nb ca cb:Nat)(xs ys:List Int)(F:HL)(ha:(qa,.rows 1 Na (bk xs) 3 (0,0))∈F)(hb:(qb,.rows 1 Nb (bk ys) 3 (0,0))∈F)(hna:na <= Na)(RJ:nb <= Nb)(hn:na <= 1000000):Sp Tryz.prog 16 #[vS qa 0 na ca,vS qb 0 nb cb] [] F (λ u H'=>u=.bool (decide (rZ na nb xs ys)) /\ H'=[]):=by
 refine Sp.run Tryz.func16 rfl (mc ha (mc hb mn)) (A:=[]) (Ts:=[]) rfl λ w0=>?_
 refine aa 15 [] λ _=>RN.en ((na:Int)=(nb:Int)) 10 (λ h1=>?_) λ h1=>?_
 ·refine aa 10 [] λ _=>RN.loop (σ:=Nat) (λ i=>⟨[(0,vS qa 0 na ca),(1,vS qb 0 nb cb),(5,vI (i:Int))],[],[],i <= na /\ ∀t,t<i -> xs.getD t 0=ys.getD t 0,na-i⟩) 0 [] [] (⟨Nat.zero_le _,λ t ht=>absurd ht (Nat.not_lt_zero _)⟩) ?_
  rintro i ⟨QT,UM⟩ PK
  refine aa 9 [] λ _=>RN.em ((i:Int)<(na:Int)) 14 (λ h4=>?_) λ h4=>?_
  ·refine aa 6 [] λ _=>RN.draw [] []<|aL [] [0,1,4,5,2,6,3,7,8] [.ix i,.ix i,.rorow 0 i 0,.rorow 1 i 0] [(0+i*1)=i*1+0 /\ i<Nb,(0+i*1)=i*1+0 /\ i<Na,(i:Int)=((i:Nat):Int) /\ i<nb,(i:Int)=((i:Nat):Int) /\ i<na]<|RD.fin<|aa 1 [] λ _=>RN.en (xs.getD i 0=ys.getD i 0) 25 (λ h5=>?_) λ h5=>?_
   ·refine aq 9 [.nw] [bF ((i:Int)+1)] λ _=>?_
    refine PK (i+1) [] [] ?_
    try dsimp only
    refine⟨⟨by omega,λ t ht=>?_⟩,by omega⟩
    rcases Nat.lt_or_ge t i with h_|h_
    ·exact UM t h_
    ·obtain rfl:t=i:=by omega
     exact h5
   ·refine aa 6 [] λ _=>RN.ret [] [] [] (v:=.bool false) (H':=[]) ?_
    exact⟨congrArg Value.bool (decide_eq_false (show ¬ rZ na nb xs ys from λ h_=>h5 (h_.2 i (by omega)))).symm,rfl⟩
  ·refine aa 11 [] λ _=>RN.ret [] [] [] (v:=.bool true) (H':=[]) ?_
   exact⟨congrArg Value.bool (decide_eq_true (show rZ na nb xs ys from ⟨by omega,λ t ht=>UM t (by omega)⟩)).symm,rfl⟩
 ·refine aa 6 [] λ _=>RN.ret [] [] [] (v:=.bool false) (H':=[]) ?_
  exact⟨congrArg Value.bool (decide_eq_false (show ¬ rZ na nb xs ys from λ h_=>by have:=h_.1;omega)).symm,rfl⟩
theorem Iw(b:Bool)(qa qb na nb Na Nb ca cb:Nat)(xs ys:List Int)(F:HL)(ha:(qa,.rows 1 Na (bk xs) 3 (0,0))∈F)(hb:(qb,.rows 1 Nb (bk ys) 3 (0,0))∈F)(hna:na <= Na)(RJ:nb <= Nb)(hn:na <= 1000000)(he:decide (rZ na nb xs ys)=b):Sp Tryz.prog 16 #[vS qa 0 na ca,vS qb 0 nb cb] [] F (λ u H'=>u=.bool b /\ H'=[]):=he ▸ Cc qa qb na nb Na Nb ca cb xs ys F ha hb hna RJ hn
theorem pP(mb:Nat)(M:MemS)(k:Nat)(T F:HL)(hM:MemH mb M k T)(hT:∀x∈T,x∈F):Sp Tryz.prog 18 #[vP mb 0] (ap [] []) F (λ u H'=>∃q,H'=ap [(q,.rows 1 M.cs.length (bk M.cs) 3 (0,0))] [] /\ u=vS q 0 M.cs.length M.cs.length):=B2 mb M k T F hM hT
theorem EZ(A:Option Addr)(n cap:Nat)(xs:List Int)(F:HL)(hl:ArgL F A n xs)(hn:n <= 9223372036854775807):Sp Tryz.prog 20 #[.slice A n cap] (ap [] []) F (λ u H'=>∃x:Setup × HL,H'=ap [(x.1.bb,.rows 9 x.1.bR (ge x.1.bods) 73 (0,0))] [x.2] /\ (u=Setup.v x.1 /\ SetG xs x.1 x.2)):=B4 A n cap xs F hl hn
def i9(x:Inp):Prop:=(¬ x.dx < -1 /\ ¬ x.dx>1) /\ (¬ x.dy < -1 /\ ¬ x.dy>1) /\ ¬ x.act<0 /\ ¬ x.act>3
instance (x:Inp):Decidable (i9 x):=inferInstanceAs (Decidable (_ /\ _))
def cV(pl:Int)(n:Nat)(xs:List Inp)(now:Int):Int:=if (n:Int)=pl then (if ∀k,k<n -> i9 (xs.getD k dI) then (if now >= 6000 then 2 else 0) else 1) else 17
theorem E0(mb cb n:Nat)(A:Option Addr)(m cap:Nat)(base:Int)(F:HL)(hm:(mb,.lit [vS cb 0 n n,.slice A m cap,vI base] 89 (0,0))∈F):Sp Tryz.prog 33 #[vP mb 0] [] F (λ u H'=>u=vI (aV (base+(m:Int))) /\ H'=[]):=by
 refine Sp.run Tryz.func33 rfl (mc hm mn) (A:=[]) (Ts:=[]) rfl λ w0=>?_
 refine aa 6 [] λ _=>RN.draw [] []<|af [] [0,4,1,5,2,6,3,7,8,9,10] [.ro 0,.ro 0]<|RD.fin<|aa 1 [] λ _=>?_
 exact RN.ret [] [] [] ⟨rfl,rfl⟩
theorem vG{mb:Nat}{M:MemS}{k:Nat}{T F:HL}(h:MemH mb M k T)(hs:∀x∈T,x∈F):Sp Tryz.prog 33 #[vP mb 0] [] F (λ u H'=>u=vI (aV (M.base+(M.lg.length:Int))) /\ H'=[]):=by
 cases h with
 | mk cb A cap Hl Tl hc hl=>exact E0 mb cb M.cs.length A M.lg.length cap M.base F (hs _ (by simp))
theorem vH(S:Setup)(bp gb mb:Nat)(M:MemS)(k:Nat)(T F:HL)(hg:(gb,.lit (ij S bp mb) 86 (0,0))∈F)(hM:MemH mb M k T)(hT:∀x∈T,x∈F):Sp Tryz.prog 60 #[vP gb 0] [] F (λ u H'=>u=vI (M.get 0) /\ H'=[]):=by
 refine Sp.run Tryz.func60 rfl (mc hg mn) (A:=[]) (Ts:=[]) rfl λ w0=>?_
 refine aa 11 [.ro 0] λ _=>al (aB 0 hM (λ x hx=>bK (hT x hx)))<|aa 3 [] λ _=>?_
 exact RN.ret [] [] [] ⟨rfl,rfl⟩
theorem yh(S:Setup)(bp gb mb:Nat)(M:MemS)(k:Nat)(A:Option Addr)(n cap:Nat)(xs:List Inp)(T F:HL)(hg:(gb,.lit (ij S bp mb) 86 (0,0))∈F)(hM:MemH mb M k T)(hT:∀x∈T,x∈F)(hl:RowL mN 93 F A n xs)(hn:n <= 1000000):Sp Tryz.prog 32 #[vP gb 0,.slice A n cap] [] F (λ u H'=>u=vI (cV S.players n xs (M.get 0)) /\ H'=[]):=by
 refine Sp.run Tryz.func32 rfl (mc hg mn) (A:=[]) (Ts:=[]) rfl λ w0=>?_
 refine aa 18 [.ro 0] λ _=>RN.en ((n:Int)=S.players) 14 (λ h1=>?_) λ h1=>?_
 ·refine aa 12 [] λ _=>RN.loop (σ:=Nat) (λ k_=>⟨[(0,vP gb 0),(15,.slice A n cap),(16,vI (n:Int)),(17,vI (k_:Int))],[],[],k_ <= n /\ ∀t,t<k_ -> i9 (xs.getD t dI),n-k_⟩) 0 [] [] (⟨Nat.zero_le _,λ t ht=>absurd ht (Nat.not_lt_zero _)⟩) ?_
  rintro k_ ⟨Wy,aT⟩ PK
  refine aa 6 [] λ _=>RN.em ((k_:Int)<(n:Int)) 18 (λ h4=>?_) λ h4=>?_
  ·refine aa 7 [] λ _=>?_
   obtain⟨qx5,PE,Vb,fx5,fzx5,Ut,Vz,Z0,VM⟩:=hl.at (k:=k_) (by omega)
   refine bZ 15 (congrArg (λ v_=>(.slice v_ n cap:Value)) Ut)<|RN.ro (λ _=>(mc hg (mc Vz mn)))<|aq 2 [.ix k_,.rorow 1 (PE+k_) 0,.rorow 1 (PE+k_) 1,.rorow 1 (PE+k_) 2] [((PE*3+k_*3)+2)=(PE+k_)*3+2 /\ (PE+k_)<Vb,((PE*3+k_*3)+1)=(PE+k_)*3+1 /\ (PE+k_)<Vb,(PE*3+k_*3)=(PE+k_)*3+0 /\ (PE+k_)<Vb,(k_:Int)=((k_:Nat):Int) /\ k_<n] λ _=>bZ 20 (congrArg (λ v_=>(.agg #[vI v_.dx,vI v_.dy,vI v_.act]:Value)) VM)<|aa 10 [.own 0,.own 0,.own 0,.own 0] λ n6=>RN.em ((xs.getD k_ dI).dx<(-1)) 24 (λ h7=>?_) λ h7=>?_
   ·refine aa 32 [] λ _=>RN.ret [] [] [] (v:=vI 1) (H':=[]) ?_
    exact⟨by rw[cV,if_pos (by omega),if_neg (λ h_=>by have L_:=h_ k_ (by omega);unfold i9 at L_;omega)],rfl⟩
   ·refine aa 5 [.own 0] λ _=>RN.em ((xs.getD k_ dI).dx>1) 29 (λ h8=>?_) λ h8=>?_
    ·refine aa 27 [] λ _=>RN.ret [] [] [] (v:=vI 1) (H':=[]) ?_
     exact⟨by rw[cV,if_pos (by omega),if_neg (λ h_=>by have L_:=h_ k_ (by omega);unfold i9 at L_;omega)],rfl⟩
    ·refine aa 5 [.own 0] λ _=>RN.em ((xs.getD k_ dI).dy<(-1)) 34 (λ h9=>?_) λ h9=>?_
     ·refine aa 22 [] λ _=>RN.ret [] [] [] (v:=vI 1) (H':=[]) ?_
      exact⟨by rw[cV,if_pos (by omega),if_neg (λ h_=>by have L_:=h_ k_ (by omega);unfold i9 at L_;omega)],rfl⟩
     ·refine aa 5 [.own 0] λ _=>RN.em ((xs.getD k_ dI).dy>1) 39 (λ Qe=>?_) λ Qe=>?_
      ·refine aa 17 [] λ _=>RN.ret [] [] [] (v:=vI 1) (H':=[]) ?_
       exact⟨by rw[cV,if_pos (by omega),if_neg (λ h_=>by have L_:=h_ k_ (by omega);unfold i9 at L_;omega)],rfl⟩
      ·refine aa 5 [.own 0] λ _=>RN.em ((xs.getD k_ dI).act<0) 44 (λ P0=>?_) λ P0=>?_
       ·refine aa 12 [] λ _=>RN.ret [] [] [] (v:=vI 1) (H':=[]) ?_
        exact⟨by rw[cV,if_pos (by omega),if_neg (λ h_=>by have L_:=h_ k_ (by omega);unfold i9 at L_;omega)],rfl⟩
       ·refine aa 6 [.own 0] λ _=>RN.em ((xs.getD k_ dI).act>3) 48 (λ PN=>?_) λ PN=>?_
        ·refine aa 6 [] λ _=>RN.ret [] [] [] (v:=vI 1) (H':=[]) ?_
         exact⟨by rw[cV,if_pos (by omega),if_neg (λ h_=>by have L_:=h_ k_ (by omega);unfold i9 at L_;omega)],rfl⟩
        ·refine aq 8 [.nw] [bF ((k_:Int)+1)] λ _=>bZ 15 (congrArg (λ v_=>(.slice v_ n cap:Value)) Ut.symm) ?_
         refine PK (k_+1) [] [] ?_
         try dsimp only
         refine⟨⟨by omega,λ t ht=>?_⟩,by omega⟩
         rcases Nat.lt_or_ge t k_ with h_|h_
         ·exact aT t h_
         ·obtain rfl:t=k_:=by omega
          exact⟨⟨h7,h8⟩,⟨h9,Qe⟩,P0,PN⟩
  ·refine aa 10 [] λ _=>al (vH S bp gb mb M k T _ (bK hg) hM (λ x hx=>bK (hT x hx)))<|aa 3 [] λ _=>RN.em (M.get 0 >= 6000) 52 (λ Qd=>?_) λ Qd=>?_
   ·refine aa 6 [] λ _=>RN.ret [] [] [] (v:=vI 2) (H':=[]) ?_
    exact⟨by rw[cV,if_pos (by omega),if_pos (λ t ht=>aT t (by omega)),if_pos (by omega)],rfl⟩
   ·refine aa 8 [] λ _=>RN.ret [] [] [] (v:=vI 0) (H':=[]) ?_
    exact⟨by rw[cV,if_pos (by omega),if_pos (λ t ht=>aT t (by omega)),if_neg (by omega)],rfl⟩
 ·refine aa 6 [] λ _=>RN.ret [] [] [] (v:=vI 17) (H':=[]) ?_
  exact⟨by rw[cV,if_neg (by omega)],rfl⟩
theorem Cd(gb ib io ni ic:Nat)(F:HL):Sp Tryz.prog 36 #[vP gb 0,vS ib (io*3) ni ic] [] F (λ u H'=>∃n:Nat,H'=ap [((n+1),.lit [vS ib (io*3) ni ic] 45 (0,0)),((n+0),.lit [vP gb 0] 38 (0,0))] [] /\ u=.func (.func 63) #[] #[vP (n+0) 0,vP (n+1) 0]):=by
 refine Sp.run Tryz.func36 rfl mn (A:=[]) (Ts:=[]) rfl λ w0=>?_
 refine aa 13 [] λ n1=>RN.ret [] [0,1] [] (v:=.func (.func 63) #[] #[vP (n1+0) 0,vP (n1+1) 0]) (H':=(ap [((n1+1),.lit [vS ib (io*3) ni ic] 45 (0,0)),((n1+0),.lit [vP gb 0] 38 (0,0))] [])) ?_
 exact⟨_,rfl,rfl⟩
theorem yi(gb ib io ni ic:Nat)(F:HL):Sp Tryz.prog 36 #[vP gb 0,vS ib (io*3) ni ic] (ap [] []) F (λ u H'=>∃n:Nat,H'=ap [((n+1),.lit [vS ib (io*3) ni ic] 45 (0,0)),((n+0),.lit [vP gb 0] 38 (0,0))] [] /\ u=.func (.func 63) #[] #[vP (n+0) 0,vP (n+1) 0]):=Cd gb ib io ni ic F
end Go.Proofs.YthoijjeddhfcnaaGreatDoor
