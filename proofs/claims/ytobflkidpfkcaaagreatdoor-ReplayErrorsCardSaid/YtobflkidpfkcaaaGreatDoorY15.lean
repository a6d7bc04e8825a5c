import Derived.Test.YtobflkidpfkcaaaGreatDoorY14
import Derived.Test.YtobflkidpfkcaaaGreatDoorY12
set_option maxHeartbeats 4000000
set_option maxRecDepth 100000
set_option linter.unusedSimpArgs false
set_option linter.unusedVariables false
namespace Go.Proofs.YtobflkidpfkcaaaGreatDoor
open Go.RowKit
def i9 (S:Setup):List Bod:=(List.range S.nb).map S.body
theorem fA (S:Setup):(i9 S).length=S.nb:=by simp [i9]
theorem g9 {S:Setup} {k:Nat} (h:k < S.nb):(i9 S).getD k dB=S.body k:=by simp [i9,h]
theorem sH {F:HL} {S:Setup} (hS:SetSh F S):RowL kx 62 F (some ⟨S.bb,S.bo * 9,none⟩) S.nb (i9 S) :=
 .rows S.bb S.bo S.bR S.bods (0,0) S.nb (i9 S) hS.blk hS.room (fA S) (λ k hk=>(g9 hk).symm)
theorem ClS.open {α:Type} {e:Enc α} {T:TypeId} {xs:List α} {A:Option Addr} {c:Nat} {Hl:HL} (h:ClS e T xs A c Hl) (hx:0 < xs.length):∃ b,A=some ⟨b,0,none⟩ /\ Hl=[(b,.rows e.w c (bn e xs) T (0,0))] /\ xs.length <= c:=by
 obtain ⟨A0,h⟩:=h
 rcases h with ⟨rfl,_⟩ | ⟨b,h1,h2,h3⟩
 ·simp at hx
 ·exact ⟨b,h1,h2,h3⟩
structure SetCl (F:HL) (S:Setup):Prop extends SetN S where
 blk:(S.bb,.rows 9 S.bR (iw S.bods) 62 (0,0)) ∈ F
 room:S.bo+S.nb <= S.bR
 shp:∀ k,k < S.nb -> (RowL kM 30 F (S.body k).sh.A (S.body k).sh.poly.length (S.body k).sh.poly /\ (S.body k).sh.poly.length <= 1000000) /\ ((S.body k).sh.poly=[] \/ 3 <= (S.body k).sh.poly.length)
theorem SetIn.cl {F:HL} {S:Setup} (h:SetIn F S):SetCl F S:=⟨h.toSetN,h.blk,h.room,λ k hk=>⟨(h.shp k hk).rowL,by
 have h1:=h.shp k hk
 generalize (S.body k).sh=s at h1
 cases h1 with
 | circle r A cap=>exact .inl rfl
 | poly r l b cap h h3 h4 h5=>exact .inr h3⟩⟩
theorem SetCl.up {F X:HL} {S:Setup} (h:SetCl F S):SetCl (X++F) S:=⟨h.toSetN,List.mem_append_right _ h.blk,h.room,λ k hk=>⟨⟨(h.shp k hk).1.1.up,(h.shp k hk).1.2⟩,(h.shp k hk).2⟩⟩
theorem SetCl.toSh {F:HL} {S:Setup} (h:SetCl F S):SetSh F S:=⟨h.nb,h.blk,h.room,λ k hk=>(h.shp k hk).1⟩
theorem sI {s:Shp} (h:s.poly=[] \/ 3 <= s.poly.length) (hl:s.poly.length <= 1000000) {A:Option Addr} {c:Nat} {T:HL} (hc:ClS kM 30 s.poly A c T):ShH ⟨s.r,s.poly,A,c⟩ T:=by
 intro F' hF
 rcases h with h | h
 ·rw [h];exact .circle _ _ _
 ·obtain ⟨b2,rfl,rfl,h6⟩:=hc.open (by omega)
  exact .poly _ _ _ _ (hF _ (List.mem_singleton.2 rfl)) h h6 hl
def Bod.at (b:Bod) (A:Option Addr) (c:Nat):Bod:=⟨⟨b.sh.r,b.sh.poly,A,c⟩,b.mot,b.a,b.b⟩
theorem dN {α:Type} {l:List α} {i:Nat} {x d:α} (h:i < l.length):(l.set i x).getD i d=x:=by simp [h]
theorem db {α:Type} {l:List α} {i k:Nat} {x d:α} (h:¬ i=k):(l.set i x).getD k d=l.getD k d:=by simp [List.getElem?_set,h]
theorem z8 {l:List Bod} {i:Nat} (h:i < l.length) (A:Option Addr) (c:Nat):dT (iw l) i 1 (.slice A (l.getD i dB).sh.poly.length c)=iw (l.set i ((l.getD i dB).at A c)):=by
 funext j k
 unfold dT
 by_cases h1:j=i
 ·subst h1
  show _=kx.cell ((l.set j ((l.getD j dB).at A c)).getD j dB) k
  rw [dN h]
  by_cases h2:k=1
  ·subst h2;simp;rfl
  ·rw [if_neg (by simp [h2])]
   show kx.cell (l.getD j dB) k=_
   rcases k with _ | _ | k
   ·rfl
   ·exact absurd rfl h2
   ·rcases k with _ | _ | _ | _ | _ | _ | k <;> rfl
 ·rw [if_neg (by simp [h1])]
  show kx.cell (l.getD j dB) k=kx.cell ((l.set i _).getD j dB) k
  rw [db (λ e=>h1 e.symm)]
structure SetEq (S S':Setup):Prop where
 nums:S'.players=S.players /\ S'.nb=S.nb /\ S'.box=S.box /\ S'.rn=S.rn /\ S'.dn=S.dn /\ S'.fog=S.fog /\ S'.g=S.g /\ S'.push=S.push /\ S'.drag=S.drag /\ S'.rest=S.rest /\ S'.rounds=S.rounds /\ S'.fuel=S.fuel
 bod:∀ k,k < S.nb -> ∃ A c,S'.body k=(S.body k).at A c
 whole:S'.bo=0 /\ S'.bods.length=S.nb
def qA (S:Setup) (rs:List Bx) (ds:List Dr) (U:HL):Prop:=∀ F,(∀ y ∈ U,y ∈ F) -> SetIn F S /\ MapIn F S rs ds
theorem yv (S:Setup) (rs:List Bx) (ds:List Dr) (F:HL) (hS:SetCl F S) (hM:MapIn F S rs ds) (h1:1 <= S.nb) (hrn:S.rn <= 1000000) (hdn:S.dn <= 1000000):Sp Tryz.prog 42 #[Setup.v S] (ap [] []) F (λ u H'=>∃ x:Setup × HL,H'=ap [] [x.2] /\ (u=Setup.v x.1 /\ SetEq S x.1 /\ qA x.1 rs ds x.2)):=by
 have hp:=hS.pl
 have hn:=hS.nb
 have hr:=hS.room
 refine Sp.run Tryz.func42 rfl (mc hS.blk mn) (A:=[]) (Ts:=[]) rfl λ w0=>?_
 refine ae 10 [.own 1] λ n1=>RN.ct (Hp:=[]) (Tp:=[]) [] [] (kO (some ⟨S.bb,S.bo * 9,none⟩) S.nb S.bc (i9 S) _ (RowL.src tQ (by decide) (sH hS.toSh).up) (by omega)) ?_
 rintro _ ⟨A2,c3,T4⟩ ⟨rfl,hc5⟩
 dsimp only at hc5
 refine ae 7 [.own 1] λ _=>?_
 obtain ⟨bb,rfl,rfl,hcap0⟩:=hc5.open (by rw [fA];omega)
 have hcap:S.nb <= c3:=by rw [fA] at hcap0;exact hcap0
 refine zI 0 (x:=(bb,.rows 9 c3 (iw (i9 S)) 62 (0,0)))<|ae 7 [.own 2] λ _=>RN.nt<|RN.loop (σ:=Nat × List Bod × HL) (λ ⟨i,bods,U_⟩=>⟨[(1,vP (n1+0) 0),(2,vP (n1+1) 0),(10,vI (S.nb:Int)),(11,vI (i:Int))],[(bb,.rows 9 c3 (iw bods) 62 (0,0)),((n1+1),.lit [vI 0,.slice none 0 0,vI 0,vI 0,vI 0,vI 0,.slice none 0 0,.slice none 0 0,vI 0,vI 0,vI 0,vI 0,vI 0,vI 0,vI 0,vI 0] 32 (0,0)),((n1+0),.lit [vI S.players,vS bb 0 S.nb c3,vI S.box.x0,vI S.box.y0,vI S.box.x1,vI S.box.y1,.slice S.rA S.rn S.rc,.slice S.dA S.dn S.dc,vI S.fog,vI S.g.x,vI S.g.y,vI S.push,vI S.drag,vI S.rest,vI S.rounds,vI S.fuel] 32 (0,0))],[U_],i <= S.nb /\ bods.length=S.nb /\ (∀ k,k < S.nb -> ∃ A c,bods.getD k dB=(S.body k).at A c) /\ (∀ k,k < i -> ShH (bods.getD k dB).sh U_) /\ ∀ k,i <= k -> k < S.nb -> bods.getD k dB=S.body k,S.nb - i⟩) (0,i9 S,[]) [0,1,2] [0] (⟨Nat.zero_le _,fA S,λ k hk=>⟨_,_,g9 hk⟩,λ k hk=>absurd hk (Nat.not_lt_zero _),λ k _ hk=>g9 hk⟩) ?_
 rintro ⟨i,bods,U_⟩ ⟨hil,hbl_,hsame,hsh_,hfar⟩ mt7
 refine ae 6 [] λ _=>RN.em ((i:Int) < (S.nb:Int)) 12 (λ h8=>?_) λ h8=>?_
 ·refine ae 7 [] λ _=>?_
  have hsi_:(RowL kM 30 F (bods.getD i dB).sh.A (bods.getD i dB).sh.poly.length (bods.getD i dB).sh.poly /\ (bods.getD i dB).sh.poly.length <= 1000000) /\ ((bods.getD i dB).sh.poly=[] \/ 3 <= (bods.getD i dB).sh.poly.length):=by rw [hfar i (Nat.le_refl _) (by omega)];exact hS.shp i (by omega)
  have hrl_:=hsi_.1.1
  have hpl_:(bods.getD i dB).sh.poly.length <= 100000000:=by have:=hsi_.1.2;omega
  refine ae 4 [] λ _=>RN.draw [14] []<|aJ [] [0,2,3,5,1,4,6,7,8,9] [.own 2,.own 2,.ix i,.row 0 i 1] [((0+i * 9)+1)=i * 9+1 /\ i < c3,(i:Int)=((i:Nat):Int) /\ i < S.nb]<|RD.one 10 (RDO.ct [] (Hp:=[]) (Tp:=[]) [] [] (lR ((bods.getD i dB).sh.A) ((bods.getD i dB).sh.poly.length) ((bods.getD i dB).sh.cap) ((bods.getD i dB).sh.poly) _ (RowL.src yq (by decide) hrl_.up) hpl_) ?_)
  rintro _ ⟨A9,c10,T11⟩ ⟨rfl,hc12⟩
  dsimp only at hc12
  refine aJ [] [11,12,13] [.ix i] [(i:Int)=((i:Nat):Int) /\ i < S.nb]<|RD.one 14 (d9 [] [.row 0 i 1] [((0+i * 9)+1)=i * 9+1 /\ i < c3] λ _=>?_)
  refine RD.fin<|ai 6 [.nw] [bg ((i:Int)+1)] λ _=>cS 0 (congrArg (λ v_=>(.rows 9 c3 v_ 62 (0,0):Blk)) (show (dT (iw bods) i 1 (.slice A9 ((bods.getD i dB).sh.poly.length) c10))=(iw (bods.set i ((bods.getD i dB).at A9 c10))) from (z8 (by omega) A9 c10)))<|mZ [1,0]<|oP ?_
  refine mt7 (i+1,(bods.set i ((bods.getD i dB).at A9 c10)),U_++T11) [0,1,2] [0] ?_
  try dsimp only
  refine ⟨⟨by omega,by rw [List.length_set];exact hbl_,λ t ht=>?_,λ t ht=>?_,λ t h1_ h2_=>?_⟩,by omega⟩
  ·rcases Decidable.em (i=t) with rfl | h_
   ·rw [dN (by omega),hfar i (Nat.le_refl _) ht];exact ⟨_,_,rfl⟩
   ·rw [db h_];exact hsame t ht
  ·rcases Decidable.em (i=t) with rfl | h_
   ·rw [dN (by omega)];exact ShH.right (sI hsi_.2 hsi_.1.2 hc12)
   ·rw [db h_];exact (hsh_ t (by omega)).left
  ·rw [db (by omega)];exact hfar t (by omega) h2_
 ·refine ae 10 [.own 2] λ _=>RN.ct (Hp:=[]) (Tp:=[]) [] [] (lS S.rA S.rn S.rc rs _ (RowL.src EV (by decide) hM.rooms.up) (by omega)) ?_
  rintro _ ⟨A13,c14,T15⟩ ⟨rfl,hc16⟩
  dsimp only at hc16
  refine ae 8 [.own 2,.own 2] λ _=>RN.ct (Hp:=[]) (Tp:=[]) [] [] (kP S.dA S.dn S.dc ds _ (RowL.src EW (by decide) hM.doors.up) (by omega)) ?_
  rintro _ ⟨A17,c18,T19⟩ ⟨rfl,hc20⟩
  dsimp only at hc20
  refine ae 10 (ow 2 17++ow 1 16) λ _=>RN.ret (ow 1 16) [0] [0,1,2] (v:=.agg #[vI S.players,vS bb 0 S.nb c3,vI S.box.x0,vI S.box.y0,vI S.box.x1,vI S.box.y1,.slice A13 S.rn c14,.slice A17 S.dn c18,vI S.fog,vI S.g.x,vI S.g.y,vI S.push,vI S.drag,vI S.rest,vI S.rounds,vI S.fuel]) (H':=(ap [(bb,.rows 9 c3 (iw bods) 62 (0,0))] [T19,T15,U_])) ?_
  have ei:i=S.nb:=by omega
  subst ei
  have hbod:∀ k,bods.getD (0+k) dB=bods.getD k dB:=λ k=>by rw [Nat.zero_add]
  refine ⟨((⟨S.players,bb,0,S.nb,c3,c3,bods,S.box,A13,S.rn,c14,A17,S.dn,c18,S.fog,S.g,S.push,S.drag,S.rest,S.rounds,S.fuel⟩:Setup),[(bb,.rows 9 c3 (iw bods) 62 (0,0))]++(T19++T15++U_)),(by simp [ap]),rfl,⟨⟨rfl,rfl,rfl,rfl,rfl,rfl,rfl,rfl,rfl,rfl,rfl,rfl⟩,λ k hk=>?_,rfl,hbl_⟩,λ F2 hF=>⟨⟨⟨hp,by omega⟩,hF _ (by simp),(by show 0+S.nb <= c3;omega),λ k hk=>?_⟩,?_,?_⟩⟩
  ·obtain ⟨A,c,h⟩:=hsame k hk;exact ⟨A,c,by show bods.getD (0+k) dB=_;rw [hbod];exact h⟩
  ·show ShIn F2 (bods.getD (0+k) dB).sh;rw [hbod];exact hsh_ k hk F2 λ x hx=>hF x (by simp [hx])
  ·have h_:=hc16.rowL (F:=F2) λ x hx=>hF x (by simp [hx]);rw [hM.rooms.len] at h_;exact h_
  ·have h_:=hc20.rowL (F:=F2) λ x hx=>hF x (by simp [hx]);rw [hM.doors.len] at h_;exact h_
theorem yw {S:Setup} (h:SetN S) {i:Nat} (hi:i < S.nb):dT (dT (dT (dT (dT (dT (aO (eA S i)) ((af S i).toNat+0) 0 (vI (S.body i).mot.px)) ((af S i).toNat+1) 0 (vI (S.body i).mot.py)) ((af S i).toNat+2) 0 (vI (S.body i).mot.vx)) ((af S i).toNat+3) 0 (vI (S.body i).mot.vy)) ((af S i).toNat+4) 0 (vI (S.body i).a)) ((af S i).toNat+5) 0 (vI (S.body i).b)=aO (eA S (i+1)):=by
 have hb:=nU h hi
 rw [<- Co h hi]
 rw [show (af S i+1).toNat=(af S i).toNat+1 by omega,show (af S i+2).toNat=(af S i).toNat+2 by omega,show (af S i+3).toNat=(af S i).toNat+3 by omega,show (af S i+4).toNat=(af S i).toNat+4 by omega,show (af S i+5).toNat=(af S i).toNat+5 by omega]
 rfl
theorem Ct (S:Setup) (F:HL) (hS:SetCl F S):Sp Tryz.prog 44 #[Setup.v S] (ap [] []) F (λ u H'=>∃ q,H'=ap [(q,.rows 1 (sizeOf S).toNat (aO (eA S S.nb)) 3 (0,0))] [] /\ u=vS q 0 (sizeOf S).toNat (sizeOf S).toNat):=by
 have hp:=hS.pl
 have hn:=hS.nb
 have hr:=hS.room
 have hz:=Cn hS.toSetN
 refine Sp.run Tryz.func44 rfl (mc hS.blk mn) (A:=[]) (Ts:=[]) rfl λ w0=>?_
 refine ae 13 [.own 0] λ n1=>RN.em (S.players < 0) 10 (λ h2=>?_) λ h2=>?_
 ·(exfalso;omega)
 ·refine ae 6 [.own 0] λ _=>RN.em (S.players > 1048576) 14 (λ h3=>?_) λ h3=>?_
  ·(exfalso;omega)
  ·refine ae 6 (ow 0 16) λ _=>aj (BG S _ hS.toSetN)<|ai 14 [.mk ((sizeOf S).toNat) ((sizeOf S).toNat),.own 1] [sizeOf S=(((sizeOf S).toNat:Nat):Int) /\ sizeOf S=(((sizeOf S).toNat:Nat):Int) /\ (sizeOf S).toNat <= (sizeOf S).toNat /\ 8 * ((sizeOf S).toNat) <= 140737488355328 /\ 1=1 /\ (sizeOf S).toNat <= 9223372036854775807] λ n4=>cS 0 (congrArg (λ v_=>(.rows 1 ((sizeOf S).toNat) v_ 3 (0,0):Blk)) (show (iU [vI 0])=(aO (eA S 0)) from (by rw [sB (sizeOf S).toNat] <;> rfl)))<|RN.loop (σ:=Nat) (λ i=>⟨[(1,vP (n1+0) 0),(3,vS (n4+0) 0 ((sizeOf S).toNat) ((sizeOf S).toNat)),(19,vS S.bb (S.bo * 9) S.nb S.bc),(20,vI (S.nb:Int)),(21,vI (i:Int))],[((n4+0),.rows 1 ((sizeOf S).toNat) (aO (eA S i)) 3 (0,0)),((n1+0),.lit (Setup.l S) 32 (0,0))],[],i <= S.nb,S.nb - i⟩) 0 [0,1] [] (Nat.zero_le _) ?_
   rintro i hI5 mt6
   refine ae 6 [] λ _=>RN.em ((i:Int) < (S.nb:Int)) 22 (λ h7=>?_) λ h7=>?_
   ·have hbi:=nU hS.toSetN (i:=i) (by omega)
    refine ai 20 ([.ix i,.rorow 0 (S.bo+i) 0,.rorow 0 (S.bo+i) 1,.rorow 0 (S.bo+i) 2,.rorow 0 (S.bo+i) 3,.rorow 0 (S.bo+i) 4,.rorow 0 (S.bo+i) 5,.rorow 0 (S.bo+i) 6,.rorow 0 (S.bo+i) 7,.rorow 0 (S.bo+i) 8]++ow 0 9++ow 2 16) [((S.bo * 9+i * 9)+8)=(S.bo+i) * 9+8 /\ (S.bo+i) < S.bR,((S.bo * 9+i * 9)+7)=(S.bo+i) * 9+7 /\ (S.bo+i) < S.bR,((S.bo * 9+i * 9)+6)=(S.bo+i) * 9+6 /\ (S.bo+i) < S.bR,((S.bo * 9+i * 9)+5)=(S.bo+i) * 9+5 /\ (S.bo+i) < S.bR,((S.bo * 9+i * 9)+4)=(S.bo+i) * 9+4 /\ (S.bo+i) < S.bR,((S.bo * 9+i * 9)+3)=(S.bo+i) * 9+3 /\ (S.bo+i) < S.bR,((S.bo * 9+i * 9)+2)=(S.bo+i) * 9+2 /\ (S.bo+i) < S.bR,((S.bo * 9+i * 9)+1)=(S.bo+i) * 9+1 /\ (S.bo+i) < S.bR,(S.bo * 9+i * 9)=(S.bo+i) * 9+0 /\ (S.bo+i) < S.bR,(i:Int)=((i:Nat):Int) /\ i < S.nb] λ n8=>aj (cI S (i:Int) _ hS.toSetN) ?_
    have hb9:=cH hS.toSetN (i:Int)
    refine ai 5 [.sl ((af S (i:Int)).toNat) ((sizeOf S).toNat) false] [af S (i:Int)=(((af S (i:Int)).toNat:Nat):Int) /\ (sizeOf S).toNat=(sizeOf S).toNat /\ (af S (i:Int)).toNat <= (sizeOf S).toNat /\ (sizeOf S).toNat <= (sizeOf S).toNat /\ (sizeOf S).toNat ≠ (af S (i:Int)).toNat] λ _=>RN.draw [11,13] [0,2]<|aJ [0,2] [0,1,2,6,3,7,4,8,5,9,10] [.own 0,.ro 0,.ix 0] [0=((0:Nat):Int) /\ 0 < ((sizeOf S).toNat - (af S (i:Int)).toNat)]<|RD.one 11 (d9 [0,2] [.row 1 (((af S (i:Int)).toNat)+0) 0] [((0+((af S (i:Int)).toNat) * 1)+0 * 1)=(((af S (i:Int)).toNat)+0) * 1+0 /\ (((af S (i:Int)).toNat)+0) < ((sizeOf S).toNat)] λ _=>?_)
    refine aJ [0,2] [12] [.ix 1] [1=((1:Nat):Int) /\ 1 < ((sizeOf S).toNat - (af S (i:Int)).toNat)]<|RD.one 13 (d9 [0,2] [.row 1 (((af S (i:Int)).toNat)+1) 0] [((0+((af S (i:Int)).toNat) * 1)+1 * 1)=(((af S (i:Int)).toNat)+1) * 1+0 /\ (((af S (i:Int)).toNat)+1) < ((sizeOf S).toNat)] λ _=>?_)
    refine RD.fin<|ae 2 [] λ _=>RN.draw [11,13] [0,2]<|aJ [0,2] [0,1,2,6,3,7,4,8,5,9,10] [.own 0,.ro 0,.ix 2] [2=((2:Nat):Int) /\ 2 < ((sizeOf S).toNat - (af S (i:Int)).toNat)]<|RD.one 11 (d9 [0,2] [.row 1 (((af S (i:Int)).toNat)+2) 0] [((0+((af S (i:Int)).toNat) * 1)+2 * 1)=(((af S (i:Int)).toNat)+2) * 1+0 /\ (((af S (i:Int)).toNat)+2) < ((sizeOf S).toNat)] λ _=>?_)
    refine aJ [0,2] [12] [.ix 3] [3=((3:Nat):Int) /\ 3 < ((sizeOf S).toNat - (af S (i:Int)).toNat)]<|RD.one 13 (d9 [0,2] [.row 1 (((af S (i:Int)).toNat)+3) 0] [((0+((af S (i:Int)).toNat) * 1)+3 * 1)=(((af S (i:Int)).toNat)+3) * 1+0 /\ (((af S (i:Int)).toNat)+3) < ((sizeOf S).toNat)] λ _=>?_)
    refine RD.fin<|ae 1 [] λ _=>RN.draw [7,9] [0,2]<|aJ [0,2] [0,1,2,4,3,5,6] [.own 0,.ro 0,.ix 4] [4=((4:Nat):Int) /\ 4 < ((sizeOf S).toNat - (af S (i:Int)).toNat)]<|RD.one 7 (d9 [0,2] [.row 1 (((af S (i:Int)).toNat)+4) 0] [((0+((af S (i:Int)).toNat) * 1)+4 * 1)=(((af S (i:Int)).toNat)+4) * 1+0 /\ (((af S (i:Int)).toNat)+4) < ((sizeOf S).toNat)] λ _=>?_)
    refine aJ [0,2] [8] [.ix 5] [5=((5:Nat):Int) /\ 5 < ((sizeOf S).toNat - (af S (i:Int)).toNat)]<|RD.one 9 (d9 [0,2] [.row 1 (((af S (i:Int)).toNat)+5) 0] [((0+((af S (i:Int)).toNat) * 1)+5 * 1)=(((af S (i:Int)).toNat)+5) * 1+0 /\ (((af S (i:Int)).toNat)+5) < ((sizeOf S).toNat)] λ _=>?_)
    refine RD.fin<|ai 6 [.nw] [bg ((i:Int)+1)] λ _=>cS 1 (congrArg (λ v_=>(.rows 1 ((sizeOf S).toNat) v_ 3 (0,0):Blk)) (show (dT (dT (dT (dT (dT (dT (aO (eA S i)) (((af S (i:Int)).toNat)+0) 0 (vI ((S.bods.getD (S.bo+i) dB).mot.px))) (((af S (i:Int)).toNat)+1) 0 (vI ((S.bods.getD (S.bo+i) dB).mot.py))) (((af S (i:Int)).toNat)+2) 0 (vI ((S.bods.getD (S.bo+i) dB).mot.vx))) (((af S (i:Int)).toNat)+3) 0 (vI ((S.bods.getD (S.bo+i) dB).mot.vy))) (((af S (i:Int)).toNat)+4) 0 (vI ((S.bods.getD (S.bo+i) dB).a))) (((af S (i:Int)).toNat)+5) 0 (vI ((S.bods.getD (S.bo+i) dB).b)))=(aO (eA S (i+1))) from (by rw [<- yw hS.toSetN (i:=i) (by omega)] <;> kernel_rfl))) ?_
    refine mt6 (i+1) [1,2] [] ?_
    try dsimp only
    exact ⟨by omega,by omega⟩
   ·refine ae 12 [] λ _=>RN.ret [] [0] [] (v:=vS (n4+0) 0 ((sizeOf S).toNat) ((sizeOf S).toNat)) (H':=[((n4+0),.rows 1 ((sizeOf S).toNat) (aO (eA S i)) 3 (0,0))]) ?_
    have ei:i=S.nb:=by omega
    subst ei
    exact ⟨_,rfl,rfl⟩
abbrev dp (S:Setup) (bp mb:Nat):List Value:=[vI S.players,vS S.bb (S.bo * 9) S.nb S.bc,vI S.box.x0,vI S.box.y0,vI S.box.x1,vI S.box.y1,.slice S.rA S.rn S.rc,.slice S.dA S.dn S.dc,vI S.fog,vI S.g.x,vI S.g.y,vI S.push,vI S.drag,vI S.rest,vI S.rounds,vI S.fuel,vP bp 0,vP mb 0]
inductive GameH (rs:List Bx) (ds:List Dr) (bp gb:Nat) (S:Setup) (M:MemS) (k:Nat):HL -> Prop
 | mk (mb:Nat) (T U:HL) (hM:MemH mb M k T) (hU:qA S rs ds U):GameH rs ds bp gb S M k (ap [(gb,.lit (dp S bp mb) 118 (0,0))] [T,U])
theorem E7 (q:Nat) (cs:List Int) (n k cap:Nat) (F:HL) (hn:cs.length=n) (hq:(q,.rows 1 n (aO cs) 3 (0,0)) ∈ F) (hc:n <= 1000000) (hk:k <= 100000000) (hcap:n <= cap):Sp Tryz.prog 43 #[vS q 0 n cap] (ap [] []) F (λ u H'=>∃ x:Nat × HL,H'=ap [] [x.2] /\ (u=vP x.1 0 /\ MemH x.1 ⟨cs,[],0⟩ k x.2)):=by
 subst hn
 exact Iu q cs k cap F hq hc hk hcap
theorem nq (S:Setup) (rs:List Bx) (ds:List Dr) (bp:Nat) (F:HL) (hS:SetCl F S) (hM:MapIn F S rs ds) (h1:1 <= S.nb) (hrn:S.rn <= 1000000) (hdn:S.dn <= 1000000) (hsz:(sizeOf S).toNat <= 1000000) (hv:fh S rs ds=0) (k:Nat) (hk:k <= 100000000):Sp Tryz.prog 20 #[Setup.v S,vP bp 0] (ap [] []) F (λ u H'=>∃ x:Nat × Setup × HL,H'=ap [] [x.2.2] /\ (u=.tuple #[vP x.1 0,vI 0] /\ SetEq S x.2.1 /\ GameH rs ds bp x.1 x.2.1 ⟨eA S S.nb,[],0⟩ k x.2.2)):=by
 refine Sp.run Tryz.func20 rfl mn (A:=[]) (Ts:=[]) rfl λ w0=>?_
 refine ae 11 (ow 0 16) λ n1=>aj (z7 S rs ds _ hS.up.toSh hM.up)<|ae 9 [] λ _=>RN.fx 10 (nt (decide_eq_true hv))<|ae 4 [] λ _=>RN.draw [] []<|ag [] [0,2,3] (ow 0 32)<|RD.one 1 (RDO.ct [] (Hp:=[]) (Tp:=[]) [] [] (yv S rs ds _ hS.up hM.up h1 hrn hdn) ?_)
 rintro _ ⟨S2,U3⟩ ⟨rfl,he4,hU5⟩
 dsimp only at he4 hU5
 refine RD.one 4 (RDO.ct [] (Hp:=[]) (Tp:=[]) [] [] (Ct S _ hS.up) ?_)
 rintro _ q6 rfl
 refine RD.one 5 (RDO.ct [] (Hp:=[]) (Tp:=[]) [] [] (E7 q6 (eA S S.nb) ((sizeOf S).toNat) k ((sizeOf S).toNat) _ (gv _ _) (aB 0) hsz hk (Nat.le_refl _)) ?_)
 rintro _ ⟨m7,T8⟩ ⟨rfl,hM9⟩
 dsimp only at hM9
 refine ag [] [6] []<|RD.one 7 (RDO.ev [] [] λ n10=>?_)
 refine ag [] [8,9] []<|RD.fin<|ae 1 [] λ _=>RN.ret [] [0] [0,1] (v:=.tuple #[vP (n10+0) 0,vI 0]) (H':=(ap [((n10+0),.lit [vI S2.players,vS S2.bb (S2.bo * 9) S2.nb S2.bc,vI S2.box.x0,vI S2.box.y0,vI S2.box.x1,vI S2.box.y1,.slice S2.rA S2.rn S2.rc,.slice S2.dA S2.dn S2.dc,vI S2.fog,vI S2.g.x,vI S2.g.y,vI S2.push,vI S2.drag,vI S2.rest,vI S2.rounds,vI S2.fuel,vP bp 0,vP m7 0] 118 (0,0))] [T8,U3])) ?_
 exact ⟨((n10+0),S2,ap [((n10+0),.lit (dp S2 bp m7) 118 (0,0))] [T8,U3]),by simp [ap],rfl,he4,.mk _ _ _ hM9 hU5⟩
theorem Cu (S:Setup) (rs:List Bx) (ds:List Dr) (bp:Nat) (F:HL) (hS:SetSh F S) (hM:MapIn F S rs ds) (hv:¬ fh S rs ds=0):Sp Tryz.prog 20 #[(Setup.v S),vP bp 0] [] F (λ u H'=>u=.tuple #[.pointer none,vI (fh S rs ds)] /\ H'=[]):=by
 refine Sp.run Tryz.func20 rfl mn (A:=[]) (Ts:=[]) rfl λ w0=>?_
 refine ae 11 (ow 0 16) λ n1=>aj (z7 S rs ds _ hS.up hM.up)<|ae 9 [] λ _=>RN.fx 10 (nf (decide_eq_false hv))<|ae 8 [] λ _=>?_
 exact RN.ret [] [] [] ⟨rfl,rfl⟩
theorem E8 (S:Setup) (bp gb mb:Nat) (F:HL) (hg:(gb,.lit (dp S bp mb) 118 (0,0)) ∈ F):Sp Tryz.prog 49 #[vP gb 0] [] F (λ u H'=>u=vP mb 0 /\ H'=[]):=by
 refine Sp.run Tryz.func49 rfl (mc hg mn) (A:=[]) (Ts:=[]) rfl λ w0=>?_
 refine ae 14 [.ro 0] λ _=>?_
 exact RN.ret [] [] [] ⟨rfl,rfl⟩
def fD (cs:List Int):Prop:=(cs.getD 1 0=0 /\ cs.getD 2 0=0 /\ cs.getD 3 0=0 /\ cs.getD 4 0=0 /\ cs.getD 5 0=0 /\ cs.getD 6 0=0 /\ cs.getD 7 0=0 /\ cs.getD 8 0=0 /\ cs.getD 9 0=0 /\ cs.getD 10 0=0) /\ cs.getD 0 0 >= 0 /\ cs.getD 0 0 <= 6000
instance (cs:List Int):Decidable (fD cs):=inferInstanceAs (Decidable (_ /\ _))
def ky (cs:List Int) (M:MemS):Nat -> MemS
 | 0=>M
 | i+1=>if (ky cs M i).get (i:Int)=cs.getD i 0 then ky cs M i else (ky cs M i).set (i:Int) (cs.getD i 0)
theorem IB (M:MemS) (i v:Int):(M.set i v).cs.length=M.cs.length:=by
 unfold MemS.set;split <;> simp
theorem nr (cs:List Int) (M:MemS):∀ i,(ky cs M i).cs.length=M.cs.length
 | 0=>rfl
 | i+1=>by
  rw [ky];split
  ·exact nr cs M i
  ·rw [IB];exact nr cs M i
theorem Ac (cs:List Int) (M:MemS):∀ i,i <= M.cs.length -> ∀ k,(ky cs M i).cs.getD k 0=if k < i then cs.getD k 0 else M.cs.getD k 0
 | 0,_,k=>by rw [if_neg (Nat.not_lt_zero k)];rfl
 | i+1,h,k=>by
  have ih:=Ac cs M i (by omega)
  have hl:=nr cs M i
  rw [ky]
  split
  ·next he =>
   unfold MemS.get at he
   rw [if_pos (by omega),Int.toNat_natCast] at he
   by_cases h1:k=i
   ·subst h1;rw [if_pos (by omega)];exact he
   ·rw [ih k]
    by_cases h2:k < i
    ·rw [if_pos h2,if_pos (by omega)]
    ·rw [if_neg h2,if_neg (by omega)]
  ·unfold MemS.set
   rw [if_pos (by omega),Int.toNat_natCast]
   by_cases h1:k=i
   ·subst h1
    rw [if_pos (by omega)]
    exact dN (by omega)
   ·show ((ky cs M i).cs.set i _).getD k 0=_
    rw [db (λ e=>h1 e.symm),ih k]
    by_cases h2:k < i
    ·rw [if_pos h2,if_pos (by omega)]
    ·rw [if_neg h2,if_neg (by omega)]
theorem E9 {cs:List Int} {M:MemS} {n:Nat} (h:n=M.cs.length) (hc:n <= cs.length):(ky cs M n).cs=cs.take n:=by
 apply List.ext_getElem?
 intro k
 have h1:=Ac cs M n (by omega) k
 have hl:=nr cs M n
 by_cases hk:k < n
 ·rw [if_pos hk,List.getD_eq_getElem?_getD,List.getD_eq_getElem?_getD,List.getElem?_eq_getElem (by omega),List.getElem?_eq_getElem (by omega)] at h1
  rw [List.getElem?_take,if_pos hk,List.getElem?_eq_getElem (by omega),List.getElem?_eq_getElem (by omega)]
  exact congrArg some h1
 ·rw [List.getElem?_eq_none (by omega),List.getElem?_eq_none (by rw [List.length_take];omega)]
theorem IC (cs:List Int) (q n N cap:Nat) (F:HL) (hq:(q,.rows 1 N (aO cs) 3 (0,0)) ∈ F) (hN:n <= N) (h48:48 <= n):Sp Tryz.prog 96 #[vS q 0 n cap] [] F (λ u H'=>u=.bool (decide (fD cs)) /\ H'=[]):=by
 refine Sp.run Tryz.func96 rfl (mc hq mn) (A:=[]) (Ts:=[]) rfl λ w0=>?_
 refine ae 20 (ow 0 20) λ n1=>RN.rounds 10<|ai 26 [.gen,.gen,.ix 1,.rorow 0 1 0] [(0+1 * 1)=1 * 1+0 /\ 1 < N,1=((1:Nat):Int) /\ 1 < n] λ _=>RN.en (cs.getD 1 0=0) 15 (λ h2=>?_) λ h2=>?_
 ·refine ai 35 [.gen,.gen,.gen,.ix 2,.rorow 0 2 0] [(0+2 * 1)=2 * 1+0 /\ 2 < N,2=((2:Nat):Int) /\ 2 < n] λ _=>RN.en (cs.getD 2 0=0) 15 (λ h3=>?_) λ h3=>?_
  ·refine ai 35 [.gen,.gen,.gen,.ix 3,.rorow 0 3 0] [(0+3 * 1)=3 * 1+0 /\ 3 < N,3=((3:Nat):Int) /\ 3 < n] λ _=>RN.en (cs.getD 3 0=0) 15 (λ h4=>?_) λ h4=>?_
   ·refine ai 35 [.gen,.gen,.gen,.ix 4,.rorow 0 4 0] [(0+4 * 1)=4 * 1+0 /\ 4 < N,4=((4:Nat):Int) /\ 4 < n] λ _=>RN.en (cs.getD 4 0=0) 15 (λ h5=>?_) λ h5=>?_
    ·refine ai 35 [.gen,.gen,.gen,.ix 5,.rorow 0 5 0] [(0+5 * 1)=5 * 1+0 /\ 5 < N,5=((5:Nat):Int) /\ 5 < n] λ _=>RN.en (cs.getD 5 0=0) 15 (λ h6=>?_) λ h6=>?_
     ·refine ai 35 [.gen,.gen,.gen,.ix 6,.rorow 0 6 0] [(0+6 * 1)=6 * 1+0 /\ 6 < N,6=((6:Nat):Int) /\ 6 < n] λ _=>RN.en (cs.getD 6 0=0) 15 (λ h7=>?_) λ h7=>?_
      ·refine ai 35 [.gen,.gen,.gen,.ix 7,.rorow 0 7 0] [(0+7 * 1)=7 * 1+0 /\ 7 < N,7=((7:Nat):Int) /\ 7 < n] λ _=>RN.en (cs.getD 7 0=0) 15 (λ h8=>?_) λ h8=>?_
       ·refine ai 35 [.gen,.gen,.gen,.ix 8,.rorow 0 8 0] [(0+8 * 1)=8 * 1+0 /\ 8 < N,8=((8:Nat):Int) /\ 8 < n] λ _=>RN.en (cs.getD 8 0=0) 15 (λ h9=>?_) λ h9=>?_
        ·refine ai 35 [.gen,.gen,.gen,.ix 9,.rorow 0 9 0] [(0+9 * 1)=9 * 1+0 /\ 9 < N,9=((9:Nat):Int) /\ 9 < n] λ _=>RN.en (cs.getD 9 0=0) 15 (λ h10=>?_) λ h10=>?_
         ·refine ai 35 [.gen,.gen,.gen,.ix 10,.rorow 0 10 0] [(0+10 * 1)=10 * 1+0 /\ 10 < N,10=((10:Nat):Int) /\ 10 < n] λ _=>RN.en (cs.getD 10 0=0) 15 (λ h11=>?_) λ h11=>?_
          ·refine ai 28 [.ix 0,.rorow 0 0 0] [(0+0 * 1)=0 * 1+0 /\ 0 < N,0=((0:Nat):Int) /\ 0 < n] λ _=>RN.em (cs.getD 0 0 >= 0) 21 (λ h12=>?_) λ h12=>?_
           ·refine ai 8 [.ix 0,.rorow 0 0 0] [(0+0 * 1)=0 * 1+0 /\ 0 < N,0=((0:Nat):Int) /\ 0 < n] λ _=>RN.ret [] [] [] (v:=.bool (decide (cs.getD 0 0 <= 6000))) (H':=[]) ?_
            exact ⟨congrArg Value.bool (decide_eq_decide.2 ⟨λ h_=>by unfold fD;omega,λ h_=>by unfold fD at h_;omega⟩),rfl⟩
           ·refine ae 8 [] λ _=>RN.ret [] [] [] (v:=.bool false) (H':=[]) ?_
            exact ⟨congrArg Value.bool (decide_eq_false (show ¬ fD cs from λ h_=>by unfold fD at h_;omega)).symm,rfl⟩
          ·refine ae 6 [] λ _=>RN.ret [] [] [] (v:=.bool false) (H':=[]) ?_
           exact ⟨congrArg Value.bool (decide_eq_false (show ¬ fD cs from λ h_=>by unfold fD at h_;omega)).symm,rfl⟩
         ·refine ae 6 [] λ _=>RN.ret [] [] [] (v:=.bool false) (H':=[]) ?_
          exact ⟨congrArg Value.bool (decide_eq_false (show ¬ fD cs from λ h_=>by unfold fD at h_;omega)).symm,rfl⟩
        ·refine ae 6 [] λ _=>RN.ret [] [] [] (v:=.bool false) (H':=[]) ?_
         exact ⟨congrArg Value.bool (decide_eq_false (show ¬ fD cs from λ h_=>by unfold fD at h_;omega)).symm,rfl⟩
       ·refine ae 6 [] λ _=>RN.ret [] [] [] (v:=.bool false) (H':=[]) ?_
        exact ⟨congrArg Value.bool (decide_eq_false (show ¬ fD cs from λ h_=>by unfold fD at h_;omega)).symm,rfl⟩
      ·refine ae 6 [] λ _=>RN.ret [] [] [] (v:=.bool false) (H':=[]) ?_
       exact ⟨congrArg Value.bool (decide_eq_false (show ¬ fD cs from λ h_=>by unfold fD at h_;omega)).symm,rfl⟩
     ·refine ae 6 [] λ _=>RN.ret [] [] [] (v:=.bool false) (H':=[]) ?_
      exact ⟨congrArg Value.bool (decide_eq_false (show ¬ fD cs from λ h_=>by unfold fD at h_;omega)).symm,rfl⟩
    ·refine ae 6 [] λ _=>RN.ret [] [] [] (v:=.bool false) (H':=[]) ?_
     exact ⟨congrArg Value.bool (decide_eq_false (show ¬ fD cs from λ h_=>by unfold fD at h_;omega)).symm,rfl⟩
   ·refine ae 6 [] λ _=>RN.ret [] [] [] (v:=.bool false) (H':=[]) ?_
    exact ⟨congrArg Value.bool (decide_eq_false (show ¬ fD cs from λ h_=>by unfold fD at h_;omega)).symm,rfl⟩
  ·refine ae 6 [] λ _=>RN.ret [] [] [] (v:=.bool false) (H':=[]) ?_
   exact ⟨congrArg Value.bool (decide_eq_false (show ¬ fD cs from λ h_=>by unfold fD at h_;omega)).symm,rfl⟩
 ·refine ae 6 [] λ _=>RN.ret [] [] [] (v:=.bool false) (H':=[]) ?_
  exact ⟨congrArg Value.bool (decide_eq_false (show ¬ fD cs from λ h_=>by unfold fD at h_;omega)).symm,rfl⟩
theorem vZ (S:Setup) (bp gb mb:Nat) (cs:List Int) (q n N cap:Nat) (M:MemS) (k:Nat) (T U F:HL) (hM:MemH mb M (k+n) T) (hq:(q,.rows 1 N (aO cs) 3 (0,0)) ∈ F) (hN:n <= N) (h48:48 <= M.cs.length):Sp Tryz.prog 67 #[vP gb 0,vS q 0 n cap] (ap [(gb,.lit (dp S bp mb) 118 (0,0))] [T,U]) F (λ u H'=>∃ x:HL,H'=ap [(gb,.lit (dp S bp mb) 118 (0,0))] [x,U] /\ ((((n:Int)=(M.cs.length:Int) /\ fD cs) /\ u=vI 0 /\ MemH mb (ky cs M n) k x) \/ (¬ ((n:Int)=(M.cs.length:Int) /\ fD cs) /\ u=vI 1 /\ x=T))):=by
 have hl_:=hM.len
 refine Sp.run Tryz.func67 rfl (mc hq mn) (A:=[(gb,.lit (dp S bp mb) 118 (0,0))]) (Ts:=[T,U]) rfl λ w0=>?_
 refine ae 14 [.own 0] λ _=>aj (t7 hM (av 0))<|ae 2 [] λ _=>RN.en ((n:Int)=(M.cs.length:Int)) 15 (λ h1=>?_) λ h1=>?_
 ·refine ae 1 [] λ _=>aj (IC cs q n N cap _ (aw hq) hN (by omega))<|ae 4 [] λ _=>RN.en (fD cs) 19 (λ h2=>?_) λ h2=>?_
  ·refine ae 12 [] λ _=>RN.loop (σ:=Nat × HL) (λ ⟨i,T_⟩=>⟨[(0,vP gb 0),(20,vS q 0 n cap),(21,vI (n:Int)),(22,vI (i:Int))],[(gb,.lit (dp S bp mb) 118 (0,0))],[T_,U],i <= n /\ MemH mb (ky cs M i) (k+(n - i)) T_,n - i⟩) (0,T) [0] [0,1] (⟨Nat.zero_le _,hM⟩) ?_
   rintro ⟨i,T_⟩ ⟨hin,hT_⟩ mt4
   refine ae 6 [] λ _=>RN.em ((i:Int) < (n:Int)) 23 (λ h5=>?_) λ h5=>?_
   ·refine ae 7 [] λ _=>?_
    replace hT_:=hT_.weak (k':=k+(n - (i+1))+1) (by omega)
    refine ai 14 [.ix i,.rorow 0 i 0,.own 0] [(0+i * 1)=i * 1+0 /\ i < N,(i:Int)=((i:Nat):Int) /\ i < n] λ _=>aj (az (i:Int) hT_ (av 0))<|ae 4 [] λ _=>RN.en ((ky cs M i).get (i:Int)=cs.getD i 0) 34 (λ h6=>?_) λ h6=>?_
    ·refine ai 8 [.nw] [bg ((i:Int)+1)] λ _=>?_
     refine mt4 (i+1,T_) [0] [0,1] ?_
     try dsimp only
     exact ⟨⟨by omega,hT_.cast (by rw [ky,if_pos h6]) (by omega)⟩,by omega⟩
    ·refine ae 8 [.own 0] λ _=>RN.ct [] [0] (ak (i:Int) (cs.getD i 0) hT_) ?_
     rintro _ T7 hM8
     refine ai 7 [.nw] [bg ((i:Int)+1)] λ _=>?_
     refine mt4 (i+1,T7) [0] [0,1] ?_
     try dsimp only
     exact ⟨⟨by omega,hM8.cast (by rw [ky,if_neg h6]) (by omega)⟩,by omega⟩
   ·refine ae 11 [] λ _=>RN.ret [] [0] [0,1] (v:=vI 0) (H':=(ap [(gb,.lit (dp S bp mb) 118 (0,0))] [T_,U])) ?_
    obtain rfl:i=n:=by omega
    exact ⟨T_,rfl,.inl ⟨⟨by omega,by assumption⟩,rfl,hT_.weak (by omega)⟩⟩
  ·refine ae 6 [] λ _=>RN.ret [] [0] [0,1] (v:=vI 1) (H':=(ap [(gb,.lit (dp S bp mb) 118 (0,0))] [T,U])) ?_
   exact ⟨T,rfl,.inr ⟨λ h_=>by first | exact absurd h_.2 (by assumption) | omega,rfl,rfl⟩⟩
 ·refine ae 12 [] λ _=>RN.ret [] [0] [0,1] (v:=vI 1) (H':=(ap [(gb,.lit (dp S bp mb) 118 (0,0))] [T,U])) ?_
  exact ⟨T,rfl,.inr ⟨λ h_=>by first | exact absurd h_.2 (by assumption) | omega,rfl,rfl⟩⟩
theorem MemH.len2 {mb:Nat} {M:MemS} {k:Nat} {T:HL} (h:MemH mb M k T):M.lg.length+k <= 100000000:=by
 cases h with
 | mk cb A cap Hl hs hc hl=>exact hl
def MR (na nb:Nat) (xs ys:List Int):Prop:=na=nb /\ ∀ k,k < na -> xs.getD k 0=ys.getD k 0
instance (na nb:Nat) (xs ys:List Int):Decidable (MR na nb xs ys):=inferInstanceAs (Decidable (_ /\ _))
def jn (x:Inp):Prop:=(¬ x.dx < -1 /\ ¬ x.dx > 1) /\ (¬ x.dy < -1 /\ ¬ x.dy > 1) /\ ¬ x.act < 0 /\ ¬ x.act > 3
instance (x:Inp):Decidable (jn x):=inferInstanceAs (Decidable (_ /\ _))
def bF (pl:Int) (n:Nat) (xs:List Inp) (now:Int):Int:=if (n:Int)=pl then (if ∀ k,k < n -> jn (xs.getD k dI) then (if now >= 6000 then 2 else 0) else 1) else 17
theorem v6 (mb cb n:Nat) (A:Option Addr) (m cap:Nat) (base:Int) (F:HL) (hm:(mb,.lit [vS cb 0 n n,.slice A m cap,vI base] 167 (0,0)) ∈ F):Sp Tryz.prog 62 #[vP mb 0] [] F (λ u H'=>u=vI (bd (base+(m:Int))) /\ H'=[]):=by
 refine Sp.run Tryz.func62 rfl (mc hm mn) (A:=[]) (Ts:=[]) rfl λ w0=>?_
 refine ae 6 [] λ _=>RN.draw [] []<|ag [] [0,4,1,5,2,6,3,7,8,9,10] [.ro 0,.ro 0]<|RD.fin<|ae 1 [] λ _=>?_
 exact RN.ret [] [] [] ⟨rfl,rfl⟩
theorem v7 {mb:Nat} {M:MemS} {k:Nat} {T F:HL} (h:MemH mb M k T) (hs:∀ x ∈ T,x ∈ F):Sp Tryz.prog 62 #[vP mb 0] [] F (λ u H'=>u=vI (bd (M.base+(M.lg.length:Int))) /\ H'=[]):=by
 cases h with
 | mk cb A cap Hl hsl hc hl=>exact v6 mb cb M.cs.length A M.lg.length cap M.base F (hs _ (by simp))
theorem v8 (S:Setup) (bp gb mb:Nat) (M:MemS) (k:Nat) (T F:HL) (hg:(gb,.lit (dp S bp mb) 118 (0,0)) ∈ F) (hM:MemH mb M k T) (hT:∀ x ∈ T,x ∈ F):Sp Tryz.prog 114 #[vP gb 0] [] F (λ u H'=>u=vI (M.get 0) /\ H'=[]):=by
 refine Sp.run Tryz.func114 rfl (mc hg mn) (A:=[]) (Ts:=[]) rfl λ w0=>?_
 refine ae 11 [.ro 0] λ _=>aj (az 0 hM (λ x hx=>aw (hT x hx)))<|ae 3 [] λ _=>?_
 exact RN.ret [] [] [] ⟨rfl,rfl⟩
theorem yx (S:Setup) (bp gb mb:Nat) (M:MemS) (k:Nat) (A:Option Addr) (n cap:Nat) (xs:List Inp) (T F:HL) (hg:(gb,.lit (dp S bp mb) 118 (0,0)) ∈ F) (hM:MemH mb M k T) (hT:∀ x ∈ T,x ∈ F) (hl:RowB F A n λ k=>xs.getD k dI) (hn:n <= 1000000):Sp Tryz.prog 89 #[vP gb 0,.slice A n cap] [] F (λ u H'=>u=vI (bF S.players n xs (M.get 0)) /\ H'=[]):=by
 refine Sp.run Tryz.func89 rfl (mc hg mn) (A:=[]) (Ts:=[]) rfl λ w0=>?_
 refine ae 18 [.ro 0] λ _=>RN.en ((n:Int)=S.players) 14 (λ h1=>?_) λ h1=>?_
 ·refine ae 12 [] λ _=>RN.loop (σ:=Nat) (λ k_=>⟨[(0,vP gb 0),(15,.slice A n cap),(16,vI (n:Int)),(17,vI (k_:Int))],[],[],k_ <= n /\ ∀ t,t < k_ -> jn (xs.getD t dI),n - k_⟩) 0 [] [] (⟨Nat.zero_le _,λ t ht=>absurd ht (Nat.not_lt_zero _)⟩) ?_
  rintro k_ ⟨hkl,hok⟩ mt3
  refine ae 6 [] λ _=>RN.em ((k_:Int) < (n:Int)) 18 (λ h4=>?_) λ h4=>?_
  ·refine ae 7 [] λ _=>?_
   obtain ⟨qx5,ox5,hAx5,hIx5⟩:=hl.at (k:=k_) (by omega)
   refine aK 15 (congrArg (λ v_=>(.slice v_ n cap:Value)) hAx5)<|ai 1 [.ix k_] [(k_:Int)=((k_:Nat):Int) /\ k_ < n] λ _=>D3 [vI (xs.getD k_ dI).dx,vI (xs.getD k_ dI).dy,vI (xs.getD k_ dI).act] (λ w_ h_=>hIx5 w_ h_ k_ (by omega))<|ae 10 [.own 0,.own 0,.own 0,.own 0] λ n6=>RN.em ((xs.getD k_ dI).dx < (-1)) 24 (λ h7=>?_) λ h7=>?_
   ·refine ae 32 [] λ _=>RN.ret [] [] [] (v:=vI 1) (H':=[]) ?_
    exact ⟨by rw [bF,if_pos (by omega),if_neg (λ h_=>by have h2_:=h_ k_ (by omega);unfold jn at h2_;omega)],rfl⟩
   ·refine ae 5 [.own 0] λ _=>RN.em ((xs.getD k_ dI).dx > 1) 29 (λ h8=>?_) λ h8=>?_
    ·refine ae 27 [] λ _=>RN.ret [] [] [] (v:=vI 1) (H':=[]) ?_
     exact ⟨by rw [bF,if_pos (by omega),if_neg (λ h_=>by have h2_:=h_ k_ (by omega);unfold jn at h2_;omega)],rfl⟩
    ·refine ae 5 [.own 0] λ _=>RN.em ((xs.getD k_ dI).dy < (-1)) 34 (λ h9=>?_) λ h9=>?_
     ·refine ae 22 [] λ _=>RN.ret [] [] [] (v:=vI 1) (H':=[]) ?_
      exact ⟨by rw [bF,if_pos (by omega),if_neg (λ h_=>by have h2_:=h_ k_ (by omega);unfold jn at h2_;omega)],rfl⟩
     ·refine ae 5 [.own 0] λ _=>RN.em ((xs.getD k_ dI).dy > 1) 39 (λ h10=>?_) λ h10=>?_
      ·refine ae 17 [] λ _=>RN.ret [] [] [] (v:=vI 1) (H':=[]) ?_
       exact ⟨by rw [bF,if_pos (by omega),if_neg (λ h_=>by have h2_:=h_ k_ (by omega);unfold jn at h2_;omega)],rfl⟩
      ·refine ae 5 [.own 0] λ _=>RN.em ((xs.getD k_ dI).act < 0) 44 (λ h11=>?_) λ h11=>?_
       ·refine ae 12 [] λ _=>RN.ret [] [] [] (v:=vI 1) (H':=[]) ?_
        exact ⟨by rw [bF,if_pos (by omega),if_neg (λ h_=>by have h2_:=h_ k_ (by omega);unfold jn at h2_;omega)],rfl⟩
       ·refine ae 6 [.own 0] λ _=>RN.em ((xs.getD k_ dI).act > 3) 48 (λ h12=>?_) λ h12=>?_
        ·refine ae 6 [] λ _=>RN.ret [] [] [] (v:=vI 1) (H':=[]) ?_
         exact ⟨by rw [bF,if_pos (by omega),if_neg (λ h_=>by have h2_:=h_ k_ (by omega);unfold jn at h2_;omega)],rfl⟩
        ·refine ai 8 [.nw] [bg ((k_:Int)+1)] λ _=>aK 15 (congrArg (λ v_=>(.slice v_ n cap:Value)) hAx5.symm) ?_
         refine mt3 (k_+1) [] [] ?_
         try dsimp only
         refine ⟨⟨by omega,λ t ht=>?_⟩,by omega⟩
         rcases Nat.lt_or_ge t k_ with h_ | h_
         ·exact hok t h_
         ·obtain rfl:t=k_:=by omega
          exact ⟨⟨h7,h8⟩,⟨h9,h10⟩,h11,h12⟩
  ·refine ae 10 [] λ _=>aj (v8 S bp gb mb M k T _ (aw hg) hM (λ x hx=>aw (hT x hx)))<|ae 3 [] λ _=>RN.em (M.get 0 >= 6000) 52 (λ h13=>?_) λ h13=>?_
   ·refine ae 6 [] λ _=>RN.ret [] [] [] (v:=vI 2) (H':=[]) ?_
    exact ⟨by rw [bF,if_pos (by omega),if_pos (λ t ht=>hok t (by omega)),if_pos (by omega)],rfl⟩
   ·refine ae 8 [] λ _=>RN.ret [] [] [] (v:=vI 0) (H':=[]) ?_
    exact ⟨by rw [bF,if_pos (by omega),if_pos (λ t ht=>hok t (by omega)),if_neg (by omega)],rfl⟩
 ·refine ae 6 [] λ _=>RN.ret [] [] [] (v:=vI 17) (H':=[]) ?_
  exact ⟨by rw [bF,if_neg (by omega)],rfl⟩
theorem Cv (S:Setup) (now:Int) (A:Option Addr) (n cap:Nat) (xs:List Inp) (F:HL) (hl:RowB F A n λ k=>xs.getD k dI) (hn:n <= 1000000):Sp Tryz.prog 9 #[(Setup.v S),vI now,.slice A n cap] [] F (λ u H'=>u=vI (bF S.players n xs (now)) /\ H'=[]):=by
 refine Sp.run Tryz.func9 rfl mn (A:=[]) (Ts:=[]) rfl λ w0=>?_
 refine ae 16 [.own 0] λ n1=>RN.en ((n:Int)=S.players) 13 (λ h2=>?_) λ h2=>?_
 ·refine ae 10 [] λ _=>RN.loop (σ:=Nat) (λ k_=>⟨[(1,vI now),(2,.slice A n cap),(7,vI (k_:Int))],[((n1+0),.lit (Setup.l S) 32 (0,0))],[],k_ <= n /\ ∀ t,t < k_ -> jn (xs.getD t dI),n - k_⟩) 0 [0] [] (⟨Nat.zero_le _,λ t ht=>absurd ht (Nat.not_lt_zero _)⟩) ?_
  rintro k_ ⟨hkl,hok⟩ mt4
  refine ae 9 [] λ _=>RN.em ((k_:Int) < (n:Int)) 17 (λ h5=>?_) λ h5=>?_
  ·refine ae 9 [] λ _=>?_
   obtain ⟨qx6,ox6,hAx6,hIx6⟩:=hl.at (k:=k_) (by omega)
   refine aK 20 (congrArg (λ v_=>(.slice v_ n cap:Value)) hAx6)<|ai 1 [.ix k_] [(k_:Int)=((k_:Nat):Int) /\ k_ < n] λ _=>D3 [vI (xs.getD k_ dI).dx,vI (xs.getD k_ dI).dy,vI (xs.getD k_ dI).act] (λ w_ h_=>hIx6 w_ h_ k_ (by omega))<|ae 10 [.own 0,.own 0,.own 0,.own 0] λ n7=>RN.em ((xs.getD k_ dI).dx < (-1)) 27 (λ h8=>?_) λ h8=>?_
   ·refine ae 32 [] λ _=>RN.ret [] [] [] (v:=vI 1) (H':=[]) ?_
    exact ⟨by rw [bF,if_pos (by omega),if_neg (λ h_=>by have h2_:=h_ k_ (by omega);unfold jn at h2_;omega)],rfl⟩
   ·refine ae 5 [.own 0] λ _=>RN.em ((xs.getD k_ dI).dx > 1) 32 (λ h9=>?_) λ h9=>?_
    ·refine ae 27 [] λ _=>RN.ret [] [] [] (v:=vI 1) (H':=[]) ?_
     exact ⟨by rw [bF,if_pos (by omega),if_neg (λ h_=>by have h2_:=h_ k_ (by omega);unfold jn at h2_;omega)],rfl⟩
    ·refine ae 5 [.own 0] λ _=>RN.em ((xs.getD k_ dI).dy < (-1)) 37 (λ h10=>?_) λ h10=>?_
     ·refine ae 22 [] λ _=>RN.ret [] [] [] (v:=vI 1) (H':=[]) ?_
      exact ⟨by rw [bF,if_pos (by omega),if_neg (λ h_=>by have h2_:=h_ k_ (by omega);unfold jn at h2_;omega)],rfl⟩
     ·refine ae 5 [.own 0] λ _=>RN.em ((xs.getD k_ dI).dy > 1) 42 (λ h11=>?_) λ h11=>?_
      ·refine ae 17 [] λ _=>RN.ret [] [] [] (v:=vI 1) (H':=[]) ?_
       exact ⟨by rw [bF,if_pos (by omega),if_neg (λ h_=>by have h2_:=h_ k_ (by omega);unfold jn at h2_;omega)],rfl⟩
      ·refine ae 5 [.own 0] λ _=>RN.em ((xs.getD k_ dI).act < 0) 47 (λ h12=>?_) λ h12=>?_
       ·refine ae 12 [] λ _=>RN.ret [] [] [] (v:=vI 1) (H':=[]) ?_
        exact ⟨by rw [bF,if_pos (by omega),if_neg (λ h_=>by have h2_:=h_ k_ (by omega);unfold jn at h2_;omega)],rfl⟩
       ·refine ae 6 [.own 0] λ _=>RN.em ((xs.getD k_ dI).act > 3) 51 (λ h13=>?_) λ h13=>?_
        ·refine ae 6 [] λ _=>RN.ret [] [] [] (v:=vI 1) (H':=[]) ?_
         exact ⟨by rw [bF,if_pos (by omega),if_neg (λ h_=>by have h2_:=h_ k_ (by omega);unfold jn at h2_;omega)],rfl⟩
        ·refine ai 9 [.nw] [bg ((k_:Int)+1)] λ _=>?_
         refine mt4 (k_+1) [1] [] ?_
         try dsimp only
         refine ⟨⟨by omega,λ t ht=>?_⟩,by omega⟩
         rcases Nat.lt_or_ge t k_ with h_ | h_
         ·exact hok t h_
         ·obtain rfl:t=k_:=by omega
          exact ⟨⟨h8,h9⟩,⟨h10,h11⟩,h12,h13⟩
  ·refine ae 13 [] λ _=>RN.em (now >= 6000) 53 (λ h14=>?_) λ h14=>?_
   ·refine ae 6 [] λ _=>RN.ret [] [] [] (v:=vI 2) (H':=[]) ?_
    exact ⟨by rw [bF,if_pos (by omega),if_pos (λ t ht=>hok t (by omega)),if_pos (by omega)],rfl⟩
   ·refine ae 8 [] λ _=>RN.ret [] [] [] (v:=vI 0) (H':=[]) ?_
    exact ⟨by rw [bF,if_pos (by omega),if_pos (λ t ht=>hok t (by omega)),if_neg (by omega)],rfl⟩
 ·refine ae 6 [] λ _=>RN.ret [] [] [] (v:=vI 17) (H':=[]) ?_
  exact ⟨by rw [bF,if_neg (by omega)],rfl⟩
theorem Cw (gb ib ia ni ic:Nat) (F:HL):Sp Tryz.prog 92 #[vP gb 0,vS ib ia ni ic] (ap [] []) F (λ u H'=>∃ n:Nat,H'=ap [((n+1),.lit [vS ib ia ni ic] 23 (0,0)),((n+0),.lit [vP gb 0] 67 (0,0))] [] /\ u=.func (.func 116) #[] #[vP (n+0) 0,vP (n+1) 0]):=by
 refine Sp.run Tryz.func92 rfl mn (A:=[]) (Ts:=[]) rfl λ w0=>?_
 refine ae 13 [] λ n1=>RN.ret [] [0,1] [] (v:=.func (.func 116) #[] #[vP (n1+0) 0,vP (n1+1) 0]) (H':=(ap [((n1+1),.lit [vS ib ia ni ic] 23 (0,0)),((n1+0),.lit [vP gb 0] 67 (0,0))] [])) ?_
 exact ⟨_,rfl,rfl⟩
end Go.Proofs.YtobflkidpfkcaaaGreatDoor
