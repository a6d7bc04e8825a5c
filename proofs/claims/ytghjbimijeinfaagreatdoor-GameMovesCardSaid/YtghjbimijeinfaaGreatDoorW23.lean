import Derived.Test.YtghjbimijeinfaaGreatDoorW22
import Derived.Test.YtghjbimijeinfaaGreatDoorW18
set_option maxHeartbeats 4000000
set_option maxRecDepth 100000
set_option linter.unusedSimpArgs false
set_option linter.unusedVariables false
namespace Go.Proofs.YtghjbimijeinfaaGreatDoor
open Go.RowKit
def sbods (S:Setup):List Bod:=(List.range S.nb).map S.body
theorem sbods_len (S:Setup):(sbods S).length=S.nb:=by simp [sbods]
theorem sbods_get {S:Setup} {k:Nat} (h:k < S.nb):(sbods S).getD k dB=S.body k:=by simp [sbods,h]
theorem bods_rowL {F:HL} {S:Setup} (hS:SetSh F S):RowL bodE 106 F (some ⟨S.bb,S.bo * 9,none⟩) S.nb (sbods S) :=
 .rows S.bb S.bo S.bR S.bods (0,0) S.nb (sbods S) hS.blk hS.room (sbods_len S) (λ k hk=>(sbods_get hk).symm)
theorem ClS.open {α:Type} {e:Enc α} {T:TypeId} {xs:List α} {A:Option Addr} {c:Nat} {Hl:HL} (h:ClS e T xs A c Hl) (hx:0 < xs.length):∃ b,A=some ⟨b,0,none⟩ /\ Hl=[(b,.rows e.w c (rowE e xs) T (0,0))] /\ xs.length <= c:=by
 obtain ⟨A0,h⟩:=h
 rcases h with ⟨rfl,_⟩ | ⟨b,h1,h2,h3⟩
 ·simp at hx
 ·exact ⟨b,h1,h2,h3⟩
structure SetCl (F:HL) (S:Setup):Prop extends SetN S where
 blk:(S.bb,.rows 9 S.bR (brow S.bods) 106 (0,0)) ∈ F
 room:S.bo+S.nb <= S.bR
 shp:∀ k,k < S.nb -> (RowL vecE 29 F (S.body k).sh.A (S.body k).sh.poly.length (S.body k).sh.poly /\ (S.body k).sh.poly.length <= 1000000) /\ ((S.body k).sh.poly=[] \/ 3 <= (S.body k).sh.poly.length)
theorem SetIn.cl {F:HL} {S:Setup} (h:SetIn F S):SetCl F S:=⟨h.toSetN,h.blk,h.room,λ k hk=>⟨(h.shp k hk).rowL,by
 have h1:=h.shp k hk
 generalize (S.body k).sh=s at h1
 cases h1 with
 | circle r A cap=>exact .inl rfl
 | poly r l b cap h h3 h4 h5=>exact .inr h3⟩⟩
theorem SetCl.up {F X:HL} {S:Setup} (h:SetCl F S):SetCl (X++F) S:=⟨h.toSetN,List.mem_append_right _ h.blk,h.room,λ k hk=>⟨⟨(h.shp k hk).1.1.up,(h.shp k hk).1.2⟩,(h.shp k hk).2⟩⟩
theorem SetCl.toSh {F:HL} {S:Setup} (h:SetCl F S):SetSh F S:=⟨h.nb,h.blk,h.room,λ k hk=>(h.shp k hk).1⟩
theorem ShH.clone {s:Shp} (h:s.poly=[] \/ 3 <= s.poly.length) (hl:s.poly.length <= 1000000) {A:Option Addr} {c:Nat} {T:HL} (hc:ClS vecE 29 s.poly A c T):ShH ⟨s.r,s.poly,A,c⟩ T:=by
 intro F' hF
 rcases h with h | h
 ·rw [h];exact .circle _ _ _
 ·obtain ⟨b2,rfl,rfl,h6⟩:=hc.open (by omega)
  exact .poly _ _ _ _ (hF _ (List.mem_singleton.2 rfl)) h h6 hl
def Bod.at (b:Bod) (A:Option Addr) (c:Nat):Bod:=⟨⟨b.sh.r,b.sh.poly,A,c⟩,b.mot,b.a,b.b⟩
theorem getD_set_same {α:Type} {l:List α} {i:Nat} {x d:α} (h:i < l.length):(l.set i x).getD i d=x:=by simp [h]
theorem getD_set_not {α:Type} {l:List α} {i k:Nat} {x d:α} (h:¬ i=k):(l.set i x).getD k d=l.getD k d:=by simp [List.getElem?_set,h]
theorem brow_at {l:List Bod} {i:Nat} (h:i < l.length) (A:Option Addr) (c:Nat):updG (brow l) i 1 (.slice A (l.getD i dB).sh.poly.length c)=brow (l.set i ((l.getD i dB).at A c)):=by
 funext j k
 unfold updG
 by_cases h1:j=i
 ·subst h1
  show _=bodE.cell ((l.set j ((l.getD j dB).at A c)).getD j dB) k
  rw [getD_set_same h]
  by_cases h2:k=1
  ·subst h2;simp;rfl
  ·rw [if_neg (by simp [h2])]
   show bodE.cell (l.getD j dB) k=_
   rcases k with _ | _ | k
   ·rfl
   ·exact absurd rfl h2
   ·rcases k with _ | _ | _ | _ | _ | _ | k <;> rfl
 ·rw [if_neg (by simp [h1])]
  show bodE.cell (l.getD j dB) k=bodE.cell ((l.set i _).getD j dB) k
  rw [getD_set_not (λ e=>h1 e.symm)]
structure SetEq (S S':Setup):Prop where
 nums:S'.players=S.players /\ S'.nb=S.nb /\ S'.box=S.box /\ S'.rn=S.rn /\ S'.dn=S.dn /\ S'.fog=S.fog /\ S'.g=S.g /\ S'.push=S.push /\ S'.drag=S.drag /\ S'.rest=S.rest /\ S'.rounds=S.rounds /\ S'.fuel=S.fuel
 bod:∀ k,k < S.nb -> ∃ A c,S'.body k=(S.body k).at A c
 whole:S'.bo=0 /\ S'.bods.length=S.nb
def SetTl (S:Setup) (rs:List Bx) (ds:List Dr) (U:HL):Prop:=∀ F,(∀ y ∈ U,y ∈ F) -> SetIn F S /\ MapIn F S rs ds
theorem gclone_run (S:Setup) (rs:List Bx) (ds:List Dr) (F:HL) (hS:SetCl F S) (hM:MapIn F S rs ds) (h1:1 <= S.nb) (hrn:S.rn <= 1000000) (hdn:S.dn <= 1000000):Sp Tryz.prog 81 #[(Setup.v S)] [] F (λ u H'=>∃ x:Setup × HL,H'=ap [] [x.2] /\ (u=Setup.v x.1 /\ SetEq S x.1 /\ SetTl x.1 rs ds x.2)):=by
 have hp:=hS.pl
 have hn:=hS.nb
 have hr:=hS.room
 refine Sp.run Tryz.func81 rfl (mc hS.blk mn) (A:=[]) (Ts:=[]) rfl λ w0=>?_
 refine RN.go 10 [.own 1] λ n1=>RN.ct (Hp:=[]) (Tp:=[]) [] [] (clone_Body_any (some ⟨S.bb,S.bo * 9,none⟩) S.nb S.bc (sbods S) _ (RowL.src bodEOk (by decide) (bods_rowL hS.toSh).up) (by omega)) ?_
 rintro _ ⟨A2,c3,T4⟩ ⟨rfl,hc5⟩
 dsimp only at hc5
 refine RN.go 7 [.own 1] λ _=>?_
 obtain ⟨bb,rfl,rfl,hcap0⟩:=hc5.open (by rw [sbods_len];omega)
 have hcap:S.nb <= c3:=by rw [sbods_len] at hcap0;exact hcap0
 refine RN.ot 0 (x:=(bb,.rows 9 c3 (brow (sbods S)) 106 (0,0)))<|RN.go 7 [.own 2] λ _=>RN.nt<|RN.loop (σ:=Nat × List Bod × HL) (λ ⟨i,bods,U_⟩=>⟨[(1,vP (n1+0) 0),(2,vP (n1+1) 0),(10,vI (S.nb:Int)),(11,vI (i:Int))],[(bb,.rows 9 c3 (brow bods) 106 (0,0)),((n1+1),.lit [vI 0,.slice none 0 0,vI 0,vI 0,vI 0,vI 0,.slice none 0 0,.slice none 0 0,vI 0,vI 0,vI 0,vI 0,vI 0,vI 0,vI 0,vI 0] 31 (0,0)),((n1+0),.lit [vI S.players,vS bb 0 S.nb c3,vI S.box.x0,vI S.box.y0,vI S.box.x1,vI S.box.y1,.slice S.rA S.rn S.rc,.slice S.dA S.dn S.dc,vI S.fog,vI S.g.x,vI S.g.y,vI S.push,vI S.drag,vI S.rest,vI S.rounds,vI S.fuel] 31 (0,0))],[U_],i <= S.nb /\ bods.length=S.nb /\ (∀ k,k < S.nb -> ∃ A c,bods.getD k dB=(S.body k).at A c) /\ (∀ k,k < i -> ShH (bods.getD k dB).sh U_) /\ ∀ k,i <= k -> k < S.nb -> bods.getD k dB=S.body k,S.nb - i⟩) (0,sbods S,[]) [0,1,2] [0] (⟨Nat.zero_le _,sbods_len S,λ k hk=>⟨_,_,sbods_get hk⟩,λ k hk=>absurd hk (Nat.not_lt_zero _),λ k _ hk=>sbods_get hk⟩) ?_
 rintro ⟨i,bods,U_⟩ ⟨hil,hbl_,hsame,hsh_,hfar⟩ mt7
 refine RN.go 6 [] λ _=>RN.em ((i:Int) < (S.nb:Int)) 12 (λ h8=>?_) λ h8=>?_
 ·refine RN.go 7 [] λ _=>?_
  have hsi_:(RowL vecE 29 F (bods.getD i dB).sh.A (bods.getD i dB).sh.poly.length (bods.getD i dB).sh.poly /\ (bods.getD i dB).sh.poly.length <= 1000000) /\ ((bods.getD i dB).sh.poly=[] \/ 3 <= (bods.getD i dB).sh.poly.length):=by rw [hfar i (Nat.le_refl _) (by omega)];exact hS.shp i (by omega)
  have hrl_:=hsi_.1.1
  have hpl_:(bods.getD i dB).sh.poly.length <= 100000000:=by have:=hsi_.1.2;omega
  refine RN.go 4 [] λ _=>RN.draw [14] []<|RD.goP [] [0,2,3,5,1,4,6,7,8,9] [.own 2,.own 2,.ix i,.row 0 i 1] [((0+i * 9)+1)=i * 9+1 /\ i < c3,(i:Int)=((i:Nat):Int) /\ i < S.nb]<|RD.one 10 (RDO.ct [] (Hp:=[]) (Tp:=[]) [] [] (clone_Vec_any ((bods.getD i dB).sh.A) ((bods.getD i dB).sh.poly.length) ((bods.getD i dB).sh.cap) ((bods.getD i dB).sh.poly) _ (RowL.src vecEOk (by decide) hrl_.up) hpl_) ?_)
  rintro _ ⟨A9,c10,T11⟩ ⟨rfl,hc12⟩
  dsimp only at hc12
  refine RD.goP [] [11,12,13] [.ix i] [(i:Int)=((i:Nat):Int) /\ i < S.nb]<|RD.one 14 (RDO.evP [] [.row 0 i 1] [((0+i * 9)+1)=i * 9+1 /\ i < c3] λ _=>?_)
  refine RD.fin<|RN.goP 6 [.nw] [I64 ((i:Int)+1)] λ _=>RN.bv 0 (congrArg (λ v_=>(.rows 9 c3 v_ 106 (0,0):Blk)) (show (updG (brow bods) i 1 (.slice A9 ((bods.getD i dB).sh.poly.length) c10))=(brow (bods.set i ((bods.getD i dB).at A9 c10))) from (brow_at (by omega) A9 c10)))<|RN.pt [1,0]<|RN.jt ?_
  refine mt7 (i+1,(bods.set i ((bods.getD i dB).at A9 c10)),U_++T11) [0,1,2] [0] ?_
  try dsimp only
  refine ⟨⟨by omega,by rw [List.length_set];exact hbl_,λ t ht=>?_,λ t ht=>?_,λ t h1_ h2_=>?_⟩,by omega⟩
  ·rcases Decidable.em (i=t) with rfl | h_
   ·rw [getD_set_same (by omega),hfar i (Nat.le_refl _) ht];exact ⟨_,_,rfl⟩
   ·rw [getD_set_not h_];exact hsame t ht
  ·rcases Decidable.em (i=t) with rfl | h_
   ·rw [getD_set_same (by omega)];exact ShH.right (ShH.clone hsi_.2 hsi_.1.2 hc12)
   ·rw [getD_set_not h_];exact (hsh_ t (by omega)).left
  ·rw [getD_set_not (by omega)];exact hfar t (by omega) h2_
 ·refine RN.go 10 [.own 2] λ _=>RN.ct (Hp:=[]) (Tp:=[]) [] [] (clone_Box_any S.rA S.rn S.rc rs _ (RowL.src bxEOk (by decide) hM.rooms.up) (by omega)) ?_
  rintro _ ⟨A13,c14,T15⟩ ⟨rfl,hc16⟩
  dsimp only at hc16
  refine RN.go 8 [.own 2,.own 2] λ _=>RN.ct (Hp:=[]) (Tp:=[]) [] [] (clone_Door_any S.dA S.dn S.dc ds _ (RowL.src drEOk (by decide) hM.doors.up) (by omega)) ?_
  rintro _ ⟨A17,c18,T19⟩ ⟨rfl,hc20⟩
  dsimp only at hc20
  refine RN.go 10 (ow 2 17++ow 1 16) λ _=>RN.ret (ow 1 16) [0] [0,1,2] (v:=.agg #[vI S.players,vS bb 0 S.nb c3,vI S.box.x0,vI S.box.y0,vI S.box.x1,vI S.box.y1,.slice A13 S.rn c14,.slice A17 S.dn c18,vI S.fog,vI S.g.x,vI S.g.y,vI S.push,vI S.drag,vI S.rest,vI S.rounds,vI S.fuel]) (H':=(ap [(bb,.rows 9 c3 (brow bods) 106 (0,0))] [T19,T15,U_])) ?_
  have ei:i=S.nb:=by omega
  subst ei
  have hbod:∀ k,bods.getD (0+k) dB=bods.getD k dB:=λ k=>by rw [Nat.zero_add]
  refine ⟨((⟨S.players,bb,0,S.nb,c3,c3,bods,S.box,A13,S.rn,c14,A17,S.dn,c18,S.fog,S.g,S.push,S.drag,S.rest,S.rounds,S.fuel⟩:Setup),[(bb,.rows 9 c3 (brow bods) 106 (0,0))]++(T19++T15++U_)),(by simp [ap]),rfl,⟨⟨rfl,rfl,rfl,rfl,rfl,rfl,rfl,rfl,rfl,rfl,rfl,rfl⟩,λ k hk=>?_,rfl,hbl_⟩,λ F2 hF=>⟨⟨⟨hp,by omega⟩,hF _ (by simp),(by show 0+S.nb <= c3;omega),λ k hk=>?_⟩,?_,?_⟩⟩
  ·obtain ⟨A,c,h⟩:=hsame k hk;exact ⟨A,c,by show bods.getD (0+k) dB=_;rw [hbod];exact h⟩
  ·show ShIn F2 (bods.getD (0+k) dB).sh;rw [hbod];exact hsh_ k hk F2 λ x hx=>hF x (by simp [hx])
  ·have h_:=hc16.rowL (F:=F2) λ x hx=>hF x (by simp [hx]);rw [hM.rooms.len] at h_;exact h_
  ·have h_:=hc20.rowL (F:=F2) λ x hx=>hF x (by simp [hx]);rw [hM.doors.len] at h_;exact h_
theorem gclone_any (S:Setup) (rs:List Bx) (ds:List Dr) (F:HL) (hS:SetCl F S) (hM:MapIn F S rs ds) (h1:1 <= S.nb) (hrn:S.rn <= 1000000) (hdn:S.dn <= 1000000):Sp Tryz.prog 81 #[Setup.v S] (ap [] []) F (λ u H'=>∃ x:Setup × HL,H'=ap [] [x.2] /\ (u=Setup.v x.1 /\ SetEq S x.1 /\ SetTl x.1 rs ds x.2)):=gclone_run S rs ds F hS hM h1 hrn hdn
theorem linit_next {S:Setup} (h:SetN S) {i:Nat} (hi:i < S.nb):updG (updG (updG (updG (updG (updG (irow (iniL S i)) ((bodyAt S i).toNat+0) 0 (vI (S.body i).mot.px)) ((bodyAt S i).toNat+1) 0 (vI (S.body i).mot.py)) ((bodyAt S i).toNat+2) 0 (vI (S.body i).mot.vx)) ((bodyAt S i).toNat+3) 0 (vI (S.body i).mot.vy)) ((bodyAt S i).toNat+4) 0 (vI (S.body i).a)) ((bodyAt S i).toNat+5) 0 (vI (S.body i).b)=irow (iniL S (i+1)):=by
 have hb:=bodyAt_in h hi
 rw [<- iniL_next h hi]
 rw [show (bodyAt S i+1).toNat=(bodyAt S i).toNat+1 by omega,show (bodyAt S i+2).toNat=(bodyAt S i).toNat+2 by omega,show (bodyAt S i+3).toNat=(bodyAt S i).toNat+3 by omega,show (bodyAt S i+4).toNat=(bodyAt S i).toNat+4 by omega,show (bodyAt S i+5).toNat=(bodyAt S i).toNat+5 by omega]
 rfl
theorem linit_any (S:Setup) (F:HL) (hS:SetCl F S):Sp Tryz.prog 82 #[(Setup.v S)] [] F (λ u H'=>∃ q,H'=ap [(q,.rows 1 (sizeOf S).toNat (irow (iniL S S.nb)) 3 (0,0))] [] /\ u=vS q 0 (sizeOf S).toNat (sizeOf S).toNat):=by
 have hp:=hS.pl
 have hn:=hS.nb
 have hr:=hS.room
 have hz:=sizeOf_bd hS.toSetN
 refine Sp.run Tryz.func82 rfl (mc hS.blk mn) (A:=[]) (Ts:=[]) rfl λ w0=>?_
 refine RN.go 13 [.own 0] λ n1=>RN.em (S.players < 0) 10 (λ h2=>?_) λ h2=>?_
 ·(exfalso;omega)
 ·refine RN.go 6 [.own 0] λ _=>RN.em (S.players > 1048576) 14 (λ h3=>?_) λ h3=>?_
  ·(exfalso;omega)
  ·refine RN.go 6 (ow 0 16) λ _=>RN.cp (lsize_any S _ hS.toSetN)<|RN.goP 14 [.mk ((sizeOf S).toNat) ((sizeOf S).toNat),.own 1] [sizeOf S=(((sizeOf S).toNat:Nat):Int) /\ sizeOf S=(((sizeOf S).toNat:Nat):Int) /\ (sizeOf S).toNat <= (sizeOf S).toNat /\ 8 * ((sizeOf S).toNat) <= 140737488355328 /\ 1=1 /\ (sizeOf S).toNat <= 9223372036854775807] λ n4=>RN.bv 0 (congrArg (λ v_=>(.rows 1 ((sizeOf S).toNat) v_ 3 (0,0):Blk)) (show (zrow [vI 0])=(irow (iniL S 0)) from (by rw [zrow_irow (sizeOf S).toNat] <;> rfl)))<|RN.loop (σ:=Nat) (λ i=>⟨[(1,vP (n1+0) 0),(3,vS (n4+0) 0 ((sizeOf S).toNat) ((sizeOf S).toNat)),(19,vS S.bb (S.bo * 9) S.nb S.bc),(20,vI (S.nb:Int)),(21,vI (i:Int))],[((n4+0),.rows 1 ((sizeOf S).toNat) (irow (iniL S i)) 3 (0,0)),((n1+0),.lit (Setup.l S) 31 (0,0))],[],i <= S.nb,S.nb - i⟩) 0 [0,1] [] (Nat.zero_le _) ?_
   rintro i hI5 mt6
   refine RN.go 6 [] λ _=>RN.em ((i:Int) < (S.nb:Int)) 22 (λ h7=>?_) λ h7=>?_
   ·have hbi:=bodyAt_in hS.toSetN (i:=i) (by omega)
    refine RN.goP 20 ([.ix i,.rorow 0 (S.bo+i) 0,.rorow 0 (S.bo+i) 1,.rorow 0 (S.bo+i) 2,.rorow 0 (S.bo+i) 3,.rorow 0 (S.bo+i) 4,.rorow 0 (S.bo+i) 5,.rorow 0 (S.bo+i) 6,.rorow 0 (S.bo+i) 7,.rorow 0 (S.bo+i) 8]++ow 0 9++ow 2 16) [((S.bo * 9+i * 9)+8)=(S.bo+i) * 9+8 /\ (S.bo+i) < S.bR,((S.bo * 9+i * 9)+7)=(S.bo+i) * 9+7 /\ (S.bo+i) < S.bR,((S.bo * 9+i * 9)+6)=(S.bo+i) * 9+6 /\ (S.bo+i) < S.bR,((S.bo * 9+i * 9)+5)=(S.bo+i) * 9+5 /\ (S.bo+i) < S.bR,((S.bo * 9+i * 9)+4)=(S.bo+i) * 9+4 /\ (S.bo+i) < S.bR,((S.bo * 9+i * 9)+3)=(S.bo+i) * 9+3 /\ (S.bo+i) < S.bR,((S.bo * 9+i * 9)+2)=(S.bo+i) * 9+2 /\ (S.bo+i) < S.bR,((S.bo * 9+i * 9)+1)=(S.bo+i) * 9+1 /\ (S.bo+i) < S.bR,(S.bo * 9+i * 9)=(S.bo+i) * 9+0 /\ (S.bo+i) < S.bR,(i:Int)=((i:Nat):Int) /\ i < S.nb] λ n8=>RN.cp (lbody_any S (i:Int) _ hS.toSetN) ?_
    have hb9:=bodyAt_bd hS.toSetN (i:Int)
    refine RN.goP 5 [.sl ((bodyAt S (i:Int)).toNat) ((sizeOf S).toNat) false] [bodyAt S (i:Int)=(((bodyAt S (i:Int)).toNat:Nat):Int) /\ (sizeOf S).toNat=(sizeOf S).toNat /\ (bodyAt S (i:Int)).toNat <= (sizeOf S).toNat /\ (sizeOf S).toNat <= (sizeOf S).toNat /\ (sizeOf S).toNat ≠ (bodyAt S (i:Int)).toNat] λ _=>RN.draw [11,13] [0,2]<|RD.goP [0,2] [0,1,2,6,3,7,4,8,5,9,10] [.own 0,.ro 0,.ix 0] [0=((0:Nat):Int) /\ 0 < ((sizeOf S).toNat - (bodyAt S (i:Int)).toNat)]<|RD.one 11 (RDO.evP [0,2] [.row 1 (((bodyAt S (i:Int)).toNat)+0) 0] [((0+((bodyAt S (i:Int)).toNat) * 1)+0 * 1)=(((bodyAt S (i:Int)).toNat)+0) * 1+0 /\ (((bodyAt S (i:Int)).toNat)+0) < ((sizeOf S).toNat)] λ _=>?_)
    refine RD.goP [0,2] [12] [.ix 1] [1=((1:Nat):Int) /\ 1 < ((sizeOf S).toNat - (bodyAt S (i:Int)).toNat)]<|RD.one 13 (RDO.evP [0,2] [.row 1 (((bodyAt S (i:Int)).toNat)+1) 0] [((0+((bodyAt S (i:Int)).toNat) * 1)+1 * 1)=(((bodyAt S (i:Int)).toNat)+1) * 1+0 /\ (((bodyAt S (i:Int)).toNat)+1) < ((sizeOf S).toNat)] λ _=>?_)
    refine RD.fin<|RN.go 2 [] λ _=>RN.draw [11,13] [0,2]<|RD.goP [0,2] [0,1,2,6,3,7,4,8,5,9,10] [.own 0,.ro 0,.ix 2] [2=((2:Nat):Int) /\ 2 < ((sizeOf S).toNat - (bodyAt S (i:Int)).toNat)]<|RD.one 11 (RDO.evP [0,2] [.row 1 (((bodyAt S (i:Int)).toNat)+2) 0] [((0+((bodyAt S (i:Int)).toNat) * 1)+2 * 1)=(((bodyAt S (i:Int)).toNat)+2) * 1+0 /\ (((bodyAt S (i:Int)).toNat)+2) < ((sizeOf S).toNat)] λ _=>?_)
    refine RD.goP [0,2] [12] [.ix 3] [3=((3:Nat):Int) /\ 3 < ((sizeOf S).toNat - (bodyAt S (i:Int)).toNat)]<|RD.one 13 (RDO.evP [0,2] [.row 1 (((bodyAt S (i:Int)).toNat)+3) 0] [((0+((bodyAt S (i:Int)).toNat) * 1)+3 * 1)=(((bodyAt S (i:Int)).toNat)+3) * 1+0 /\ (((bodyAt S (i:Int)).toNat)+3) < ((sizeOf S).toNat)] λ _=>?_)
    refine RD.fin<|RN.go 1 [] λ _=>RN.draw [7,9] [0,2]<|RD.goP [0,2] [0,1,2,4,3,5,6] [.own 0,.ro 0,.ix 4] [4=((4:Nat):Int) /\ 4 < ((sizeOf S).toNat - (bodyAt S (i:Int)).toNat)]<|RD.one 7 (RDO.evP [0,2] [.row 1 (((bodyAt S (i:Int)).toNat)+4) 0] [((0+((bodyAt S (i:Int)).toNat) * 1)+4 * 1)=(((bodyAt S (i:Int)).toNat)+4) * 1+0 /\ (((bodyAt S (i:Int)).toNat)+4) < ((sizeOf S).toNat)] λ _=>?_)
    refine RD.goP [0,2] [8] [.ix 5] [5=((5:Nat):Int) /\ 5 < ((sizeOf S).toNat - (bodyAt S (i:Int)).toNat)]<|RD.one 9 (RDO.evP [0,2] [.row 1 (((bodyAt S (i:Int)).toNat)+5) 0] [((0+((bodyAt S (i:Int)).toNat) * 1)+5 * 1)=(((bodyAt S (i:Int)).toNat)+5) * 1+0 /\ (((bodyAt S (i:Int)).toNat)+5) < ((sizeOf S).toNat)] λ _=>?_)
    refine RD.fin<|RN.goP 6 [.nw] [I64 ((i:Int)+1)] λ _=>RN.bv 1 (congrArg (λ v_=>(.rows 1 ((sizeOf S).toNat) v_ 3 (0,0):Blk)) (show (updG (updG (updG (updG (updG (updG (irow (iniL S i)) (((bodyAt S (i:Int)).toNat)+0) 0 (vI ((S.bods.getD (S.bo+i) dB).mot.px))) (((bodyAt S (i:Int)).toNat)+1) 0 (vI ((S.bods.getD (S.bo+i) dB).mot.py))) (((bodyAt S (i:Int)).toNat)+2) 0 (vI ((S.bods.getD (S.bo+i) dB).mot.vx))) (((bodyAt S (i:Int)).toNat)+3) 0 (vI ((S.bods.getD (S.bo+i) dB).mot.vy))) (((bodyAt S (i:Int)).toNat)+4) 0 (vI ((S.bods.getD (S.bo+i) dB).a))) (((bodyAt S (i:Int)).toNat)+5) 0 (vI ((S.bods.getD (S.bo+i) dB).b)))=(irow (iniL S (i+1))) from (by rw [<- linit_next hS.toSetN (i:=i) (by omega)] <;> kernel_rfl))) ?_
    refine mt6 (i+1) [1,2] [] ?_
    try dsimp only
    exact ⟨by omega,by omega⟩
   ·refine RN.go 12 [] λ _=>RN.ret [] [0] [] (v:=vS (n4+0) 0 ((sizeOf S).toNat) ((sizeOf S).toNat)) (H':=[((n4+0),.rows 1 ((sizeOf S).toNat) (irow (iniL S i)) 3 (0,0))]) ?_
    have ei:i=S.nb:=by omega
    subst ei
    exact ⟨_,rfl,rfl⟩
abbrev gameL (S:Setup) (bp mb:Nat):List Value:=[vI S.players,vS S.bb (S.bo * 9) S.nb S.bc,vI S.box.x0,vI S.box.y0,vI S.box.x1,vI S.box.y1,.slice S.rA S.rn S.rc,.slice S.dA S.dn S.dc,vI S.fog,vI S.g.x,vI S.g.y,vI S.push,vI S.drag,vI S.rest,vI S.rounds,vI S.fuel,vP bp 0,vP mb 0]
inductive GameH (rs:List Bx) (ds:List Dr) (bp gb:Nat) (S:Setup) (M:MemS) (k:Nat):HL -> Prop
 | mk (mb:Nat) (T U:HL) (hM:MemH mb M k T) (hU:SetTl S rs ds U):GameH rs ds bp gb S M k (ap [(gb,.lit (gameL S bp mb) 115 (0,0))] [T,U])
theorem linit_ap (S:Setup) (F:HL) (hS:SetCl F S):Sp Tryz.prog 82 #[Setup.v S] (ap [] []) F (λ u H'=>∃ q,H'=ap [(q,.rows 1 (sizeOf S).toNat (irow (iniL S S.nb)) 3 (0,0))] [] /\ u=vS q 0 (sizeOf S).toNat (sizeOf S).toNat):=linit_any S F hS
theorem newn_any (q:Nat) (cs:List Int) (n k cap:Nat) (F:HL) (hn:cs.length=n) (hq:(q,.rows 1 n (irow cs) 3 (0,0)) ∈ F) (hc:n <= 1000000) (hk:k <= 100000000) (hcap:n <= cap):Sp Tryz.prog 14 #[vS q 0 n cap] (ap [] []) F (λ u H'=>∃ x:Nat × HL,H'=ap [] [x.2] /\ (u=vP x.1 0 /\ MemH x.1 ⟨cs,[],0⟩ k x.2)):=by
 subst hn
 exact new_any q cs k cap F hq hc hk hcap
theorem gnew_run (S:Setup) (rs:List Bx) (ds:List Dr) (bp:Nat) (F:HL) (hS:SetCl F S) (hM:MapIn F S rs ds) (h1:1 <= S.nb) (hrn:S.rn <= 1000000) (hdn:S.dn <= 1000000) (hsz:(sizeOf S).toNat <= 1000000) (hv:valE S rs ds=0) (k:Nat) (hk:k <= 100000000):Sp Tryz.prog 38 #[(Setup.v S),vP bp 0] [] F (λ u H'=>∃ x:Nat × Setup × HL,H'=ap [] [x.2.2] /\ (u=.tuple #[vP x.1 0,vI 0] /\ SetEq S x.2.1 /\ GameH rs ds bp x.1 x.2.1 ⟨iniL S S.nb,[],0⟩ k x.2.2)):=by
 refine Sp.run Tryz.func38 rfl mn (A:=[]) (Ts:=[]) rfl λ w0=>?_
 refine RN.go 11 (ow 0 16) λ n1=>RN.cp (val_any S rs ds _ hS.up.toSh hM.up)<|RN.go 9 [] λ _=>RN.fx 10 (nt (decide_eq_true hv))<|RN.go 4 [] λ _=>RN.draw [] []<|RD.go [] [0,2,3] (ow 0 32)<|RD.one 1 (RDO.ct [] (Hp:=[]) (Tp:=[]) [] [] (gclone_any S rs ds _ hS.up hM.up h1 hrn hdn) ?_)
 rintro _ ⟨S2,U3⟩ ⟨rfl,he4,hU5⟩
 dsimp only at he4 hU5
 refine RD.one 4 (RDO.ct [] (Hp:=[]) (Tp:=[]) [] [] (linit_ap S _ hS.up) ?_)
 rintro _ q6 rfl
 refine RD.one 5 (RDO.ct [] (Hp:=[]) (Tp:=[]) [] [] (newn_any q6 (iniL S S.nb) ((sizeOf S).toNat) k ((sizeOf S).toNat) _ (iniL_len _ _) (in_ap 0) hsz hk (Nat.le_refl _)) ?_)
 rintro _ ⟨m7,T8⟩ ⟨rfl,hM9⟩
 dsimp only at hM9
 refine RD.go [] [6] []<|RD.one 7 (RDO.ev [] [] λ n10=>?_)
 refine RD.go [] [8,9] []<|RD.fin<|RN.go 1 [] λ _=>RN.ret [] [0] [0,1] (v:=.tuple #[vP (n10+0) 0,vI 0]) (H':=(ap [((n10+0),.lit [vI S2.players,vS S2.bb (S2.bo * 9) S2.nb S2.bc,vI S2.box.x0,vI S2.box.y0,vI S2.box.x1,vI S2.box.y1,.slice S2.rA S2.rn S2.rc,.slice S2.dA S2.dn S2.dc,vI S2.fog,vI S2.g.x,vI S2.g.y,vI S2.push,vI S2.drag,vI S2.rest,vI S2.rounds,vI S2.fuel,vP bp 0,vP m7 0] 115 (0,0))] [T8,U3])) ?_
 exact ⟨((n10+0),S2,ap [((n10+0),.lit (gameL S2 bp m7) 115 (0,0))] [T8,U3]),by simp [ap],rfl,he4,.mk _ _ _ hM9 hU5⟩
theorem gnew_any (S:Setup) (rs:List Bx) (ds:List Dr) (bp:Nat) (F:HL) (hS:SetCl F S) (hM:MapIn F S rs ds) (h1:1 <= S.nb) (hrn:S.rn <= 1000000) (hdn:S.dn <= 1000000) (hsz:(sizeOf S).toNat <= 1000000) (hv:valE S rs ds=0) (k:Nat) (hk:k <= 100000000):Sp Tryz.prog 38 #[Setup.v S,vP bp 0] (ap [] []) F (λ u H'=>∃ x:Nat × Setup × HL,H'=ap [] [x.2.2] /\ (u=.tuple #[vP x.1 0,vI 0] /\ SetEq S x.2.1 /\ GameH rs ds bp x.1 x.2.1 ⟨iniL S S.nb,[],0⟩ k x.2.2)):=gnew_run S rs ds bp F hS hM h1 hrn hdn hsz hv k hk
theorem gmem_any (S:Setup) (bp gb mb:Nat) (F:HL) (hg:(gb,.lit (gameL S bp mb) 115 (0,0)) ∈ F):Sp Tryz.prog 12 #[vP gb 0] [] F (λ u H'=>u=vP mb 0 /\ H'=[]):=by
 refine Sp.run Tryz.func12 rfl (mc hg mn) (A:=[]) (Ts:=[]) rfl λ w0=>?_
 refine RN.go 14 [.ro 0] λ _=>?_
 exact RN.ret [] [] [] ⟨rfl,rfl⟩
theorem gmem_of {rs:List Bx} {ds:List Dr} {bp gb:Nat} {S:Setup} {M:MemS} {k:Nat} {T:HL} (h:GameH rs ds bp gb S M k T):∃ mb T1,MemH mb M k T1 /\ (∀ x ∈ T1,x ∈ T) /\ ∀ F:HL,(∀ x ∈ T,x ∈ F) -> Sp Tryz.prog 12 #[vP gb 0] [] F (λ u H'=>u=vP mb 0 /\ H'=[]):=by
 cases h with
 | mk mb T1 U hM hU=>exact ⟨mb,T1,hM,λ x hx=>by simp [ap,hx],λ F hF=>gmem_any S bp gb mb F (hF _ (by simp [ap]))⟩
theorem started_run (S:Setup) (rs:List Bx) (ds:List Dr) (bp:Nat) (F:HL) (hS:SetCl F S) (hM:MapIn F S rs ds) (h1:1 <= S.nb) (hrn:S.rn <= 1000000) (hdn:S.dn <= 1000000) (hsz:(sizeOf S).toNat <= 1000000) (hv:valE S rs ds=0) (k:Nat) (hk:k <= 100000000):Sp Tryz.prog 9 #[(Setup.v S),vP bp 0] [] F (λ u H'=>∃ x:Nat × Setup × HL,H'=ap [] [x.2.2] /\ (u=vP x.1 0 /\ SetEq S x.2.1 /\ GameH rs ds bp x.1 x.2.1 ⟨iniL S S.nb,[],0⟩ k x.2.2)):=by
 refine Sp.run Tryz.func9 rfl mn (A:=[]) (Ts:=[]) rfl λ w0=>?_
 refine RN.go 20 (ow 0 16) λ n1=>RN.ct (Hp:=[]) (Tp:=[]) [] [] (gnew_any S rs ds bp _ hS.up hM.up h1 hrn hdn hsz hv k hk) ?_
 rintro _ ⟨g2,S3,T4⟩ ⟨rfl,he5,hG6⟩
 dsimp only at he5 hG6
 refine RN.go 25 [] λ _=>?_
 obtain ⟨mbx,mbT,mbM,mbS,mbs⟩:=gmem_of hG6
 refine RN.cp (mbs _ (sub_ap 0))<|RN.go 12 [] λ _=>RN.ret [] [] [0] (v:=vP g2 0) (H':=(ap [] [T4])) ?_
 exact ⟨(g2,S3,T4),rfl,rfl,he5,hG6⟩
theorem started_any (S:Setup) (rs:List Bx) (ds:List Dr) (bp:Nat) (F:HL) (hS:SetCl F S) (hM:MapIn F S rs ds) (h1:1 <= S.nb) (hrn:S.rn <= 1000000) (hdn:S.dn <= 1000000) (hsz:(sizeOf S).toNat <= 1000000) (hv:valE S rs ds=0) (k:Nat) (hk:k <= 100000000):Sp Tryz.prog 9 #[Setup.v S,vP bp 0] (ap [] []) F (λ u H'=>∃ x:Nat × Setup × HL,H'=ap [] [x.2.2] /\ (u=vP x.1 0 /\ SetEq S x.2.1 /\ GameH rs ds bp x.1 x.2.1 ⟨iniL S S.nb,[],0⟩ k x.2.2)):=started_run S rs ds bp F hS hM h1 hrn hdn hsz hv k hk
def btwP (cs:List Int):Prop:=(cs.getD 1 0=0 /\ cs.getD 2 0=0 /\ cs.getD 3 0=0 /\ cs.getD 4 0=0 /\ cs.getD 5 0=0 /\ cs.getD 6 0=0 /\ cs.getD 7 0=0 /\ cs.getD 8 0=0 /\ cs.getD 9 0=0 /\ cs.getD 10 0=0) /\ cs.getD 0 0 >= 0 /\ cs.getD 0 0 <= 6000
instance (cs:List Int):Decidable (btwP cs):=inferInstanceAs (Decidable (_ /\ _))
def sameP (na nb:Nat) (xs ys:List Int):Prop:=na=nb /\ ∀ k,k < na -> xs.getD k 0=ys.getD k 0
instance (na nb:Nat) (xs ys:List Int):Decidable (sameP na nb xs ys):=inferInstanceAs (Decidable (_ /\ _))
theorem sameI_run (qa qb na nb Na Nb ca cb:Nat) (xs ys:List Int) (F:HL) (ha:(qa,.rows 1 Na (irow xs) 3 (0,0)) ∈ F) (hb:(qb,.rows 1 Nb (irow ys) 3 (0,0)) ∈ F) (hna:na <= Na) (hnb:nb <= Nb) (hn:na <= 1000000):Sp Tryz.prog 20 #[vS qa 0 na ca,vS qb 0 nb cb] [] F (λ u H'=>u=.bool (decide (sameP na nb xs ys)) /\ H'=[]):=by
 refine Sp.run Tryz.func20 rfl (mc ha (mc hb mn)) (A:=[]) (Ts:=[]) rfl λ w0=>?_
 refine RN.go 15 [] λ _=>RN.en ((na:Int)=(nb:Int)) 10 (λ h1=>?_) λ h1=>?_
 ·refine RN.go 10 [] λ _=>RN.loop (σ:=Nat) (λ i=>⟨[(0,vS qa 0 na ca),(1,vS qb 0 nb cb),(5,vI (i:Int))],[],[],i <= na /\ ∀ t,t < i -> xs.getD t 0=ys.getD t 0,na - i⟩) 0 [] [] (⟨Nat.zero_le _,λ t ht=>absurd ht (Nat.not_lt_zero _)⟩) ?_
  rintro i ⟨hil,hs1⟩ mt3
  refine RN.go 9 [] λ _=>RN.em ((i:Int) < (na:Int)) 14 (λ h4=>?_) λ h4=>?_
  ·refine RN.go 6 [] λ _=>RN.draw [] []<|RD.goP [] [0,1,4,5,2,6,3,7,8] [.ix i,.ix i,.rorow 0 i 0,.rorow 1 i 0] [(0+i * 1)=i * 1+0 /\ i < Nb,(0+i * 1)=i * 1+0 /\ i < Na,(i:Int)=((i:Nat):Int) /\ i < nb,(i:Int)=((i:Nat):Int) /\ i < na]<|RD.fin<|RN.go 1 [] λ _=>RN.en (xs.getD i 0=ys.getD i 0) 25 (λ h5=>?_) λ h5=>?_
   ·refine RN.goP 9 [.nw] [I64 ((i:Int)+1)] λ _=>?_
    refine mt3 (i+1) [] [] ?_
    try dsimp only
    refine ⟨⟨by omega,λ t ht=>?_⟩,by omega⟩
    rcases Nat.lt_or_ge t i with h_ | h_
    ·exact hs1 t h_
    ·obtain rfl:t=i:=by omega
     exact h5
   ·refine RN.go 6 [] λ _=>RN.ret [] [] [] (v:=.bool false) (H':=[]) ?_
    exact ⟨congrArg Value.bool (decide_eq_false (show ¬ sameP na nb xs ys from λ h_=>h5 (h_.2 i (by omega)))).symm,rfl⟩
  ·refine RN.go 11 [] λ _=>RN.ret [] [] [] (v:=.bool true) (H':=[]) ?_
   exact ⟨congrArg Value.bool (decide_eq_true (show sameP na nb xs ys from ⟨by omega,λ t ht=>hs1 t (by omega)⟩)).symm,rfl⟩
 ·refine RN.go 6 [] λ _=>RN.ret [] [] [] (v:=.bool false) (H':=[]) ?_
  exact ⟨congrArg Value.bool (decide_eq_false (show ¬ sameP na nb xs ys from λ h_=>by have:=h_.1;omega)).symm,rfl⟩
theorem sameI_b (b:Bool) (qa qb na nb Na Nb ca cb:Nat) (xs ys:List Int) (F:HL) (ha:(qa,.rows 1 Na (irow xs) 3 (0,0)) ∈ F) (hb:(qb,.rows 1 Nb (irow ys) 3 (0,0)) ∈ F) (hna:na <= Na) (hnb:nb <= Nb) (hn:na <= 1000000) (he:decide (sameP na nb xs ys)=b):Sp Tryz.prog 20 #[vS qa 0 na ca,vS qb 0 nb cb] [] F (λ u H'=>u=.bool b /\ H'=[]):=he ▸ sameI_run qa qb na nb Na Nb ca cb xs ys F ha hb hna hnb hn
theorem cells_ap (mb:Nat) (M:MemS) (k:Nat) (T F:HL) (hM:MemH mb M k T) (hT:∀ x ∈ T,x ∈ F):Sp Tryz.prog 13 #[vP mb 0] (ap [] []) F (λ u H'=>∃ q,H'=ap [(q,.rows 1 M.cs.length (irow M.cs) 3 (0,0))] [] /\ u=vS q 0 M.cs.length M.cs.length):=cells_any mb M k T F hM hT
theorem setup_ap (A:Option Addr) (n cap:Nat) (xs:List Int) (F:HL) (hl:ArgL F A n xs) (hn:n <= 9223372036854775807):Sp Tryz.prog 7 #[.slice A n cap] (ap [] []) F (λ u H'=>∃ x:Setup × HL,H'=ap [(x.1.bb,.rows 9 x.1.bR (brow x.1.bods) 106 (0,0))] [x.2] /\ (u=Setup.v x.1 /\ SetG xs x.1 x.2)):=setup_any A n cap xs F hl hn
def okIn (x:Inp):Prop:=(¬ x.dx < -1 /\ ¬ x.dx > 1) /\ (¬ x.dy < -1 /\ ¬ x.dy > 1) /\ ¬ x.act < 0 /\ ¬ x.act > 3
instance (x:Inp):Decidable (okIn x):=inferInstanceAs (Decidable (_ /\ _))
def wrongE (pl:Int) (n:Nat) (xs:List Inp) (now:Int):Int:=if (n:Int)=pl then (if ∀ k,k < n -> okIn (xs.getD k dI) then (if now >= 6000 then 2 else 0) else 1) else 17
theorem mark_mem (mb cb n:Nat) (A:Option Addr) (m cap:Nat) (base:Int) (F:HL) (hm:(mb,.lit [vS cb 0 n n,.slice A m cap,vI base] 119 (0,0)) ∈ F):Sp Tryz.prog 58 #[vP mb 0] [] F (λ u H'=>u=vI (w64 (base+(m:Int))) /\ H'=[]):=by
 refine Sp.run Tryz.func58 rfl (mc hm mn) (A:=[]) (Ts:=[]) rfl λ w0=>?_
 refine RN.go 6 [] λ _=>RN.draw [] []<|RD.go [] [0,4,1,5,2,6,3,7,8,9,10] [.ro 0,.ro 0]<|RD.fin<|RN.go 1 [] λ _=>?_
 exact RN.ret [] [] [] ⟨rfl,rfl⟩
theorem mark_any {mb:Nat} {M:MemS} {k:Nat} {T F:HL} (h:MemH mb M k T) (hs:∀ x ∈ T,x ∈ F):Sp Tryz.prog 58 #[vP mb 0] [] F (λ u H'=>u=vI (w64 (M.base+(M.lg.length:Int))) /\ H'=[]):=by
 cases h with
 | mk cb A cap Hl hsl hc hl=>exact mark_mem mb cb M.cs.length A M.lg.length cap M.base F (hs _ (by simp))
theorem gnow_any (S:Setup) (bp gb mb:Nat) (M:MemS) (k:Nat) (T F:HL) (hg:(gb,.lit (gameL S bp mb) 115 (0,0)) ∈ F) (hM:MemH mb M k T) (hT:∀ x ∈ T,x ∈ F):Sp Tryz.prog 63 #[vP gb 0] [] F (λ u H'=>u=vI (M.get 0) /\ H'=[]):=by
 refine Sp.run Tryz.func63 rfl (mc hg mn) (A:=[]) (Ts:=[]) rfl λ w0=>?_
 refine RN.go 11 [.ro 0] λ _=>RN.cp (get_any 0 hM (λ x hx=>ro_ap (hT x hx)))<|RN.go 3 [] λ _=>?_
 exact RN.ret [] [] [] ⟨rfl,rfl⟩
theorem gcheck_any (S:Setup) (bp gb mb:Nat) (M:MemS) (k:Nat) (A:Option Addr) (n cap:Nat) (xs:List Inp) (T F:HL) (hg:(gb,.lit (gameL S bp mb) 115 (0,0)) ∈ F) (hM:MemH mb M k T) (hT:∀ x ∈ T,x ∈ F) (hl:RowL inpE 151 F A n xs) (hn:n <= 1000000):Sp Tryz.prog 57 #[vP gb 0,.slice A n cap] [] F (λ u H'=>u=vI (wrongE S.players n xs (M.get 0)) /\ H'=[]):=by
 refine Sp.run Tryz.func57 rfl (mc hg mn) (A:=[]) (Ts:=[]) rfl λ w0=>?_
 refine RN.go 18 [.ro 0] λ _=>RN.en ((n:Int)=S.players) 14 (λ h1=>?_) λ h1=>?_
 ·refine RN.go 12 [] λ _=>RN.loop (σ:=Nat) (λ k_=>⟨[(0,vP gb 0),(15,.slice A n cap),(16,vI (n:Int)),(17,vI (k_:Int))],[],[],k_ <= n /\ ∀ t,t < k_ -> okIn (xs.getD t dI),n - k_⟩) 0 [] [] (⟨Nat.zero_le _,λ t ht=>absurd ht (Nat.not_lt_zero _)⟩) ?_
  rintro k_ ⟨hkl,hok⟩ mt3
  refine RN.go 6 [] λ _=>RN.em ((k_:Int) < (n:Int)) 18 (λ h4=>?_) λ h4=>?_
  ·refine RN.go 7 [] λ _=>?_
   obtain ⟨qx5,ox5,Nx5,fx5,fzx5,hAx5,hqx5,hox5,hgx5⟩:=hl.at (k:=k_) (by omega)
   refine RN.sv 15 (congrArg (λ v_=>(.slice v_ n cap:Value)) hAx5)<|RN.ro (λ _=>(mc hg (mc hqx5 mn)))<|RN.goP 2 [.ix k_,.rorow 1 (ox5+k_) 0,.rorow 1 (ox5+k_) 1,.rorow 1 (ox5+k_) 2] [((ox5 * 3+k_ * 3)+2)=(ox5+k_) * 3+2 /\ (ox5+k_) < Nx5,((ox5 * 3+k_ * 3)+1)=(ox5+k_) * 3+1 /\ (ox5+k_) < Nx5,(ox5 * 3+k_ * 3)=(ox5+k_) * 3+0 /\ (ox5+k_) < Nx5,(k_:Int)=((k_:Nat):Int) /\ k_ < n] λ _=>RN.sv 20 (congrArg (λ v_=>(.agg #[vI v_.dx,vI v_.dy,vI v_.act]:Value)) hgx5)<|RN.go 10 [.own 0,.own 0,.own 0,.own 0] λ n6=>RN.em ((xs.getD k_ dI).dx < (-1)) 24 (λ h7=>?_) λ h7=>?_
   ·refine RN.go 32 [] λ _=>RN.ret [] [] [] (v:=vI 1) (H':=[]) ?_
    exact ⟨by rw [wrongE,if_pos (by omega),if_neg (λ h_=>by have h2_:=h_ k_ (by omega);unfold okIn at h2_;omega)],rfl⟩
   ·refine RN.go 5 [.own 0] λ _=>RN.em ((xs.getD k_ dI).dx > 1) 29 (λ h8=>?_) λ h8=>?_
    ·refine RN.go 27 [] λ _=>RN.ret [] [] [] (v:=vI 1) (H':=[]) ?_
     exact ⟨by rw [wrongE,if_pos (by omega),if_neg (λ h_=>by have h2_:=h_ k_ (by omega);unfold okIn at h2_;omega)],rfl⟩
    ·refine RN.go 5 [.own 0] λ _=>RN.em ((xs.getD k_ dI).dy < (-1)) 34 (λ h9=>?_) λ h9=>?_
     ·refine RN.go 22 [] λ _=>RN.ret [] [] [] (v:=vI 1) (H':=[]) ?_
      exact ⟨by rw [wrongE,if_pos (by omega),if_neg (λ h_=>by have h2_:=h_ k_ (by omega);unfold okIn at h2_;omega)],rfl⟩
     ·refine RN.go 5 [.own 0] λ _=>RN.em ((xs.getD k_ dI).dy > 1) 39 (λ h10=>?_) λ h10=>?_
      ·refine RN.go 17 [] λ _=>RN.ret [] [] [] (v:=vI 1) (H':=[]) ?_
       exact ⟨by rw [wrongE,if_pos (by omega),if_neg (λ h_=>by have h2_:=h_ k_ (by omega);unfold okIn at h2_;omega)],rfl⟩
      ·refine RN.go 5 [.own 0] λ _=>RN.em ((xs.getD k_ dI).act < 0) 44 (λ h11=>?_) λ h11=>?_
       ·refine RN.go 12 [] λ _=>RN.ret [] [] [] (v:=vI 1) (H':=[]) ?_
        exact ⟨by rw [wrongE,if_pos (by omega),if_neg (λ h_=>by have h2_:=h_ k_ (by omega);unfold okIn at h2_;omega)],rfl⟩
       ·refine RN.go 6 [.own 0] λ _=>RN.em ((xs.getD k_ dI).act > 3) 48 (λ h12=>?_) λ h12=>?_
        ·refine RN.go 6 [] λ _=>RN.ret [] [] [] (v:=vI 1) (H':=[]) ?_
         exact ⟨by rw [wrongE,if_pos (by omega),if_neg (λ h_=>by have h2_:=h_ k_ (by omega);unfold okIn at h2_;omega)],rfl⟩
        ·refine RN.goP 8 [.nw] [I64 ((k_:Int)+1)] λ _=>RN.sv 15 (congrArg (λ v_=>(.slice v_ n cap:Value)) hAx5.symm) ?_
         refine mt3 (k_+1) [] [] ?_
         try dsimp only
         refine ⟨⟨by omega,λ t ht=>?_⟩,by omega⟩
         rcases Nat.lt_or_ge t k_ with h_ | h_
         ·exact hok t h_
         ·obtain rfl:t=k_:=by omega
          exact ⟨⟨h7,h8⟩,⟨h9,h10⟩,h11,h12⟩
  ·refine RN.go 10 [] λ _=>RN.cp (gnow_any S bp gb mb M k T _ (ro_ap hg) hM (λ x hx=>ro_ap (hT x hx)))<|RN.go 3 [] λ _=>RN.em (M.get 0 >= 6000) 52 (λ h13=>?_) λ h13=>?_
   ·refine RN.go 6 [] λ _=>RN.ret [] [] [] (v:=vI 2) (H':=[]) ?_
    exact ⟨by rw [wrongE,if_pos (by omega),if_pos (λ t ht=>hok t (by omega)),if_pos (by omega)],rfl⟩
   ·refine RN.go 8 [] λ _=>RN.ret [] [] [] (v:=vI 0) (H':=[]) ?_
    exact ⟨by rw [wrongE,if_pos (by omega),if_pos (λ t ht=>hok t (by omega)),if_neg (by omega)],rfl⟩
 ·refine RN.go 6 [] λ _=>RN.ret [] [] [] (v:=vI 17) (H':=[]) ?_
  exact ⟨by rw [wrongE,if_neg (by omega)],rfl⟩
theorem trans_run (gb ib io ni ic:Nat) (F:HL):Sp Tryz.prog 61 #[vP gb 0,vS ib (io * 3) ni ic] [] F (λ u H'=>∃ n:Nat,H'=ap [((n+1),.lit [vS ib (io * 3) ni ic] 56 (0,0)),((n+0),.lit [vP gb 0] 35 (0,0))] [] /\ u=.func (.func 100) #[] #[vP (n+0) 0,vP (n+1) 0]):=by
 refine Sp.run Tryz.func61 rfl mn (A:=[]) (Ts:=[]) rfl λ w0=>?_
 refine RN.go 13 [] λ n1=>RN.ret [] [0,1] [] (v:=.func (.func 100) #[] #[vP (n1+0) 0,vP (n1+1) 0]) (H':=(ap [((n1+1),.lit [vS ib (io * 3) ni ic] 56 (0,0)),((n1+0),.lit [vP gb 0] 35 (0,0))] [])) ?_
 exact ⟨_,rfl,rfl⟩
theorem transf_any (gb ib io ni ic:Nat) (F:HL):Sp Tryz.prog 61 #[vP gb 0,vS ib (io * 3) ni ic] (ap [] []) F (λ u H'=>∃ n:Nat,H'=ap [((n+1),.lit [vS ib (io * 3) ni ic] 56 (0,0)),((n+0),.lit [vP gb 0] 35 (0,0))] [] /\ u=.func (.func 100) #[] #[vP (n+0) 0,vP (n+1) 0]):=trans_run gb ib io ni ic F
end Go.Proofs.YtghjbimijeinfaaGreatDoor
