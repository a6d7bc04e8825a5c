import Derived.Test.YtcfajdgeejeieaaGreatDoorY48
import Derived.Test.YtcfajdgeejeieaaGreatDoorRows
import Derived.Test.YtcfajdgeejeieaaGreatDoorChecked
import Derived.Test.YtcfajdgeejeieaaGreatDoorY23
import Derived.ProofKit
import Derived.OpenShut
import Derived.Carry
import Derived.Lay
import Derived.LaidHandle
import Derived.ChangeSlices
import Derived.Test.YtcfajdgeejeieaaGreatDoorY41
import Derived.Lib.LaidTab
import Derived.MakeChecks
import Derived.Test.YtcfajdgeejeieaaGreatDoorTie
import Derived.Test.YtcfajdgeejeieaaGreatDoorCards
import Derived.SevenTiedAt
import Derived.JoinedOf
set_option maxHeartbeats 4000000
set_option maxRecDepth 100000
set_option linter.unusedSimpArgs false
set_option linter.unusedVariables false
namespace Go.Proofs.YtcfajdgeejeieaaGreatDoor
open Go.RowKit
theorem SlIs.capL {α:Type} {e:Enc α} {T:TypeId} {l:List α} {A:Option Addr} {cap:Nat} {Hl:HL} (h:SlIs e T l A cap Hl):l.length <= cap:=by
 rcases h with ⟨_,rfl,rfl,_⟩ | ⟨b,o,full,_,_,h1,h2,h3⟩
 ·exact Nat.le_refl _
 ·exact h2
theorem Aq {G G':Nat -> Gm} {M:MemS}:∀ k,(∀ i,i < k -> G i=G' i) -> jD G M k=jD G' M k
 | 0,_=>rfl
 | k+1,h=>by rw [jD,jD,Aq k λ i hi=>h i (by omega),h k (by omega)]
theorem Ar (S:Setup) (J:Nat -> Nat × Int) (xss:List (List Inp)) (k:Nat):WS S J (xss.take k) k=WS S J xss k:=by
 unfold WS
 refine congrArg MemS.cs (Aq k λ i hi=>?_)
 show ko _ _ _=ko _ _ _
 rw [show (xss.take k).getD i []=xss.getD i [] by rw [List.getD_eq_getElem?_getD,List.getD_eq_getElem?_getD,List.getElem?_take,if_pos hi]]
theorem Au (S:Setup) (rs_:List Bx) (ds_:List Dr) (bp n cap:Nat) (J:Nat -> Nat × Int) (A:Option Addr) (rs:List Rw) (xss:List (List Inp)) (F:HL) (hS:SetIn F S) (hM:MapIn F S rs_ ds_) (hV:SetV S) (hrn:S.rn <= 1000000) (hdn:S.dn <= 1000000) (hsz:(sizeOf S).toNat <= 1000000) (hv:fQ S rs_ ds_=0) (hE:cK F) (hr:RowL mj 44 F A n rs) (hw:RwsIn F rs xss) (h9:n <= 9) (hrow:∀ i,i < n -> fL S.players (xss.getD i [])) (hAt:∀ i,i < n -> (J i).1 < 5 /\ AtOk F bp (i:Int) (J i)) {W:List Int} (hW:WS S J xss n=W) :
  Sp Tryz.prog 33 #[Setup.v S,vP bp 0,.slice A n cap] (ap [] []) F (λ u H'=>∃ x:(Nat × Option Addr × Nat × Nat) × HL,H'=ap [(x.1.1,.rows 1 W.length (aJ W) 3 (0,0))] [x.2] /\ u=.tuple #[vS x.1.1 0 W.length W.length,.slice x.1.2.1 x.1.2.2.2 x.1.2.2.1,vI 0]):=by
 subst hW
 have hp:=hV.pl
 have hok:∀ S2,SetEq S S2 -> ∀ i,i < n -> TkOk S2 (J i) (xss.getD i []) (jD (rG S2 J xss) ⟨bC S S.nb,[],0⟩ i):=λ S2 h2 i hi=>Jj (h2.setV hV) (t7 hV h2) J n (by omega) (λ i hi=>by rw [h2.pl];exact hrow i hi) i hi
 have ht0:∀ S2,SetEq S S2 -> ∀ i,i < n -> (jD (rG S2 J xss) ⟨bC S S.nb,[],0⟩ i).get 0=(i:Int):=λ S2 h2 i hi=>(Ak (h2.setV hV) (t7 hV h2) J n (by omega) (λ i hi=>by rw [h2.pl];exact hrow i hi) i (by omega)).t0
 refine (Im S rs_ ds_ bp n cap J A rs xss F hS hM (by have:=hV.nb;omega) hrn hdn hsz hv hE hr hw (λ k hk=>by have:=(hrow k hk).1;omega) (by omega) h9 (λ S2 h2 i hi _=>⟨.inl (hok S2 h2 i hi),(hAt i hi).1,by rw [ht0 S2 h2 i hi];exact (hAt i hi).2⟩)).mono λ u H' h=>?_
 obtain ⟨⟨⟨S2,q,A2,c2⟩,C,E⟩,rfl,h2,h3⟩:=h
 dsimp only at h2 h3
 rcases h3 with ⟨_,h4,h5,h6⟩ | ⟨i,hi,_,h4,_⟩
 ·have e1:=t6 (Ji h2 (oc S) J xss) ⟨bC S S.nb,[],0⟩ n
  rw [e1] at h4 h6
  subst h4
  exact ⟨((q,A2,c2,_),E),by simp [ap,WS],h6⟩
 ·exact absurd (hok S2 h2 i hi).ok h4
theorem CA (A0 AI:Option Addr) (n0 c0 nI cI:Nat) (xs xI:List Int) (i1 i2 i3 i5 i6 i7:Int) (F:HL) (hE0:lK F) (hE1:cK F) (hl0:ArgD F A0 n0 xs) (hn0:n0 <= 9223372036854775807) (hl2:ArgD F AI nI xI) (hn2:nI <= 9223372036854775807) (hi1:kC i1) (hi2:kC i2) (hi3:kC i3) (hi5:kC i5) (hi6:kC i6) (hi7:kC i7):Sp Tryz.prog 5 #[.slice A0 n0 c0,vI i1,vI i2,vI i3,.slice AI nI cI,vI i5,vI i6,vI i7] [] F (λ u H'=>u=.bool true /\ H'=[]):=by
 refine Sp.run Tryz.func5 rfl mn (A:=[]) (Ts:=[]) rfl λ w0=>?_
 refine ae 8 [] λ _=>RN.ct (Hp:=[]) (Tp:=[]) [] [] (hl0.up.use λ F_ h_=>Eo A0 n0 c0 xs _ h_ hn0) ?_
 rintro _ ⟨S,TS⟩ ⟨rfl,hG⟩
 dsimp only at hG
 have hF:=KJ hl0 hG
 have hpl:=hF.pl
 have hnb:=hF.nb
 have hrn:=hF.rn
 have hdn:=hF.dn
 have hsz:=hF.sz
 have hil:=gn S S.nb
 have hV:SetV S:=hl0.ex.elim λ _ h_=>setV h_ hG
 refine ae 7 (ow 0 16) λ n1=>RN.ct (Hp:=[]) (Tp:=[]) [] [] (qP i1 _ hi1 (aw hE0)) ?_
 rintro _ ⟨b2,T3⟩ ⟨rfl,hB4⟩
 dsimp only at hB4
 have hj1:(av i1 5).toNat < 5:=by have:=bq (n:=i1) hi1 5 (by decide);omega
 have hj2:(av (IntKind.i64.wrap (i1+1)) 5).toNat < 5:=by have:=bq (n:=(IntKind.i64.wrap (i1+1))) (Gl _) 5 (by decide);omega
 obtain ⟨j1,ej1⟩:∃ j,(av i1 5).toNat=j:=⟨_,rfl⟩
 obtain ⟨j2,ej2⟩:∃ j,(av (IntKind.i64.wrap (i1+1)) 5).toNat=j:=⟨_,rfl⟩
 rw [ej1] at hj1
 rw [ej2] at hj2
 rw [ej1,ej2] at hB4
 refine ae 8 (ow 0 16) λ _=>?_
 obtain ⟨cnt,hcnt,hcl⟩:∃ cnt:Nat,av i5 10=(cnt:Int) /\ cnt <= 9:=⟨(av i5 10).toNat,by have:=bq (n:=i5) hi5 10 (by decide);omega,by have:=bq (n:=i5) hi5 10 (by decide);omega⟩
 refine RN.ct (Hp:=[]) (Tp:=[]) [] [] (hl2.up.use λ F_ h_=>Cx S AI nI cI xI i5 cnt F_ h_ hn2 (by omega) hcnt (by omega)) ?_
 rintro _ ⟨⟨A5,c6,rs7⟩,E8,T9⟩ ⟨rfl,hs10,hl11,hT12⟩
 dsimp only at hs10 hl11 hT12
 have hgr:∀ i,i < cnt -> fL S.players ((aQ S.players xI cnt).getD i []):=λ i hi=>hl2.ex.elim λ _ h_=>yL h_ (by omega) cnt i hi
 have hcap_:cnt <= c6:=by have h_:=hs10.capL;omega
 refine ae 4 [] λ _=>RN.draw [] []<|ag [] [0,1,2,5] (ow 0 16)<|ar [] 3 (λ X_=>(fl i2 6 (by decide) _)) ?_
 have hA13:=bq (n:=i2) hi2 6 (by decide)
 refine aF [] [4] [.nw] [bn (1+(av i2 6))] ?_
 obtain ⟨ev1,he1,hev1⟩:∃ ev:Nat,1+(av i2 6)=(ev:Int) /\ (1 <= ev /\ ev <= 60):=⟨(1+(av i2 6)).toNat,by have:=bq (n:=i2) hi2 6 (by decide);omega,by have:=bq (n:=i2) hi2 6 (by decide);omega⟩
 refine RD.one 6 (RDO.ct [] (Hp:=[]) (Tp:=[]) [] [] (Gq S pP (jL (kv xs 3 % 3).toNat) b2 ev1 cnt c6 (jb 4 j1 j2 0) A5 rs7 (aQ S.players xI cnt) _ (hG.sin _ (az 1) (au 3)).cl (hG.maps.2 _ (au 3)) hV (by omega) (by omega) (by omega) (by omega) hF.val hev1 (aw hE1) (hs10.rowN (au 0) hl11) (hT12 _ (au 1)) (by omega) hgr (λ i hi=>lM hB4 (au 2) hj1 hj2 (t:=0+i) (by omega)) he1) ?_)
 rintro _ ⟨r14,S15,T16⟩ ⟨rfl,he17,hr18⟩
 dsimp only at he17 hr18
 refine ag [] [7] []<|RD.fin<|ae 2 [] λ _=>RN.draw [] []<|ag [] [0,1,2,5] (ow 0 16)<|ar [] 3 (λ X_=>(fl i3 60 (by decide) _)) ?_
 have hA19:=bq (n:=i3) hi3 60 (by decide)
 refine aF [] [4] [.nw] [bn (1+(av i3 60))] ?_
 obtain ⟨ev2,he2,hev2⟩:∃ ev:Nat,1+(av i3 60)=(ev:Int) /\ (1 <= ev /\ ev <= 60):=⟨(1+(av i3 60)).toNat,by have:=bq (n:=i3) hi3 60 (by decide);omega,by have:=bq (n:=i3) hi3 60 (by decide);omega⟩
 refine RD.one 6 (RDO.ct [] (Hp:=[]) (Tp:=[]) [] [] (Gq S pP (jL (kv xs 3 % 3).toNat) b2 ev2 cnt c6 (jb 4 j1 j2 0) A5 rs7 (aQ S.players xI cnt) _ (hG.sin _ (az 1) (au 4)).cl (hG.maps.2 _ (au 4)) hV (by omega) (by omega) (by omega) (by omega) hF.val hev2 (aw hE1) (hs10.rowN (au 1) hl11) (hT12 _ (au 2)) (by omega) hgr (λ i hi=>lM hB4 (au 3) hj1 hj2 (t:=0+i) (by omega)) he2) ?_)
 rintro _ ⟨r20,S21,T22⟩ ⟨rfl,he23,hr24⟩
 dsimp only at he23 hr24
 refine ag [] [7] []<|RD.fin<|ak 21 [.gen,.gen,.gen,.gen,.nw] [bn ((cnt:Int)+1)] λ _=>?_
 obtain ⟨kk6,hkk6,hlkk6⟩:∃ kk:Nat,av i6 ((cnt:Int)+1)=(kk:Int) /\ kk <= cnt:=⟨(av i6 ((cnt:Int)+1)).toNat,by have:=bq (n:=i6) hi6 ((cnt:Int)+1) (by omega);omega,by have:=bq (n:=i6) hi6 ((cnt:Int)+1) (by omega);omega⟩
 have hwkk6:=qN (J:=(jb 4 j1 j2 0)) hV (oc S) (n:=cnt) (by omega) hgr (i:=kk6) (by omega)
 refine ai (qJ hkk6 (by omega) _)<|ak 4 [.nw] [bn ((cnt:Int)+1)] λ _=>?_
 obtain ⟨kk7,hkk7,hlkk7⟩:∃ kk:Nat,av i7 ((cnt:Int)+1)=(kk:Int) /\ kk <= cnt:=⟨(av i7 ((cnt:Int)+1)).toNat,by have:=bq (n:=i7) hi7 ((cnt:Int)+1) (by omega);omega,by have:=bq (n:=i7) hi7 ((cnt:Int)+1) (by omega);omega⟩
 have hwkk7:=qN (J:=(jb 4 j1 j2 0)) hV (oc S) (n:=cnt) (by omega) hgr (i:=kk7) (by omega)
 refine ai (qJ hkk7 (by omega) _)<|ae 11 [] λ n25=>RN.rounds 3<|ae 13 [] λ _=>RN.draw [] []<|aF [] [0,1,2,3,4,5,6,7] (ow 1 16++[.own 0,.sl0 kk6]) [(kk6:Int)=((kk6:Nat):Int) /\ kk6 <= c6]<|RD.one 8 (RDO.ct [] (Hp:=[]) (Tp:=[]) [] [] (Au S pP (jL (kv xs 3 % 3).toNat) b2 kk6 c6 (jb 4 j1 j2 0) A5 (rs7.take kk6) ((aQ S.players xI cnt).take kk6) _ (hG.sin _ (az 2) (au 5)) (hG.maps.2 _ (au 5)) hV (by omega) (by omega) (by omega) hF.val (aw hE1) ((hs10.rowN (au 2) hl11).take (by omega)) ((hT12 _ (au 3)).take kk6) (by omega) (sR hgr (by omega)) (λ i hi=>lM hB4 (au 4) hj1 hj2 (t:=0+i) (by omega)) (Ar S (jb 4 j1 j2 0) (aQ S.players xI cnt) kk6)) ?_)
 rintro _ ⟨⟨q26,A27,c28,m29⟩,E30⟩ rfl
 refine ag [] [9,10,11,12,13,14,15] []<|RD.fin<|ae 8 [.own 1] λ _=>RN.ct (Hp:=[]) (Tp:=[]) [] [] (wQ (t:=kk6) hr18 (au 2) hV (by omega) (by omega) (by omega) hF.val hev1 (aw hE1) (by omega) hgr (λ i hi=>lM hB4 (au 5) hj1 hj2 (t:=0+i) (by omega)) (by omega)) ?_
 rintro _ q31 rfl
 refine ae 16 [.own 2] λ _=>RN.ct (Hp:=[]) (Tp:=[]) [] [] (wQ (t:=kk6) hr24 (au 1) hV (by omega) (by omega) (by omega) hF.val hev2 (aw hE1) (by omega) hgr (λ i hi=>lM hB4 (au 5) hj1 hj2 (t:=0+i) (by omega)) (by omega)) ?_
 rintro _ q32 rfl
 refine ae 24 [] λ _=>ai (pi true q31 q26 ((WS S (jb 4 j1 j2 0) (aQ S.players xI cnt) kk6).length) ((WS S (jb 4 j1 j2 0) (aQ S.players xI cnt) kk6).length) ((WS S (jb 4 j1 j2 0) (aQ S.players xI cnt) kk6).length) ((WS S (jb 4 j1 j2 0) (aQ S.players xI cnt) kk6).length) ((WS S (jb 4 j1 j2 0) (aQ S.players xI cnt) kk6).length) ((WS S (jb 4 j1 j2 0) (aQ S.players xI cnt) kk6).length) (WS S (jb 4 j1 j2 0) (aQ S.players xI cnt) kk6) (WS S (jb 4 j1 j2 0) (aQ S.players xI cnt) kk6) _ (az 1) (az 2) (Nat.le_refl _) (Nat.le_refl _) (by omega) (decide_eq_true ⟨rfl,λ t ht=>rfl⟩))<|ae 5 [] λ _=>ai (pi true q32 q26 ((WS S (jb 4 j1 j2 0) (aQ S.players xI cnt) kk6).length) ((WS S (jb 4 j1 j2 0) (aQ S.players xI cnt) kk6).length) ((WS S (jb 4 j1 j2 0) (aQ S.players xI cnt) kk6).length) ((WS S (jb 4 j1 j2 0) (aQ S.players xI cnt) kk6).length) ((WS S (jb 4 j1 j2 0) (aQ S.players xI cnt) kk6).length) ((WS S (jb 4 j1 j2 0) (aQ S.players xI cnt) kk6).length) (WS S (jb 4 j1 j2 0) (aQ S.players xI cnt) kk6) (WS S (jb 4 j1 j2 0) (aQ S.players xI cnt) kk6) _ (az 0) (az 2) (Nat.le_refl _) (Nat.le_refl _) (by omega) (decide_eq_true ⟨rfl,λ t ht=>rfl⟩))<|ae 27 [] λ _=>RN.draw [] []<|aF [] [0,1,2,3,4,5,6,7] (ow 4 16++[.own 3,.sl0 kk7]) [(kk7:Int)=((kk7:Nat):Int) /\ kk7 <= c6]<|RD.one 8 (RDO.ct [] (Hp:=[]) (Tp:=[]) [] [] (Au S pP (jL (kv xs 3 % 3).toNat) b2 kk7 c6 (jb 4 j1 j2 0) A5 (rs7.take kk7) ((aQ S.players xI cnt).take kk7) _ (hG.sin _ (az 5) (au 6)) (hG.maps.2 _ (au 6)) hV (by omega) (by omega) (by omega) hF.val (aw hE1) ((hs10.rowN (au 3) hl11).take (by omega)) ((hT12 _ (au 4)).take kk7) (by omega) (sR hgr (by omega)) (λ i hi=>lM hB4 (au 5) hj1 hj2 (t:=0+i) (by omega)) (Ar S (jb 4 j1 j2 0) (aQ S.players xI cnt) kk7)) ?_)
 rintro _ ⟨⟨q33,A34,c35,m36⟩,E37⟩ rfl
 refine ag [] [9,10,11,12,13,14,15] []<|RD.fin<|ae 8 [.own 4] λ _=>RN.ct (Hp:=[]) (Tp:=[]) [] [] (wQ (t:=kk7) hr18 (au 3) hV (by omega) (by omega) (by omega) hF.val hev1 (aw hE1) (by omega) hgr (λ i hi=>lM hB4 (au 6) hj1 hj2 (t:=0+i) (by omega)) (by omega)) ?_
 rintro _ q38 rfl
 refine ae 16 [.own 5] λ _=>RN.ct (Hp:=[]) (Tp:=[]) [] [] (wQ (t:=kk7) hr24 (au 2) hV (by omega) (by omega) (by omega) hF.val hev2 (aw hE1) (by omega) hgr (λ i hi=>lM hB4 (au 6) hj1 hj2 (t:=0+i) (by omega)) (by omega)) ?_
 rintro _ q39 rfl
 refine ae 24 [] λ _=>ai (pi true q38 q33 ((WS S (jb 4 j1 j2 0) (aQ S.players xI cnt) kk7).length) ((WS S (jb 4 j1 j2 0) (aQ S.players xI cnt) kk7).length) ((WS S (jb 4 j1 j2 0) (aQ S.players xI cnt) kk7).length) ((WS S (jb 4 j1 j2 0) (aQ S.players xI cnt) kk7).length) ((WS S (jb 4 j1 j2 0) (aQ S.players xI cnt) kk7).length) ((WS S (jb 4 j1 j2 0) (aQ S.players xI cnt) kk7).length) (WS S (jb 4 j1 j2 0) (aQ S.players xI cnt) kk7) (WS S (jb 4 j1 j2 0) (aQ S.players xI cnt) kk7) _ (az 1) (az 2) (Nat.le_refl _) (Nat.le_refl _) (by omega) (decide_eq_true ⟨rfl,λ t ht=>rfl⟩))<|ae 5 [] λ _=>ai (pi true q39 q33 ((WS S (jb 4 j1 j2 0) (aQ S.players xI cnt) kk7).length) ((WS S (jb 4 j1 j2 0) (aQ S.players xI cnt) kk7).length) ((WS S (jb 4 j1 j2 0) (aQ S.players xI cnt) kk7).length) ((WS S (jb 4 j1 j2 0) (aQ S.players xI cnt) kk7).length) ((WS S (jb 4 j1 j2 0) (aQ S.players xI cnt) kk7).length) ((WS S (jb 4 j1 j2 0) (aQ S.players xI cnt) kk7).length) (WS S (jb 4 j1 j2 0) (aQ S.players xI cnt) kk7) (WS S (jb 4 j1 j2 0) (aQ S.players xI cnt) kk7) _ (az 0) (az 2) (Nat.le_refl _) (Nat.le_refl _) (by omega) (decide_eq_true ⟨rfl,λ t ht=>rfl⟩))<|ae 29 [] λ _=>ai (wT _ (aw hE0) (aw hE1))<|ae 3 [] λ _=>?_
 exact RN.ret [] [] [] ⟨rfl,rfl⟩
open Go.ChangeShapes Go.WideShapes Go.ChangeAt
theorem Gs:ownKnob Tryz.prog.godebug=none:=by kernel_rfl
theorem Gt:laidOutB Tryz.prog=true:=by kernel_rfl
theorem fW {n:Int} (h:(Lit.int .i64 n).wf=true):-9223372036854775808 <= n /\ n <= 9223372036854775807:=bounds_i64 h
section
variable {H:Type} {enc:TypeId × Value -> H} {P:Program} {W W':World}
theorem lN (hl:laidOutB P=true) (hb:Below W.heap.size W W'):∀ {ts:List TypeId} {vs:List Value} {ds:List (DataW H)} {ps:List MemPlace},(∀ t ∈ ts,P.readableRec t=true /\ t < P.types.size) ->
  DataW.TrodAll enc P W 0 (λ _=>true) true ts vs ds ps -> (∀ x ∈ ps,x.block < W.heap.size) -> DataW.TrodAll enc P W' 0 (λ b=>decide (b < W.heap.size)) true ts vs ds ps
 | [],_,_,_,_,h,_=>by
  obtain ⟨rfl,rfl,rfl⟩:=trodAll_nil h
  exact trodAll_mk0
 | t :: ts,_,_,_,ht,h,hlt=>by
  obtain ⟨v,vs1,d,ds1,a,b,rfl,rfl,rfl,h1,h2⟩:=trodAll_cons h
  have h3:=ht t (by simp)
  exact trodAll_cons_mk (Below.trod hl h3.1 h3.2 h1 hb (λ x hx=>hlt x (by simp [hx]))) (lN hl hb (λ t h=>ht t (List.mem_cons_of_mem _ h)) h2 (λ x hx=>hlt x (by simp [hx])))
theorem Gu {f:Func} {s:ChangeSpec} {apart fresh handsOn:Bool} {args:Array Value} {v:Value} {ds:List (DataW H)} {before:List MemPlace} (hl:laidOutB P=true)
  (hts:∀ t ∈ f.params.toList,P.readableRec t=true /\ t < P.types.size)
  (hW:DataW.Whole enc P f.params.toList s.vars apart W args.toList ds [] before) (hs:s.vars=[])
  (hA:DataW.TrodAll enc P W 0 (λ _=>true) true f.params.toList args.toList ds before)
  (hres:∀ (b:Nat) (sp:Nat -> Bool) (hd:Bool),DataW.TrodAll enc P W' b sp hd f.resultTypes.toList (v.resultList f.resultTypes.size) (s.fn H (ds++[])).results [])
  (hargs:(s.fn H (ds++[])).args=ds) (hvars:∀ sp,DataW.TrodVars enc P W' sp s.vars (s.fn H (ds++[])).vars []) (hb:Below W.heap.size W W') :
  s.post enc P f apart fresh handsOn false W args v W':=by
 refine ⟨ds,[],before,[],before,[],hW,hres _ _ _,?_,hvars _,hb.frame _,λ h=>by cases h⟩
 rw [hargs]
 exact lN hl hb hts hA (λ x hx=>hW.lt x hx)
end
def qR:Obj -> Blk
 | .cells cs ty fz=>.rows 1 cs.size (λ i _=>cs.getD i default) ty fz
 | o=>.obj o
theorem ls (o:Obj):(qR o).den=o:=by
 cases o with
 | cells cs ty fz =>
  show Obj.cells ⟨bB 1 (λ i _=>cs.getD i default) cs.size⟩ ty fz=_
  congr 1
  have e:bB 1 (λ i _=>cs.getD i default) cs.size=cs.toList:=by
   refine gT (by simp) ?_
   intro i k hi hk
   obtain rfl:k=0:=by omega
   simp [Array.getD,hi]
  rw [e]
 | _=>rfl
def kR (w:World):HL:=List.ofFn (λ k:Fin w.heap.size=>(k.1,qR w.heap[k.1]))
theorem qS {w:World} {k:Nat} {o:Obj} (h:w.heap[k]?=some o):(k,qR o) ∈ kR w:=by
 obtain ⟨hk,he⟩:=Array.getElem?_eq_some_iff.1 h
 exact List.mem_ofFn.2 ⟨⟨k,hk⟩,by simp [he]⟩
theorem yO (w:World):Rel (kR w) w:=by
 refine ⟨λ x hx=>?_,?_⟩
 ·obtain ⟨k,rfl⟩:=List.mem_ofFn.1 hx
  simp [ls]
 ·unfold kR
  rw [List.map_ofFn]
  have e:List.ofFn ((λ x:Nat × Blk=>x.1) ∘ λ k:Fin w.heap.size=>(k.1,qR w.heap[k.1]))=List.range w.heap.size:=by
   apply List.ext_getElem
   ·simp
   ·intro i h1 h2;simp
  rw [e]
  exact List.nodup_range
theorem CB {P:Program} {f:FuncId} {args:Array Value} {v:Value} (w:World) (h:Sp P f args [] (kR w) (λ u H'=>u=v /\ H'=[])):Calls P f args w λ e w'=>e=.returned v /\ Below w.heap.size w w':=by
 refine (h w (yO w)).mono ?_
 rintro e w' ⟨u,H',rfl,⟨rfl,rfl⟩,hR',hB⟩
 refine ⟨rfl,hB.os,hB.tape,hB.output,hB.size,λ k hk=>?_⟩
 have:=hR'.holds (k,qR w.heap[k]) (by rw [List.nil_append];exact qS (by simp [hk]))
 rw [this]
 simp [ls,hk]
theorem wU {H:Type} {enc:TypeId × Value -> H} {w:World} {r:Reach} {b0:Nat} {v:Value} {d:DataW H} {ps:List MemPlace} (hval:Value.okWide Tryz.prog w r b0 22 v) (hd:DataW.Trod enc Tryz.prog w 0 (λ _=>true) true 22 v d ps) :
  ∃ (A:Option Addr) (n cap:Nat) (xs:List Int),v=.slice A n cap /\ n <= 9223372036854775807 /\ ArgL (kR w) A n xs /\ n <= cap:=by
 obtain ⟨a0,len,cap,rfl⟩:=okWide_slice Tryz.underlying22 hval
 obtain ⟨fuel,hf⟩:=hd
 rcases open_ints Tryz.underlying22 Tryz.underlying3 (by kernel_rfl) hf with ⟨hcs,hx⟩ | ⟨a,len',cap',zs,hcs,_,hl,hm,hz,hx,hcell,hwz⟩
 ·simp [Value.cells] at hcs
  obtain ⟨rfl,rfl,rfl⟩:=hcs
  exact ⟨none,0,0,[],rfl,by omega,.zero _,Nat.le_refl _⟩
 ·simp [Value.cells] at hcs
  obtain ⟨rfl,rfl,rfl⟩:=hcs
  unfold maxLen at hm
  simp at hz
  rcases Nat.eq_zero_or_pos len with h0 | hpos
  ·subst h0
   exact ⟨some a,0,_,[],rfl,by omega,.zero _,Nat.zero_le _⟩
  ·have hlz:len <= zs.length:=by omega
   obtain ⟨b,off,spot⟩:=a
   have c0:=hcell 0 (by omega)
   have hsp:spot=none:=by
    cases spot with
    | none=>rfl
    | some s=>simp [Addr.add,World.cell?] at c0;split at c0 <;> simp at c0
   subst hsp
   have hc:∀ i,i < zs.length -> w.cell? ⟨b,off+i,none⟩=some (.int .i64 (zs.getD i 0)):=λ i hi=>by
    have:=hcell i hi
    unfold Addr.add at this
    by_cases h:i=0
    ·subst h;simpa using this
    ·rw [if_neg h] at this;exact this
   have h0:=hc 0 (by omega)
   unfold World.cell? at h0
   split at h0
   case h_2=>cases h0
   rename_i cs ty fz hb
   refine ⟨some ⟨b,off,none⟩,len,cap,zs.take len,rfl,by omega,?_,hl⟩
   have hlen:(zs.take len).length=len:=by rw [List.length_take];omega
   have hcs:∀ k,k < len -> cs[off+k]?=some (vI ((zs.take len).getD k 0)):=λ k hk=>by
    have h1:=hc k (by omega)
    unfold World.cell? at h1
    rw [show w.heap[(⟨b,off+k,none⟩:Addr).block]?=some (.cells cs ty fz) from hb] at h1
    have h2:cs[off+k]?=some (.int .i64 (zs.getD k 0)):=by simpa using h1
    rw [h2]
    simp [List.getD_eq_getElem?_getD,List.getElem?_take,hk]
   have hmem:=qS hb
   have hle:off+len <= cs.size:=by
    have h1:=hcs (len - 1) (by omega)
    have h2:=(Array.getElem?_eq_some_iff.1 h1).1
    omega
   have:=ArgL.cells (F:=kR w) b off cs.size (λ i _=>cs.getD i default) ty fz (zs.take len) hmem (by rw [hlen];exact hle) (λ k hk=>by
    rw [hlen] at hk
    have h1:=hcs k hk
    simp only [Array.getD_eq_getD_getElem?]
    rw [h1];rfl) (λ k hk=>by
    rw [hlen] at hk
    have:(zs.take len).getD k 0 ∈ zs:=by
     rw [List.getD_eq_getElem?_getD,List.getElem?_eq_getElem (by omega)]
     exact List.mem_of_mem_take (List.getElem_mem _)
    exact fW (hwz _ this))
   rw [hlen] at this
   exact this
theorem rv {H:Type} {enc:TypeId × Value -> H} {P:Program} {w:World} {base:Nat} {sp:Nat -> Bool} {held:Bool} {fuel:Nat} {t e:TypeId} {n m:Nat} {k:IntKind} {fs:Array Field} {cs:List Value} {zs:List (List Int)} {p:List MemPlace}
  (ht:P.underlying t=some (.array n e)) (he:P.underlying e=some (.struct fs)) (hce:P.cellsOf e=m) (hct:P.cellsOf t=n * m) (hm:0 < m) (hfl:fs.toList.length=m)
  (hf:∀ (j:Nat) f,fs.toList[j]?=some f -> P.underlying f.type=some (.int k) /\ P.cellsOf f.type=1 /\ f.offset=j) (hz:∀ z ∈ zs,z.length=m)
  (h:DataW.trod enc P w base sp held fuel t cs=some (.agg (zs.map λ z=>.agg (z.map λ x=>.lit (.int k x))),p)) :
  cs.length=n * m /\ zs.length=n /\ ∀ i j,i < n -> j < m -> cs[i * m+j]?=some (.int k ((zs.getD i []).getD j 0)):=by
 cases fuel with
 | zero=>simp [DataW.trod] at h
 | succ fuel =>
  simp only [DataW.trod,ht,hce,hct] at h
  split at h
  case isFalse=>cases h
  rename_i hl
  obtain ⟨xs,hmm,hx⟩:=Option.map_eq_some_iff.1 h
  have hxs:xs.map (·.1)=zs.map λ z=>(DataW.agg (z.map λ x=>.lit (.int k x)):DataW H):=by
   have:=congrArg Prod.fst hx
   simpa using this
  have hxl:xs.length=n:=by simpa using Lib.mapM_length hmm
  have hzl:zs.length=n:=by
   have:=congrArg List.length hxs
   simp at this
   omega
  refine ⟨hl,hzl,λ i j hi hj=>?_⟩
  obtain ⟨b,hb,hfb⟩:=Lib.mapM_at hmm i i (by simp [hi])
  have hbz:b.1=.agg ((zs.getD i []).map λ x=>.lit (.int k x)):=by
   have h2:(xs.map (·.1))[i]?=some b.1:=by simp [hb]
   rw [hxs,List.getElem?_map,List.getElem?_eq_getElem (by omega)] at h2
   simp only [Option.map_some,Option.some.injEq] at h2
   rw [<- h2,List.getD_eq_getElem?_getD,List.getElem?_eq_getElem (by omega)]
   rfl
  have hzi:(zs.getD i []).length=m:=by
   rw [List.getD_eq_getElem?_getD,List.getElem?_eq_getElem (by omega)]
   exact hz _ (List.getElem_mem _)
  cases fuel with
  | zero=>simp [DataW.trod] at hfb
  | succ fuel =>
   have hfb':=hfb
   simp only [DataW.trod,he,hce] at hfb'
   split at hfb'
   case isFalse=>cases hfb'
   rename_i hcl
   obtain ⟨ys,hym,hy⟩:=Option.map_eq_some_iff.1 hfb'
   have hys:ys.map (·.1)=(zs.getD i []).map λ x=>(DataW.lit (.int k x):DataW H):=by
    have:=congrArg Prod.fst hy
    rw [hbz] at this
    simpa using this
   have hfj:fs.toList[j]?=some (fs.toList[j]'(by omega)):=List.getElem?_eq_getElem (by omega)
   obtain ⟨c,hc,hfc⟩:=Lib.mapM_at hym j _ hfj
   obtain ⟨f1,f2,f3⟩:=hf j _ hfj
   rw [f2,f3] at hfc
   obtain ⟨x,hcx,hcd,_⟩:=DataW.trod_int f1 hfc
   have h1:(((cs.drop (i * m)).take m).drop j).take 1=[.int k x]:=hcx
   have h2:cs[i * m+j]?=some (.int k x):=by
    have:=congrArg (·[0]?) h1
    simpa [List.getElem?_take,List.getElem?_drop,hj] using this
   have h3:(ys.map (·.1))[j]?=some (DataW.lit (.int k x):DataW H):=by simp [hc,hcd]
   rw [hys,List.getElem?_map,List.getElem?_eq_getElem (by omega)] at h3
   simp only [Option.map_some,Option.some.injEq,DataW.lit.injEq,Lit.int.injEq,true_and] at h3
   have h4:∀ l:List Int,(hl:j < l.length) -> l[j]=l.getD j 0:=λ l hl=>by simp [List.getD_eq_getElem?_getD,hl]
   rw [h2,<- h3,h4 _ (by omega)]
theorem j0 {H:Type} {enc:TypeId × Value -> H} {a:Assume} {C:Checked} {os:Os} {f:FuncId} {fn:Func} {s:ChangeSpec} {conds:List PathCond} {apart fresh handsOn again:Bool} {X:World -> Array Value -> Prop}
  (hX:∀ (w w':World) (args:Array Value),w.heap=w'.heap -> X w args -> X w' args)
  (own:ownKnob C.prog.godebug=none) (started:os.Started) (noInit:C.prog.inits.idxOf? f=none) (hfn:C.prog.funcs[f]?=some fn)
  (witness:∃ (w:World) (tape:Tape) (i:Input),w.os=os /\ (w.forCall tape i).Shaped C.prog /\ i.vars=[] /\ Input.okWide C.prog (w.forCall tape i) .any w.heap.size f i /\
   ((s.pre enc C.prog fn conds apart (w.forCall tape i).memory i.args /\ X (w.forCall tape i).memory i.args) /\ sizedMet enc C.prog fn (OpenSpec.ofChange s) apart (w.forCall tape i).memory i.args) /\ a.holds C.prog (lone (Frame.enter C.prog f i.args .normal) [] (w.forCall tape i)))
  (contract:∀ (W:World) (base:Nat) (args:Array Value) (ds gs:List (DataW H)) (before:List MemPlace),W.ShapedOpen C.prog ->
   (∀ (j:Nat) t v,fn.params[j]?=some t -> args[j]?=some v -> Value.okWide C.prog W .any base t v) ->
   DataW.Whole enc C.prog fn.params.toList s.vars apart W args.toList ds gs before -> X W args ->
   Calls C.prog f args W λ e W'=>∃ v,e=.returned v /\ s.post enc C.prog fn apart fresh handsOn again W args v W') :
  ReturnsInHanded a C os f .any (λ w args=>(s.pre enc C.prog fn conds apart w args /\ X w args) /\ sizedMet enc C.prog fn (OpenSpec.ofChange s) apart w args) (s.post enc C.prog fn apart fresh handsOn again):=by
 refine returnsInHanded_of_calls own started noInit witness ?_
 intro w tape i _ hsh _ hok hpre hholds
 obtain ⟨_,_,_,fn',hfn',_,_,_,_,hval⟩:=hok
 have e:fn'=fn:=Option.some.inj (hfn'.symm.trans hfn)
 subst e
 obtain ⟨⟨⟨ds,gs,before,hw,hc⟩,hx⟩,hz⟩:=hpre
 have hw':=DataW.Whole.of_heap (w':=w.forCall tape i) (by rfl) hw
 refine (contract (w.forCall tape i) w.heap.size i.args ds gs before hsh hval hw' (hX _ _ _ (by rfl) hx)).mono λ e W' ⟨v,he,hp⟩=>?_
 subst he
 exact ChangeSpec.post_blind hp
def ceZ:List (List Int):=[[0,0],[0,1],[0,1],[1,0],[1,1],[2,0],[0,1],[0,1],[0,1],[2,1],[2,1],[2,1],[2,1],[1,1],[2,1],[2,1],[2,1],[1,1],[0,0],[1,0],[2,0],[0,0]]
def Av:Nat -> Nat -> Value:=λ i j=>.int .i64 ((ceZ.getD i []).getD j 0)
theorem Gv:(Blk.rows 2 22 Av 293 (0,0)).den=(Blk.lit tX 293 (0,0)).den:=by kernel_rfl
def efZ:List (List Int):=mL.map λ z=>[z.1,z.2.1,z.2.2]
theorem wV (g:Nat) (t:TypeId) (hg:g < Tryz.prog.globals.size) (h0:(((begin Tryz.prog (λ _ _=>0) default).world.heap[g]?).bind Obj.row?).map (·.2)=some t) {W:World} (hs:W.ShapedOpen Tryz.prog):∃ cs,W.heap[g]?=some (.cells cs t (0,0)):=by
 cases h:((begin Tryz.prog (λ _ _=>0) default).world.heap[g]?).bind Obj.row? with
 | none=>rw [h] at h0;cases h0
 | some x =>
  obtain ⟨z,t'⟩:=x
  rw [h] at h0
  simp only [Option.map_some,Option.some.injEq] at h0
  subst h0
  obtain ⟨cs,h1,_⟩:=hs.1 g z t' hg h
  exact ⟨cs,h1⟩
def Gw (P:Program) (e:TypeId) (m:Nat):Bool :=
 match P.underlying e with
 | some (.struct fs)=>decide (fs.toList.length=m) && (List.range m).all λ j =>
  match fs.toList[j]? with
  | some f=>(match P.underlying f.type with | some (.int .i64)=>true | _=>false) && decide (P.cellsOf f.type=1) && decide (f.offset=j)
  | none=>false
 | _=>false
theorem CC {P:Program} {e:TypeId} {m:Nat} (h:Gw P e m=true):∃ fs:Array Field,P.underlying e=some (.struct fs) /\ fs.toList.length=m /\
  ∀ (j:Nat) f,fs.toList[j]?=some f -> P.underlying f.type=some (.int .i64) /\ P.cellsOf f.type=1 /\ f.offset=j:=by
 unfold Gw at h
 split at h
 case h_2=>cases h
 rename_i fs hfs
 rw [Bool.and_eq_true] at h
 have hm:fs.toList.length=m:=of_decide_eq_true h.1
 refine ⟨fs,hfs,hm,λ j f hj=>?_⟩
 have hjm:j < m:=by rw [<- hm];exact (List.getElem?_eq_some_iff.1 hj).1
 have h2:=List.all_eq_true.1 h.2 j (List.mem_range.2 hjm)
 rw [hj] at h2
 simp only [Bool.and_eq_true,decide_eq_true_eq] at h2
 refine ⟨?_,h2.1.2,h2.2⟩
 have h3:=h2.1.1
 split at h3
 ·assumption
 ·cases h3
theorem Aw {P:Program} {W:World} {name:String} {g n m:Nat} {t e:TypeId} {zs:List (List Int)} {rest:List (String × DataW Unit)} {ps:List MemPlace} {row:Nat -> Nat -> Value} {cs0:Array Value}
  (hb:W.heap[g]?=some (.cells cs0 t (0,0)))
  (hg:P.globalNamed name=some g) (hty:(P.globals[g]?).map (·.type)=some t) (ht:P.underlying t=some (.array n e)) (hE:Gw P e m=true) (hce:P.cellsOf e=m) (hct:P.cellsOf t=n * m) (hm:0 < m) (hz:∀ z ∈ zs,z.length=m)
  (hrow:∀ i j,i < n -> j < m -> row i j=.int .i64 ((zs.getD i []).getD j 0))
  (h:DataW.LaidVars P W ((name,.agg (zs.map λ z=>.agg (z.map λ x=>.lit (.int .i64 x)))) :: rest) ps):W.heap[g]?=some (Blk.rows m n row t (0,0)).den /\ ∃ q,DataW.LaidVars P W rest q:=by
 obtain ⟨fs,he,hfl,hf⟩:=CC hE
 obtain ⟨g',t',cs,fuel,p,q,hg',ht',hvar,hd,hr,_⟩:=h
 obtain rfl:=Option.some.inj (hg.symm.trans hg')
 obtain rfl:=Option.some.inj (hty.symm.trans ht')
 have hv:W.var? P name=some cs0:=by
  unfold World.var?
  rw [hg]
  simp only [Option.bind_some,hb]
 obtain rfl:=Option.some.inj (hv.symm.trans hvar)
 obtain ⟨h1,h2,h3⟩:=rv ht he hce hct hm hfl hf hz hd
 refine ⟨?_,q,hr⟩
 rw [hb]
 show some (Obj.cells cs0 t (0,0))=some (Obj.cells ⟨bB m row n⟩ t (0,0))
 congr 2
 obtain ⟨l⟩:=cs0
 congr 1
 symm
 exact gT (w:=m) h1 λ i j hi hj=>by rw [hrow i j hi hj];exact h3 i j hi hj
theorem IK {W:World} (hs:W.ShapedOpen Tryz.prog) (hL:laidMetH Tryz.prog [("arenanet/compile.effects",Rows.laid_arenanet_compile_effects),("arenanet/vm.effects",Rows.laid_arenanet_vm_effects)] W):W.heap[0]?=some (Blk.lit tX 293 (0,0)).den /\ W.heap[1]?=some (Blk.rows 3 22 lX 331 (0,0)).den:=by
 rw [MakeChecks.laidMetH_plain _ _ _ (by kernel_rfl)] at hL
 obtain ⟨ps,hv,_,_⟩:=hL
 obtain ⟨cs0,hb0⟩:=wV 0 293 (of_decide_eq_true (by kernel_rfl)) (by kernel_rfl) hs
 obtain ⟨cs1,hb1⟩:=wV 1 331 (of_decide_eq_true (by kernel_rfl)) (by kernel_rfl) hs
 have hv0:DataW.LaidVars Tryz.prog W (("arenanet/compile.effects",.agg (ceZ.map λ z=>.agg (z.map λ x=>.lit (.int .i64 x)))) :: [("arenanet/vm.effects",.agg (efZ.map λ z=>.agg (z.map λ x=>.lit (.int .i64 x))))]) ps:=hv
 obtain ⟨h0,q,hq⟩:=Aw (n:=22) (m:=2) (e:=292) (row:=Av) hb0 (by kernel_rfl) (by kernel_rfl) (by kernel_rfl) (by kernel_rfl) (by kernel_rfl) (by kernel_rfl) (by decide) (by decide) (λ i j hi hj=>rfl) hv0
 obtain ⟨h1,_⟩:=Aw (n:=22) (m:=3) (e:=330) (row:=lX) hb1 (by kernel_rfl) (by kernel_rfl) (by kernel_rfl) (by kernel_rfl) (by kernel_rfl) (by kernel_rfl) (by decide) (by decide) (λ i j hi hj=>by
  have key:∀ i:Fin 22,∀ j:Fin 3,(if j.1=0 then (mL.getD i.1 (0,0,0)).1 else if j.1=1 then (mL.getD i.1 (0,0,0)).2.1 else (mL.getD i.1 (0,0,0)).2.2)=(efZ.getD i.1 []).getD j.1 0:=by decide
  have:=key ⟨i,hi⟩ ⟨j,hj⟩
  rcases j with _ | _ | _ | j
  ·exact congrArg (Value.int .i64) this
  ·exact congrArg (Value.int .i64) this
  ·exact congrArg (Value.int .i64) this
  ·omega) hq
 exact ⟨h0.trans (congrArg some Gv),h1⟩
def qT (W:World):HL:=List.ofFn (λ k:Fin W.heap.size=>(k.1,if k.1=0 then Blk.lit tX 293 (0,0) else if k.1=1 then Blk.rows 3 22 lX 331 (0,0) else qR W.heap[k.1]))
theorem yP {W:World} (h0:W.heap[0]?=some (Blk.lit tX 293 (0,0)).den) (h1:W.heap[1]?=some (Blk.rows 3 22 lX 331 (0,0)).den):dV (kR W)=dV (qT W):=by
 unfold dV kR qT
 rw [List.map_ofFn,List.map_ofFn]
 congr 1
 funext k
 show (k.1,(qR W.heap[k.1]).den)=(k.1,Blk.den (if k.1=0 then _ else if k.1=1 then _ else _))
 rw [ls]
 congr 1
 by_cases e0:k.1=0
 ·rw [if_pos e0]
  have h2:W.heap[k.1]?=some (Blk.lit tX 293 (0,0)).den:=by rw [show W.heap[k.1]?=W.heap[0]? by rw [e0]];exact h0
  rw [Array.getElem?_eq_getElem k.2] at h2
  exact Option.some.inj h2
 ·rw [if_neg e0]
  by_cases e1:k.1=1
  ·rw [if_pos e1]
   have h2:W.heap[k.1]?=some (Blk.rows 3 22 lX 331 (0,0)).den:=by rw [show W.heap[k.1]?=W.heap[1]? by rw [e1]];exact h1
   rw [Array.getElem?_eq_getElem k.2] at h2
   exact Option.some.inj h2
  ·rw [if_neg e1,ls]
theorem Gx {W:World} (h0:W.heap[0]?=some (Blk.lit tX 293 (0,0)).den):lK (qT W) :=
 List.mem_ofFn.2 ⟨⟨0,(Array.getElem?_eq_some_iff.1 h0).1⟩,rfl⟩
theorem Gy {W:World} (h1:W.heap[1]?=some (Blk.rows 3 22 lX 331 (0,0)).den):cK (qT W) :=
 List.mem_ofFn.2 ⟨⟨1,(Array.getElem?_eq_some_iff.1 h1).1⟩,rfl⟩
noncomputable def CD (os:Os):World:=World.laidAll Tryz.prog os Rows.replaySeekRow.laid
theorem ub (os:Os) (started:os.Started) (H:Type) (enc:TypeId × Value -> H) :
  ReturnsInHanded {} Tryz.checked os 5 .any (λ w args=>(Rows.replaySeekSpec.pre enc Tryz.prog Tryz.f5 [] false w args /\ laidMetH Tryz.prog Rows.replaySeekRow.laid w) /\ sizedMet enc Tryz.prog Tryz.f5 (OpenSpec.ofChange Rows.replaySeekSpec) false w args)
   (Rows.replaySeekSpec.post enc Tryz.prog Tryz.f5 false true false false):=by
 refine j0 (C:=Tryz.checked) (X:=λ w _=>laidMetH Tryz.prog Rows.replaySeekRow.laid w) (λ _ _ _ hh h=>h.of_heap hh) Gs started (by kernel_rfl) Tryz.func5
  (ChangeSpec.witness_at (enc:=enc) (C:=Tryz.checked) (os:=os) (X:=λ w _=>laidMetH Tryz.prog Rows.replaySeekRow.laid w) false (CD os) #[.slice none 0 0,.int .i64 0,.int .i64 0,.int .i64 0,.slice none 0 0,.int .i64 0,.int .i64 0,.int .i64 0] 8 (World.laidAll_os _ _ _) (by kernel_rfl) (by kernel_rfl) (by kernel_rfl) (by kernel_rfl) (by kernel_rfl) (laidMetH_of_parts (laidMet_laidAll _ (by kernel_rfl) (by kernel_rfl)) (by kernel_rfl))) ?_
 intro W base args ds gs before hsh hval0 hW hL
 have hval:∀ (j:Nat) t v,Tryz.f5.params[j]?=some t -> args[j]?=some v -> Value.okWide Tryz.prog W .any base t v:=hval0
 have hW':=hW
 obtain ⟨p,q,hA0,hV,rfl,hfz,hnd⟩:=hW
 have hA:DataW.TrodAll enc Tryz.prog W 0 (λ _=>true) true Tryz.f5.params.toList args.toList ds p:=hA0
 have hAA:=hA
 rw [Tryz.params5] at hA hval
 obtain ⟨v0,vs0,d0,ds0,p0,q0,hargs,rfl,rfl,h0r,r0⟩:=trodAll_cons hA
 obtain ⟨v1,vs1,d1,ds1,p1,q1,rfl,rfl,rfl,h1r,r1⟩:=trodAll_cons r0
 obtain ⟨v2,vs2,d2,ds2,p2,q2,rfl,rfl,rfl,h2r,r2⟩:=trodAll_cons r1
 obtain ⟨v3,vs3,d3,ds3,p3,q3,rfl,rfl,rfl,h3r,r3⟩:=trodAll_cons r2
 obtain ⟨v4,vs4,d4,ds4,p4,q4,rfl,rfl,rfl,h4r,r4⟩:=trodAll_cons r3
 obtain ⟨v5,vs5,d5,ds5,p5,q5,rfl,rfl,rfl,h5r,r5⟩:=trodAll_cons r4
 obtain ⟨v6,vs6,d6,ds6,p6,q6,rfl,rfl,rfl,h6r,r6⟩:=trodAll_cons r5
 obtain ⟨v7,vs7,d7,ds7,p7,q7,rfl,rfl,rfl,h7r,r7⟩:=trodAll_cons r6
 obtain ⟨rfl,rfl,rfl⟩:=trodAll_nil r7
 obtain rfl:args=#[v0,v1,v2,v3,v4,v5,v6,v7]:=by cases args;simp_all
 obtain ⟨rfl,rfl⟩:=trodVars_none hV
 obtain ⟨A0,n0,c0,x0,rfl,b0,h0,k0⟩:=wU (hval 0 22 v0 rfl rfl) h0r
 obtain ⟨a1,rfl,rfl,rfl,w1z⟩:=open_int Tryz.underlying3 (hval 1 3 v1 rfl rfl) h1r
 have w1:=fW w1z
 obtain ⟨a2,rfl,rfl,rfl,w2z⟩:=open_int Tryz.underlying3 (hval 2 3 v2 rfl rfl) h2r
 have w2:=fW w2z
 obtain ⟨a3,rfl,rfl,rfl,w3z⟩:=open_int Tryz.underlying3 (hval 3 3 v3 rfl rfl) h3r
 have w3:=fW w3z
 obtain ⟨A4,n4,c4,x4,rfl,b4,h4,k4⟩:=wU (hval 4 22 v4 rfl rfl) h4r
 obtain ⟨a5,rfl,rfl,rfl,w5z⟩:=open_int Tryz.underlying3 (hval 5 3 v5 rfl rfl) h5r
 have w5:=fW w5z
 obtain ⟨a6,rfl,rfl,rfl,w6z⟩:=open_int Tryz.underlying3 (hval 6 3 v6 rfl rfl) h6r
 have w6:=fW w6z
 obtain ⟨a7,rfl,rfl,rfl,w7z⟩:=open_int Tryz.underlying3 (hval 7 3 v7 rfl rfl) h7r
 have w7:=fW w7z
 clear hA0 hval0
 simp only [List.append_nil,List.nil_append] at hW' hAA
 obtain ⟨g0,g1⟩:=IK hsh hL
 have eW:=yP g0 g1
 refine (CB W ((CA A0 A4 n0 c0 n4 c4 x0 x4 a1 a2 a3 a5 a6 a7 (qT W) (Gx g0) (Gy g1) (h0.d eW) b0 (h4.d eW) b4 w1 w2 w3 w5 w6 w7).den eW.symm)).mono λ e W' ⟨he,hb⟩=>?_
 subst he
 exact ⟨_,rfl,Gu Gt (by rw [Tryz.params5];intro t ht;simp at ht;first | (subst ht;exact ⟨by kernel_rfl,of_decide_eq_true (by kernel_rfl)⟩) | (rcases ht with rfl | rfl <;> exact ⟨by kernel_rfl,of_decide_eq_true (by kernel_rfl)⟩) | (rcases ht with rfl | rfl | rfl <;> exact ⟨by kernel_rfl,of_decide_eq_true (by kernel_rfl)⟩) | (rcases ht with rfl | rfl | rfl | rfl <;> exact ⟨by kernel_rfl,of_decide_eq_true (by kernel_rfl)⟩) | (rcases ht with rfl | rfl | rfl | rfl | rfl <;> exact ⟨by kernel_rfl,of_decide_eq_true (by kernel_rfl)⟩) | (rcases ht with rfl | rfl | rfl | rfl | rfl | rfl <;> exact ⟨by kernel_rfl,of_decide_eq_true (by kernel_rfl)⟩) | (rcases ht with rfl | rfl | rfl | rfl | rfl | rfl | rfl <;> exact ⟨by kernel_rfl,of_decide_eq_true (by kernel_rfl)⟩) | (rcases ht with rfl | rfl | rfl | rfl | rfl | rfl | rfl | rfl <;> exact ⟨by kernel_rfl,of_decide_eq_true (by kernel_rfl)⟩)) hW' rfl hAA (λ _ _ _=>trodAll_cons_mk (shut_bool Tryz.underlying4 _) trodAll_mk0) rfl (λ _=>rfl) hb⟩
theorem rx:(Rows.replaySeekRow.inPlace == Tryz.prog.inPlace 5)=true:=by kernel_rfl
theorem oT:(Rows.replaySeekRow.named == Tryz.prog.varsNamed 5)=true:=by kernel_rfl
theorem od:(Rows.replaySeekRow.unfollowed == Tryz.prog.unfollowed 5)=true:=by kernel_rfl
theorem qU:(Rows.replaySeekRow.recurses == Tryz.prog.recurses 5)=true:=by kernel_rfl
theorem ry:laidOutB Tryz.prog=true:=by kernel_rfl
theorem oU:mapsRowed Tryz.prog=true:=by kernel_rfl
theorem oV:(Rows.replaySeekRow.plainKeys == Tryz.prog.plainKeys)=true:=by kernel_rfl
theorem wW:Tryz.prog.mayEnter=true:=by kernel_rfl
theorem wX:Tryz.prog.stopsHeard=true:=by kernel_rfl
end Go.Proofs.YtcfajdgeejeieaaGreatDoor
