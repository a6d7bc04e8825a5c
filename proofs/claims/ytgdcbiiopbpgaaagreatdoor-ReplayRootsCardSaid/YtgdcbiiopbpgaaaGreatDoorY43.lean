import Derived.Test.YtgdcbiiopbpgaaaGreatDoorY42
import Derived.Test.YtgdcbiiopbpgaaaGreatDoorY23
import Derived.Test.YtgdcbiiopbpgaaaGreatDoorY40
import Derived.Test.YtgdcbiiopbpgaaaGreatDoorY39
import Derived.Laws.IdiomCopy
set_option maxHeartbeats 4000000
set_option maxRecDepth 100000
set_option linter.unusedSimpArgs false
set_option linter.unusedVariables false
namespace Go.Proofs.YtgdcbiiopbpgaaaGreatDoor
open Go.RowKit
def Gt (p n r f:Int):Int:=IntKind.i64.wrap ((IntKind.i64.wrap ((IntKind.i64.wrap ((IntKind.i64.wrap ((IntKind.i64.wrap (p+(IntKind.i64.wrap ((IntKind.i64.wrap ((IntKind.i64.wrap (p+1))+n)) * (IntKind.i64.wrap (f+3))))))+(IntKind.i64.wrap (2 * n))))+3))+(IntKind.i64.wrap ((IntKind.i64.wrap ((IntKind.i64.wrap (r * n)) * (IntKind.i64.wrap (n - 1)))).tdiv 2))))+(IntKind.i64.wrap (n * (IntKind.i64.wrap (n+1)))))
theorem xg {S:Setup} (hS:SetV S):l0 S.players S.nb S.rounds 0 <= Gt S.players S.nb S.rounds 60 /\ Gt S.players S.nb S.rounds 60 <= 650:=by
 have hp:=hS.pl
 have hn:=hS.nb
 have hr:=hS.ro
 have key:∀ p:Fin 3,∀ n:Fin 5,∀ r:Fin 3,l0 ((p.1+1:Nat):Int) ((n.1+1:Nat):Int) ((r.1+1:Nat):Int) 0 <= Gt ((p.1+1:Nat):Int) ((n.1+1:Nat):Int) ((r.1+1:Nat):Int) 60 /\ Gt ((p.1+1:Nat):Int) ((n.1+1:Nat):Int) ((r.1+1:Nat):Int) 60 <= 650:=by decide +kernel
 have:=key ⟨S.players.toNat - 1,by omega⟩ ⟨S.nb - 1,by omega⟩ ⟨S.rounds.toNat - 1,by omega⟩
 dsimp only at this
 rwa [show ((S.players.toNat - 1+1:Nat):Int)=S.players by omega,show S.nb - 1+1=S.nb by omega,show ((S.rounds.toNat - 1+1:Nat):Int)=S.rounds by omega] at this
theorem setV {xs:List Int} {F:HL} {A:Option Addr} {n:Nat} (hl:ArgL F A n xs) {S:Setup} {T:HL} (h:SetG xs S T):SetV S:=by
 have h1:=pL hl
 have h2:=ud hl
 have hn:=h.nb
 have k2:=gN hl 2
 obtain ⟨e1,e2,e3,e4,e5,e6,e7,e8⟩:=h.nums
 exact ⟨by rw [h.pl];exact h2,by omega,by rw [e7];omega,by rw [e8];omega⟩
theorem jQ {l:List Int} {i j:Nat} {v:Int} (h:i ≠ j):(l.set i v).getD j 0=l.getD j 0:=by
 rw [List.getD_eq_getElem?_getD,List.getD_eq_getElem?_getD,List.getElem?_set_ne h]
theorem tw {S:Setup} (hp:0 <= S.players) {j:Nat} (hj:j < 48):∀ i,i <= S.nb -> (eo S i).getD j 0=0
 | 0,_=>by
  rw [eo,List.getD_eq_getElem?_getD,List.getElem?_replicate]
  split <;> rfl
 | i+1,hi=>by
  have hb:af S (i:Int)=48+4 * S.players+8 * (i:Int):=by
   rcases nJ hp (i:Int) with e | ⟨_,_,e⟩
   ·unfold af at e
    rw [if_neg (by omega),if_neg (by omega)] at e;omega
   ·exact e
  rw [eo,jQ (by omega),jQ (by omega),jQ (by omega),jQ (by omega),jQ (by omega),jQ (by omega)]
  exact tw hp hj i (by omega)
structure TE2 (S:Setup) (t:Int) (M:MemS):Prop where
 len:(M.cs.length:Int)=sizeOf S
 z:∀ k:Int,1 <= k -> k <= 10 -> M.get k=0
 t0:M.get 0=t
theorem Ja {S:Setup} (hS:SetV S):TE2 S 0 ⟨eo S S.nb,[],0⟩:=by
 have hp:=hS.pl
 have hlen:(((⟨eo S S.nb,[],0⟩:MemS).cs.length:Nat):Int)=sizeOf S:=by
  show ((eo S S.nb).length:Int)=_
  rw [gw];unfold sizeOf;omega
 have g:∀ k:Int,0 <= k -> k < 48 -> (⟨eo S S.nb,[],0⟩:MemS).get k=0:=λ k h0 h1=>by
  unfold MemS.get
  split
  ·exact tw (by omega) (by omega) S.nb (Nat.le_refl _)
  ·rfl
 exact ⟨hlen,λ k h1 h2=>g k (by omega) (by omega),g 0 (by omega) (by omega)⟩
theorem TE2.tv {S:Setup} (hS:SetV S) {t:Int} (ht:0 <= t /\ t <= 1000) {M:MemS} (h:TE2 S t M) (ins:Nat -> Inp):TV S ins M /\ mQ S M=l0 S.players S.nb S.rounds 0 /\ Db M:=by
 have h1:=h.z 1 (by omega) (by omega)
 have h2:=h.z 2 (by omega) (by omega)
 have hp:=hS.pl
 refine ⟨⟨h.len,by rw [h.t0];omega,by rw [h1,h2];exact .inl ⟨rfl,by omega,by omega⟩,λ q hq=>by rw [h1,if_pos rfl,h2] at hq;omega,.inl ⟨h1,h2⟩⟩,?_,h1,h2⟩
 unfold mQ
 rw [h1,h2];rfl
theorem Nl {S:Setup} (hS:SetV S) {g:Gm} (hg:g.S=S) (hni:S.players <= g.ni) {t:Int} (ht:0 <= t /\ t <= 1000) {M:MemS} (h:TE2 S t M):∃ m,((m+1:Nat):Int) <= Gt S.players S.nb S.rounds 60 /\ dG g (m+1) M /\ TE2 S (t+1) (fU g (m+1) M) /\
  Numb t 0 (fA g (m+1) M) /\ (fU g (m+1) M).get 11=((fA g (m+1) M).length:Int) /\ ((fA g (m+1) M).length:Int) <= 40:=by
 obtain ⟨h1,h2,h3⟩:=h.tv hS ht (λ q=>g.ins.getD (g.io+q) dI)
 have hb:=xg hS
 have hpos:=AK hS.pl ⟨by have:=hS.nb;omega,by have:=hS.nb;omega⟩ hS.ro h1.ct
 unfold mQ at h2
 obtain ⟨m,a1,a2,a3,a4,a5,a6,a7,a8⟩:=AM hS hg (λ _ _=>rfl) hni (l0 S.players S.nb S.rounds 0).toNat M h1 (by unfold mQ;omega)
 rw [if_pos h3] at a6 a7
 rw [h.t0] at a5 a6
 exact ⟨m,by omega,a2,⟨a4,a3,a5⟩,a6,by rw [a7];omega,by omega⟩
theorem SetEq.pl {S S1:Setup} (h:SetEq S S1):S1.players=S.players:=h.nums.1
theorem SetEq.nb {S S1:Setup} (h:SetEq S S1):S1.nb=S.nb:=h.nums.2.1
theorem SetEq.size {S S1:Setup} (h:SetEq S S1):sizeOf S1=sizeOf S:=by unfold sizeOf;rw [h.pl,h.nb]
theorem SetEq.setV {S S1:Setup} (h:SetEq S S1) (hV:SetV S):SetV S1:=by
 obtain ⟨e1,e2,_,_,_,_,_,_,_,_,e3,e4⟩:=h.nums
 exact ⟨by rw [e1];exact hV.pl,by rw [e2];exact hV.nb,by rw [e3];exact hV.ro,by rw [e4];exact hV.fu⟩
theorem TE2.eq {S S1:Setup} (h:SetEq S S1) {t:Int} {M:MemS} (hT:TE2 S t M):TE2 S1 t M:=⟨by rw [h.size];exact hT.len,hT.z,hT.t0⟩
theorem AO {S S':Setup} (h:SetEq S S'):(S'.bods.drop S'.bo).map Bod.nm=(List.range S.nb).map λ k=>(S.body k).nm:=by
 rw [h.whole.1,List.drop_zero]
 apply List.ext_getElem?
 intro k
 by_cases hk:k < S.nb
 ·obtain ⟨A,c,e⟩:=h.bod k hk
  have hl:k < S'.bods.length:=by rw [h.whole.2];exact hk
  have e2:S'.bods[k]?=some (S'.body k):=by
   show _=some (S'.bods.getD (S'.bo+k) dB)
   rw [h.whole.1,Nat.zero_add,List.getD_eq_getElem?_getD,List.getElem?_eq_getElem hl];rfl
  rw [List.getElem?_map,e2,e]
  simp [hk]
  rfl
 ·rw [List.getElem?_eq_none (by rw [List.length_map,h.whole.2];omega),List.getElem?_eq_none (by simp;omega)]
theorem SetEq.nm2 {S S1 S2:Setup} (h1:SetEq S S1) (h2:SetEq S S2):S1.nm=S2.nm:=by
 have b1:=AO h1
 have b2:=AO h2
 obtain ⟨x1,x2,x3,x4,x5,x6,x7,x8,x9,x10,x11,x12⟩:=h1.nums
 obtain ⟨y1,y2,y3,y4,y5,y6,y7,y8,y9,y10,y11,y12⟩:=h2.nums
 unfold Setup.nm
 rw [b1,b2,x1,x2,x3,x4,x5,x6,x7,x8,x9,x10,x11,x12,y1,y2,y3,y4,y5,y6,y7,y8,y9,y10,y11,y12]
theorem Jb {S1 S2:Setup} (h:S1.nm=S2.nm) (j:Nat × Int) (n:Nat) (xs:List Inp):GEq (gi S1 j n xs) (gi S2 j n xs):=by
 refine ⟨?_,λ k hk=>rfl⟩
 unfold Gm.nm
 simp only [h]
theorem yY {G G':Nat -> Gm} (h:∀ k,GEq (G k) (G' k)) (M:MemS):∀ k,C9 G M k=C9 G' M k
 | 0=>rfl
 | k+1=>by rw [C9,C9,yY h M k,Ey (h k)]
theorem Nm {S S1 S2:Setup} (h1:SetEq S S1) (h2:SetEq S S2) (J:Nat -> Nat × Int) (xss:List (List Inp)):∀ k,GEq (rG S1 J xss k) (rG S2 J xss k):=λ k=>Jb (h1.nm2 h2) _ _ _
theorem Lu {pl:Int} {n:Nat} {xs:List Inp} {now:Int} (h1:(n:Int)=pl) (h2:∀ k,k < n -> nv (xs.getD k dI)) (h3:now < 6000):fp pl n xs now=0:=by
 unfold fp
 rw [if_pos h1,if_pos h2,if_neg (by omega)]
theorem Gu {S1:Setup} (hV:SetV S1) {t:Int} (ht:0 <= t /\ t <= 1000) {M:MemS} (hT:TE2 S1 t M) {xs:List Inp} (h1:(xs.length:Int)=S1.players) (h2:∀ k,k < xs.length -> nv (xs.getD k dI)) (j:Nat × Int):TkOk S1 j xs M /\ TE2 S1 (t+1) (nl (tq S1 j xs) M):=by
 obtain ⟨m,a1,a2,a3,_⟩:=Nl hV (g:=tq S1 j xs) rfl (by show S1.players <= (xs.length:Int);omega) ht hT
 have hb:=(xg hV).2
 refine ⟨⟨⟨m,by omega,a2⟩,by rw [hT.t0];exact ht.1,by rw [hT.t0];exact Lu h1 h2 (by omega)⟩,?_⟩
 rw [<- (JT (by omega) a2).1]
 exact a3
def iK (pl:Int) (xs:List Inp):Prop:=(xs.length:Int)=pl /\ ∀ k,k < xs.length -> nv (xs.getD k dI)
theorem Gv {S1:Setup} (hV:SetV S1) {M0:MemS} (hT:TE2 S1 0 M0) {xss:List (List Inp)} (J:Nat -> Nat × Int) (n:Nat) (hn:n <= 50) (hr:∀ i,i < n -> iK S1.players (xss.getD i [])):∀ i,i <= n -> TE2 S1 (i:Int) (C9 (rG S1 J xss) M0 i)
 | 0,_=>hT
 | i+1,h=>by
  have ih:=Gv hV hT J n hn hr i (by omega)
  have:=(Gu hV (t:=(i:Int)) (by omega) ih (hr i (by omega)).1 (hr i (by omega)).2 (J i)).2
  rw [C9]
  exact_mod_cast this
theorem Nn {S1:Setup} (hV:SetV S1) {M0:MemS} (hT:TE2 S1 0 M0) {xss:List (List Inp)} (J:Nat -> Nat × Int) (n:Nat) (hn:n <= 50) (hr:∀ i,i < n -> iK S1.players (xss.getD i [])) (i:Nat) (hi:i < n):TkOk S1 (J i) (xss.getD i []) (C9 (rG S1 J xss) M0 i) :=
 (Gu hV (t:=(i:Int)) (by omega) (Gv hV hT J n hn hr i (by omega)) (hr i hi).1 (hr i hi).2 (J i)).1
theorem Gw {n:Int} (h:0 <= n):nv (vX n):=by
 unfold nv vX
 dsimp only
 split <;> omega
theorem Jc {F:HL} {A:Option Addr} {n:Nat} {xs:List Int} (hl:ArgL F A n xs) {pl:Int} (hp:0 <= pl) (t:Int):iK pl (rowL pl xs t pl.toNat):=by
 refine ⟨by rw [fj];omega,λ k hk=>?_⟩
 rw [fj] at hk
 rw [EG hk]
 exact Gw (Ic hl pl t k).1
theorem Gx {S S1:Setup} (hV:SetV S) (he:SetEq S S1):TE2 S1 0 ⟨eo S S.nb,[],0⟩:=(Ja hV).eq he
section
variable {S S1:Setup} {rs_:List Bx} {ds_:List Dr} {bp n cap:Nat} {j:Nat × Int} {A:Option Addr} {rs:List Rw} {xss:List (List Inp)} {F:HL}
end
theorem SlIs.rowN {α:Type} {e:Enc α} {T:TypeId} {l:List α} {A:Option Addr} {cap n:Nat} {Hl F:HL} (h:SlIs e T l A cap Hl) (hF:∀ x ∈ Hl,x ∈ F) (hn:l.length=n):RowL e T F A n l:=hn ▸ h.toRowL hF
theorem Gy {n m k:Int} (e:au n m=k) (hm:0 < m) (F:HL):Sp Tryz.prog 10 #[vI n,vI m] [] F (λ u H'=>u=vI k /\ H'=[]):=e ▸ fW n m (by omega) F
theorem me {α:Type} {l r:List α} {o:Nat} (h:(l.drop o).take r.length=r) {k:Nat} (hk:k < r.length) (d:α):l.getD (o+k) d=r.getD k d:=by
 have h1:((l.drop o).take r.length)[k]?=r[k]?:=by rw [h]
 rw [List.getElem?_take,if_pos hk,List.getElem?_drop] at h1
 rw [List.getD_eq_getElem?_getD,List.getD_eq_getElem?_getD,h1]
structure Ver where (t:Int) (A:Option Addr) (n c:Nat) (e0 e1 e2:Int)
def fh:Enc Ver:=⟨5,λ p k=>match k with | 0=>vI p.t | 1=>.slice p.A p.n p.c | 2=>vI p.e0 | 3=>vI p.e1 | _=>vI p.e2,⟨0,none,0,0,0,0,0⟩⟩
noncomputable def JV:TypeInfo:=match Tryz.prog.info? 111 with | some i=>i | none=>⟨.bool,"",0,0,false,0,0,none,false,#[]⟩
noncomputable def JW:Value:=match JV.zero with | some z=>z | none=>.bool false
theorem Lv:EncOk fh Tryz.prog 111 JV JW where
 info:=by kernel_rfl
 zero:=by kernel_rfl
 size:=by kernel_rfl
 zsize:=by kernel_rfl
 zcell:=λ k hk=>by
  have h:∀ k < 5,JW.cells[k]?=some (fh.cell fh.dflt k):=by intro k hk;(iterate 5 (rcases k with _ | k;· kernel_rfl));omega
  exact h k hk
 one:=λ x k=>by unfold fh;dsimp only;split <;> rfl
 bytes:=Nat.le_of_ble_eq_true (by kernel_rfl)
abbrev jR (t:Int) (j:Nat) (A:Option Addr) (c:Nat):Ver:=⟨t,A,cB j,c,bz j 0,bz j 1,bz j 2⟩
inductive Book2 (tk:Int) (j1 j2 bp:Nat):HL -> Prop
 | mk (A:Option Addr) (c:Nat) (A1 A2:Option Addr) (c1 c2:Nat) (Hl T1 T2:HL) (hs:SlIs fh 111 [jR 0 j1 A1 c1,jR tk j2 A2 c2] A c Hl) (h1:CodT j1 A1 T1) (h2:CodT j2 A2 T2):Book2 tk j1 j2 bp (ap [(bp,.lit [.slice A 2 c] 105 (0,0))] [Hl,T1,T2])
theorem Jd (tk:Int) (htk:0 < tk) (j1 j2 bp q:Nat) (Aa:Option Addr) (ca:Nat) (Tz F:HL) (hj2:j2 < 5) (hE:md F) (h1:CodT j1 Aa Tz):Sp Tryz.prog 33 #[vP bp 0,vI tk,.string (nG j2)] (ap [(bp,.lit [vS q 0 1 1] 105 (0,0)),(q,.lit [vI 0,.slice Aa (cB j1) ca,vI (bz j1 0),vI (bz j1 1),vI (bz j1 2)] 111 (0,0))] [Tz]) F (λ u H'=>∃ x:HL,H'=ap [] [x] /\ (u=vI 0 /\ Book2 tk j1 j2 bp x)):=by
 refine Sp.run Tryz.func33 rfl mn (A:=[(bp,.lit [vS q 0 1 1] 105 (0,0)),(q,.lit [vI 0,.slice Aa (cB j1) ca,vI (bz j1 0),vI (bz j1 1),vI (bz j1 2)] 111 (0,0))]) (Ts:=[Tz]) rfl λ w0=>?_
 refine ae 21 [.own 0] λ _=>RN.draw [] []<|ag [] [0,1,5,2,6,3,7,4,8,9,10,11,12,13,14] [.own 0,.own 0,.own 1]<|RD.fin<|ae 1 [] λ _=>cT 29 (decide_eq_false (show ¬ tk <= 0 by omega))<|ae 6 [] λ _=>RN.ct (Hp:=[]) (Tp:=[]) [] [] (F5 hj2 _ (aw hE)) ?_
 rintro _ ⟨A1,c2,T3⟩ ⟨rfl,hC4⟩
 dsimp only at hC4
 refine ae 19 [.own 0,.own 0,.own 0,.own 0] λ n5=>RN.draw [9,12] []<|ag [] [0,1,5,6,2,7,3,4] [.own 0,.own 0,.own 0,.own 0,.own 1]<|RD.one 8 (RDO.ev [] [] λ n7=>?_)
 refine RD.dn 3 (.rows 5 1 (aZ fh [jR 0 j1 Aa ca]) 111 (0,0))<|Nf 3<|RD.one 9 (lm [] Lv ([jR 0 j1 Aa ca]) [jR tk j2 A1 c2] 0 0 rfl (SlIs.one (b:=q)) (Nat.le_of_ble_eq_true rfl) ?_)
 rintro A8 c9 T10 ⟨hs11,hz12⟩
 refine ag [] [10,11] []<|RD.one 12 (RDO.ev [] [.own 2] λ _=>?_)
 refine RD.fin<|ae 6 [] λ _=>RN.ret [] [2] [0,2,1] (v:=vI 0) (H':=(ap [(bp,.lit [.slice A8 2 c9] 105 (0,0))] [T10,Tz,T3])) ?_
 exact ⟨ap [(bp,.lit [.slice A8 2 c9] 105 (0,0))] [T10,Tz,T3],by simp [ap],rfl,.mk _ _ _ _ _ _ _ _ _ hs11 h1 hC4⟩
theorem Je {j1 bp:Nat} {TB:HL} (hB:Book1 j1 bp TB) (tk:Int) (htk:0 < tk) (j2:Nat) (F:HL) (hj2:j2 < 5) (hE:md F):Sp Tryz.prog 33 #[vP bp 0,vI tk,.string (nG j2)] (ap [] [TB]) F (λ u H'=>∃ x:HL,H'=ap [] [x] /\ (u=vI 0 /\ Book2 tk j1 j2 bp x)):=by
 cases hB with
 | mk q A c T h =>
  rw [bC]
  exact Jd tk htk j1 j2 bp q A c T F hj2 hE h
theorem Np (q2 q3:Nat) (tk:Int) (bp b o c j1 j2:Nat) (full:List Ver) (Aa Ab:Option Addr) (ca cb:Nat) (t:Int) (F:HL) (hb:(bp,.lit [vS b (o * 5) 2 c] 105 (0,0)) ∈ F) (hq:(b,.rows 5 (o+c) (aZ fh full) 111 (0,0)) ∈ F) (hc:2 <= c) (hg0:full.getD o fh.dflt=jR 0 j1 Aa ca) (hg1:full.getD (1+o) fh.dflt=jR tk j2 Ab cb) (ht:0 <= t) (h2:(q2,.lit [vP bp 0] 33 (0,0)) ∈ F) (h3:(q3,.lit [vI t] 3 (0,0)) ∈ F):Sp Tryz.prog 146 #[vI 0,vP q2 0,vP q3 0] [] F (λ u H'=>u=.bool false /\ H'=[]):=by
 refine Sp.run Tryz.func146 rfl (mc h2 (mc h3 (mc hb (mc hq mn)))) (A:=[]) (Ts:=[]) rfl λ w0=>?_
 refine ae 6 [] λ _=>RN.draw [] []<|aH [] [0,4,8,1,2,3,5,6,7] [.ro 0,.ro 1,.ro 2,.rorow 3 o 0] [o * 5=o * 5+0 /\ o < (o+c)]<|kZ 12 (congrArg (λ v_:Ver=>vI v_.t) hg0)<|ag [] [9,10] []<|RD.fin<|ae 1 [] λ _=>RN.ret [] [] [] (v:=.bool (decide (0 > t))) (H':=[]) ?_
 exact ⟨congrArg Value.bool (decide_eq_false (by omega)),rfl⟩
theorem JX (q2 q3:Nat) (tk:Int) (bp b o c j1 j2:Nat) (full:List Ver) (Aa Ab:Option Addr) (ca cb:Nat) (t:Int) (F:HL) (hb:(bp,.lit [vS b (o * 5) 2 c] 105 (0,0)) ∈ F) (hq:(b,.rows 5 (o+c) (aZ fh full) 111 (0,0)) ∈ F) (hc:2 <= c) (hg0:full.getD o fh.dflt=jR 0 j1 Aa ca) (hg1:full.getD (1+o) fh.dflt=jR tk j2 Ab cb) (ht:0 <= t) (h2:(q2,.lit [vP bp 0] 33 (0,0)) ∈ F) (h3:(q3,.lit [vI t] 3 (0,0)) ∈ F):Sp Tryz.prog 146 #[vI 1,vP q2 0,vP q3 0] [] F (λ u H'=>u=.bool (decide (tk > t)) /\ H'=[]):=by
 refine Sp.run Tryz.func146 rfl (mc h2 (mc h3 (mc hb (mc hq mn)))) (A:=[]) (Ts:=[]) rfl λ w0=>?_
 refine ae 6 [] λ _=>RN.draw [] []<|aH [] [0,4,8,1,2,3,5,6,7] [.ro 0,.ro 1,.ro 2,.rorow 3 (1+o) 0] [(o * 5+5)=(1+o) * 5+0 /\ (1+o) < (o+c)]<|kZ 12 (congrArg (λ v_:Ver=>vI v_.t) hg1)<|ag [] [9,10] []<|RD.fin<|ae 1 [] λ _=>?_
 exact RN.ret [] [] [] ⟨rfl,rfl⟩
theorem Gz (q2 q3:Nat) (tk:Int) (bp b o c j1 j2:Nat) (full:List Ver) (Aa Ab:Option Addr) (ca cb:Nat) (t:Int) (F:HL) (hb:(bp,.lit [vS b (o * 5) 2 c] 105 (0,0)) ∈ F) (hq:(b,.rows 5 (o+c) (aZ fh full) 111 (0,0)) ∈ F) (hc:2 <= c) (hg0:full.getD o fh.dflt=jR 0 j1 Aa ca) (hg1:full.getD (1+o) fh.dflt=jR tk j2 Ab cb) (ht:0 <= t) (h2:(q2,.lit [vP bp 0] 33 (0,0)) ∈ F) (h3:(q3,.lit [vI t] 3 (0,0)) ∈ F) (h2t:tk > t):Sp Tryz.prog 145 #[vI 2,.func (.func 146) #[] #[vP q2 0,vP q3 0]] [] F (λ u H'=>u=vI 1 /\ H'=[]):=by
 refine Sp.run Tryz.func145 rfl (mc h2 (mc h3 (mc hb (mc hq mn)))) (A:=[]) (Ts:=[]) rfl λ w0=>?_
 refine ae 14 [] λ _=>RN.rounds 4<|ae 27 [] λ _=>aj (JX q2 q3 tk bp b o c j1 j2 full Aa Ab ca cb t _ (aw hb) (aw hq) hc hg0 hg1 ht (aw h2) (aw h3))<|ae 3 [] λ _=>cT 21 (nt (decide_eq_true h2t))<|ae 34 [] λ _=>aj (Np q2 q3 tk bp b o c j1 j2 full Aa Ab ca cb t _ (aw hb) (aw hq) hc hg0 hg1 ht (aw h2) (aw h3))<|ae 31 [] λ _=>?_
 exact RN.ret [] [] [] ⟨rfl,rfl⟩
theorem GA (q2 q3:Nat) (tk:Int) (bp b o c j1 j2:Nat) (full:List Ver) (Aa Ab:Option Addr) (ca cb:Nat) (t:Int) (F:HL) (hb:(bp,.lit [vS b (o * 5) 2 c] 105 (0,0)) ∈ F) (hq:(b,.rows 5 (o+c) (aZ fh full) 111 (0,0)) ∈ F) (hc:2 <= c) (hg0:full.getD o fh.dflt=jR 0 j1 Aa ca) (hg1:full.getD (1+o) fh.dflt=jR tk j2 Ab cb) (ht:0 <= t) (h2:(q2,.lit [vP bp 0] 33 (0,0)) ∈ F) (h3:(q3,.lit [vI t] 3 (0,0)) ∈ F) (h2t:¬ tk > t):Sp Tryz.prog 145 #[vI 2,.func (.func 146) #[] #[vP q2 0,vP q3 0]] [] F (λ u H'=>u=vI 2 /\ H'=[]):=by
 refine Sp.run Tryz.func145 rfl (mc h2 (mc h3 (mc hb (mc hq mn)))) (A:=[]) (Ts:=[]) rfl λ w0=>?_
 refine ae 14 [] λ _=>RN.rounds 4<|ae 27 [] λ _=>aj (JX q2 q3 tk bp b o c j1 j2 full Aa Ab ca cb t _ (aw hb) (aw hq) hc hg0 hg1 ht (aw h2) (aw h3))<|ae 3 [] λ _=>cT 21 (nf (decide_eq_false h2t))<|ae 28 [] λ _=>?_
 exact RN.ret [] [] [] ⟨rfl,rfl⟩
theorem OQ (tk:Int) (bp b o c j1 j2:Nat) (full:List Ver) (Aa Ab:Option Addr) (ca cb:Nat) (t:Int) (F:HL) (hb:(bp,.lit [vS b (o * 5) 2 c] 105 (0,0)) ∈ F) (hq:(b,.rows 5 (o+c) (aZ fh full) 111 (0,0)) ∈ F) (hc:2 <= c) (hg0:full.getD o fh.dflt=jR 0 j1 Aa ca) (hg1:full.getD (1+o) fh.dflt=jR tk j2 Ab cb) (ht:0 <= t) (hj:j1 < 5) (hC:SrcIn Tryz.prog gR F Aa (cB j1) (fF j1)) (h2t:tk > t):Sp Tryz.prog 124 #[vP bp 0,vI t] [] F (λ u H'=>∃ x:Option Addr × Nat × HL,H'=ap [] [x.2.2] /\ (u=.tuple #[vI 0,.agg #[.slice x.1 (cB j1) x.2.1,vI (bz j1 0),vI (bz j1 1),vI (bz j1 2)]] /\ ClS gR 155 (fF j1) x.1 x.2.1 x.2.2)):=by
 refine Sp.run Tryz.func124 rfl (mc hb (mc hq mn)) (A:=[]) (Ts:=[]) rfl λ w0=>?_
 refine ae 16 [.own 2,.ro 0] λ n1=>aj (Gz (n1+0) (n1+1) tk bp b o c j1 j2 full Aa Ab ca cb t _ (aw hb) (aw hq) hc hg0 hg1 ht (aB 2) (aB 1) h2t)<|ai 21 [.own 2,.ro 0,.rorow 1 o 1,.rorow 1 o 2,.rorow 1 o 3,.rorow 1 o 4] [(o * 5+4)=o * 5+4 /\ o < (o+c),(o * 5+3)=o * 5+3 /\ o < (o+c),(o * 5+2)=o * 5+2 /\ o < (o+c),(o * 5+1)=o * 5+1 /\ o < (o+c)] λ _=>aJ 26 (congrArg (λ v_:Ver=>(.agg #[.slice v_.A v_.n v_.c,vI v_.e0,vI v_.e1,vI v_.e2]:Value)) hg0)<|ae 5 [.own 0,.own 0,.own 0,.own 0] λ n2=>RN.draw [8] []<|ag [] [0,1,4,2,5] [.own 0,.own 0,.own 0,.own 0]<|RD.one 3 (RDO.ct [] (Hp:=[]) (Tp:=[]) [] [] (lY Aa (cB j1) ca (fF j1) _ hC.up (by have:=pR hj;omega)) ?_)
 rintro _ ⟨A3,c4,T5⟩ ⟨rfl,hc6⟩
 dsimp only at hc6
 refine ag [] [6,7] []<|RD.one 8 (RDO.ev [] [.own 1,.own 1,.own 1,.own 1] λ _=>?_)
 refine RD.fin<|ae 1 [] λ _=>RN.ret [.own 1,.own 1,.own 1,.own 1] [] [0] (v:=.tuple #[vI 0,.agg #[.slice A3 (cB j1) c4,vI (bz j1 0),vI (bz j1 1),vI (bz j1 2)]]) (H':=(ap [] [T5])) ?_
 exact ⟨(A3,c4,T5),rfl,rfl,hc6⟩
theorem OS (tk:Int) (bp b o c j1 j2:Nat) (full:List Ver) (Aa Ab:Option Addr) (ca cb:Nat) (t:Int) (F:HL) (hb:(bp,.lit [vS b (o * 5) 2 c] 105 (0,0)) ∈ F) (hq:(b,.rows 5 (o+c) (aZ fh full) 111 (0,0)) ∈ F) (hc:2 <= c) (hg0:full.getD o fh.dflt=jR 0 j1 Aa ca) (hg1:full.getD (1+o) fh.dflt=jR tk j2 Ab cb) (ht:0 <= t) (hj:j2 < 5) (hC:SrcIn Tryz.prog gR F Ab (cB j2) (fF j2)) (h2t:¬ tk > t):Sp Tryz.prog 124 #[vP bp 0,vI t] [] F (λ u H'=>∃ x:Option Addr × Nat × HL,H'=ap [] [x.2.2] /\ (u=.tuple #[vI 1,.agg #[.slice x.1 (cB j2) x.2.1,vI (bz j2 0),vI (bz j2 1),vI (bz j2 2)]] /\ ClS gR 155 (fF j2) x.1 x.2.1 x.2.2)):=by
 refine Sp.run Tryz.func124 rfl (mc hb (mc hq mn)) (A:=[]) (Ts:=[]) rfl λ w0=>?_
 refine ae 16 [.own 2,.ro 0] λ n1=>aj (GA (n1+0) (n1+1) tk bp b o c j1 j2 full Aa Ab ca cb t _ (aw hb) (aw hq) hc hg0 hg1 ht (aB 2) (aB 1) h2t)<|ai 21 [.own 2,.ro 0,.rorow 1 (1+o) 1,.rorow 1 (1+o) 2,.rorow 1 (1+o) 3,.rorow 1 (1+o) 4] [(o * 5+9)=(1+o) * 5+4 /\ (1+o) < (o+c),(o * 5+8)=(1+o) * 5+3 /\ (1+o) < (o+c),(o * 5+7)=(1+o) * 5+2 /\ (1+o) < (o+c),(o * 5+6)=(1+o) * 5+1 /\ (1+o) < (o+c)] λ _=>aJ 26 (congrArg (λ v_:Ver=>(.agg #[.slice v_.A v_.n v_.c,vI v_.e0,vI v_.e1,vI v_.e2]:Value)) hg1)<|ae 5 [.own 0,.own 0,.own 0,.own 0] λ n2=>RN.draw [8] []<|ag [] [0,1,4,2,5] [.own 0,.own 0,.own 0,.own 0]<|RD.one 3 (RDO.ct [] (Hp:=[]) (Tp:=[]) [] [] (lY Ab (cB j2) cb (fF j2) _ hC.up (by have:=pR hj;omega)) ?_)
 rintro _ ⟨A3,c4,T5⟩ ⟨rfl,hc6⟩
 dsimp only at hc6
 refine ag [] [6,7] []<|RD.one 8 (RDO.ev [] [.own 1,.own 1,.own 1,.own 1] λ _=>?_)
 refine RD.fin<|ae 1 [] λ _=>RN.ret [.own 1,.own 1,.own 1,.own 1] [] [0] (v:=.tuple #[vI 1,.agg #[.slice A3 (cB j2) c4,vI (bz j2 0),vI (bz j2 1),vI (bz j2 2)]]) (H':=(ap [] [T5])) ?_
 exact ⟨(A3,c4,T5),rfl,rfl,hc6⟩
theorem Book2.at {tk:Int} {j1 j2 bp:Nat} {TB F:HL} (hB:Book2 tk j1 j2 bp TB) (hT:∀ x ∈ TB,x ∈ F) (hj1:j1 < 5) (hj2:j2 < 5) (t:Int) (ht:0 <= t):AtOk F bp t (if tk > t then (j1,0) else (j2,1)):=λ F' hF=>by
 cases hB with
 | mk A c A1 A2 c1 c2 Hl T1 T2 hs h1 h2 =>
  rcases hs with ⟨_,_,h,_⟩ | ⟨b,o,full,rfl,rfl,e1,e2,e3⟩
  ·cases h
  ·have hc:2 <= c:=e2
   have hg0:full.getD o fh.dflt=jR 0 j1 A1 c1:=by have:=me e3 (k:=0) (by simp) fh.dflt;rw [Nat.add_zero] at this;exact this
   have hg1:full.getD (1+o) fh.dflt=jR tk j2 A2 c2:=by have:=me e3 (k:=1) (by simp) fh.dflt;rw [Nat.add_comm o 1] at this;exact this
   have hm:∀ x,x ∈ ap [(bp,Blk.lit [.slice (some ⟨b,o * fh.w,none⟩) 2 c] 105 (0,0))] [[(b,.rows fh.w (o+c) (aZ fh full) 111 (0,0))],T1,T2] -> x ∈ F':=λ x hx=>hF x (hT x hx)
   by_cases h2t:tk > t
   ·rw [if_pos h2t]
    exact OQ tk bp b o c j1 j2 full A1 A2 c1 c2 t F' (hm _ (List.mem_append_left _ List.mem_cons_self)) (hm _ (List.mem_append_right _ List.mem_cons_self)) hc hg0 hg1 ht hj1 (h1.src F' λ x hx=>hm x (by simp [ap,hx])) h2t
   ·rw [if_neg h2t]
    exact OS tk bp b o c j1 j2 full A1 A2 c1 c2 t F' (hm _ (List.mem_append_left _ List.mem_cons_self)) (hm _ (List.mem_append_right _ List.mem_cons_self)) hc hg0 hg1 ht hj2 (h2.src F' λ x hx=>hm x (by simp [ap,hx])) h2t
open Go.Shelf
theorem yZ {cs vs:List Value} (h:cs.length=vs.length):jg cs 0 vs=vs:=by
 apply List.ext_getElem?
 intro j
 rw [mm vs cs 0 (by omega) j]
 split
 ·rfl
 ·next h1=>rw [List.getElem?_eq_none (by omega),List.getElem?_eq_none (by omega)]
theorem nK {b:Nat} {ty:TypeId} {fz:Nat × Nat}:∀ (vs:List Value) (o:Nat) (W:World) (cs:List Value),W.heap[b]?=some (Blk.lit cs ty fz).den -> (W.setCells b o vs).heap[b]?=some (Blk.lit (jg cs o vs) ty fz).den
 | [],o,W,cs,h=>h
 | v :: r,o,W,cs,h=>by
  rw [World.setCells,jg]
  have h1:=oQ (v:=v) (a:=⟨b,o,none⟩) rfl rfl h
  rw [ie] at h1
  exact nK r (o+1) _ _ h1
theorem nL {b k:Nat} (hk:k ≠ b):∀ (vs:List Value) (o:Nat) (W:World),(W.setCells b o vs).heap[k]?=W.heap[k]?
 | [],_,_=>rfl
 | v :: r,o,W=>by
  rw [World.setCells,nL hk r (o+1)]
  exact Below.heap_setCell _ _ _ _ hk
def Lw (P:Program) (o:Oper) (L:FL):Option (Addr × Nat × Nat × Addr × Nat × Nat × TypeId × TypeId × TypeId):=match o.guard,o.op with
 | none,.call c=>match c.callee,c.args.toList,c.argTypes.toList with
  | .builtin .copy,[a1,a2],[t,tx]=>match mO L a1 && mO L a2,jd L a1,jd L a2 with
   | true,.slice (some d) n cap,.slice (some a) m c'=>match P.underlying t with
    | some (.slice T)=>some (d,n,cap,a,m,c',T,t,tx)
    | _=>none
   | _,_,_=>none
  | _,_,_=>none
 | _,_=>none
section
variable {r:Option Nat} {P:Program} {N:Nat} {D:List Deferred} {F:HL} {w0:World} {R:HL} {s:Cfg} {Q:Exit -> Act -> World -> Prop}
theorem CJ {o:Oper} {L:FL} {d:Addr} {n cap:Nat} {a:Addr} {m c':Nat} {T t tx:TypeId} (h:Lw P o L=some (d,n,cap,a,m,c',T,t,tx)) :
  ∃ a1 a2,o.guard=none /\ o.op=.call { callee:=.builtin .copy,args:=#[a1,a2],argTypes:=#[t,tx] } /\ (mO L a1 && mO L a2)=true /\ jd L a1=.slice (some d) n cap /\ jd L a2=.slice (some a) m c' /\ P.underlying t=some (.slice T):=by
 unfold Lw at h
 split at h
 case h_2=>cases h
 rename_i c hg hop
 split at h
 case h_2=>cases h
 rename_i a1 a2 t' tx' h1 h2 h3
 split at h
 case h_2=>cases h
 rename_i d' n' cap' a' m' c2 h4 h5 h6
 split at h
 case h_2=>cases h
 rename_i T' h7
 simp only [Option.some.injEq,Prod.mk.injEq] at h
 obtain ⟨e1,e2,e3,e4,e5,e6,e7,e8,e9⟩:=h
 subst e1;subst e2;subst e3;subst e4;subst e5;subst e6;subst e7;subst e8;subst e9
 refine ⟨a1,a2,hg,?_,h4,h5,h6,h7⟩
 obtain ⟨cal,args,ats⟩:=c
 simp only at h1 h2 h3
 subst h1
 have e1:args=#[a1,a2]:=by cases args;simp_all
 have e2:ats=#[t',tx']:=by cases ats;simp_all
 rw [hop,e1,e2]
def Nq (P:Program) (N i:Nat) (oo:Option Oper) (s:Cfg):Option (Addr × Nat × Nat × Addr × Nat × Nat × TypeId × TypeId × TypeId × (Nat × Blk)):=match oo with
 | some o=>match Lw P o s.L,s.A[i]?,(fe N o.dst undef s.L).isSome with
  | some (d,n,cap,a,m,c',T,t,tx),some x,true=>some (d,n,cap,a,m,c',T,t,tx,x)
  | _,_,_=>none
 | none=>none
theorem RN.cpy (i:Nat) (X:Blk) {b n cap m c':Nat} {a:Addr} {T t tx ty:TypeId} {g:Nat -> Nat -> Value} (vs:List Value) (hl:vs.length=n) (hm:m=n) (h1:∀ v ∈ vs,v.oneCell'=true) (hsz:(P.info? T).map (·.size)=some 1)
  (hs:∀ w,Rel (ap s.A s.Ts++F) w -> ∀ j v,vs[j]?=some v -> w.cell? (a.add j)=some v)
  (hX:X.den=(Blk.lit vs ty (0,0)).den) (hk:RN r P N D F w0 R (L9 i X (fO N (vI (n:Int)) s)) Q)
  (h:Nq P N i (rN s) s=some (⟨b,0,none⟩,n,cap,a,m,c',T,t,tx,(b,.rows 1 n g ty (0,0))):=by kernel_rfl):RN r P N D F w0 R s Q:=by
 unfold Nq at h
 split at h
 case h_2=>cases h
 rename_i o q0
 split at h
 case h_2=>cases h
 rename_i d' n' cap' a' m' c2 T' t' tx' x hv hx hp
 simp only [Option.some.injEq,Prod.mk.injEq] at h
 obtain ⟨e1,e2,e3,e4,e5,e6,e7,e8,e9,e10⟩:=h
 subst e1;subst e2;subst e3;subst e4;subst e5;subst e6;subst e7;subst e8;subst e9;subst e10
 obtain ⟨a1,a2,q1,q2,q3,q4,q5,q6⟩:=CJ hv
 refine ⟨λ hR aa w hF hRel hB=>?_⟩
 obtain ⟨c,k,L,Bs,Ts⟩:=s
 unfold rN at q0
 cases c with
 | code c=>cases q0
 | ex c=>cases q0
 | drw _ _=>cases q0
 | ops ops pc =>
  simp only at q0 q3 q4 q5 hx hp hF hRel hs
  have hdrop:ops.toList.drop pc=o :: ops.toList.drop (pc+1):=by
   have hlt:pc < ops.toList.length:=(List.getElem?_eq_some_iff.1 q0).1
   rw [List.drop_eq_getElem_cons hlt,(List.getElem?_eq_some_iff.1 q0).2]
  show wpListIn _ _ _ _ _ _ _ _
  rw [hdrop,wpListIn,if_pos (by simp [Region.wanted,q1])]
  refine ⟨λ _ _=>trivial,?_⟩
  subst hm
  have hx2:(ap Bs Ts)[i]?=some (b,Blk.rows 1 m' g ty (0,0)):=by
   show (Bs++Ts.flatten)[i]?=_
   rw [List.getElem?_append_left (List.getElem?_eq_some_iff.1 hx).1];exact hx
  have hblk:w.heap[b]?=some (Blk.lit (bA 1 g m') ty (0,0)).den:=hRel.holds (b,.rows 1 m' g ty (0,0)) (List.mem_append_left _ (List.mem_of_getElem? hx2))
  have hrl:(bA 1 g m').length=m':=by rw [cO];omega
  have key:eC P o aa w λ u w'=>u=vI (m':Int) /\ Rel (br (ap Bs Ts) i (b,X)++F) w' /\ Below 0 w w':=by
   simp only [Bool.and_eq_true] at q3
   have e1:=(hF.eval q3.1).trans q4
   have e2:=(hF.eval q3.2).trans q5
   have hrun:=run_copy_cells (P:=P) w t' tx' o.type T' b 0 m' cap' a' m' c2 vs q6 hsz (by simp [hl]) (hs w hRel) (λ j hj=>by
     have hj2:j < (bA 1 g m').length:=by omega
     rw [Nat.zero_add,mR (v:=(bA 1 g m')[j]) hblk rfl rfl (by simp [hj2])];rfl) (λ j hj=>nS hblk rfl rfl) h1
   unfold eC
   have he:(execOp aa.eval o).run P w=.ok (.value (vI (m':Int))) (w.setCells b 0 vs):=by
    simp [execOp,q2,resolve,invoke,builtin,Sem.run_bind,e1,e2,hrun,goInt,hl]
   rw [he]
   refine ⟨rfl,?_,il b vs 0 w⟩
   have hd:=nK vs 0 w _ hblk
   rw [yZ (by omega),<- hX] at hd
   exact hRel.upd hx2 hd (λ k hk=>nL hk vs 0 w)
  refine ij (by rw [q2];intro c hc;cases hc) key ?_
  rintro u w' ⟨rfl,hR',hB'⟩
  obtain ⟨L',p1⟩:=eU hp (vI (m':Int))
  have hh:=hk.h hR
  have hpc:L9 i X (fO N (vI (m':Int)) ⟨.ops ops pc,k,L,Bs,Ts⟩)=⟨.ops ops (pc+1),k,L',br Bs i (b,X),Ts⟩:=by
   unfold fO
   simp only [q0,p1]
   unfold L9
   simp only [hx]
  rw [hpc] at hh
  refine hh _ w' (hF.put p1) ?_ (hB.trans hB')
  have e3:br (ap Bs Ts) i (b,X)=ap (br Bs i (b,X)) Ts:=by
   show br (Bs++Ts.flatten) i _=br Bs i _++Ts.flatten
   rw [ie,ie,List.set_append_left _ _ (List.getElem?_eq_some_iff.1 hx).1]
  rw [<- e3]
  exact hR'
end
end Go.Proofs.YtgdcbiiopbpgaaaGreatDoor
