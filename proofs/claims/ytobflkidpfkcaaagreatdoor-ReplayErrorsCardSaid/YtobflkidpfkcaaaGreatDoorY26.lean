import Derived.Test.YtobflkidpfkcaaaGreatDoorY25
import Derived.Test.YtobflkidpfkcaaaGreatDoorY14
import Derived.Test.YtobflkidpfkcaaaGreatDoorY24
import Derived.Test.YtobflkidpfkcaaaGreatDoorY05
set_option maxHeartbeats 4000000
set_option maxRecDepth 100000
set_option linter.unusedSimpArgs false
set_option linter.unusedVariables false
namespace Go.Proofs.YtobflkidpfkcaaaGreatDoor
open Go.RowKit
def GC (p n r f:Int):Int:=IntKind.i64.wrap ((IntKind.i64.wrap ((IntKind.i64.wrap ((IntKind.i64.wrap ((IntKind.i64.wrap (p+(IntKind.i64.wrap ((IntKind.i64.wrap ((IntKind.i64.wrap (p+1))+n)) * (IntKind.i64.wrap (f+3))))))+(IntKind.i64.wrap (2 * n))))+3))+(IntKind.i64.wrap ((IntKind.i64.wrap ((IntKind.i64.wrap (r * n)) * (IntKind.i64.wrap (n - 1)))).tdiv 2))))+(IntKind.i64.wrap (n * (IntKind.i64.wrap (n+1)))))
theorem xc {S:Setup} (hS:SetV S):l0 S.players S.nb S.rounds 0 <= GC S.players S.nb S.rounds 60 /\ GC S.players S.nb S.rounds 60 <= 650:=by
 have hp:=hS.pl
 have hn:=hS.nb
 have hr:=hS.ro
 have key:∀ p:Fin 3,∀ n:Fin 5,∀ r:Fin 3,l0 ((p.1+1:Nat):Int) ((n.1+1:Nat):Int) ((r.1+1:Nat):Int) 0 <= GC ((p.1+1:Nat):Int) ((n.1+1:Nat):Int) ((r.1+1:Nat):Int) 60 /\ GC ((p.1+1:Nat):Int) ((n.1+1:Nat):Int) ((r.1+1:Nat):Int) 60 <= 650:=by decide +kernel
 have:=key ⟨S.players.toNat - 1,by omega⟩ ⟨S.nb - 1,by omega⟩ ⟨S.rounds.toNat - 1,by omega⟩
 dsimp only at this
 rwa [show ((S.players.toNat - 1+1:Nat):Int)=S.players by omega,show S.nb - 1+1=S.nb by omega,show ((S.rounds.toNat - 1+1:Nat):Int)=S.rounds by omega] at this
theorem setV {xs:List Int} {F:HL} {A:Option Addr} {n:Nat} (hl:ArgL F A n xs) {S:Setup} {T:HL} (h:SetG xs S T):SetV S:=by
 have h1:=pJ hl
 have h2:=t8 hl
 have hn:=h.nb
 have k2:=gM hl 2
 obtain ⟨e1,e2,e3,e4,e5,e6,e7,e8⟩:=h.nums
 exact ⟨by rw [h.pl];exact h2,by omega,by rw [e7];omega,by rw [e8];omega⟩
theorem jQ {l:List Int} {i j:Nat} {v:Int} (h:i ≠ j):(l.set i v).getD j 0=l.getD j 0:=by
 rw [List.getD_eq_getElem?_getD,List.getD_eq_getElem?_getD,List.getElem?_set_ne h]
theorem ti {S:Setup} (hp:0 <= S.players) {j:Nat} (hj:j < 48):∀ i,i <= S.nb -> (eA S i).getD j 0=0
 | 0,_=>by
  rw [eA,List.getD_eq_getElem?_getD,List.getElem?_replicate]
  split <;> rfl
 | i+1,hi=>by
  have hb:af S (i:Int)=48+4 * S.players+8 * (i:Int):=by
   rcases nF hp (i:Int) with e | ⟨_,_,e⟩
   ·unfold af at e
    rw [if_neg (by omega),if_neg (by omega)] at e;omega
   ·exact e
  rw [eA,jQ (by omega),jQ (by omega),jQ (by omega),jQ (by omega),jQ (by omega),jQ (by omega)]
  exact ti hp hj i (by omega)
structure TE2 (S:Setup) (t:Int) (M:MemS):Prop where
 len:(M.cs.length:Int)=sizeOf S
 z:∀ k:Int,1 <= k -> k <= 10 -> M.get k=0
 t0:M.get 0=t
theorem Jm {S:Setup} (hS:SetV S):TE2 S 0 ⟨eA S S.nb,[],0⟩:=by
 have hp:=hS.pl
 have hlen:(((⟨eA S S.nb,[],0⟩:MemS).cs.length:Nat):Int)=sizeOf S:=by
  show ((eA S S.nb).length:Int)=_
  rw [gv];unfold sizeOf;omega
 have g:∀ k:Int,0 <= k -> k < 48 -> (⟨eA S S.nb,[],0⟩:MemS).get k=0:=λ k h0 h1=>by
  unfold MemS.get
  split
  ·exact ti (by omega) (by omega) S.nb (Nat.le_refl _)
  ·rfl
 exact ⟨hlen,λ k h1 h2=>g k (by omega) (by omega),g 0 (by omega) (by omega)⟩
theorem TE2.tv {S:Setup} (hS:SetV S) {t:Int} (ht:0 <= t /\ t <= 1000) {M:MemS} (h:TE2 S t M) (ins:Nat -> Inp):TV S ins M /\ mN S M=l0 S.players S.nb S.rounds 0 /\ Dw M:=by
 have h1:=h.z 1 (by omega) (by omega)
 have h2:=h.z 2 (by omega) (by omega)
 have hp:=hS.pl
 refine ⟨⟨h.len,by rw [h.t0];omega,by rw [h1,h2];exact .inl ⟨rfl,by omega,by omega⟩,λ q hq=>by rw [h1,if_pos rfl,h2] at hq;omega,.inl ⟨h1,h2⟩⟩,?_,h1,h2⟩
 unfold mN
 rw [h1,h2];rfl
theorem NB {S:Setup} (hS:SetV S) {g:Gm} (hg:g.S=S) (hni:S.players <= g.ni) {t:Int} (ht:0 <= t /\ t <= 1000) {M:MemS} (h:TE2 S t M):∃ m,((m+1:Nat):Int) <= GC S.players S.nb S.rounds 60 /\ dJ g (m+1) M /\ TE2 S (t+1) (fU g (m+1) M) /\
  Numb t 0 (fy g (m+1) M) /\ (fU g (m+1) M).get 11=((fy g (m+1) M).length:Int) /\ ((fy g (m+1) M).length:Int) <= 40:=by
 obtain ⟨h1,h2,h3⟩:=h.tv hS ht (λ q=>g.ins.getD (g.io+q) dI)
 have hb:=xc hS
 have hpos:=AU hS.pl ⟨by have:=hS.nb;omega,by have:=hS.nb;omega⟩ hS.ro h1.ct
 unfold mN at h2
 obtain ⟨m,a1,a2,a3,a4,a5,a6,a7,a8⟩:=AW hS hg (λ _ _=>rfl) hni (l0 S.players S.nb S.rounds 0).toNat M h1 (by unfold mN;omega)
 rw [if_pos h3] at a6 a7
 rw [h.t0] at a5 a6
 exact ⟨m,by omega,a2,⟨a4,a3,a5⟩,a6,by rw [a7];omega,by omega⟩
theorem SetEq.pl {S S1:Setup} (h:SetEq S S1):S1.players=S.players:=h.nums.1
theorem SetEq.nb {S S1:Setup} (h:SetEq S S1):S1.nb=S.nb:=h.nums.2.1
theorem SetEq.size {S S1:Setup} (h:SetEq S S1):sizeOf S1=sizeOf S:=by unfold sizeOf;rw [h.pl,h.nb]
theorem SetEq.setV {S S1:Setup} (h:SetEq S S1) (hV:SetV S):SetV S1:=by
 obtain ⟨e1,e2,_,_,_,_,_,_,_,_,e3,e4⟩:=h.nums
 exact ⟨by rw [e1];exact hV.pl,by rw [e2];exact hV.nb,by rw [e3];exact hV.ro,by rw [e4];exact hV.fu⟩
theorem TE2.eq {S S1:Setup} (h:SetEq S S1) {t:Int} {M:MemS} (hT:TE2 S t M):TE2 S1 t M:=⟨by rw [h.size];exact hT.len,hT.z,hT.t0⟩
theorem AX {S S':Setup} (h:SetEq S S'):(S'.bods.drop S'.bo).map Bod.nm=(List.range S.nb).map λ k=>(S.body k).nm:=by
 rw [h.whole.1,List.drop_zero]
 apply List.ext_getElem?
 intro k
 by_cases hk:k < S.nb
 ·obtain ⟨A,c,e⟩:=h.bod k hk
  have hl:k < S'.bods.length:=by rw [h.whole.2];exact hk
  have e2:S'.bods[k]?=some (S'.body k):=by
   show _=some (S'.bods.getD (S'.bo+k) dB)
   rw [h.whole.1,Nat.zero_add,List.getD_eq_getElem?_getD,List.getElem?_eq_getElem hl];rfl
  rw [List.getElem?_map,e2,e]
  simp [hk]
  rfl
 ·rw [List.getElem?_eq_none (by rw [List.length_map,h.whole.2];omega),List.getElem?_eq_none (by simp;omega)]
theorem SetEq.nm2 {S S1 S2:Setup} (h1:SetEq S S1) (h2:SetEq S S2):S1.nm=S2.nm:=by
 have b1:=AX h1
 have b2:=AX h2
 obtain ⟨x1,x2,x3,x4,x5,x6,x7,x8,x9,x10,x11,x12⟩:=h1.nums
 obtain ⟨y1,y2,y3,y4,y5,y6,y7,y8,y9,y10,y11,y12⟩:=h2.nums
 unfold Setup.nm
 rw [b1,b2,x1,x2,x3,x4,x5,x6,x7,x8,x9,x10,x11,x12,y1,y2,y3,y4,y5,y6,y7,y8,y9,y10,y11,y12]
theorem Jn {S1 S2:Setup} (h:S1.nm=S2.nm) (j:Nat × Int) (n:Nat) (xs:List Inp):GEq (gh S1 j n xs) (gh S2 j n xs):=by
 refine ⟨?_,λ k hk=>rfl⟩
 unfold Gm.nm
 simp only [h]
theorem yY {G G':Nat -> Gm} (h:∀ k,GEq (G k) (G' k)) (M:MemS):∀ k,xB G M k=xB G' M k
 | 0=>rfl
 | k+1=>by rw [xB,xB,yY h M k,EQ (h k)]
theorem NC {S S1 S2:Setup} (h1:SetEq S S1) (h2:SetEq S S2) (J:Nat -> Nat × Int) (xss:List (List Inp)):∀ k,GEq (rG S1 J xss k) (rG S2 J xss k):=λ k=>Jn (h1.nm2 h2) _ _ _
theorem LG {pl:Int} {n:Nat} {xs:List Inp} {now:Int} (h1:(n:Int)=pl) (h2:∀ k,k < n -> jn (xs.getD k dI)) (h3:now < 6000):bF pl n xs now=0:=by
 unfold bF
 rw [if_pos h1,if_pos h2,if_neg (by omega)]
theorem GD {S1:Setup} (hV:SetV S1) {t:Int} (ht:0 <= t /\ t <= 1000) {M:MemS} (hT:TE2 S1 t M) {xs:List Inp} (h1:(xs.length:Int)=S1.players) (h2:∀ k,k < xs.length -> jn (xs.getD k dI)) (j:Nat × Int):TkOk S1 j xs M /\ TE2 S1 (t+1) (nl (rF S1 j xs) M):=by
 obtain ⟨m,a1,a2,a3,_⟩:=NB hV (g:=rF S1 j xs) rfl (by show S1.players <= (xs.length:Int);omega) ht hT
 have hb:=(xc hV).2
 refine ⟨⟨⟨m,by omega,a2⟩,by rw [hT.t0];exact ht.1,by rw [hT.t0];exact LG h1 h2 (by omega)⟩,?_⟩
 rw [<- (J7 (by omega) a2).1]
 exact a3
def fQ (pl:Int) (xs:List Inp):Prop:=(xs.length:Int)=pl /\ ∀ k,k < xs.length -> jn (xs.getD k dI)
theorem GE {S1:Setup} (hV:SetV S1) {M0:MemS} (hT:TE2 S1 0 M0) {xss:List (List Inp)} (J:Nat -> Nat × Int) (n:Nat) (hn:n <= 50) (hr:∀ i,i < n -> fQ S1.players (xss.getD i [])):∀ i,i <= n -> TE2 S1 (i:Int) (xB (rG S1 J xss) M0 i)
 | 0,_=>hT
 | i+1,h=>by
  have ih:=GE hV hT J n hn hr i (by omega)
  have:=(GD hV (t:=(i:Int)) (by omega) ih (hr i (by omega)).1 (hr i (by omega)).2 (J i)).2
  rw [xB]
  exact_mod_cast this
theorem ND {S1:Setup} (hV:SetV S1) {M0:MemS} (hT:TE2 S1 0 M0) {xss:List (List Inp)} (J:Nat -> Nat × Int) (n:Nat) (hn:n <= 50) (hr:∀ i,i < n -> fQ S1.players (xss.getD i [])) (i:Nat) (hi:i < n):TkOk S1 (J i) (xss.getD i []) (xB (rG S1 J xss) M0 i) :=
 (GD hV (t:=(i:Int)) (by omega) (GE hV hT J n hn hr i (by omega)) (hr i hi).1 (hr i hi).2 (J i)).1
theorem GG {n:Int} (h:0 <= n):jn (vQ n):=by
 unfold jn vQ
 dsimp only
 split <;> omega
theorem Jo {F:HL} {A:Option Addr} {n:Nat} {xs:List Int} (hl:ArgL F A n xs) {pl:Int} (hp:0 <= pl) (t:Int):fQ pl (rowL pl xs t pl.toNat):=by
 refine ⟨by rw [ff];omega,λ k hk=>?_⟩
 rw [ff] at hk
 rw [EZ hk]
 exact GG (Iw hl pl t k).1
theorem GH {S S1:Setup} (hV:SetV S) (he:SetEq S S1):TE2 S1 0 ⟨eA S S.nb,[],0⟩:=(Jm hV).eq he
section
variable {S S1:Setup} {rs_:List Bx} {ds_:List Dr} {bp n cap:Nat} {j:Nat × Int} {A:Option Addr} {rs:List Rw} {xss:List (List Inp)} {F:HL}
end
theorem SlIs.rowN {α:Type} {e:Enc α} {T:TypeId} {l:List α} {A:Option Addr} {cap n:Nat} {Hl F:HL} (h:SlIs e T l A cap Hl) (hF:∀ x ∈ Hl,x ∈ F) (hn:l.length=n):RowL e T F A n l:=hn ▸ h.toRowL hF
theorem GI {n m k:Int} (e:aC n m=k) (hm:0 < m) (F:HL):Sp Tryz.prog 15 #[vI n,vI m] [] F (λ u H'=>u=vI k /\ H'=[]):=e ▸ iE n m (by omega) F
theorem Jp {S:Setup} {A:Option Addr} {n cap:Nat} {xs:List Inp} {F:HL} (hl:RowB F A n λ k=>xs.getD k dI) (hn:n <= 1000000) (e:n=xs.length) (now:Int):Sp Tryz.prog 9 #[Setup.v S,vI now,.slice A n cap] [] F (λ u H'=>u=vI (bF S.players xs.length xs now) /\ H'=[]):=e ▸ Cv S now A n cap xs F hl hn
theorem lZ {α:Type} {l r:List α} {o:Nat} (h:(l.drop o).take r.length=r) {k:Nat} (hk:k < r.length) (d:α):l.getD (o+k) d=r.getD k d:=by
 have h1:((l.drop o).take r.length)[k]?=r[k]?:=by rw [h]
 rw [List.getElem?_take,if_pos hk,List.getElem?_drop] at h1
 rw [List.getD_eq_getElem?_getD,List.getD_eq_getElem?_getD,h1]
structure Ver where (t:Int) (A:Option Addr) (n c:Nat) (e0 e1 e2:Int)
def fd:Enc Ver:=⟨5,λ p k=>match k with | 0=>vI p.t | 1=>.slice p.A p.n p.c | 2=>vI p.e0 | 3=>vI p.e1 | _=>vI p.e2,⟨0,none,0,0,0,0,0⟩⟩
noncomputable def J9:TypeInfo:=match Tryz.prog.info? 107 with | some i=>i | none=>⟨.bool,"",0,0,false,0,0,none,false,#[]⟩
noncomputable def Ka:Value:=match J9.zero with | some z=>z | none=>.bool false
theorem LH:EncOk fd Tryz.prog 107 J9 Ka where
 info:=by kernel_rfl
 zero:=by kernel_rfl
 size:=by kernel_rfl
 zsize:=by kernel_rfl
 zcell:=λ k hk=>by
  have h:∀ k < 5,Ka.cells[k]?=some (fd.cell fd.dflt k):=by intro k hk;(iterate 5 (rcases k with _ | k;· kernel_rfl));omega
  exact h k hk
 one:=λ x k=>by unfold fd;dsimp only;split <;> rfl
 bytes:=Nat.le_of_ble_eq_true (by kernel_rfl)
abbrev jR (t:Int) (j:Nat) (A:Option Addr) (c:Nat):Ver:=⟨t,A,cD j,c,bA j 0,bA j 1,bA j 2⟩
inductive Book2 (tk:Int) (j1 j2 bp:Nat):HL -> Prop
 | mk (A:Option Addr) (c:Nat) (A1 A2:Option Addr) (c1 c2:Nat) (Hl T1 T2:HL) (hs:SlIs fd 107 [jR 0 j1 A1 c1,jR tk j2 A2 c2] A c Hl) (h1:CodT j1 A1 T1) (h2:CodT j2 A2 T2):Book2 tk j1 j2 bp (ap [(bp,.lit [.slice A 2 c] 110 (0,0))] [Hl,T1,T2])
theorem Jq (tk:Int) (htk:0 < tk) (j1 j2 bp q:Nat) (Aa:Option Addr) (ca:Nat) (Tz F:HL) (hj2:j2 < 5) (hE:o7 F) (h1:CodT j1 Aa Tz):Sp Tryz.prog 19 #[vP bp 0,vI tk,.string (o0 j2)] (ap [(bp,.lit [vS q 0 1 1] 110 (0,0)),(q,.lit [vI 0,.slice Aa (cD j1) ca,vI (bA j1 0),vI (bA j1 1),vI (bA j1 2)] 107 (0,0))] [Tz]) F (λ u H'=>∃ x:HL,H'=ap [] [x] /\ (u=vI 0 /\ Book2 tk j1 j2 bp x)):=by
 refine Sp.run Tryz.func19 rfl mn (A:=[(bp,.lit [vS q 0 1 1] 110 (0,0)),(q,.lit [vI 0,.slice Aa (cD j1) ca,vI (bA j1 0),vI (bA j1 1),vI (bA j1 2)] 107 (0,0))]) (Ts:=[Tz]) rfl λ w0=>?_
 refine ae 21 [.own 0] λ _=>RN.draw [] []<|ag [] [0,1,5,2,6,3,7,4,8,9,10,11,12,13,14] [.own 0,.own 0,.own 1]<|RD.fin<|ae 1 [] λ _=>RN.fx 29 (decide_eq_false (show ¬ tk <= 0 by omega))<|ae 6 [] λ _=>RN.ct (Hp:=[]) (Tp:=[]) [] [] (Gh hj2 _ (aw hE)) ?_
 rintro _ ⟨A1,c2,T3⟩ ⟨rfl,hC4⟩
 dsimp only at hC4
 refine ae 19 [.own 0,.own 0,.own 0,.own 0] λ n5=>RN.draw [9,12] []<|ag [] [0,1,5,6,2,7,3,4] [.own 0,.own 0,.own 0,.own 0,.own 1]<|RD.one 8 (RDO.ev [] [] λ n7=>?_)
 refine RD.dn 3 (.rows 5 1 (bn fd [jR 0 j1 Aa ca]) 107 (0,0))<|Mv 3<|RD.one 9 (ld [] LH ([jR 0 j1 Aa ca]) [jR tk j2 A1 c2] 0 0 rfl (SlIs.one (b:=q)) (Nat.le_of_ble_eq_true rfl) ?_)
 rintro A8 c9 T10 ⟨hs11,hz12⟩
 refine ag [] [10,11] []<|RD.one 12 (RDO.ev [] [.own 2] λ _=>?_)
 refine RD.fin<|ae 6 [] λ _=>RN.ret [] [2] [0,2,1] (v:=vI 0) (H':=(ap [(bp,.lit [.slice A8 2 c9] 110 (0,0))] [T10,Tz,T3])) ?_
 exact ⟨ap [(bp,.lit [.slice A8 2 c9] 110 (0,0))] [T10,Tz,T3],by simp [ap],rfl,.mk _ _ _ _ _ _ _ _ _ hs11 h1 hC4⟩
theorem Jr {j1 bp:Nat} {TB:HL} (hB:Book1 j1 bp TB) (tk:Int) (htk:0 < tk) (j2:Nat) (F:HL) (hj2:j2 < 5) (hE:o7 F):Sp Tryz.prog 19 #[vP bp 0,vI tk,.string (o0 j2)] (ap [] [TB]) F (λ u H'=>∃ x:HL,H'=ap [] [x] /\ (u=vI 0 /\ Book2 tk j1 j2 bp x)):=by
 cases hB with
 | mk q A c T h =>
  rw [bj]
  exact Jq tk htk j1 j2 bp q A c T F hj2 hE h
theorem NE (q2 q3:Nat) (tk:Int) (bp b o c j1 j2:Nat) (full:List Ver) (Aa Ab:Option Addr) (ca cb:Nat) (t:Int) (F:HL) (hb:(bp,.lit [vS b (o * 5) 2 c] 110 (0,0)) ∈ F) (hq:(b,.rows 5 (o+c) (bn fd full) 107 (0,0)) ∈ F) (hc:2 <= c) (hg0:full.getD o fd.dflt=jR 0 j1 Aa ca) (hg1:full.getD (1+o) fd.dflt=jR tk j2 Ab cb) (ht:0 <= t) (h2:(q2,.lit [vP bp 0] 34 (0,0)) ∈ F) (h3:(q3,.lit [vI t] 3 (0,0)) ∈ F):Sp Tryz.prog 138 #[vI 0,vP q2 0,vP q3 0] [] F (λ u H'=>u=.bool false /\ H'=[]):=by
 refine Sp.run Tryz.func138 rfl (mc h2 (mc h3 (mc hb (mc hq mn)))) (A:=[]) (Ts:=[]) rfl λ w0=>?_
 refine ae 6 [] λ _=>RN.draw [] []<|aJ [] [0,4,8,1,2,3,5,6,7] [.ro 0,.ro 1,.ro 2,.rorow 3 o 0] [o * 5=o * 5+0 /\ o < (o+c)]<|lO 12 (congrArg (λ v_:Ver=>vI v_.t) hg0)<|ag [] [9,10] []<|RD.fin<|ae 1 [] λ _=>RN.ret [] [] [] (v:=.bool (decide (0 > t))) (H':=[]) ?_
 exact ⟨congrArg Value.bool (decide_eq_false (by omega)),rfl⟩
theorem Kb (q2 q3:Nat) (tk:Int) (bp b o c j1 j2:Nat) (full:List Ver) (Aa Ab:Option Addr) (ca cb:Nat) (t:Int) (F:HL) (hb:(bp,.lit [vS b (o * 5) 2 c] 110 (0,0)) ∈ F) (hq:(b,.rows 5 (o+c) (bn fd full) 107 (0,0)) ∈ F) (hc:2 <= c) (hg0:full.getD o fd.dflt=jR 0 j1 Aa ca) (hg1:full.getD (1+o) fd.dflt=jR tk j2 Ab cb) (ht:0 <= t) (h2:(q2,.lit [vP bp 0] 34 (0,0)) ∈ F) (h3:(q3,.lit [vI t] 3 (0,0)) ∈ F):Sp Tryz.prog 138 #[vI 1,vP q2 0,vP q3 0] [] F (λ u H'=>u=.bool (decide (tk > t)) /\ H'=[]):=by
 refine Sp.run Tryz.func138 rfl (mc h2 (mc h3 (mc hb (mc hq mn)))) (A:=[]) (Ts:=[]) rfl λ w0=>?_
 refine ae 6 [] λ _=>RN.draw [] []<|aJ [] [0,4,8,1,2,3,5,6,7] [.ro 0,.ro 1,.ro 2,.rorow 3 (1+o) 0] [(o * 5+5)=(1+o) * 5+0 /\ (1+o) < (o+c)]<|lO 12 (congrArg (λ v_:Ver=>vI v_.t) hg1)<|ag [] [9,10] []<|RD.fin<|ae 1 [] λ _=>?_
 exact RN.ret [] [] [] ⟨rfl,rfl⟩
theorem GJ (q2 q3:Nat) (tk:Int) (bp b o c j1 j2:Nat) (full:List Ver) (Aa Ab:Option Addr) (ca cb:Nat) (t:Int) (F:HL) (hb:(bp,.lit [vS b (o * 5) 2 c] 110 (0,0)) ∈ F) (hq:(b,.rows 5 (o+c) (bn fd full) 107 (0,0)) ∈ F) (hc:2 <= c) (hg0:full.getD o fd.dflt=jR 0 j1 Aa ca) (hg1:full.getD (1+o) fd.dflt=jR tk j2 Ab cb) (ht:0 <= t) (h2:(q2,.lit [vP bp 0] 34 (0,0)) ∈ F) (h3:(q3,.lit [vI t] 3 (0,0)) ∈ F) (h2t:tk > t):Sp Tryz.prog 137 #[vI 2,.func (.func 138) #[] #[vP q2 0,vP q3 0]] [] F (λ u H'=>u=vI 1 /\ H'=[]):=by
 refine Sp.run Tryz.func137 rfl (mc h2 (mc h3 (mc hb (mc hq mn)))) (A:=[]) (Ts:=[]) rfl λ w0=>?_
 refine ae 14 [] λ _=>RN.rounds 4<|ae 27 [] λ _=>aj (Kb q2 q3 tk bp b o c j1 j2 full Aa Ab ca cb t _ (aw hb) (aw hq) hc hg0 hg1 ht (aw h2) (aw h3))<|ae 3 [] λ _=>RN.fx 21 (nt (decide_eq_true h2t))<|ae 34 [] λ _=>aj (NE q2 q3 tk bp b o c j1 j2 full Aa Ab ca cb t _ (aw hb) (aw hq) hc hg0 hg1 ht (aw h2) (aw h3))<|ae 31 [] λ _=>?_
 exact RN.ret [] [] [] ⟨rfl,rfl⟩
theorem GK (q2 q3:Nat) (tk:Int) (bp b o c j1 j2:Nat) (full:List Ver) (Aa Ab:Option Addr) (ca cb:Nat) (t:Int) (F:HL) (hb:(bp,.lit [vS b (o * 5) 2 c] 110 (0,0)) ∈ F) (hq:(b,.rows 5 (o+c) (bn fd full) 107 (0,0)) ∈ F) (hc:2 <= c) (hg0:full.getD o fd.dflt=jR 0 j1 Aa ca) (hg1:full.getD (1+o) fd.dflt=jR tk j2 Ab cb) (ht:0 <= t) (h2:(q2,.lit [vP bp 0] 34 (0,0)) ∈ F) (h3:(q3,.lit [vI t] 3 (0,0)) ∈ F) (h2t:¬ tk > t):Sp Tryz.prog 137 #[vI 2,.func (.func 138) #[] #[vP q2 0,vP q3 0]] [] F (λ u H'=>u=vI 2 /\ H'=[]):=by
 refine Sp.run Tryz.func137 rfl (mc h2 (mc h3 (mc hb (mc hq mn)))) (A:=[]) (Ts:=[]) rfl λ w0=>?_
 refine ae 14 [] λ _=>RN.rounds 4<|ae 27 [] λ _=>aj (Kb q2 q3 tk bp b o c j1 j2 full Aa Ab ca cb t _ (aw hb) (aw hq) hc hg0 hg1 ht (aw h2) (aw h3))<|ae 3 [] λ _=>RN.fx 21 (nf (decide_eq_false h2t))<|ae 28 [] λ _=>?_
 exact RN.ret [] [] [] ⟨rfl,rfl⟩
theorem O5 (tk:Int) (bp b o c j1 j2:Nat) (full:List Ver) (Aa Ab:Option Addr) (ca cb:Nat) (t:Int) (F:HL) (hb:(bp,.lit [vS b (o * 5) 2 c] 110 (0,0)) ∈ F) (hq:(b,.rows 5 (o+c) (bn fd full) 107 (0,0)) ∈ F) (hc:2 <= c) (hg0:full.getD o fd.dflt=jR 0 j1 Aa ca) (hg1:full.getD (1+o) fd.dflt=jR tk j2 Ab cb) (ht:0 <= t) (hj:j1 < 5) (hC:SrcIn Tryz.prog gQ F Aa (cD j1) (fE j1)) (h2t:tk > t):Sp Tryz.prog 117 #[vP bp 0,vI t] [] F (λ u H'=>∃ x:Option Addr × Nat × HL,H'=ap [] [x.2.2] /\ (u=.tuple #[vI 0,.agg #[.slice x.1 (cD j1) x.2.1,vI (bA j1 0),vI (bA j1 1),vI (bA j1 2)]] /\ ClS gQ 176 (fE j1) x.1 x.2.1 x.2.2)):=by
 refine Sp.run Tryz.func117 rfl (mc hb (mc hq mn)) (A:=[]) (Ts:=[]) rfl λ w0=>?_
 refine ae 16 [.own 2,.ro 0] λ n1=>aj (GJ (n1+0) (n1+1) tk bp b o c j1 j2 full Aa Ab ca cb t _ (aw hb) (aw hq) hc hg0 hg1 ht (aB 2) (aB 1) h2t)<|ai 21 [.own 2,.ro 0,.rorow 1 o 1,.rorow 1 o 2,.rorow 1 o 3,.rorow 1 o 4] [(o * 5+4)=o * 5+4 /\ o < (o+c),(o * 5+3)=o * 5+3 /\ o < (o+c),(o * 5+2)=o * 5+2 /\ o < (o+c),(o * 5+1)=o * 5+1 /\ o < (o+c)] λ _=>aK 26 (congrArg (λ v_:Ver=>(.agg #[.slice v_.A v_.n v_.c,vI v_.e0,vI v_.e1,vI v_.e2]:Value)) hg0)<|ae 5 [.own 0,.own 0,.own 0,.own 0] λ n2=>RN.draw [8] []<|ag [] [0,1,4,2,5] [.own 0,.own 0,.own 0,.own 0]<|RD.one 3 (RDO.ct [] (Hp:=[]) (Tp:=[]) [] [] (lT Aa (cD j1) ca (fE j1) _ hC.up (by have:=pP hj;omega)) ?_)
 rintro _ ⟨A3,c4,T5⟩ ⟨rfl,hc6⟩
 dsimp only at hc6
 refine ag [] [6,7] []<|RD.one 8 (RDO.ev [] [.own 1,.own 1,.own 1,.own 1] λ _=>?_)
 refine RD.fin<|ae 1 [] λ _=>RN.ret [.own 1,.own 1,.own 1,.own 1] [] [0] (v:=.tuple #[vI 0,.agg #[.slice A3 (cD j1) c4,vI (bA j1 0),vI (bA j1 1),vI (bA j1 2)]]) (H':=(ap [] [T5])) ?_
 exact ⟨(A3,c4,T5),rfl,rfl,hc6⟩
theorem O6 (tk:Int) (bp b o c j1 j2:Nat) (full:List Ver) (Aa Ab:Option Addr) (ca cb:Nat) (t:Int) (F:HL) (hb:(bp,.lit [vS b (o * 5) 2 c] 110 (0,0)) ∈ F) (hq:(b,.rows 5 (o+c) (bn fd full) 107 (0,0)) ∈ F) (hc:2 <= c) (hg0:full.getD o fd.dflt=jR 0 j1 Aa ca) (hg1:full.getD (1+o) fd.dflt=jR tk j2 Ab cb) (ht:0 <= t) (hj:j2 < 5) (hC:SrcIn Tryz.prog gQ F Ab (cD j2) (fE j2)) (h2t:¬ tk > t):Sp Tryz.prog 117 #[vP bp 0,vI t] [] F (λ u H'=>∃ x:Option Addr × Nat × HL,H'=ap [] [x.2.2] /\ (u=.tuple #[vI 1,.agg #[.slice x.1 (cD j2) x.2.1,vI (bA j2 0),vI (bA j2 1),vI (bA j2 2)]] /\ ClS gQ 176 (fE j2) x.1 x.2.1 x.2.2)):=by
 refine Sp.run Tryz.func117 rfl (mc hb (mc hq mn)) (A:=[]) (Ts:=[]) rfl λ w0=>?_
 refine ae 16 [.own 2,.ro 0] λ n1=>aj (GK (n1+0) (n1+1) tk bp b o c j1 j2 full Aa Ab ca cb t _ (aw hb) (aw hq) hc hg0 hg1 ht (aB 2) (aB 1) h2t)<|ai 21 [.own 2,.ro 0,.rorow 1 (1+o) 1,.rorow 1 (1+o) 2,.rorow 1 (1+o) 3,.rorow 1 (1+o) 4] [(o * 5+9)=(1+o) * 5+4 /\ (1+o) < (o+c),(o * 5+8)=(1+o) * 5+3 /\ (1+o) < (o+c),(o * 5+7)=(1+o) * 5+2 /\ (1+o) < (o+c),(o * 5+6)=(1+o) * 5+1 /\ (1+o) < (o+c)] λ _=>aK 26 (congrArg (λ v_:Ver=>(.agg #[.slice v_.A v_.n v_.c,vI v_.e0,vI v_.e1,vI v_.e2]:Value)) hg1)<|ae 5 [.own 0,.own 0,.own 0,.own 0] λ n2=>RN.draw [8] []<|ag [] [0,1,4,2,5] [.own 0,.own 0,.own 0,.own 0]<|RD.one 3 (RDO.ct [] (Hp:=[]) (Tp:=[]) [] [] (lT Ab (cD j2) cb (fE j2) _ hC.up (by have:=pP hj;omega)) ?_)
 rintro _ ⟨A3,c4,T5⟩ ⟨rfl,hc6⟩
 dsimp only at hc6
 refine ag [] [6,7] []<|RD.one 8 (RDO.ev [] [.own 1,.own 1,.own 1,.own 1] λ _=>?_)
 refine RD.fin<|ae 1 [] λ _=>RN.ret [.own 1,.own 1,.own 1,.own 1] [] [0] (v:=.tuple #[vI 1,.agg #[.slice A3 (cD j2) c4,vI (bA j2 0),vI (bA j2 1),vI (bA j2 2)]]) (H':=(ap [] [T5])) ?_
 exact ⟨(A3,c4,T5),rfl,rfl,hc6⟩
theorem Book2.at {tk:Int} {j1 j2 bp:Nat} {TB F:HL} (hB:Book2 tk j1 j2 bp TB) (hT:∀ x ∈ TB,x ∈ F) (hj1:j1 < 5) (hj2:j2 < 5) (t:Int) (ht:0 <= t):AtOk F bp t (if tk > t then (j1,0) else (j2,1)):=λ F' hF=>by
 cases hB with
 | mk A c A1 A2 c1 c2 Hl T1 T2 hs h1 h2 =>
  rcases hs with ⟨_,_,h,_⟩ | ⟨b,o,full,rfl,rfl,e1,e2,e3⟩
  ·cases h
  ·have hc:2 <= c:=e2
   have hg0:full.getD o fd.dflt=jR 0 j1 A1 c1:=by have:=lZ e3 (k:=0) (by simp) fd.dflt;rw [Nat.add_zero] at this;exact this
   have hg1:full.getD (1+o) fd.dflt=jR tk j2 A2 c2:=by have:=lZ e3 (k:=1) (by simp) fd.dflt;rw [Nat.add_comm o 1] at this;exact this
   have hm:∀ x,x ∈ ap [(bp,Blk.lit [.slice (some ⟨b,o * fd.w,none⟩) 2 c] 110 (0,0))] [[(b,.rows fd.w (o+c) (bn fd full) 107 (0,0))],T1,T2] -> x ∈ F':=λ x hx=>hF x (hT x hx)
   by_cases h2t:tk > t
   ·rw [if_pos h2t]
    exact O5 tk bp b o c j1 j2 full A1 A2 c1 c2 t F' (hm _ (List.mem_append_left _ List.mem_cons_self)) (hm _ (List.mem_append_right _ List.mem_cons_self)) hc hg0 hg1 ht hj1 (h1.src F' λ x hx=>hm x (by simp [ap,hx])) h2t
   ·rw [if_neg h2t]
    exact O6 tk bp b o c j1 j2 full A1 A2 c1 c2 t F' (hm _ (List.mem_append_left _ List.mem_cons_self)) (hm _ (List.mem_append_right _ List.mem_cons_self)) hc hg0 hg1 ht hj2 (h2.src F' λ x hx=>hm x (by simp [ap,hx])) h2t
def GL (i v:Int):Int:=kK ⟨#[108,101,97,102]⟩ [i,v]
def AY (a b:Int):Int:=kK ⟨#[112,97,105,114]⟩ [bd a,bd b]
def GM:Int:=kK ⟨#[101,109,112,116,121]⟩ []
def kz (n:Nat):Nat:=if n <= 1 then 0 else Lib.bitLen (n - 1)
def uB (n:Nat):Nat:=2 ^ kz n
theorem LI {n:Nat} (h:(n:Int) <= 1):kz n=0:=by
 unfold kz
 rw [if_pos (by omega)]
theorem LJ {n:Nat} (hl:n <= 1000000) (h:¬ (n:Int) <= 1):tM ((n:Int) - 1)=(kz n:Int):=by
 unfold kz tM
 rw [if_neg (by omega)]
 have e:(uR ((n:Int) - 1)).toNat=n - 1:=by
  rw [show uR ((n:Int) - 1)=(n:Int) - 1 by rw [uR,IntKind.wrap];simp [IntKind.signed,IntKind.bits];omega]
  omega
 rw [e]
theorem Kd:∀ (f x:Nat),x < 2 ^ f -> x ≠ 0 -> ∃ m,Lib.bitLenAux f x=m+1 /\ 2 ^ m <= x /\ x < 2 ^ (m+1)
 | 0,x,h,h0=>absurd (by simpa using h) h0
 | f+1,x,h,h0=>by
  rw [Lib.bitLenAux,if_neg h0]
  by_cases h2:x / 2=0
  ·have e:Lib.bitLenAux f (x / 2)=0:=by rw [h2];cases f <;> simp [Lib.bitLenAux]
   rw [e]
   exact ⟨0,rfl,by simp;omega,by simp;omega⟩
  ·obtain ⟨m,e,h3,h4⟩:=Kd f (x / 2) (by rw [Nat.pow_succ] at h;omega) h2
   rw [e]
   exact ⟨m+1,by omega,by rw [Nat.pow_succ];omega,by rw [Nat.pow_succ];omega⟩
theorem yZ {n:Nat} (h:n <= 1000000):kz n <= 20 /\ n <= uB n /\ 1 <= uB n /\ uB n <= 2000000:=by
 unfold uB kz
 by_cases h1:n <= 1
 ·rw [if_pos h1]
  simp
  omega
 ·rw [if_neg h1]
  obtain ⟨m,e,b2,b3⟩:=Kd 64 (n - 1) (by omega) (by omega)
  rw [show Lib.bitLen (n - 1)=m+1 from e]
  have hm:m < 20:=by
   apply Classical.byContradiction
   intro hn
   have:=Nat.pow_le_pow_right (n:=2) (by omega) (show 20 <= m by omega)
   omega
  rw [Nat.pow_succ] at b3 ⊢
  omega
theorem NF {n:Nat} (h:n <= 1000000):IntKind.i64.wrap (1 * 2 ^ min ((kz n:Int)).toNat 64)=(uB n:Int):=by
 obtain ⟨h1,h2,h3,h4⟩:=yZ h
 rw [Int.toNat_natCast,Nat.min_eq_left (by omega),IntKind.wrap_i64]
 have e:(1:Int) * 2 ^ kz n=(uB n:Int):=by
  unfold uB
  rw [Int.one_mul]
  norm_cast
 rw [e]
 omega
def iW (f:Nat -> Int):Nat -> Nat -> Value:=λ i k=>match k with | 0=>.int .u64 (f i) | _=>default
def za (f:Nat -> Int) (i:Nat) (v:Int):Nat -> Int:=λ j=>if j=i then v else f j
theorem rg (f:Nat -> Int) (i:Nat) (v:Int):dT (iW f) i 0 (.int .u64 v)=iW (za f i v):=by
 funext j k
 unfold dT iW za
 cases k with
 | zero=>by_cases h:j=i <;> simp [h]
 | succ k=>simp
def Ke (xs:List Int) (sz:Nat):Nat -> Nat -> Int
 | 0=>λ _=>0
 | i+1=>za (Ke xs sz i) (sz+i) (GL i (xs.getD i 0))
def HA (xs:List Int) (sz:Nat):Nat -> Nat -> Int
 | 0=>Ke xs sz xs.length
 | m+1=>za (HA xs sz m) (sz+(xs.length+m)) GM
def tj (xs:List Int) (sz:Nat):Nat -> Nat -> Int
 | 0=>HA xs sz (sz - xs.length)
 | m+1=>za (tj xs sz m) (sz - 1 - m) (AY (tj xs sz m (2 * (sz - 1 - m))) (tj xs sz m (2 * (sz - 1 - m)+1)))
def iK (xs:List Int):Int:=tj xs (uB xs.length) (uB xs.length - 1) 1
theorem CY (xs:List Int) (sz:Nat):iU [.int .u64 0]=iW (Ke xs sz 0):=by
 funext j k
 cases k with
 | zero=>rfl
 | succ k=>simp [iU,iW]
theorem Js {xs:List Int} {sz j:Nat} (h:xs.length <= j):za (HA xs sz (j - xs.length)) (sz+j) GM=HA xs sz (j+1 - xs.length):=by
 rw [show j+1 - xs.length=(j - xs.length)+1 by omega,HA,show xs.length+(j - xs.length)=j by omega]
theorem Jt {xs:List Int} {sz k:Nat} (h:k+1 <= sz) (h1:1 <= k):za (tj xs sz (sz - 1 - k)) k (AY (tj xs sz (sz - 1 - k) (2 * k)) (tj xs sz (sz - 1 - k) (2 * k+1)))=tj xs sz (sz - 1 - (k - 1)):=by
 rw [show sz - 1 - (k - 1)=(sz - 1 - k)+1 by omega,tj,show sz - 1 - (sz - 1 - k)=k by omega]
theorem CZ (xs:List Int) {n:Nat} (h:xs.length=n):bB 1 (aO xs) n=xs.map vI:=by
 refine ie (by simpa using h) λ i k hi hk=>?_
 obtain rfl:k=0:=by omega
 have hi2:i < xs.length:=by omega
 simp [aO,List.getD_eq_getElem?_getD,List.getElem?_eq_getElem hi2]
theorem GN {q c:Nat} {ty:TypeId} {xs:List Int} {H F:HL} (hq:(q,.rows 1 c (aO xs) ty (0,0)) ∈ H++F) (hc:xs.length <= c):∀ w,Rel (H++F) w -> ∀ j v,(xs.map vI)[j]?=some v -> w.cell? (Addr.add ⟨q,0,none⟩ j)=some v:=by
 intro w hr j v hv
 have hj:j < xs.length:=by
  have:=(List.getElem?_eq_some_iff.1 hv).1
  simpa using this
 have hb:=hr.holds _ hq
 rw [show Addr.add ⟨q,0,none⟩ j=⟨q,j,none⟩ by unfold Addr.add;split <;> simp_all,gX (i:=j) (k:=0) hb rfl rfl (by simp) (by omega) (by omega)]
 rw [<- hv]
 simp [aO,List.getD_eq_getElem?_getD,List.getElem?_eq_getElem hj]
theorem LK {xs:List Int}:∀ v ∈ xs.map vI,v.oneCell'=true:=by
 intro v hv
 obtain ⟨x,_,rfl⟩:=List.mem_map.1 hv
 rfl
theorem GO (b:ByteArray) (F:HL) (hb:b.size <= 1000000):Sp Tryz.prog 24 #[.string b,.slice none 0 0] [] F (λ u H'=>u=.int .u64 (kK b []) /\ H'=[]):=by
 refine Sp.run Tryz.func24 rfl mn (A:=[]) (Ts:=[]) rfl λ w0=>?_
 refine ae 10 [] λ _=>aj (iA b 0 _ (by assumption))<|ae 12 [] λ _=>RN.rounds 1<|ae 15 [] λ _=>aj (eE (cJ b 0) 0 _)<|ae 3 [] λ _=>?_
 exact RN.ret [] [] [] ⟨rfl,rfl⟩
theorem zb (n:Nat) (F:HL) (hl:n <= 1000000):Sp Tryz.prog 110 #[vI (n:Int)] [] F (λ u H'=>u=vI (kz n:Int) /\ H'=[]):=by
 refine Sp.run Tryz.func110 rfl mn (A:=[]) (Ts:=[]) rfl λ w0=>?_
 refine ae 12 [] λ _=>RN.em ((n:Int) <= 1) 4 (λ h1=>?_) λ h1=>?_
 ·refine ae 6 [] λ _=>RN.ret [] [] [] (v:=vI 0) (H':=[]) ?_
  exact ⟨congrArg (λ x:Nat=>vI (x:Int)) (LI (by assumption)).symm,rfl⟩
 ·refine ai 8 [.nw] [bg ((n:Int) - 1)] λ _=>aj (uS ((n:Int) - 1) _)<|ae 3 [] λ _=>RN.ret [] [] [] (v:=vI (tM ((n:Int) - 1))) (H':=[]) ?_
  exact ⟨congrArg vI (LJ hl (by assumption)),rfl⟩
theorem C0 (i v:Int) (F:HL):Sp Tryz.prog 111 #[vI i,vI v] [] F (λ u H'=>u=.int .u64 (GL i v) /\ H'=[]):=by
 refine Sp.run Tryz.func111 rfl mn (A:=[]) (Ts:=[]) rfl λ w0=>?_
 refine ae 10 [] λ n1=>RN.dn 0 (.rows 1 2 (aO [i,v]) 3 (0,0))<|aj (m8 (⟨#[108,101,97,102]⟩) ([i,v]) (n1+0) 2 _ (by decide) (Nat.le_of_ble_eq_true rfl) (Nat.le_of_ble_eq_true rfl) (aB 0))<|ae 3 [] λ _=>?_
 exact RN.ret [] [] [] ⟨rfl,rfl⟩
theorem C1 (a b:Int) (F:HL):Sp Tryz.prog 112 #[.int .u64 a,.int .u64 b] [] F (λ u H'=>u=.int .u64 (AY a b) /\ H'=[]):=by
 refine Sp.run Tryz.func112 rfl mn (A:=[]) (Ts:=[]) rfl λ w0=>?_
 refine ae 12 [] λ n1=>RN.dn 0 (.rows 1 2 (aO [IntKind.i64.wrap a,IntKind.i64.wrap b]) 3 (0,0))<|aj (m8 (⟨#[112,97,105,114]⟩) ([IntKind.i64.wrap a,IntKind.i64.wrap b]) (n1+0) 2 _ (by decide) (Nat.le_of_ble_eq_true rfl) (Nat.le_of_ble_eq_true rfl) (aB 0))<|ae 3 [] λ _=>?_
 exact RN.ret [] [] [] ⟨rfl,rfl⟩
theorem GP (q c:Nat) (xs:List Int) (F:HL) (hq:(q,.rows 1 c (aO xs) 3 (0,0)) ∈ F) (hc:xs.length <= c) (hl:xs.length <= 1000000):Sp Tryz.prog 83 #[vS q 0 xs.length c] (ap [] []) F (λ u H'=>∃ x:Nat × Nat × Nat,H'=ap [(x.1,.lit [vI (kz xs.length:Int),vS x.2.1 0 xs.length xs.length,vS x.2.2 0 (2 * uB xs.length) (2 * uB xs.length)] 210 (0,0)),(x.2.1,.rows 1 xs.length (aO xs) 3 (0,0)),(x.2.2,.rows 1 (2 * uB xs.length) (iW (tj xs (uB xs.length) (uB xs.length - 1))) 45 (0,0))] [] /\ u=vP x.1 0):=by
 obtain ⟨hb1,hb2,hb3,hb4⟩:=yZ hl
 have he:=NF hl
 obtain ⟨sz,hsz⟩:∃ sz,uB xs.length=sz:=⟨_,rfl⟩
 rw [hsz] at hb2 hb3 hb4 he
 refine Sp.run Tryz.func83 rfl (mc hq mn) (A:=[]) (Ts:=[]) rfl λ w0=>?_
 refine ae 9 [] λ _=>aj (zb xs.length _ hl)<|ai 11 [.dv] [0 <= (kz xs.length:Int)] λ _=>RN.draw [] []<|lO 4 (congrArg (λ v_=>(vI v_:Value)) he)<|aJ [] [0,1,4,2,5] [.nw] [bg (2 * (sz:Int))]<|jy (σ:=Nat × Nat × Nat) (λ ⟨n1,n2,n3⟩=>⟨[(0,vS q 0 xs.length c),(4,vI (sz:Int)),(5,vP (n3+0) 0)],[((n3+0),.lit [vI (kz xs.length:Int),vS (n1+0) 0 xs.length xs.length,vS (n2+0) 0 (2 * sz) (2 * sz)] 210 (0,0)),((n2+0),.rows 1 (2 * sz) (iU [.int .u64 0]) 45 (0,0)),((n1+0),.rows 1 xs.length (iU [vI 0]) 3 (0,0))],[],True,0⟩) ?_ ?_
 ·rintro ⟨n1,n2,n3⟩
  refine ae 8 [.own 0] λ _=>RN.cpy (b:=(n1+0)) (n:=xs.length) (cap:=xs.length) (m:=xs.length) (c':=c) (a:=⟨q,0,none⟩) (T:=3) (t:=22) (tx:=22) (ty:=3) (g:=(iU [vI 0])) 2 (.rows 1 xs.length (aO xs) 3 (0,0)) (xs.map vI) (by simp) rfl LK rfl (GN (List.mem_append_right _ hq) hc) (congrArg (λ l:List Value=>(Obj.cells ⟨l⟩ 3 (0,0))) (CZ xs rfl))<|ae 11 [] λ _=>cS 1 (congrArg (λ v_=>(.rows 1 (2 * sz) v_ 45 (0,0):Blk)) (show (iU [.int .u64 0])=(iW (Ke xs sz 0)) from CY xs sz))<|RN.loop (σ:=Nat) (λ i=>⟨[(0,vS q 0 xs.length c),(4,vI (sz:Int)),(5,vP (n3+0) 0),(31,vS q 0 xs.length c),(32,vI (xs.length:Int)),(33,vI (i:Int))],[((n3+0),.lit [vI (kz xs.length:Int),vS (n1+0) 0 xs.length xs.length,vS (n2+0) 0 (2 * sz) (2 * sz)] 210 (0,0)),((n2+0),.rows 1 (2 * sz) (iW (Ke xs sz i)) 45 (0,0)),((n1+0),.rows 1 xs.length (aO xs) 3 (0,0))],[],i <= xs.length,xs.length - i⟩) 0 [0,1,2] [] (Nat.zero_le _) ?_
  rintro i hI4 mt5
  refine ae 6 [] λ _=>RN.em ((i:Int) < (xs.length:Int)) 34 (λ h6=>?_) λ h6=>?_
  ·refine ai 14 [.ix i,.rorow 0 i 0] [(0+i * 1)=i * 1+0 /\ i < c,(i:Int)=((i:Nat):Int) /\ i < xs.length] λ _=>RN.draw [11] []<|aJ [] [0,4,5,7,8,1,6,2,3] [.nw,.own 0] [bg ((sz:Int)+(i:Int))]<|au [] 9 (λ X_=>(C0 (i:Int) (xs.getD i 0) _))<|aJ [] [10] [.ix (sz+i)] [(sz:Int)+(i:Int)=(((sz+i):Nat):Int) /\ (sz+i) < (2 * sz)]<|RD.one 11 (d9 [] [.row 1 (sz+i) 0] [(0+(sz+i) * 1)=(sz+i) * 1+0 /\ (sz+i) < (2 * sz)] λ _=>?_)
   refine RD.fin<|ai 6 [.nw] [bg ((i:Int)+1)] λ _=>cS 1 (congrArg (λ v_=>(.rows 1 (2 * sz) v_ 45 (0,0):Blk)) (show (dT (iW (Ke xs sz i)) (sz+i) 0 (.int .u64 (GL (i:Int) (xs.getD i 0))))=(iW (Ke xs sz (i+1))) from (rg _ _ _))) ?_
   refine mt5 (i+1) [0,1,2] [] ?_
   try dsimp only
   exact ⟨by omega,by omega⟩
  ·obtain rfl:i=xs.length:=by omega
   refine ae 8 [] λ _=>aj (GO (⟨#[101,109,112,116,121]⟩) _ (by decide))<|ae 12 [] λ _=>cS 1 (congrArg (λ v_=>(.rows 1 (2 * sz) v_ 45 (0,0):Blk)) (show (iW (Ke xs sz xs.length))=(iW (HA xs sz (xs.length - xs.length))) from (by rw [Nat.sub_self];rfl)))<|RN.loop (σ:=Nat) (λ j=>⟨[(4,vI (sz:Int)),(5,vP (n3+0) 0),(8,.int .u64 (kK (⟨#[101,109,112,116,121]⟩) [])),(9,vI (j:Int))],[((n3+0),.lit [vI (kz xs.length:Int),vS (n1+0) 0 xs.length xs.length,vS (n2+0) 0 (2 * sz) (2 * sz)] 210 (0,0)),((n2+0),.rows 1 (2 * sz) (iW (HA xs sz (j - xs.length))) 45 (0,0)),((n1+0),.rows 1 xs.length (aO xs) 3 (0,0))],[],xs.length <= j /\ j <= sz,sz - j⟩) xs.length [0,1,2] [] (⟨Nat.le_refl _,by omega⟩) ?_
   rintro j ⟨hj_,hj2_⟩ mt8
   refine ae 8 [] λ _=>RN.em ((j:Int) < (sz:Int)) 55 (λ h9=>?_) λ h9=>?_
   ·refine ai 24 [.own 0,.nw,.ix (sz+j),.row 1 (sz+j) 0,.nw] [bg ((j:Int)+1),(0+(sz+j) * 1)=(sz+j) * 1+0 /\ (sz+j) < (2 * sz),(sz:Int)+(j:Int)=(((sz+j):Nat):Int) /\ (sz+j) < (2 * sz),bg ((sz:Int)+(j:Int))] λ _=>cS 1 (congrArg (λ v_=>(.rows 1 (2 * sz) v_ 45 (0,0):Blk)) (show (dT (iW (HA xs sz (j - xs.length))) (sz+j) 0 (.int .u64 (kK (⟨#[101,109,112,116,121]⟩) [])))=(iW (HA xs sz (j+1 - xs.length))) from (by rw [rg,<- Js (by omega)];rfl))) ?_
    refine mt8 (j+1) [0,1,2] [] ?_
    try dsimp only
    exact ⟨⟨by omega,by omega⟩,by omega⟩
   ·obtain rfl:sz=j:=by omega
    refine ai 15 [.nw] [bg ((sz:Int) - 1)] λ _=>cS 1 (congrArg (λ v_=>(.rows 1 (2 * sz) v_ 45 (0,0):Blk)) (show (iW (HA xs sz (sz - xs.length)))=(iW (tj xs sz (sz - 1 - (sz - 1)))) from (by rw [Nat.sub_self];rfl)))<|aK 10 (congrArg (λ v_=>(vI v_:Value)) (show (sz:Int) - 1=((sz - 1:Nat):Int) by omega))<|RN.loop (σ:=Nat) (λ k=>⟨[(5,vP (n3+0) 0),(10,vI (k:Int))],[((n3+0),.lit [vI (kz xs.length:Int),vS (n1+0) 0 xs.length xs.length,vS (n2+0) 0 (2 * sz) (2 * sz)] 210 (0,0)),((n2+0),.rows 1 (2 * sz) (iW (tj xs sz (sz - 1 - k))) 45 (0,0)),((n1+0),.rows 1 xs.length (aO xs) 3 (0,0))],[],k+1 <= sz,k⟩) (sz - 1) [0,1,2] [] (by omega) ?_
    rintro k hI10 mt11
    refine ae 7 [] λ _=>RN.em ((k:Int) >= 1) 70 (λ h12=>?_) λ h12=>?_
    ·refine ae 5 [] λ _=>RN.draw [24] []<|aJ [] [0,4,5,9,13,17,1,6,10,14,18,2,7,15,19,3,8,16,11,20,12,21] [.nw,.nw,.nw,.own 0,.own 0,.own 0,.ix (2 * k),.ix (2 * k+1),.row 1 (2 * k) 0,.row 1 (2 * k+1) 0] [(0+(2 * k+1) * 1)=(2 * k+1) * 1+0 /\ (2 * k+1) < (2 * sz),(0+(2 * k) * 1)=(2 * k) * 1+0 /\ (2 * k) < (2 * sz),(2 * (k:Int))+1=(((2 * k+1):Nat):Int) /\ (2 * k+1) < (2 * sz),2 * (k:Int)=(((2 * k):Nat):Int) /\ (2 * k) < (2 * sz),bg ((2 * (k:Int))+1),bg (2 * (k:Int)),bg (2 * (k:Int))]<|au [] 22 (λ X_=>(C1 ((tj xs sz (sz - 1 - k)) (2 * k)) ((tj xs sz (sz - 1 - k)) (2 * k+1)) _))<|aJ [] [23] [.ix k] [(k:Int)=((k:Nat):Int) /\ k < (2 * sz)]<|RD.one 24 (d9 [] [.row 1 k 0] [(0+k * 1)=k * 1+0 /\ k < (2 * sz)] λ _=>?_)
     refine RD.fin<|ai 7 [.nw] [bg ((k:Int) - 1)] λ _=>cS 1 (congrArg (λ v_=>(.rows 1 (2 * sz) v_ 45 (0,0):Blk)) (show (dT (iW (tj xs sz (sz - 1 - k))) k 0 (.int .u64 (AY ((tj xs sz (sz - 1 - k)) (2 * k)) ((tj xs sz (sz - 1 - k)) (2 * k+1)))))=(iW (tj xs sz (sz - 1 - (k - 1)))) from (by rw [rg,Jt (by omega) (by omega)])))<|aK 10 (congrArg (λ v_=>(vI v_:Value)) (show (k:Int) - 1=((k - 1:Nat):Int) by omega)) ?_
     refine mt11 (k - 1) [0,1,2] [] ?_
     try dsimp only
     exact ⟨by omega,by omega⟩
    ·obtain rfl:k=0:=by omega
     refine ae 12 [] λ _=>RN.ret [] [0,2,1] [] (v:=vP (n3+0) 0) (H':=[((n3+0),.lit [vI (kz xs.length:Int),vS (n1+0) 0 xs.length xs.length,vS (n2+0) 0 (2 * sz) (2 * sz)] 210 (0,0)),((n1+0),.rows 1 xs.length (aO xs) 3 (0,0)),((n2+0),.rows 1 (2 * sz) (iW (tj xs sz (sz - 1 - 0))) 45 (0,0))]) ?_
     subst hsz
     exact ⟨(_,_,_),rfl,rfl⟩
 ·intro key13
  refine fH 3 6 ?_ ?_
  ·refine d9 [] [.mk xs.length xs.length] [(xs.length:Int)=((xs.length:Nat):Int) /\ (xs.length:Int)=((xs.length:Nat):Int) /\ xs.length <= xs.length /\ 8 * xs.length <= 140737488355328 /\ 1=1 /\ xs.length <= 9223372036854775807] λ n14=>RD.one 6 (d9 [] [.mk (2 * sz) (2 * sz)] [2 * (sz:Int)=(((2 * sz):Nat):Int) /\ 2 * (sz:Int)=(((2 * sz):Nat):Int) /\ (2 * sz) <= (2 * sz) /\ 8 * (2 * sz) <= 140737488355328 /\ 1=1 /\ (2 * sz) <= 9223372036854775807] λ n15=>?_)
   refine RD.one 7 (RDO.ev [] [] λ _=>?_)
   refine RD.one 8 (RDO.ev [] [] λ n16=>?_)
   refine RD.one 9 (RDO.ev [] [] λ _=>?_)
   exact key13 ⟨n14,n15,n16⟩ [0,1,2] []
  ·refine d9 [] [.mk (2 * sz) (2 * sz)] [2 * (sz:Int)=(((2 * sz):Nat):Int) /\ 2 * (sz:Int)=(((2 * sz):Nat):Int) /\ (2 * sz) <= (2 * sz) /\ 8 * (2 * sz) <= 140737488355328 /\ 1=1 /\ (2 * sz) <= 9223372036854775807] λ n17=>RD.one 3 (d9 [] [.mk xs.length xs.length] [(xs.length:Int)=((xs.length:Nat):Int) /\ (xs.length:Int)=((xs.length:Nat):Int) /\ xs.length <= xs.length /\ 8 * xs.length <= 140737488355328 /\ 1=1 /\ xs.length <= 9223372036854775807] λ n18=>?_)
   refine RD.one 7 (RDO.ev [] [] λ _=>?_)
   refine RD.one 8 (RDO.ev [] [] λ n19=>?_)
   refine RD.one 9 (RDO.ev [] [] λ _=>?_)
   exact key13 ⟨n18,n17,n19⟩ [0,2,1] []
theorem C2 (t cb nb n c:Nat) (h:Int) (f:Nat -> Int) (F:HL) (ht:(t,.lit [vI h,vS cb 0 n n,vS nb 0 c c] 210 (0,0)) ∈ F) (hn:(nb,.rows 1 c (iW f) 45 (0,0)) ∈ F) (hc:2 <= c):Sp Tryz.prog 84 #[vP t 0] [] F (λ u H'=>u=.int .u64 (f 1) /\ H'=[]):=by
 refine Sp.run Tryz.func84 rfl (mc ht (mc hn mn)) (A:=[]) (Ts:=[]) rfl λ w0=>?_
 refine ai 16 [.ro 0,.ix 1,.rorow 1 1 0] [(0+1 * 1)=1 * 1+0 /\ 1 < c,1=((1:Nat):Int) /\ 1 < c] λ _=>?_
 exact RN.ret [] [] [] ⟨rfl,rfl⟩
theorem C3 (q c:Nat) (xs:List Int) (F:HL) (hq:(q,.rows 1 c (aO xs) 3 (0,0)) ∈ F) (hc:xs.length <= c) (hl:xs.length <= 1000000):Sp Tryz.prog 51 #[vS q 0 xs.length c] [] F (λ u H'=>u=.int .u64 (iK xs) /\ H'=[]):=by
 refine Sp.run Tryz.func51 rfl (mc hq mn) (A:=[]) (Ts:=[]) rfl λ w0=>?_
 refine ae 8 [] λ _=>RN.ct (Hp:=[]) (Tp:=[]) [] [] (GP q c xs _ (aw hq) hc hl) ?_
 rintro _ ⟨t1,c2,n3⟩ rfl
 refine aj (C2 t1 c2 n3 xs.length (2 * uB xs.length) (kz xs.length) (tj xs (uB xs.length) (uB xs.length - 1)) _ (aB 0) (aB 2) (by have:=(yZ hl).2.2.1;omega))<|ae 3 [] λ _=>?_
 exact RN.ret [] [] [] ⟨rfl,rfl⟩
end Go.Proofs.YtobflkidpfkcaaaGreatDoor
