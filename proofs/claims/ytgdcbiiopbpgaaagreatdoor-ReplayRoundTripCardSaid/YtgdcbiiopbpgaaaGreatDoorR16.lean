import Derived.Test.YtgdcbiiopbpgaaaGreatDoorR15
import Derived.Test.YtgdcbiiopbpgaaaGreatDoorR07
import Derived.Laws.IdiomCopy
import Derived.Test.YtgdcbiiopbpgaaaGreatDoorR08
set_option maxHeartbeats 4000000
set_option maxRecDepth 100000
set_option linter.unusedSimpArgs false
set_option linter.unusedVariables false
namespace Go.Proofs.YtgdcbiiopbpgaaaGreatDoor
open IntKind
open Go.RowKit
def HN(p n r f:Int):Int:=i64.wrap ((i64.wrap ((i64.wrap ((i64.wrap ((i64.wrap (p+(i64.wrap ((i64.wrap ((i64.wrap (p+1))+n)) * (i64.wrap (f+3))))))+(i64.wrap (2 * n))))+3))+(i64.wrap ((i64.wrap ((i64.wrap (r * n)) * (i64.wrap (n-1)))).tdiv 2))))+(i64.wrap (n * (i64.wrap (n+1)))))
theorem ya{S:Setup}(hS:SetV S):l0 S.players S.nb S.rounds 0 <= HN S.players S.nb S.rounds 60 /\ HN S.players S.nb S.rounds 60 <= 650:=by
 have hp:=hS.pl
 have hn:=hS.nb
 have hr:=hS.ro
 have key:∀p:Fin 3,∀n:Fin 5,∀r:Fin 3,l0 ((p.1+1:Nat):Int) ((n.1+1:Nat):Int) ((r.1+1:Nat):Int) 0 <= HN ((p.1+1:Nat):Int) ((n.1+1:Nat):Int) ((r.1+1:Nat):Int) 60 /\ HN ((p.1+1:Nat):Int) ((n.1+1:Nat):Int) ((r.1+1:Nat):Int) 60 <= 650:=by decide +kernel
 have:=key ⟨S.players.toNat-1,by omega⟩ ⟨S.nb-1,by omega⟩ ⟨S.rounds.toNat-1,by omega⟩
 dsimp only at this
 rwa [show ((S.players.toNat-1+1:Nat):Int)=S.players by omega,show S.nb-1+1=S.nb by omega,show ((S.rounds.toNat-1+1:Nat):Int)=S.rounds by omega] at this
theorem setV{xs:List Int}{F:HL}{A:Option Addr}{n:Nat}(hl:ArgL F A n xs){S:Setup}{T:HL}(h:SetG xs S T):SetV S:=by
 have h1:=qo hl
 have h2:=uU hl
 have hn:=h.nb
 have k2:=gZ hl 2
 obtain⟨e1,e2,e3,e4,e5,e6,e7,e8⟩:=h.nums
 exact⟨by rw[h.pl];exact h2,by omega,by rw[e7];omega,by rw[e8];omega⟩
theorem ke{l:List Int}{i j:Nat}{v:Int}(h:i≠j):(l.set i v).getD j 0=l.getD j 0:=by
 rw[List.getD_eq_getElem?_getD,List.getD_eq_getElem?_getD,List.getElem?_set_ne h]
theorem ui{S:Setup}(hp:0 <= S.players){j:Nat}(hj:j<48):∀i,i <= S.nb -> (eT S i).getD j 0=0
 | 0,_=>by
  rw[eT,List.getD_eq_getElem?_getD,List.getElem?_replicate]
  split <;> rfl
 | i+1,hi=>by
  have hb:af S (i:Int)=48+4 * S.players+8 * (i:Int):=by
   rcases om hp (i:Int) with e|⟨_,_,e⟩
   ·unfold af at e
    rw[if_neg (by omega),if_neg (by omega)] at e;omega
   ·exact e
  rw[eT,ke (by omega),ke (by omega),ke (by omega),ke (by omega),ke (by omega),ke (by omega)]
  exact ui hp hj i (by omega)
structure TE2(S:Setup)(t:Int)(M:MemS):Prop where
 len:(M.cs.length:Int)=sizeOf S
 z:∀k:Int,1 <= k -> k <= 10 -> M.get k=0
 t0:M.get 0=t
theorem KL{S:Setup}(hS:SetV S):TE2 S 0 ⟨eT S S.nb,[],0⟩:=by
 have hp:=hS.pl
 have hlen:(((⟨eT S S.nb,[],0⟩:MemS).cs.length:Nat):Int)=sizeOf S:=by
  show ((eT S S.nb).length:Int)=_
  rw[gJ];unfold sizeOf;omega
 have g:∀k:Int,0 <= k -> k<48 -> (⟨eT S S.nb,[],0⟩:MemS).get k=0:=λ k h0 h1=>by
  unfold MemS.get
  split
  ·exact ui (by omega) (by omega) S.nb (Nat.le_refl _)
  ·rfl
 exact⟨hlen,λ k h1 h2=>g k (by omega) (by omega),g 0 (by omega) (by omega)⟩
theorem TE2.tv{S:Setup}(hS:SetV S){t:Int}(ht:0 <= t /\ t <= 1000){M:MemS}(h:TE2 S t M)(ins:Nat -> Inp):TV S ins M /\ nu S M=l0 S.players S.nb S.rounds 0 /\ EG M:=by
 have h1:=h.z 1 (by omega) (by omega)
 have h2:=h.z 2 (by omega) (by omega)
 have hp:=hS.pl
 refine⟨⟨h.len,by rw[h.t0];omega,by rw[h1,h2];exact .inl ⟨rfl,by omega,by omega⟩,λ q hq=>by rw[h1,if_pos rfl,h2] at hq;omega,.inl ⟨h1,h2⟩⟩,?_,h1,h2⟩
 unfold nu
 rw[h1,h2];rfl
theorem Pf{S:Setup}(hS:SetV S){g:Gm}(hg:g.S=S)(Th:S.players <= g.ni){t:Int}(ht:0 <= t /\ t <= 1000){M:MemS}(h:TE2 S t M):∃m,((m+1:Nat):Int) <= HN S.players S.nb S.rounds 60 /\ dP g (m+1) M /\ TE2 S (t+1) (gm g (m+1) M) /\
  Numb t 0 (fK g (m+1) M) /\ (gm g (m+1) M).get 11=((fK g (m+1) M).length:Int) /\ ((fK g (m+1) M).length:Int) <= 40:=by
 obtain⟨h1,h2,h3⟩:=h.tv hS ht (λ q=>g.ins.getD (g.io+q) dI)
 have hb:=ya hS
 have Yg:=B5 hS.pl ⟨by have:=hS.nb;omega,by have:=hS.nb;omega⟩ hS.ro h1.ct
 unfold nu at h2
 obtain⟨m,a1,a2,a3,a4,a5,a6,a7,a8⟩:=B7 hS hg (λ _ _=>rfl) Th (l0 S.players S.nb S.rounds 0).toNat M h1 (by unfold nu;omega)
 rw[if_pos h3] at a6 a7
 rw[h.t0] at a5 a6
 exact⟨m,by omega,a2,⟨a4,a3,a5⟩,a6,by rw[a7];omega,by omega⟩
theorem SetEq.pl{S S1:Setup}(h:SetEq S S1):S1.players=S.players:=h.nums.1
theorem SetEq.nb{S S1:Setup}(h:SetEq S S1):S1.nb=S.nb:=h.nums.2.1
theorem SetEq.size{S S1:Setup}(h:SetEq S S1):sizeOf S1=sizeOf S:=by unfold sizeOf;rw[h.pl,h.nb]
theorem SetEq.setV{S S1:Setup}(h:SetEq S S1)(hV:SetV S):SetV S1:=by
 obtain⟨e1,e2,_,_,_,_,_,_,_,_,e3,e4⟩:=h.nums
 exact⟨by rw[e1];exact hV.pl,by rw[e2];exact hV.nb,by rw[e3];exact hV.ro,by rw[e4];exact hV.fu⟩
theorem TE2.eq{S S1:Setup}(h:SetEq S S1){t:Int}{M:MemS}(hT:TE2 S t M):TE2 S1 t M:=⟨by rw[h.size];exact hT.len,hT.z,hT.t0⟩
theorem B8{S S':Setup}(h:SetEq S S'):(S'.bods.drop S'.bo).map Bod.nm=(List.range S.nb).map λ k=>(S.body k).nm:=by
 rw[h.whole.1,List.drop_zero]
 apply List.ext_getElem?
 intro k
 by_cases hk:k<S.nb
 ·obtain⟨A,c,e⟩:=h.bod k hk
  have hl:k<S'.bods.length:=by rw[h.whole.2];exact hk
  have e2:S'.bods[k]?=some (S'.body k):=by
   show _=some (S'.bods.getD (S'.bo+k) dB)
   rw[h.whole.1,Nat.zero_add,List.getD_eq_getElem?_getD,List.getElem?_eq_getElem hl];rfl
  rw[List.getElem?_map,e2,e]
  simp[hk]
  rfl
 ·rw[List.getElem?_eq_none (by rw[List.length_map,h.whole.2];omega),List.getElem?_eq_none (by simp;omega)]
theorem SetEq.nm2{S S1 S2:Setup}(h1:SetEq S S1)(h2:SetEq S S2):S1.nm=S2.nm:=by
 have b1:=B8 h1
 have b2:=B8 h2
 obtain⟨x1,x2,x3,x4,x5,x6,x7,x8,x9,x10,x11,x12⟩:=h1.nums
 obtain⟨y1,y2,y3,y4,y5,y6,y7,y8,y9,y10,y11,y12⟩:=h2.nums
 unfold Setup.nm
 rw[b1,b2,x1,x2,x3,x4,x5,x6,x7,x8,x9,x10,x11,x12,y1,y2,y3,y4,y5,y6,y7,y8,y9,y10,y11,y12]
theorem KM{S1 S2:Setup}(h:S1.nm=S2.nm)(j:Nat × Int)(n:Nat)(xs:List Inp):GEq (gA S1 j n xs) (gA S2 j n xs):=by
 refine⟨?_,λ k hk=>rfl⟩
 unfold Gm.nm
 simp only[h]
theorem z8{G G':Nat -> Gm}(h:∀k,GEq (G k) (G' k))(M:MemS):∀k,yJ G M k=yJ G' M k
 | 0=>rfl
 | k+1=>by rw[yJ,yJ,z8 h M k,FZ (h k)]
theorem Pg{S S1 S2:Setup}(h1:SetEq S S1)(h2:SetEq S S2)(J:Nat -> Nat × Int)(xss:List (List Inp)):∀k,GEq (rG S1 J xss k) (rG S2 J xss k):=λ k=>KM (h1.nm2 h2) _ _ _
theorem Nf{pl:Int}{n:Nat}{xs:List Inp}{now:Int}(h1:(n:Int)=pl)(h2:∀k,k<n -> jW (xs.getD k dI))(h3:now<6000):fF pl n xs now=0:=by
 unfold fF
 rw[if_pos h1,if_pos h2,if_neg (by omega)]
theorem HO{S1:Setup}(hV:SetV S1){t:Int}(ht:0 <= t /\ t <= 1000){M:MemS}(hT:TE2 S1 t M){xs:List Inp}(h1:(xs.length:Int)=S1.players)(h2:∀k,k<xs.length -> jW (xs.getD k dI))(j:Nat × Int):TkOk S1 j xs M /\ TE2 S1 (t+1) (nU (sy S1 j xs) M):=by
 obtain⟨m,a1,a2,a3,_⟩:=Pf hV (g:=sy S1 j xs) rfl (by show S1.players <= (xs.length:Int);omega) ht hT
 have hb:=(ya hV).2
 refine⟨⟨⟨m,by omega,a2⟩,by rw[hT.t0];exact ht.1,by rw[hT.t0];exact Nf h1 h2 (by omega)⟩,?_⟩
 rw[<- (LF (by omega) a2).1]
 exact a3
def eR(pl:Int)(xs:List Inp):Prop:=(xs.length:Int)=pl /\ ∀k,k<xs.length -> jW (xs.getD k dI)
theorem HP{S1:Setup}(hV:SetV S1){M0:MemS}(hT:TE2 S1 0 M0){xss:List (List Inp)}(J:Nat -> Nat × Int)(n:Nat)(hn:n <= 50)(hr:∀i,i<n -> eR S1.players (xss.getD i [])):∀i,i <= n -> TE2 S1 (i:Int) (yJ (rG S1 J xss) M0 i)
 | 0,_=>hT
 | i+1,h=>by
  have ih:=HP hV hT J n hn hr i (by omega)
  have:=(HO hV (t:=(i:Int)) (by omega) ih (hr i (by omega)).1 (hr i (by omega)).2 (J i)).2
  rw[yJ]
  exact_mod_cast this
theorem Ph{S1:Setup}(hV:SetV S1){M0:MemS}(hT:TE2 S1 0 M0){xss:List (List Inp)}(J:Nat -> Nat × Int)(n:Nat)(hn:n <= 50)(hr:∀i,i<n -> eR S1.players (xss.getD i []))(i:Nat)(hi:i<n):TkOk S1 (J i) (xss.getD i []) (yJ (rG S1 J xss) M0 i) :=
 (HO hV (t:=(i:Int)) (by omega) (HP hV hT J n hn hr i (by omega)) (hr i hi).1 (hr i hi).2 (J i)).1
theorem HQ{n:Int}(h:0 <= n):jW (wR n):=by
 unfold jW wR
 dsimp only
 split <;> omega
theorem B9{F:HL}{A:Option Addr}{n:Nat}{xs:List Int}(hl:ArgL F A n xs){pl:Int}(hp:0 <= pl)(t:Int):eR pl (rowL pl xs t pl.toNat):=by
 refine⟨by rw[cV];omega,λ k hk=>?_⟩
 rw[cV] at hk
 rw[F9 hk]
 exact HQ (JR hl pl t k).1
theorem HS{S S1:Setup}(hV:SetV S)(he:SetEq S S1):TE2 S1 0 ⟨eT S S.nb,[],0⟩:=(KL hV).eq he
section
variable {S S1:Setup} {rs_:List Bx} {ds_:List Dr} {bp n cap:Nat} {j:Nat × Int} {A:Option Addr} {rs:List Rw} {xss:List (List Inp)} {F:HL}
end
theorem SlIs.rowN{α:Type}{e:Enc α}{T:TypeId}{l:List α}{A:Option Addr}{cap n:Nat}{Hl F:HL}(h:SlIs e T l A cap Hl)(hF:∀x∈Hl,x∈F)(hn:l.length=n):RowL e T F A n l:=hn ▸ h.toRowL hF
theorem yb{n m k:Int}(e:au n m=k)(hm:0<m)(F:HL):Sp Tryz.prog 10 #[vI n,vI m] [] F (λ u H'=>u=vI k /\ H'=[]):=e ▸ gq n m (by omega) F
theorem mI{α:Type}{l r:List α}{o:Nat}(h:(l.drop o).take r.length=r){k:Nat}(hk:k<r.length)(d:α):l.getD (o+k) d=r.getD k d:=by
 have h1:((l.drop o).take r.length)[k]?=r[k]?:=by rw[h]
 rw[List.getElem?_take,if_pos hk,List.getElem?_drop] at h1
 rw[List.getD_eq_getElem?_getD,List.getD_eq_getElem?_getD,h1]
structure Ver where (t:Int) (A:Option Addr) (n c:Nat) (e0 e1 e2:Int)
def fy:Enc Ver:=⟨5,λ p k=>match k with|0=>vI p.t|1=>.slice p.A p.n p.c|2=>vI p.e0|3=>vI p.e1|_=>vI p.e2,⟨0,none,0,0,0,0,0⟩⟩
noncomputable def LH:TypeInfo:=match Tryz.prog.info? 111 with|some i=>i|none=>⟨.bool,"",0,0,false,0,0,none,false,#[]⟩
noncomputable def LI:Value:=match LH.zero with|some z=>z|none=>.bool false
theorem Ng:EncOk fy Tryz.prog 111 LH LI where
 info:=by kernel_rfl
 zero:=by kernel_rfl
 size:=by kernel_rfl
 zsize:=by kernel_rfl
 zcell:=λ k hk=>by
  have h:∀k<5,LI.cells[k]?=some (fy.cell fy.dflt k):=by intro k hk;(iterate 5 (rcases k with _|k;· kernel_rfl));omega
  exact h k hk
 one:=λ x k=>by unfold fy;dsimp only;split <;> rfl
 bytes:=Nat.le_of_ble_eq_true (by kernel_rfl)
abbrev kf(t:Int)(j:Nat)(A:Option Addr)(c:Nat):Ver:=⟨t,A,cE j,c,bz j 0,bz j 1,bz j 2⟩
inductive Book2(tk:Int)(j1 j2 bp:Nat):HL -> Prop
 | mk (A:Option Addr) (c:Nat) (A1 A2:Option Addr) (c1 c2:Nat) (Hl T1 T2:HL) (hs:SlIs fy 111 [kf 0 j1 A1 c1,kf tk j2 A2 c2] A c Hl) (h1:CodT j1 A1 T1) (h2:CodT j2 A2 T2):Book2 tk j1 j2 bp (ap [(bp,.lit [.slice A 2 c] 105 (0,0))] [Hl,T1,T2])
theorem KN(tk:Int)(V6:0<tk)(j1 j2 bp q:Nat)(Aa:Option Addr)(ca:Nat)(Tz F:HL)(Q0:j2<5)(hE:pM F)(h1:CodT j1 Aa Tz):Sp Tryz.prog 33 #[vP bp 0,vI tk,.string (pL j2)] (ap [(bp,.lit [vS q 0 1 1] 105 (0,0)),(q,.lit [vI 0,.slice Aa (cE j1) ca,vI (bz j1 0),vI (bz j1 1),vI (bz j1 2)] 111 (0,0))] [Tz]) F (λ u H'=>∃x:HL,H'=ap [] [x] /\ (u=vI 0 /\ Book2 tk j1 j2 bp x)):=by
 refine Sp.run Tryz.func33 rfl mn (A:=[(bp,.lit [vS q 0 1 1] 105 (0,0)),(q,.lit [vI 0,.slice Aa (cE j1) ca,vI (bz j1 0),vI (bz j1 1),vI (bz j1 2)] 111 (0,0))]) (Ts:=[Tz]) rfl λ w0=>?_
 refine ae 21 [.own 0] λ _=>RN.draw [] []<|ag [] [0,1,5,2,6,3,7,4,8,9,10,11,12,13,14] [.own 0,.own 0,.own 1]<|RD.fin<|ae 1 [] λ _=>cF 29 (decide_eq_false (show ¬ tk <= 0 by omega))<|ae 6 [] λ _=>RN.ct (Hp:=[]) (Tp:=[]) [] [] (Hs Q0 _ (ar hE)) ?_
 rintro _ ⟨A1,c2,T3⟩ ⟨rfl,hC4⟩
 dsimp only at hC4
 refine ae 19 [.own 0,.own 0,.own 0,.own 0] λ n5=>RN.draw [9,12] []<|ag [] [0,1,5,6,2,7,3,4] [.own 0,.own 0,.own 0,.own 0,.own 1]<|RD.one 8 (RDO.ev [] [] λ n7=>?_)
 refine RD.dn 3 (.rows 5 1 (aO fy [kf 0 j1 Aa ca]) 111 (0,0))<|O9 3<|RD.one 9 (lQ [] Ng ([kf 0 j1 Aa ca]) [kf tk j2 A1 c2] 0 0 rfl (SlIs.one (b:=q)) (Nat.le_of_ble_eq_true rfl) ?_)
 rintro A8 c9 Tu ⟨hs11,hz12⟩
 refine ag [] [10,11] []<|RD.one 12 (RDO.ev [] [.own 2] λ _=>?_)
 refine RD.fin<|ae 6 [] λ _=>RN.ret [] [2] [0,2,1] (v:=vI 0) (H':=(ap [(bp,.lit [.slice A8 2 c9] 105 (0,0))] [Tu,Tz,T3])) ?_
 exact⟨ap [(bp,.lit [.slice A8 2 c9] 105 (0,0))] [Tu,Tz,T3],by simp[ap],rfl,.mk _ _ _ _ _ _ _ _ _ hs11 h1 hC4⟩
theorem KO{j1 bp:Nat}{TB:HL}(hB:Book1 j1 bp TB)(tk:Int)(V6:0<tk)(j2:Nat)(F:HL)(Q0:j2<5)(hE:pM F):Sp Tryz.prog 33 #[vP bp 0,vI tk,.string (pL j2)] (ap [] [TB]) F (λ u H'=>∃x:HL,H'=ap [] [x] /\ (u=vI 0 /\ Book2 tk j1 j2 bp x)):=by
 cases hB with
 | mk q A c T h =>
  rw[bB]
  exact KN tk V6 j1 j2 bp q A c T F Q0 hE h
theorem Pi(q2 q3:Nat)(tk:Int)(bp b o c j1 j2:Nat)(full:List Ver)(Aa Ab:Option Addr)(ca cb:Nat)(t:Int)(F:HL)(hb:(bp,.lit [vS b (o * 5) 2 c] 105 (0,0))∈F)(hq:(b,.rows 5 (o+c) (aO fy full) 111 (0,0))∈F)(hc:2 <= c)(TM:full.getD o fy.dflt=kf 0 j1 Aa ca)(TK:full.getD (1+o) fy.dflt=kf tk j2 Ab cb)(ht:0 <= t)(h2:(q2,.lit [vP bp 0] 33 (0,0))∈F)(h3:(q3,.lit [vI t] 3 (0,0))∈F):Sp Tryz.prog 146 #[vI 0,vP q2 0,vP q3 0] [] F (λ u H'=>u=.bool false /\ H'=[]):=by
 refine Sp.run Tryz.func146 rfl (mc h2 (mc h3 (mc hb (mc hq mn)))) (A:=[]) (Ts:=[]) rfl λ w0=>?_
 refine ae 6 [] λ _=>RN.draw [] []<|aC [] [0,4,8,1,2,3,5,6,7] [.ro 0,.ro 1,.ro 2,.rorow 3 o 0] [o * 5=o * 5+0 /\ o<(o+c)]<|fg 12 (congrArg (λ v_:Ver=>vI v_.t) TM)<|ag [] [9,10] []<|RD.fin<|ae 1 [] λ _=>RN.ret [] [] [] (v:=.bool (decide (0>t))) (H':=[]) ?_
 exact⟨congrArg Value.bool (decide_eq_false (by omega)),rfl⟩
theorem LJ(q2 q3:Nat)(tk:Int)(bp b o c j1 j2:Nat)(full:List Ver)(Aa Ab:Option Addr)(ca cb:Nat)(t:Int)(F:HL)(hb:(bp,.lit [vS b (o * 5) 2 c] 105 (0,0))∈F)(hq:(b,.rows 5 (o+c) (aO fy full) 111 (0,0))∈F)(hc:2 <= c)(TM:full.getD o fy.dflt=kf 0 j1 Aa ca)(TK:full.getD (1+o) fy.dflt=kf tk j2 Ab cb)(ht:0 <= t)(h2:(q2,.lit [vP bp 0] 33 (0,0))∈F)(h3:(q3,.lit [vI t] 3 (0,0))∈F):Sp Tryz.prog 146 #[vI 1,vP q2 0,vP q3 0] [] F (λ u H'=>u=.bool (decide (tk>t)) /\ H'=[]):=by
 refine Sp.run Tryz.func146 rfl (mc h2 (mc h3 (mc hb (mc hq mn)))) (A:=[]) (Ts:=[]) rfl λ w0=>?_
 refine ae 6 [] λ _=>RN.draw [] []<|aC [] [0,4,8,1,2,3,5,6,7] [.ro 0,.ro 1,.ro 2,.rorow 3 (1+o) 0] [(o * 5+5)=(1+o) * 5+0 /\ (1+o)<(o+c)]<|fg 12 (congrArg (λ v_:Ver=>vI v_.t) TK)<|ag [] [9,10] []<|RD.fin<|ae 1 [] λ _=>?_
 exact RN.ret [] [] [] ⟨rfl,rfl⟩
theorem HT(q2 q3:Nat)(tk:Int)(bp b o c j1 j2:Nat)(full:List Ver)(Aa Ab:Option Addr)(ca cb:Nat)(t:Int)(F:HL)(hb:(bp,.lit [vS b (o * 5) 2 c] 105 (0,0))∈F)(hq:(b,.rows 5 (o+c) (aO fy full) 111 (0,0))∈F)(hc:2 <= c)(TM:full.getD o fy.dflt=kf 0 j1 Aa ca)(TK:full.getD (1+o) fy.dflt=kf tk j2 Ab cb)(ht:0 <= t)(h2:(q2,.lit [vP bp 0] 33 (0,0))∈F)(h3:(q3,.lit [vI t] 3 (0,0))∈F)(UR:tk>t):Sp Tryz.prog 145 #[vI 2,.func (.func 146) #[] #[vP q2 0,vP q3 0]] [] F (λ u H'=>u=vI 1 /\ H'=[]):=by
 refine Sp.run Tryz.func145 rfl (mc h2 (mc h3 (mc hb (mc hq mn)))) (A:=[]) (Ts:=[]) rfl λ w0=>?_
 refine ae 14 [] λ _=>RN.rounds 4<|ae 27 [] λ _=>RN.cp (LJ q2 q3 tk bp b o c j1 j2 full Aa Ab ca cb t _ (ar hb) (ar hq) hc TM TK ht (ar h2) (ar h3))<|ae 3 [] λ _=>cF 21 (nt (decide_eq_true UR))<|ae 34 [] λ _=>RN.cp (Pi q2 q3 tk bp b o c j1 j2 full Aa Ab ca cb t _ (ar hb) (ar hq) hc TM TK ht (ar h2) (ar h3))<|ae 31 [] λ _=>?_
 exact RN.ret [] [] [] ⟨rfl,rfl⟩
theorem HU(q2 q3:Nat)(tk:Int)(bp b o c j1 j2:Nat)(full:List Ver)(Aa Ab:Option Addr)(ca cb:Nat)(t:Int)(F:HL)(hb:(bp,.lit [vS b (o * 5) 2 c] 105 (0,0))∈F)(hq:(b,.rows 5 (o+c) (aO fy full) 111 (0,0))∈F)(hc:2 <= c)(TM:full.getD o fy.dflt=kf 0 j1 Aa ca)(TK:full.getD (1+o) fy.dflt=kf tk j2 Ab cb)(ht:0 <= t)(h2:(q2,.lit [vP bp 0] 33 (0,0))∈F)(h3:(q3,.lit [vI t] 3 (0,0))∈F)(UR:¬ tk>t):Sp Tryz.prog 145 #[vI 2,.func (.func 146) #[] #[vP q2 0,vP q3 0]] [] F (λ u H'=>u=vI 2 /\ H'=[]):=by
 refine Sp.run Tryz.func145 rfl (mc h2 (mc h3 (mc hb (mc hq mn)))) (A:=[]) (Ts:=[]) rfl λ w0=>?_
 refine ae 14 [] λ _=>RN.rounds 4<|ae 27 [] λ _=>RN.cp (LJ q2 q3 tk bp b o c j1 j2 full Aa Ab ca cb t _ (ar hb) (ar hq) hc TM TK ht (ar h2) (ar h3))<|ae 3 [] λ _=>cF 21 (nf (decide_eq_false UR))<|ae 28 [] λ _=>?_
 exact RN.ret [] [] [] ⟨rfl,rfl⟩
theorem QC(tk:Int)(bp b o c j1 j2:Nat)(full:List Ver)(Aa Ab:Option Addr)(ca cb:Nat)(t:Int)(F:HL)(hb:(bp,.lit [vS b (o * 5) 2 c] 105 (0,0))∈F)(hq:(b,.rows 5 (o+c) (aO fy full) 111 (0,0))∈F)(hc:2 <= c)(TM:full.getD o fy.dflt=kf 0 j1 Aa ca)(TK:full.getD (1+o) fy.dflt=kf tk j2 Ab cb)(ht:0 <= t)(hj:j1<5)(hC:SrcIn Tryz.prog ij F Aa (cE j1) (fO j1))(UR:tk>t):Sp Tryz.prog 124 #[vP bp 0,vI t] [] F (λ u H'=>∃x:Option Addr × Nat × HL,H'=ap [] [x.2.2] /\ (u=.tuple #[vI 0,.agg #[.slice x.1 (cE j1) x.2.1,vI (bz j1 0),vI (bz j1 1),vI (bz j1 2)]] /\ ClS ij 155 (fO j1) x.1 x.2.1 x.2.2)):=by
 refine Sp.run Tryz.func124 rfl (mc hb (mc hq mn)) (A:=[]) (Ts:=[]) rfl λ w0=>?_
 refine ae 16 [.own 2,.ro 0] λ n1=>RN.cp (HT (n1+0) (n1+1) tk bp b o c j1 j2 full Aa Ab ca cb t _ (ar hb) (ar hq) hc TM TK ht (av 2) (av 1) UR)<|ai 21 [.own 2,.ro 0,.rorow 1 o 1,.rorow 1 o 2,.rorow 1 o 3,.rorow 1 o 4] [(o * 5+4)=o * 5+4 /\ o<(o+c),(o * 5+3)=o * 5+3 /\ o<(o+c),(o * 5+2)=o * 5+2 /\ o<(o+c),(o * 5+1)=o * 5+1 /\ o<(o+c)] λ _=>aB 26 (congrArg (λ v_:Ver=>(.agg #[.slice v_.A v_.n v_.c,vI v_.e0,vI v_.e1,vI v_.e2]:Value)) TM)<|ae 5 [.own 0,.own 0,.own 0,.own 0] λ n2=>RN.draw [8] []<|ag [] [0,1,4,2,5] [.own 0,.own 0,.own 0,.own 0]<|RD.one 3 (RDO.ct [] (Hp:=[]) (Tp:=[]) [] [] (mB Aa (cE j1) ca (fO j1) _ hC.up (by have:=qx hj;omega)) ?_)
 rintro _ ⟨A3,c4,T5⟩ ⟨rfl,hc6⟩
 dsimp only at hc6
 refine ag [] [6,7] []<|RD.one 8 (RDO.ev [] [.own 1,.own 1,.own 1,.own 1] λ _=>?_)
 refine RD.fin<|ae 1 [] λ _=>RN.ret [.own 1,.own 1,.own 1,.own 1] [] [0] (v:=.tuple #[vI 0,.agg #[.slice A3 (cE j1) c4,vI (bz j1 0),vI (bz j1 1),vI (bz j1 2)]]) (H':=(ap [] [T5])) ?_
 exact⟨(A3,c4,T5),rfl,rfl,hc6⟩
theorem QD(tk:Int)(bp b o c j1 j2:Nat)(full:List Ver)(Aa Ab:Option Addr)(ca cb:Nat)(t:Int)(F:HL)(hb:(bp,.lit [vS b (o * 5) 2 c] 105 (0,0))∈F)(hq:(b,.rows 5 (o+c) (aO fy full) 111 (0,0))∈F)(hc:2 <= c)(TM:full.getD o fy.dflt=kf 0 j1 Aa ca)(TK:full.getD (1+o) fy.dflt=kf tk j2 Ab cb)(ht:0 <= t)(hj:j2<5)(hC:SrcIn Tryz.prog ij F Ab (cE j2) (fO j2))(UR:¬ tk>t):Sp Tryz.prog 124 #[vP bp 0,vI t] [] F (λ u H'=>∃x:Option Addr × Nat × HL,H'=ap [] [x.2.2] /\ (u=.tuple #[vI 1,.agg #[.slice x.1 (cE j2) x.2.1,vI (bz j2 0),vI (bz j2 1),vI (bz j2 2)]] /\ ClS ij 155 (fO j2) x.1 x.2.1 x.2.2)):=by
 refine Sp.run Tryz.func124 rfl (mc hb (mc hq mn)) (A:=[]) (Ts:=[]) rfl λ w0=>?_
 refine ae 16 [.own 2,.ro 0] λ n1=>RN.cp (HU (n1+0) (n1+1) tk bp b o c j1 j2 full Aa Ab ca cb t _ (ar hb) (ar hq) hc TM TK ht (av 2) (av 1) UR)<|ai 21 [.own 2,.ro 0,.rorow 1 (1+o) 1,.rorow 1 (1+o) 2,.rorow 1 (1+o) 3,.rorow 1 (1+o) 4] [(o * 5+9)=(1+o) * 5+4 /\ (1+o)<(o+c),(o * 5+8)=(1+o) * 5+3 /\ (1+o)<(o+c),(o * 5+7)=(1+o) * 5+2 /\ (1+o)<(o+c),(o * 5+6)=(1+o) * 5+1 /\ (1+o)<(o+c)] λ _=>aB 26 (congrArg (λ v_:Ver=>(.agg #[.slice v_.A v_.n v_.c,vI v_.e0,vI v_.e1,vI v_.e2]:Value)) TK)<|ae 5 [.own 0,.own 0,.own 0,.own 0] λ n2=>RN.draw [8] []<|ag [] [0,1,4,2,5] [.own 0,.own 0,.own 0,.own 0]<|RD.one 3 (RDO.ct [] (Hp:=[]) (Tp:=[]) [] [] (mB Ab (cE j2) cb (fO j2) _ hC.up (by have:=qx hj;omega)) ?_)
 rintro _ ⟨A3,c4,T5⟩ ⟨rfl,hc6⟩
 dsimp only at hc6
 refine ag [] [6,7] []<|RD.one 8 (RDO.ev [] [.own 1,.own 1,.own 1,.own 1] λ _=>?_)
 refine RD.fin<|ae 1 [] λ _=>RN.ret [.own 1,.own 1,.own 1,.own 1] [] [0] (v:=.tuple #[vI 1,.agg #[.slice A3 (cE j2) c4,vI (bz j2 0),vI (bz j2 1),vI (bz j2 2)]]) (H':=(ap [] [T5])) ?_
 exact⟨(A3,c4,T5),rfl,rfl,hc6⟩
theorem Book2.at{tk:Int}{j1 j2 bp:Nat}{TB F:HL}(hB:Book2 tk j1 j2 bp TB)(hT:∀x∈TB,x∈F)(Rx:j1<5)(Q0:j2<5)(t:Int)(ht:0 <= t):AtOk F bp t (if tk>t then (j1,0) else (j2,1)):=λ F' hF=>by
 cases hB with
 | mk A c A1 A2 c1 c2 Hl T1 T2 hs h1 h2 =>
  rcases hs with ⟨_,_,h,_⟩|⟨b,o,full,rfl,rfl,e1,e2,e3⟩
  ·cases h
  ·have hc:2 <= c:=e2
   have TM:full.getD o fy.dflt=kf 0 j1 A1 c1:=by have:=mI e3 (k:=0) (by simp) fy.dflt;rw[Nat.add_zero] at this;exact this
   have TK:full.getD (1+o) fy.dflt=kf tk j2 A2 c2:=by have:=mI e3 (k:=1) (by simp) fy.dflt;rw[Nat.add_comm o 1] at this;exact this
   have hm:∀x,x∈ap [(bp,Blk.lit [.slice (some ⟨b,o * fy.w,none⟩) 2 c] 105 (0,0))] [[(b,.rows fy.w (o+c) (aO fy full) 111 (0,0))],T1,T2] -> x∈F':=λ x hx=>hF x (hT x hx)
   by_cases UR:tk>t
   ·rw[if_pos UR]
    exact QC tk bp b o c j1 j2 full A1 A2 c1 c2 t F' (hm _ (List.mem_append_left _ List.mem_cons_self)) (hm _ (List.mem_append_right _ List.mem_cons_self)) hc TM TK ht Rx (h1.src F' λ x hx=>hm x (by simp[ap,hx])) UR
   ·rw[if_neg UR]
    exact QD tk bp b o c j1 j2 full A1 A2 c1 c2 t F' (hm _ (List.mem_append_left _ List.mem_cons_self)) (hm _ (List.mem_append_right _ List.mem_cons_self)) hc TM TK ht Q0 (h2.src F' λ x hx=>hm x (by simp[ap,hx])) UR
open Go.Shelf
theorem Ac{cs vs:List Value}(h:cs.length=vs.length):jC cs 0 vs=vs:=by
 apply List.ext_getElem?
 intro j
 rw[mP vs cs 0 (by omega) j]
 split
 ·rfl
 ·next h1=>rw[List.getElem?_eq_none (by omega),List.getElem?_eq_none (by omega)]
theorem oq{b:Nat}{ty:TypeId}{fz:Nat × Nat}:∀ (vs:List Value) (o:Nat) (W:World) (cs:List Value),W.heap[b]?=some (Blk.lit cs ty fz).den -> (W.setCells b o vs).heap[b]?=some (Blk.lit (jC cs o vs) ty fz).den
 | [],o,W,cs,h=>h
 | v::r,o,W,cs,h=>by
  rw[World.setCells,jC]
  have h1:=pq (v:=v) (a:=⟨b,o,none⟩) rfl rfl h
  rw[iG] at h1
  exact oq r (o+1) _ _ h1
theorem ou{b k:Nat}(hk:k≠b):∀ (vs:List Value) (o:Nat) (W:World),(W.setCells b o vs).heap[k]?=W.heap[k]?
 | [],_,_=>rfl
 | v::r,o,W=>by
  rw[World.setCells,ou hk r (o+1)]
  exact Below.heap_setCell _ _ _ _ hk
def Nh(P:Program)(o:Oper)(L:FL):Option (Addr × Nat × Nat × Addr × Nat × Nat × TypeId × TypeId × TypeId):=match o.guard,o.op with
 | none,.call c=>match c.callee,c.args.toList,c.argTypes.toList with
  | .builtin .copy,[a1,a2],[t,tx]=>match kJ L a1 && kJ L a2,ie L a1,ie L a2 with
   | true,.slice (some d) n cap,.slice (some a) m c'=>match P.underlying t with
    | some (.slice T)=>some (d,n,cap,a,m,c',T,t,tx)
    | _=>none
   | _,_,_=>none
  | _,_,_=>none
 | _,_=>none
section
variable {r:Option Nat} {P:Program} {N:Nat} {D:List Deferred} {F:HL} {w0:World} {R:HL} {s:Cfg} {Q:Exit -> Act -> World -> Prop}
theorem DX{o:Oper}{L:FL}{d:Addr}{n cap:Nat}{a:Addr}{m c':Nat}{T t tx:TypeId}(h:Nh P o L=some (d,n,cap,a,m,c',T,t,tx)) :
  ∃a1 a2,o.guard=none /\ o.op=.call { callee:=.builtin .copy,args:=#[a1,a2],argTypes:=#[t,tx] } /\ (kJ L a1 && kJ L a2)=true /\ ie L a1=.slice (some d) n cap /\ ie L a2=.slice (some a) m c' /\ P.underlying t=some (.slice T):=by
 unfold Nh at h
 split at h
 case h_2=>cases h
 rename_i c hg IS
 split at h
 case h_2=>cases h
 rename_i a1 a2 t' Zd h1 h2 h3
 split at h
 case h_2=>cases h
 rename_i d' n' bY a' m' c2 h4 h5 h6
 split at h
 case h_2=>cases h
 rename_i T' h7
 simp only[Option.some.injEq,Prod.mk.injEq] at h
 obtain⟨e1,e2,e3,e4,e5,e6,e7,e8,e9⟩:=h
 subst e1;subst e2;subst e3;subst e4;subst e5;subst e6;subst e7;subst e8;subst e9
 refine⟨a1,a2,hg,?_,h4,h5,h6,h7⟩
 obtain⟨cal,args,Zu⟩:=c
 simp only at h1 h2 h3
 subst h1
 have e1:args=#[a1,a2]:=by cases args;simp_all
 have e2:Zu=#[t',Zd]:=by cases Zu;simp_all
 rw[IS,e1,e2]
def Pj(P:Program)(N i:Nat)(oo:Option Oper)(s:Cfg):Option (Addr × Nat × Nat × Addr × Nat × Nat × TypeId × TypeId × TypeId × (Nat × Blk)):=match oo with
 | some o=>match Nh P o s.L,s.A[i]?,(fh N o.dst undef s.L).isSome with
  | some (d,n,cap,a,m,c',T,t,tx),some x,true=>some (d,n,cap,a,m,c',T,t,tx,x)
  | _,_,_=>none
 | none=>none
theorem RN.cpy(i:Nat)(X:Blk){b n cap m c':Nat}{a:Addr}{T t tx ty:TypeId}{g:Nat -> Nat -> Value}(vs:List Value)(hl:vs.length=n)(hm:m=n)(h1:∀v∈vs,v.oneCell'=true)(G_:(P.info? T).map (·.size)=some 1)
  (hs:∀w,Rel (ap s.A s.Ts++F) w -> ∀j v,vs[j]?=some v -> w.cell? (a.add j)=some v)
  (hX:X.den=(Blk.lit vs ty (0,0)).den) (hk:RN r P N D F w0 R (N3 i X (fD N (vI (n:Int)) s)) Q)
  (h:Pj P N i (pS s) s=some (⟨b,0,none⟩,n,cap,a,m,c',T,t,tx,(b,.rows 1 n g ty (0,0))):=by kernel_rfl):RN r P N D F w0 R s Q:=by
 unfold Pj at h
 split at h
 case h_2=>cases h
 rename_i o q0
 split at h
 case h_2=>cases h
 rename_i d' n' bY a' m' c2 T' t' Zd x hv hx hp
 simp only[Option.some.injEq,Prod.mk.injEq] at h
 obtain⟨e1,e2,e3,e4,e5,e6,e7,e8,e9,e10⟩:=h
 subst e1;subst e2;subst e3;subst e4;subst e5;subst e6;subst e7;subst e8;subst e9;subst e10
 obtain⟨a1,a2,q1,q2,q3,q4,q5,q6⟩:=DX hv
 refine⟨λ hR aa w hF aT hB=>?_⟩
 obtain⟨c,k,L,Bs,Ts⟩:=s
 unfold pS at q0
 cases c with
 | code c=>cases q0
 | ex c=>cases q0
 | drw _ _=>cases q0
 | ops ops pc =>
  simp only at q0 q3 q4 q5 hx hp hF aT hs
  have IT:ops.toList.drop pc=o::ops.toList.drop (pc+1):=by
   have iF:pc<ops.toList.length:=(List.getElem?_eq_some_iff.1 q0).1
   rw[List.drop_eq_getElem_cons iF,(List.getElem?_eq_some_iff.1 q0).2]
  show wpListIn _ _ _ _ _ _ _ _
  rw[IT,wpListIn,if_pos (by simp[Region.wanted,q1])]
  refine⟨λ _ _=>trivial,?_⟩
  subst hm
  have Xl:(ap Bs Ts)[i]?=some (b,Blk.rows 1 m' g ty (0,0)):=by
   show (Bs++Ts.flatten)[i]?=_
   rw[List.getElem?_append_left (List.getElem?_eq_some_iff.1 hx).1];exact hx
  have Sx:w.heap[b]?=some (Blk.lit (bd 1 g m') ty (0,0)).den:=aT.holds (b,.rows 1 m' g ty (0,0)) (List.mem_append_left _ (List.mem_of_getElem? Xl))
  have hrl:(bd 1 g m').length=m':=by rw[cR];omega
  have key:ew P o aa w λ u w'=>u=vI (m':Int) /\ Rel (br (ap Bs Ts) i (b,X)++F) w' /\ Below 0 w w':=by
   simp only[Bool.and_eq_true] at q3
   have e1:=(hF.eval q3.1).trans q4
   have e2:=(hF.eval q3.2).trans q5
   have f_:=run_copy_cells (P:=P) w t' Zd o.type T' b 0 m' bY a' m' c2 vs q6 G_ (by simp[hl]) (hs w aT) (λ j hj=>by
     have Q0:j<(bd 1 g m').length:=by omega
     rw[Nat.zero_add,nv (v:=(bd 1 g m')[j]) Sx rfl rfl (by simp[Q0])];rfl) (λ j hj=>oA Sx rfl rfl) h1
   unfold ew
   have he:(execOp aa.eval o).run P w=.ok (.value (vI (m':Int))) (w.setCells b 0 vs):=by
    simp[execOp,q2,resolve,invoke,builtin,Sem.run_bind,e1,e2,f_,goInt,hl]
   rw[he]
   refine⟨rfl,?_,iL b vs 0 w⟩
   have hd:=oq vs 0 w _ Sx
   rw[Ac (by omega),<- hX] at hd
   exact aT.upd Xl hd (λ k hk=>ou hk vs 0 w)
  refine gh (by rw[q2];intro c hc;cases hc) key ?_
  rintro u w' ⟨rfl,QK,S_⟩
  obtain⟨L',p1⟩:=eI hp (vI (m':Int))
  have hh:=hk.h hR
  have RJ:N3 i X (fD N (vI (m':Int)) ⟨.ops ops pc,k,L,Bs,Ts⟩)=⟨.ops ops (pc+1),k,L',br Bs i (b,X),Ts⟩:=by
   unfold fD
   simp only[q0,p1]
   unfold N3
   simp only[hx]
  rw[RJ] at hh
  refine hh _ w' (hF.put p1) ?_ (hB.trans S_)
  have e3:br (ap Bs Ts) i (b,X)=ap (br Bs i (b,X)) Ts:=by
   show br (Bs++Ts.flatten) i _=br Bs i _++Ts.flatten
   rw[iG,iG,List.set_append_left _ _ (List.getElem?_eq_some_iff.1 hx).1]
  rw[<- e3]
  exact QK
end
def HV(i v:Int):Int:=kY ⟨#[108,101,97,102]⟩ [i,v]
def Ca(a b:Int):Int:=kY ⟨#[112,97,105,114]⟩ [aZ a,aZ b]
def HW:Int:=kY ⟨#[101,109,112,116,121]⟩ []
def k8(n:Nat):Nat:=if n <= 1 then 0 else Lib.bitLen (n-1)
def vH(n:Nat):Nat:=2 ^ k8 n
theorem Ni{n:Nat}(h:(n:Int) <= 1):k8 n=0:=by
 unfold k8
 rw[if_pos (by omega)]
theorem Nj{n:Nat}(hl:n <= 1000000)(h:¬ (n:Int) <= 1):uD ((n:Int)-1)=(k8 n:Int):=by
 unfold k8 uD
 rw[if_neg (by omega)]
 have e:(vX ((n:Int)-1)).toNat=n-1:=by
  rw[show vX ((n:Int)-1)=(n:Int)-1 by rw[vX,IntKind.wrap];simp[IntKind.signed,IntKind.bits];omega]
  omega
 rw[e]
theorem LK:∀ (f x:Nat),x<2 ^ f -> x≠0 -> ∃m,Lib.bitLenAux f x=m+1 /\ 2 ^ m <= x /\ x<2 ^ (m+1)
 | 0,x,h,h0=>absurd (by simpa using h) h0
 | f+1,x,h,h0=>by
  rw[Lib.bitLenAux,if_neg h0]
  by_cases h2:x / 2=0
  ·have e:Lib.bitLenAux f (x / 2)=0:=by rw[h2];cases f <;> simp[Lib.bitLenAux]
   rw[e]
   exact⟨0,rfl,by simp;omega,by simp;omega⟩
  ·obtain⟨m,e,h3,h4⟩:=LK f (x / 2) (by rw[Nat.pow_succ] at h;omega) h2
   rw[e]
   exact⟨m+1,by omega,by rw[Nat.pow_succ];omega,by rw[Nat.pow_succ];omega⟩
theorem Ad{n:Nat}(h:n <= 1000000):k8 n <= 20 /\ n <= vH n /\ 1 <= vH n /\ vH n <= 2000000:=by
 unfold vH k8
 by_cases h1:n <= 1
 ·rw[if_pos h1]
  simp
  omega
 ·rw[if_neg h1]
  obtain⟨m,e,b2,b3⟩:=LK 64 (n-1) (by omega) (by omega)
  rw[show Lib.bitLen (n-1)=m+1 from e]
  have hm:m<20:=by
   apply Classical.byContradiction
   intro hn
   have:=Nat.pow_le_pow_right (n:=2) (by omega) (show 20 <= m by omega)
   omega
  rw[Nat.pow_succ] at b3 ⊢
  omega
theorem Pk{n:Nat}(h:n <= 1000000):i64.wrap (1 * 2 ^ min ((k8 n:Int)).toNat 64)=(vH n:Int):=by
 obtain⟨h1,h2,h3,h4⟩:=Ad h
 rw[Int.toNat_natCast,Nat.min_eq_left (by omega),IntKind.wrap_i64]
 have e:(1:Int) * 2 ^ k8 n=(vH n:Int):=by
  unfold vH
  rw[Int.one_mul]
  norm_cast
 rw[e]
 omega
def je(f:Nat -> Int):Nat -> Nat -> Value:=λ i k=>match k with|0=>.int .u64 (f i)|_=>default
def vt(f:Nat -> Int)(i:Nat)(v:Int):Nat -> Int:=λ j=>if j=i then v else f j
theorem rU(f:Nat -> Int)(i:Nat)(v:Int):dh (je f) i 0 (.int .u64 v)=je (vt f i v):=by
 funext j k
 unfold dh je vt
 cases k with
 | zero=>by_cases h:j=i <;> simp[h]
 | succ k=>simp
def KP(xs:List Int)(sz:Nat):Nat -> Nat -> Int
 | 0=>λ _=>0
 | i+1=>vt (KP xs sz i) (sz+i) (HV i (xs.getD i 0))
def HX(xs:List Int)(sz:Nat):Nat -> Nat -> Int
 | 0=>KP xs sz xs.length
 | m+1=>vt (HX xs sz m) (sz+(xs.length+m)) HW
def sP(xs:List Int)(sz:Nat):Nat -> Nat -> Int
 | 0=>HX xs sz (sz-xs.length)
 | m+1=>vt (sP xs sz m) (sz-1-m) (Ca (sP xs sz m (2 * (sz-1-m))) (sP xs sz m (2 * (sz-1-m)+1)))
def ia(xs:List Int):Int:=sP xs (vH xs.length) (vH xs.length-1) 1
theorem DY(xs:List Int)(sz:Nat):ig [.int .u64 0]=je (KP xs sz 0):=by
 funext j k
 cases k with
 | zero=>rfl
 | succ k=>simp[ig,je]
theorem KQ{xs:List Int}{sz j:Nat}(h:xs.length <= j):vt (HX xs sz (j-xs.length)) (sz+j) HW=HX xs sz (j+1-xs.length):=by
 rw[show j+1-xs.length=(j-xs.length)+1 by omega,HX,show xs.length+(j-xs.length)=j by omega]
theorem KR{xs:List Int}{sz k:Nat}(h:k+1 <= sz)(h1:1 <= k):vt (sP xs sz (sz-1-k)) k (Ca (sP xs sz (sz-1-k) (2 * k)) (sP xs sz (sz-1-k) (2 * k+1)))=sP xs sz (sz-1-(k-1)):=by
 rw[show sz-1-(k-1)=(sz-1-k)+1 by omega,sP,show sz-1-(sz-1-k)=k by omega]
theorem DZ(xs:List Int){n:Nat}(h:xs.length=n):bd 1 (aJ xs) n=xs.map vI:=by
 refine iE (by simpa using h) λ i k hi hk=>?_
 obtain rfl:k=0:=by omega
 have Uw:i<xs.length:=by omega
 simp[aJ,List.getD_eq_getElem?_getD,List.getElem?_eq_getElem Uw]
theorem HY{q c:Nat}{ty:TypeId}{xs:List Int}{H F:HL}(hq:(q,.rows 1 c (aJ xs) ty (0,0))∈H++F)(hc:xs.length <= c):∀w,Rel (H++F) w -> ∀j v,(xs.map vI)[j]?=some v -> w.cell? (Addr.add ⟨q,0,none⟩ j)=some v:=by
 intro w hr j v hv
 have hj:j<xs.length:=by
  have:=(List.getElem?_eq_some_iff.1 hv).1
  simpa using this
 have hb:=hr.holds _ hq
 rw[show Addr.add ⟨q,0,none⟩ j=⟨q,j,none⟩ by unfold Addr.add;split <;> simp_all,jM (i:=j) (k:=0) hb rfl rfl (by simp) (by omega) (by omega)]
 rw[<- hv]
 simp[aJ,List.getD_eq_getElem?_getD,List.getElem?_eq_getElem hj]
theorem Nl{xs:List Int}:∀v∈xs.map vI,v.oneCell'=true:=by
 intro v hv
 obtain⟨x,_,rfl⟩:=List.mem_map.1 hv
 rfl
theorem HZ(b:ByteArray)(F:HL)(hb:b.size <= 1000000):Sp Tryz.prog 16 #[.string b,.slice none 0 0] [] F (λ u H'=>u=.int .u64 (kY b []) /\ H'=[]):=by
 refine Sp.run Tryz.func16 rfl mn (A:=[]) (Ts:=[]) rfl λ w0=>?_
 refine ae 10 [] λ _=>RN.cp (iV b 0 _ (by assumption))<|ae 12 [] λ _=>RN.rounds 1<|ae 15 [] λ _=>RN.cp (eM (cM b 0) 0 _)<|ae 3 [] λ _=>?_
 exact RN.ret [] [] [] ⟨rfl,rfl⟩
theorem Ae(n:Nat)(F:HL)(hl:n <= 1000000):Sp Tryz.prog 73 #[vI (n:Int)] [] F (λ u H'=>u=vI (k8 n:Int) /\ H'=[]):=by
 refine Sp.run Tryz.func73 rfl mn (A:=[]) (Ts:=[]) rfl λ w0=>?_
 refine ae 12 [] λ _=>RN.em ((n:Int) <= 1) 4 (λ h1=>?_) λ h1=>?_
 ·refine ae 6 [] λ _=>RN.ret [] [] [] (v:=vI 0) (H':=[]) ?_
  exact⟨congrArg (λ x:Nat=>vI (x:Int)) (Ni (by assumption)).symm,rfl⟩
 ·refine ai 8 [.nw] [aS ((n:Int)-1)] λ _=>RN.cp (vY ((n:Int)-1) _)<|ae 3 [] λ _=>RN.ret [] [] [] (v:=vI (uD ((n:Int)-1))) (H':=[]) ?_
  exact⟨congrArg vI (Nj hl (by assumption)),rfl⟩
theorem D1(i v:Int)(F:HL):Sp Tryz.prog 74 #[vI i,vI v] [] F (λ u H'=>u=.int .u64 (HV i v) /\ H'=[]):=by
 refine Sp.run Tryz.func74 rfl mn (A:=[]) (Ts:=[]) rfl λ w0=>?_
 refine ae 10 [] λ n1=>RN.dn 0 (.rows 1 2 (aJ [i,v]) 3 (0,0))<|RN.cp (nN (⟨#[108,101,97,102]⟩) ([i,v]) (n1+0) 2 _ (by decide) (Nat.le_of_ble_eq_true rfl) (Nat.le_of_ble_eq_true rfl) (av 0))<|ae 3 [] λ _=>?_
 exact RN.ret [] [] [] ⟨rfl,rfl⟩
theorem D2(a b:Int)(F:HL):Sp Tryz.prog 75 #[.int .u64 a,.int .u64 b] [] F (λ u H'=>u=.int .u64 (Ca a b) /\ H'=[]):=by
 refine Sp.run Tryz.func75 rfl mn (A:=[]) (Ts:=[]) rfl λ w0=>?_
 refine ae 12 [] λ n1=>RN.dn 0 (.rows 1 2 (aJ [i64.wrap a,i64.wrap b]) 3 (0,0))<|RN.cp (nN (⟨#[112,97,105,114]⟩) ([i64.wrap a,i64.wrap b]) (n1+0) 2 _ (by decide) (Nat.le_of_ble_eq_true rfl) (Nat.le_of_ble_eq_true rfl) (av 0))<|ae 3 [] λ _=>?_
 exact RN.ret [] [] [] ⟨rfl,rfl⟩
theorem H3(q c:Nat)(xs:List Int)(F:HL)(hq:(q,.rows 1 c (aJ xs) 3 (0,0))∈F)(hc:xs.length <= c)(hl:xs.length <= 1000000):Sp Tryz.prog 40 #[vS q 0 xs.length c] (ap [] []) F (λ u H'=>∃x:Nat × Nat × Nat,H'=ap [(x.1,.lit [vI (k8 xs.length:Int),vS x.2.1 0 xs.length xs.length,vS x.2.2 0 (2 * vH xs.length) (2 * vH xs.length)] 150 (0,0)),(x.2.1,.rows 1 xs.length (aJ xs) 3 (0,0)),(x.2.2,.rows 1 (2 * vH xs.length) (je (sP xs (vH xs.length) (vH xs.length-1))) 45 (0,0))] [] /\ u=vP x.1 0):=by
 obtain⟨UA,Uz,XC,hb4⟩:=Ad hl
 have he:=Pk hl
 obtain⟨sz,G_⟩:∃sz,vH xs.length=sz:=⟨_,rfl⟩
 rw[G_] at Uz XC hb4 he
 refine Sp.run Tryz.func40 rfl (mc hq mn) (A:=[]) (Ts:=[]) rfl λ w0=>?_
 refine ae 9 [] λ _=>RN.cp (Ae xs.length _ hl)<|ai 11 [.dv] [0 <= (k8 xs.length:Int)] λ _=>RN.draw [] []<|fg 4 (congrArg (λ v_=>(vI v_:Value)) he)<|aC [] [0,1,4,2,5] [.nw] [aS (2 * (sz:Int))]<|jQ (σ:=Nat × Nat × Nat) (λ ⟨n1,n2,n3⟩=>⟨[(0,vS q 0 xs.length c),(4,vI (sz:Int)),(5,vP (n3+0) 0)],[((n3+0),.lit [vI (k8 xs.length:Int),vS (n1+0) 0 xs.length xs.length,vS (n2+0) 0 (2 * sz) (2 * sz)] 150 (0,0)),((n2+0),.rows 1 (2 * sz) (ig [.int .u64 0]) 45 (0,0)),((n1+0),.rows 1 xs.length (ig [vI 0]) 3 (0,0))],[],True,0⟩) ?_ ?_
 ·rintro⟨n1,n2,n3⟩
  refine ae 8 [.own 0] λ _=>RN.cpy (b:=(n1+0)) (n:=xs.length) (cap:=xs.length) (m:=xs.length) (c':=c) (a:=⟨q,0,none⟩) (T:=3) (t:=22) (tx:=22) (ty:=3) (g:=(ig [vI 0])) 2 (.rows 1 xs.length (aJ xs) 3 (0,0)) (xs.map vI) (by simp) rfl Nl rfl (HY (List.mem_append_right _ hq) hc) (congrArg (λ l:List Value=>(Obj.cells ⟨l⟩ 3 (0,0))) (DZ xs rfl))<|ae 11 [] λ _=>cr 1 (congrArg (λ v_=>(.rows 1 (2 * sz) v_ 45 (0,0):Blk)) (show (ig [.int .u64 0])=(je (KP xs sz 0)) from DY xs sz))<|RN.loop (σ:=Nat) (λ i=>⟨[(0,vS q 0 xs.length c),(4,vI (sz:Int)),(5,vP (n3+0) 0),(31,vS q 0 xs.length c),(32,vI (xs.length:Int)),(33,vI (i:Int))],[((n3+0),.lit [vI (k8 xs.length:Int),vS (n1+0) 0 xs.length xs.length,vS (n2+0) 0 (2 * sz) (2 * sz)] 150 (0,0)),((n2+0),.rows 1 (2 * sz) (je (KP xs sz i)) 45 (0,0)),((n1+0),.rows 1 xs.length (aJ xs) 3 (0,0))],[],i <= xs.length,xs.length-i⟩) 0 [0,1,2] [] (Nat.zero_le _) ?_
  rintro i hI4 SC
  refine ae 6 [] λ _=>RN.em ((i:Int)<(xs.length:Int)) 34 (λ h6=>?_) λ h6=>?_
  ·refine ai 14 [.ix i,.rorow 0 i 0] [(0+i * 1)=i * 1+0 /\ i<c,(i:Int)=((i:Nat):Int) /\ i<xs.length] λ _=>RN.draw [11] []<|aC [] [0,4,5,7,8,1,6,2,3] [.nw,.own 0] [aS ((sz:Int)+(i:Int))]<|RD.cp [] 9 (λ X_=>(D1 (i:Int) (xs.getD i 0) _))<|aC [] [10] [.ix (sz+i)] [(sz:Int)+(i:Int)=(((sz+i):Nat):Int) /\ (sz+i)<(2 * sz)]<|RD.one 11 (eA [] [.row 1 (sz+i) 0] [(0+(sz+i) * 1)=(sz+i) * 1+0 /\ (sz+i)<(2 * sz)] λ _=>?_)
   refine RD.fin<|ai 6 [.nw] [aS ((i:Int)+1)] λ _=>cr 1 (congrArg (λ v_=>(.rows 1 (2 * sz) v_ 45 (0,0):Blk)) (show (dh (je (KP xs sz i)) (sz+i) 0 (.int .u64 (HV (i:Int) (xs.getD i 0))))=(je (KP xs sz (i+1))) from (rU _ _ _))) ?_
   refine SC (i+1) [0,1,2] [] ?_
   try dsimp only
   exact⟨by omega,by omega⟩
  ·obtain rfl:i=xs.length:=by omega
   refine ae 8 [] λ _=>RN.cp (HZ (⟨#[101,109,112,116,121]⟩) _ (by decide))<|ae 12 [] λ _=>cr 1 (congrArg (λ v_=>(.rows 1 (2 * sz) v_ 45 (0,0):Blk)) (show (je (KP xs sz xs.length))=(je (HX xs sz (xs.length-xs.length))) from (by rw[Nat.sub_self];rfl)))<|RN.loop (σ:=Nat) (λ j=>⟨[(4,vI (sz:Int)),(5,vP (n3+0) 0),(8,.int .u64 (kY (⟨#[101,109,112,116,121]⟩) [])),(9,vI (j:Int))],[((n3+0),.lit [vI (k8 xs.length:Int),vS (n1+0) 0 xs.length xs.length,vS (n2+0) 0 (2 * sz) (2 * sz)] 150 (0,0)),((n2+0),.rows 1 (2 * sz) (je (HX xs sz (j-xs.length))) 45 (0,0)),((n1+0),.rows 1 xs.length (aJ xs) 3 (0,0))],[],xs.length <= j /\ j <= sz,sz-j⟩) xs.length [0,1,2] [] (⟨Nat.le_refl _,by omega⟩) ?_
   rintro j ⟨UO,hj2_⟩ XV
   refine ae 8 [] λ _=>RN.em ((j:Int)<(sz:Int)) 55 (λ h9=>?_) λ h9=>?_
   ·refine ai 24 [.own 0,.nw,.ix (sz+j),.row 1 (sz+j) 0,.nw] [aS ((j:Int)+1),(0+(sz+j) * 1)=(sz+j) * 1+0 /\ (sz+j)<(2 * sz),(sz:Int)+(j:Int)=(((sz+j):Nat):Int) /\ (sz+j)<(2 * sz),aS ((sz:Int)+(j:Int))] λ _=>cr 1 (congrArg (λ v_=>(.rows 1 (2 * sz) v_ 45 (0,0):Blk)) (show (dh (je (HX xs sz (j-xs.length))) (sz+j) 0 (.int .u64 (kY (⟨#[101,109,112,116,121]⟩) [])))=(je (HX xs sz (j+1-xs.length))) from (by rw[rU,<- KQ (by omega)];rfl))) ?_
    refine XV (j+1) [0,1,2] [] ?_
    try dsimp only
    exact⟨⟨by omega,by omega⟩,by omega⟩
   ·obtain rfl:sz=j:=by omega
    refine ai 15 [.nw] [aS ((sz:Int)-1)] λ _=>cr 1 (congrArg (λ v_=>(.rows 1 (2 * sz) v_ 45 (0,0):Blk)) (show (je (HX xs sz (sz-xs.length)))=(je (sP xs sz (sz-1-(sz-1)))) from (by rw[Nat.sub_self];rfl)))<|aB 10 (congrArg (λ v_=>(vI v_:Value)) (show (sz:Int)-1=((sz-1:Nat):Int) by omega))<|RN.loop (σ:=Nat) (λ k=>⟨[(5,vP (n3+0) 0),(10,vI (k:Int))],[((n3+0),.lit [vI (k8 xs.length:Int),vS (n1+0) 0 xs.length xs.length,vS (n2+0) 0 (2 * sz) (2 * sz)] 150 (0,0)),((n2+0),.rows 1 (2 * sz) (je (sP xs sz (sz-1-k))) 45 (0,0)),((n1+0),.rows 1 xs.length (aJ xs) 3 (0,0))],[],k+1 <= sz,k⟩) (sz-1) [0,1,2] [] (by omega) ?_
    rintro k hI10 UW
    refine ae 7 [] λ _=>RN.em ((k:Int) >= 1) 70 (λ Rk=>?_) λ Rk=>?_
    ·refine ae 5 [] λ _=>RN.draw [24] []<|aC [] [0,4,5,9,13,17,1,6,10,14,18,2,7,15,19,3,8,16,11,20,12,21] [.nw,.nw,.nw,.own 0,.own 0,.own 0,.ix (2 * k),.ix (2 * k+1),.row 1 (2 * k) 0,.row 1 (2 * k+1) 0] [(0+(2 * k+1) * 1)=(2 * k+1) * 1+0 /\ (2 * k+1)<(2 * sz),(0+(2 * k) * 1)=(2 * k) * 1+0 /\ (2 * k)<(2 * sz),(2 * (k:Int))+1=(((2 * k+1):Nat):Int) /\ (2 * k+1)<(2 * sz),2 * (k:Int)=(((2 * k):Nat):Int) /\ (2 * k)<(2 * sz),aS ((2 * (k:Int))+1),aS (2 * (k:Int)),aS (2 * (k:Int))]<|RD.cp [] 22 (λ X_=>(D2 ((sP xs sz (sz-1-k)) (2 * k)) ((sP xs sz (sz-1-k)) (2 * k+1)) _))<|aC [] [23] [.ix k] [(k:Int)=((k:Nat):Int) /\ k<(2 * sz)]<|RD.one 24 (eA [] [.row 1 k 0] [(0+k * 1)=k * 1+0 /\ k<(2 * sz)] λ _=>?_)
     refine RD.fin<|ai 7 [.nw] [aS ((k:Int)-1)] λ _=>cr 1 (congrArg (λ v_=>(.rows 1 (2 * sz) v_ 45 (0,0):Blk)) (show (dh (je (sP xs sz (sz-1-k))) k 0 (.int .u64 (Ca ((sP xs sz (sz-1-k)) (2 * k)) ((sP xs sz (sz-1-k)) (2 * k+1)))))=(je (sP xs sz (sz-1-(k-1)))) from (by rw[rU,KR (by omega) (by omega)])))<|aB 10 (congrArg (λ v_=>(vI v_:Value)) (show (k:Int)-1=((k-1:Nat):Int) by omega)) ?_
     refine UW (k-1) [0,1,2] [] ?_
     try dsimp only
     exact⟨by omega,by omega⟩
    ·obtain rfl:k=0:=by omega
     refine ae 12 [] λ _=>RN.ret [] [0,2,1] [] (v:=vP (n3+0) 0) (H':=[((n3+0),.lit [vI (k8 xs.length:Int),vS (n1+0) 0 xs.length xs.length,vS (n2+0) 0 (2 * sz) (2 * sz)] 150 (0,0)),((n1+0),.rows 1 xs.length (aJ xs) 3 (0,0)),((n2+0),.rows 1 (2 * sz) (je (sP xs sz (sz-1-0))) 45 (0,0))]) ?_
     subst G_
     exact⟨(_,_,_),rfl,rfl⟩
 ·intro Xi
  refine fQ 3 6 ?_ ?_
  ·refine eA [] [.mk xs.length xs.length] [(xs.length:Int)=((xs.length:Nat):Int) /\ (xs.length:Int)=((xs.length:Nat):Int) /\ xs.length <= xs.length /\ 8 * xs.length <= 140737488355328 /\ 1=1 /\ xs.length <= 9223372036854775807] λ ZF=>RD.one 6 (eA [] [.mk (2 * sz) (2 * sz)] [2 * (sz:Int)=(((2 * sz):Nat):Int) /\ 2 * (sz:Int)=(((2 * sz):Nat):Int) /\ (2 * sz) <= (2 * sz) /\ 8 * (2 * sz) <= 140737488355328 /\ 1=1 /\ (2 * sz) <= 9223372036854775807] λ n15=>?_)
   refine RD.one 7 (RDO.ev [] [] λ _=>?_)
   refine RD.one 8 (RDO.ev [] [] λ n16=>?_)
   refine RD.one 9 (RDO.ev [] [] λ _=>?_)
   exact Xi ⟨ZF,n15,n16⟩ [0,1,2] []
  ·refine eA [] [.mk (2 * sz) (2 * sz)] [2 * (sz:Int)=(((2 * sz):Nat):Int) /\ 2 * (sz:Int)=(((2 * sz):Nat):Int) /\ (2 * sz) <= (2 * sz) /\ 8 * (2 * sz) <= 140737488355328 /\ 1=1 /\ (2 * sz) <= 9223372036854775807] λ n17=>RD.one 3 (eA [] [.mk xs.length xs.length] [(xs.length:Int)=((xs.length:Nat):Int) /\ (xs.length:Int)=((xs.length:Nat):Int) /\ xs.length <= xs.length /\ 8 * xs.length <= 140737488355328 /\ 1=1 /\ xs.length <= 9223372036854775807] λ n18=>?_)
   refine RD.one 7 (RDO.ev [] [] λ _=>?_)
   refine RD.one 8 (RDO.ev [] [] λ n19=>?_)
   refine RD.one 9 (RDO.ev [] [] λ _=>?_)
   exact Xi ⟨n18,n17,n19⟩ [0,2,1] []
theorem D3(t cb nb n c:Nat)(h:Int)(f:Nat -> Int)(F:HL)(ht:(t,.lit [vI h,vS cb 0 n n,vS nb 0 c c] 150 (0,0))∈F)(hn:(nb,.rows 1 c (je f) 45 (0,0))∈F)(hc:2 <= c):Sp Tryz.prog 41 #[vP t 0] [] F (λ u H'=>u=.int .u64 (f 1) /\ H'=[]):=by
 refine Sp.run Tryz.func41 rfl (mc ht (mc hn mn)) (A:=[]) (Ts:=[]) rfl λ w0=>?_
 refine ai 16 [.ro 0,.ix 1,.rorow 1 1 0] [(0+1 * 1)=1 * 1+0 /\ 1<c,1=((1:Nat):Int) /\ 1<c] λ _=>?_
 exact RN.ret [] [] [] ⟨rfl,rfl⟩
theorem D4(q c:Nat)(xs:List Int)(F:HL)(hq:(q,.rows 1 c (aJ xs) 3 (0,0))∈F)(hc:xs.length <= c)(hl:xs.length <= 1000000):Sp Tryz.prog 14 #[vS q 0 xs.length c] [] F (λ u H'=>u=.int .u64 (ia xs) /\ H'=[]):=by
 refine Sp.run Tryz.func14 rfl (mc hq mn) (A:=[]) (Ts:=[]) rfl λ w0=>?_
 refine ae 8 [] λ _=>RN.ct (Hp:=[]) (Tp:=[]) [] [] (H3 q c xs _ (ar hq) hc hl) ?_
 rintro _ ⟨t1,c2,n3⟩ rfl
 refine RN.cp (D3 t1 c2 n3 xs.length (2 * vH xs.length) (k8 xs.length) (sP xs (vH xs.length) (vH xs.length-1)) _ (av 0) (av 2) (by have:=(Ad hl).2.2.1;omega))<|ae 3 [] λ _=>?_
 exact RN.ret [] [] [] ⟨rfl,rfl⟩
def jb(A:Option Addr)(l sz cap:Nat):Option Addr:=if cap=l then A else A.map (·.add (l * sz))
def QE(P:Program)(o:Oper)(L:FL):Option (Option Addr × Nat × Nat × Int × Nat):=match o.guard,o.op with
 | none,.slice t x (some lo) none none=>match kJ L x && kJ L lo,P.underlying t,ie L x,ie L lo with
  | true,some (.slice elem),.slice a len cap,.int .i64 l=>match P.info? elem with
   | some inf=>some (a,len,cap,l,inf.size)
   | none=>none
  | _,_,_,_=>none
 | _,_=>none
def slK(P:Program)(N:Nat)(oo:Option Oper)(s:Cfg):Option (Option Addr × Nat × Nat × Int × Nat):=match oo with
 | some o=>match QE P o s.L,(fh N o.dst undef s.L).isSome with
  | some x,true=>some x
  | _,_=>none
 | none=>none
section
variable {r:Option Nat} {P:Program} {N:Nat} {D:List Deferred} {F:HL} {w0:World} {R:HL} {s:Cfg} {Q:Exit -> Act -> World -> Prop}
theorem H4{o:Oper}{L:FL}{A:Option Addr}{n cap sz:Nat}{l:Int}(h:QE P o L=some (A,n,cap,l,sz)) :
  ∃t x lo elem inf,o.guard=none /\ o.op=.slice t x (some lo) none none /\ (kJ L x && kJ L lo)=true /\ P.underlying t=some (.slice elem) /\ ie L x=.slice A n cap /\ ie L lo=.int .i64 l /\ P.info? elem=some inf /\ inf.size=sz:=by
 unfold QE at h
 split at h
 case h_2=>cases h
 rename_i t x lo hg IS
 split at h
 case h_2=>cases h
 rename_i elem a len cp l' h1 h2 h3 h4
 split at h
 case h_2=>cases h
 rename_i inf h5
 simp only[Option.some.injEq,Prod.mk.injEq] at h
 obtain⟨e1,e2,e3,e4,e5⟩:=h
 subst e1;subst e2;subst e3;subst e4
 exact⟨t,x,lo,elem,inf,hg,IS,h1,h2,h3,h4,h5,e5⟩
theorem RN.slA{A:Option Addr}{n cap l sz:Nat}{li:Int}(hl:li=(l:Int))(h1:l <= n)(h2:n <= cap)(hk:RN r P N D F w0 R (fD N (.slice (jb A l sz cap) (n-l) (cap-l)) s) Q)
  (h:slK P N (pS s) s=some (A,n,cap,li,sz):=by kernel_rfl):RN r P N D F w0 R s Q:=by
 unfold slK at h
 split at h
 case h_2=>cases h
 rename_i o q0
 split at h
 case h_2=>cases h
 rename_i y hv hp
 simp only[Option.some.injEq] at h
 rw[h] at hv
 clear h
 obtain⟨t,x,lo,elem,inf,q1,q2,q3,q4,q5,q6,q7,q8⟩:=H4 hv
 refine⟨λ hR aa w hF aT hB=>?_⟩
 obtain⟨c,k,L,Bs,Ts⟩:=s
 unfold pS at q0
 cases c with
 | code c=>cases q0
 | ex c=>cases q0
 | drw _ _=>cases q0
 | ops ops pc =>
  simp only at q0 q3 q5 q6 hp hF aT
  have IT:ops.toList.drop pc=o::ops.toList.drop (pc+1):=by
   have iF:pc<ops.toList.length:=(List.getElem?_eq_some_iff.1 q0).1
   rw[List.drop_eq_getElem_cons iF,(List.getElem?_eq_some_iff.1 q0).2]
  show wpListIn _ _ _ _ _ _ _ _
  rw[IT,wpListIn,if_pos (by simp[Region.wanted,q1])]
  refine⟨λ _ _=>trivial,?_⟩
  have key:ew P o aa w λ u w'=>u=.slice (jb A l sz cap) (n-l) (cap-l) /\ Rel (ap Bs Ts++F) w' /\ Below 0 w w':=by
   simp only[Bool.and_eq_true] at q3
   have e1:=(hF.eval q3.1).trans q5
   have e2:=(hF.eval q3.2).trans q6
   have k1:=kj (P:=P) (ρ:=aa.eval) (lo:=some lo) (hi:=none) (l:=l) (h:=n) (len:=n) (cap:=cap) (by show EH _ _ _ _;unfold EH;simp only[e2];exact hl) rfl h1 h2 w
   have k2:=λ W=>dM q7 W
   have k3:=λ W=>aN q4 W
   unfold ew
   have he:(execOp aa.eval o).run P w=.ok (.value (.slice (jb A l sz cap) (n-l) (cap-l))) w:=by
    rw[show Option.map aa.eval none=none from rfl,show Option.map aa.eval (some lo)=some (aa.eval lo) from rfl] at k1
    simp[execOp,q2,Instr.sliceAt,Instr.slice,e1,k3,Go.sizeOf,k2,Sem.run_bind,k1,jb,q8]
   rw[he]
   exact⟨rfl,aT,Below.refl _ _⟩
  refine gh (by rw[q2];intro c hc;cases hc) key ?_
  rintro u w' ⟨rfl,QK,S_⟩
  obtain⟨L',p1⟩:=eI hp (.slice (jb A l sz cap) (n-l) (cap-l))
  have hh:=hk.h hR
  have RJ:fD N (.slice (jb A l sz cap) (n-l) (cap-l)) ⟨.ops ops pc,k,L,Bs,Ts⟩=⟨.ops ops (pc+1),k,L',Bs,Ts⟩:=by
   unfold fD
   simp only[q0,p1]
  rw[RJ] at hh
  exact hh _ w' (hF.put p1) QK (hB.trans S_)
end
section
variable {α:Type} {e:Enc α} {T:TypeId} {F:HL} {A:Option Addr} {n cap:Nat} {xs:List α} {Hl:HL}
theorem RowL.take(h:RowL e T F A n xs){k:Nat}(hk:k <= n):RowL e T F A k (xs.take k):=by
 cases h with
 | zero =>
  obtain rfl:k=0:=by omega
  exact .zero _
 | rows q o N full fz n xs hq ho hn hx =>
  refine .rows q o N full fz k _ hq (by omega) (by rw[List.length_take];omega) (λ i hi=>?_)
  rw[hx i (by omega),List.getD_eq_getElem?_getD,List.getD_eq_getElem?_getD,List.getElem?_take,if_pos hi]
end
def J2(tk:Int)(j1 j2 i:Nat):Nat × Int:=if tk>(i:Int) then (j1,0) else (j2,1)
theorem pN{tk:Int}{j1 j2 bp:Nat}{TB F:HL}(hB:Book2 tk j1 j2 bp TB)(hT:∀x∈TB,x∈F)(Rx:j1<5)(Q0:j2<5){t:Nat}{v:Int}(e:v=(t:Int)):(J2 tk j1 j2 t).1<5 /\ AtOk F bp v (J2 tk j1 j2 t):=by
 subst e
 refine⟨?_,hB.at hT Rx Q0 _ (by omega)⟩
 unfold J2
 split
 ·exact Rx
 ·exact Q0
theorem TE2.cs{S:Setup}{t:Int}{M N:MemS}(h:M.cs=N.cs)(hT:TE2 S t M):TE2 S t N:=by
 have hg:∀k,N.get k=M.get k:=λ k=>by unfold MemS.get;rw[h]
 exact⟨by rw[<- h];exact hT.len,λ k h1 h2=>by rw[hg];exact hT.z k h1 h2,by rw[hg];exact hT.t0⟩
abbrev sA(tk:Int)(j1 j2 t:Nat):Nat -> Nat × Int:=λ i=>J2 tk j1 j2 (t+i)
section
variable {tk:Int} {S S1 S2:Setup} {rs_:List Bx} {ds_:List Dr} {bp gb n cap k t j1 j2:Nat} {A:Option Addr} {rs:List Rw} {xss:List (List Inp)} {M R:MemS} {G0 F TB:HL}
end
theorem Sp.fr{P:Program}{f:FuncId}{args:Array Value}{H H2 X F:HL}{R R2:Value -> HL -> Prop}(hp:H2.Perm (H++X))(h:Sp P f args H (X++F) R)(hr:∀u Y,R u Y -> ∃H',R2 u H' /\ H'.Perm (Y++X)):Sp P f args H2 F R2:=λ w hR =>
 (h w (by rw[<- List.append_assoc];exact hR.perm (hp.symm.append_right F))).mono λ e w' ⟨v,Y,h1,h2,h3,h4⟩=>by
  obtain⟨H',h5,h6⟩:=hr v Y h2
  exact⟨v,H',h1,h5,(by rw[<- List.append_assoc] at h3;exact h3.perm (h6.append_right F)),h4⟩
inductive GameX(rs:List Bx)(ds:List Dr)(bp gb mb:Nat)(S:Setup)(M:MemS)(k:Nat):HL -> Prop
 | mk (T U:HL) (hM:MemH mb M k T) (hU:rh S rs ds U):GameX rs ds bp gb mb S M k (ap [(gb,.lit (dY S bp mb) 140 (0,0))] [T,U])
section
variable {rs:List Bx} {ds:List Dr} {bp gb mb:Nat} {S:Setup} {M:MemS} {k:Nat} {G0:HL}
theorem GameH.x(h:GameH rs ds bp gb S M k G0):∃mb,GameX rs ds bp gb mb S M k G0:=by
 cases h with
 | mk mb T U hM hU=>exact⟨mb,.mk T U hM hU⟩
theorem GameX.h(h:GameX rs ds bp gb mb S M k G0):GameH rs ds bp gb S M k G0:=by
 cases h with
 | mk T U hM hU=>exact .mk mb T U hM hU
theorem GameX.weak(h:GameX rs ds bp gb mb S M k G0){k':Nat}(hk:k' <= k):GameX rs ds bp gb mb S M k' G0:=by
 cases h with
 | mk T U hM hU=>exact .mk T U (hM.weak hk) hU
theorem GameX.mem(h:GameX rs ds bp gb mb S M k G0):∃T,MemH mb M k T /\ ∀x∈T,x∈G0:=by
 cases h with
 | mk T U hM hU=>exact⟨T,hM,λ x hx=>by simp[ap,hx]⟩
theorem Cb(h:GameX rs ds bp gb mb S M k G0){F:HL}(hF:∀x∈G0,x∈F):Sp Tryz.prog 38 #[vP gb 0] [] F (λ u H'=>u=vP mb 0 /\ H'=[]):=by
 cases h with
 | mk T U hM hU=>exact Gi S bp gb mb F (hF _ (by simp[ap]))
theorem Af(h:GameX rs ds bp gb mb S M k G0){F:HL}(hF:∀x∈G0,x∈F):Sp Tryz.prog 39 #[vP mb 0] (ap [] []) F (λ u H'=>∃q,H'=ap [(q,.rows 1 M.cs.length (aJ M.cs) 3 (0,0))] [] /\ u=vS q 0 M.cs.length M.cs.length):=by
 obtain⟨T,hM,hT⟩:=h.mem
 exact Dh mb M k T F hM λ x hx=>hF x (hT x hx)
end
theorem H5{rs:List Bx}{ds:List Dr}{S:Setup}{bp gb mb b o N c k:Nat}{j:Nat × Int}{full xs:List Inp}{M:MemS}{G0 F:HL}(hG:GameX rs ds bp gb mb S M (k+20000) G0)(hj:j.1<5)(hA:AtOk F bp (M.get 0) j)(hE:cX F)(hI:(b,.rows 3 N (fS full) 119 (0,0))∈F)(hir:o+xs.length <= N)(Th:xs.length <= 1000000)(hx:∀k,k<xs.length -> full.getD (o+k) dI=xs.getD k dI)(hk:TkOk S j xs M) :
  Sp Tryz.prog 70 #[vP gb 0,vS b (o * 3) xs.length c] (ap [] [G0]) F (λ u H'=>∃x:(Option Addr × Nat × Nat) × HL × HL,H'=ap [] [x.2.1,x.2.2] /\ (GameX rs ds bp gb mb S (nU (sy S j xs) M) k x.2.1 /\ SlIs wq 197 (PH (sy S j xs) M) x.1.1 x.1.2.1 x.2.2 /\ u=.tuple #[.slice x.1.1 (PH (sy S j xs) M).length x.1.2.1,vI ((x.1.2.2+1:Nat):Int),vI 0])):=by
 obtain⟨m,hm,hg⟩:=hk.ex
 obtain⟨e1,e2⟩:=LF hm hg
 cases hG with
 | mk T U hM hU =>
  rw[bB]
  refine(Hy S rs ds bp gb mb b o N xs.length c m k j full xs M T U F hj hA hU hE hI hir Th (by omega) rfl hx (hM.weak (by omega)) hk.now hg hk.ok).mono λ u H' h=>?_
  obtain⟨x,rfl,h1,h2,h3⟩:=h
  rw[e1] at h1
  rw[e2] at h2 h3
  exact⟨((x.2.1,x.2.2.1,m),ap [(gb,.lit (dY S bp mb) 140 (0,0))] [x.1,U],x.2.2.2),by simp[ap],.mk x.1 U h1 hU,h2,h3⟩
theorem Nm{rs:List Bx}{ds:List Dr}{bp gb mb:Nat}{S:Setup}{M:MemS}{k:Nat}{G0:HL}(h:GameX rs ds bp gb mb S M k G0){F:HL}(hF:∀x∈G0,x∈F)(hb:0 <= M.base /\ M.base <= 1000000000):Sp Tryz.prog 72 #[vP mb 0] [] F (λ u H'=>u=vI (M.base+(M.lg.length:Int)) /\ H'=[]):=by
 obtain⟨T,hM,hT⟩:=h.mem
 exact M8 hM (λ x hx=>hF x (hT x hx)) hb
theorem Pl{rs:List Bx}{ds:List Dr}{bp gb mb:Nat}{S:Setup}{M:MemS}{k:Nat}{G0:HL}(h:GameX rs ds bp gb mb S M k G0)(F:HL){k2:Nat}(hk:k2 <= 100000000)(hb:0 <= M.base /\ M.base <= 1000000000):Sp Tryz.prog 71 #[vP mb 0,vI (M.base+(M.lg.length:Int))] (ap [] [G0]) F (λ u H'=>∃x,H'=ap [] [x] /\ (u=vI 0 /\ GameX rs ds bp gb mb S ⟨M.cs,[],M.base+(M.lg.length:Int)⟩ k2 x)):=by
 cases h with
 | mk T U hM hU =>
  have h1:=HC (k2:=k2) ([(gb,Blk.lit (dY S bp mb) 140 (0,0))]++(U++F)) hM hb hk
  refine Sp.fr (X:=[(gb,Blk.lit (dY S bp mb) 140 (0,0))]++U) ?_ (F:=F) (by rw[List.append_assoc];exact h1) ?_
  ·rw[bB,bB]
   show (([(gb,Blk.lit (dY S bp mb) 140 (0,0))]++[T,U].flatten)).Perm _
   simp only[List.flatten_cons,List.flatten_nil,List.append_nil]
   exact(List.perm_append_comm_assoc _ _ _)
  ·rintro u Y ⟨x,rfl,rfl,h4⟩
   refine⟨ap [(gb,Blk.lit (dY S bp mb) 140 (0,0))] [x,U],⟨_,(bB _).symm,rfl,.mk x U h4 hU⟩,?_⟩
   rw[bB]
   show (([(gb,Blk.lit (dY S bp mb) 140 (0,0))]++[x,U].flatten)).Perm _
   simp only[List.flatten_cons,List.flatten_nil,List.append_nil]
   exact(List.perm_append_comm_assoc _ _ _)
structure Ck where (A:Option Addr) (n c:Nat) (r:Int)
def yc:Enc Ck:=⟨2,λ p k=>match k with|0=>.slice p.A p.n p.c|_=>.int .u64 p.r,⟨none,0,0,0⟩⟩
noncomputable def Pm:TypeInfo:=match Tryz.prog.info? 88 with|some i=>i|none=>⟨.bool,"",0,0,false,0,0,none,false,#[]⟩
noncomputable def Pn:Value:=match Pm.zero with|some z=>z|none=>.bool false
theorem Po:EncOk yc Tryz.prog 88 Pm Pn where
 info:=by kernel_rfl
 zero:=by kernel_rfl
 size:=by kernel_rfl
 zsize:=by kernel_rfl
 zcell:=λ k hk=>by
  have h:∀k<2,Pn.cells[k]?=some (yc.cell yc.dflt k):=by intro k hk;(iterate 2 (rcases k with _|k;· kernel_rfl));omega
  exact h k hk
 one:=λ x k=>by unfold yc;dsimp only;split <;> rfl
 bytes:=Nat.le_of_ble_eq_true (by kernel_rfl)
def CksT(cl:List Ck)(VY:Nat -> List Int)(T:HL):Prop:=∀F:HL,(∀x∈T,x∈F) -> ∀k,k<cl.length -> ∃q,cl.getD k yc.dflt=⟨some ⟨q,0,none⟩,(VY k).length,(VY k).length,ia (VY k)⟩ /\ (q,.rows 1 (VY k).length (aJ (VY k)) 3 (0,0))∈F
theorem CksT.nil(VY:Nat -> List Int):CksT [] VY []:=λ F _ k hk=>absurd hk (Nat.not_lt_zero _)
theorem CksT.snoc{cl:List Ck}{VY:Nat -> List Int}{T:HL}{q:Nat}{cs:List Int}(h:CksT cl VY T)(e:VY cl.length=cs):CksT (cl++[⟨some ⟨q,0,none⟩,cs.length,cs.length,ia cs⟩]) VY (T++[(q,.rows 1 cs.length (aJ cs) 3 (0,0))]):=λ F hF k hk=>by
 rw[iC]
 by_cases V9:k<cl.length
 ·rw[if_pos V9]
  exact h F (λ x hx=>hF x (List.mem_append_left _ hx)) k V9
 ·have:k=cl.length:=by simp at hk;omega
  rw[if_neg V9,if_pos this,this,e]
  exact⟨q,rfl,hF _ (List.mem_append_right _ (List.mem_singleton.2 rfl))⟩
theorem RwsT.snocC{rs:List Rw}{xss:List (List Inp)}{T T1:HL}{xs:List Inp}{A:Option Addr}{c n:Nat}(h:RwsT rs xss T)(hs:ClS ep 119 xs A c T1)(h1:1 <= xs.length)(hn:n=xs.length):RwsT (rs++[⟨A,n,c⟩]) (xss++[xs]) (T++T1):=by
 obtain⟨A0,hs⟩:=hs
 rcases hs with ⟨rfl,_⟩|⟨b,rfl,rfl,h3⟩
 ·simp at h1
 ·refine h.snoc (A:=some ⟨b,0,none⟩) (c:=c) (T1:=[(b,.rows 3 c (aO ep xs) 119 (0,0))]) (.inr ⟨b,0,xs++List.replicate (c-xs.length) ep.dflt,by simp,?_,by simp;omega,h3,by simp⟩) h1 hn
  rw[Nat.zero_add,jU];rfl
theorem H6{n ev:Nat}(h:(n+1) % ev=0):(n+1) / ev=n / ev+1:=by rw[Nat.succ_div,if_pos (Nat.dvd_of_mod_eq_zero h)]
theorem Nn{n ev:Nat}(h:¬ (n+1) % ev=0):(n+1) / ev=n / ev:=by rw[Nat.succ_div,if_neg (λ e=>h (Nat.mod_eq_zero_of_dvd e))];rfl
theorem Np{n ev:Nat}(h:(n+1) % ev=0):(n / ev+1) * ev=n+1:=by
 rw[<- H6 h,Nat.mul_comm]
 have:=Nat.div_add_mod (n+1) ev
 omega
theorem rV(S2 S3:Setup)(rs_:List Bx)(ds_:List Dr)(bp gb mb rp ev rn rc cc k:Nat)(rA cA:Option Addr)(cl:List Ck)(M:MemS)(G0 Hl F:HL)(hG:GameX rs_ ds_ bp gb mb S2 M k G0)(hF:∀x∈G0,x∈F)(hs:SlIs yc 88 cl cA cc Hl)(hcl:cl.length <= 100000)(hml:M.cs.length <= 1000000):Sp Tryz.prog 50 #[vP rp 0] (ap [(rp,.lit (Setup.l S3++[vP bp 0,vI (ev:Int),vP gb 0,.slice rA rn rc,.slice cA cl.length cc]) 86 (0,0))] [Hl]) F (λ u H'=>∃x:(Nat × Option Addr × Nat) × HL,H'=ap [(rp,.lit (Setup.l S3++[vP bp 0,vI (ev:Int),vP gb 0,.slice rA rn rc,.slice x.1.2.1 (cl.length+1) x.1.2.2]) 86 (0,0)),(x.1.1,.rows 1 M.cs.length (aJ M.cs) 3 (0,0))] [x.2] /\ (u=.tuple #[] /\ SlIs yc 88 (cl++[⟨some ⟨x.1.1,0,none⟩,M.cs.length,M.cs.length,ia M.cs⟩]) x.1.2.1 x.1.2.2 x.2)):=by
 refine Sp.run Tryz.func50 rfl mn (A:=[(rp,.lit (Setup.l S3++[vP bp 0,vI (ev:Int),vP gb 0,.slice rA rn rc,.slice cA cl.length cc]) 86 (0,0))]) (Ts:=[Hl]) rfl λ w0=>?_
 refine ae 6 [.own 0] λ _=>RN.cp (Cb hG (λ x hx=>ar (hF x hx)))<|RN.ct (Hp:=[]) (Tp:=[]) [] [] (Af hG (λ x hx=>ar (hF x hx))) ?_
 rintro _ q1 rfl
 refine ae 3 [] λ _=>RN.draw [10,13] []<|ag [] [0,1,5,6,2,3,4] [.own 1]<|RD.cp [] 7 (λ X_=>(D4 q1 M.cs.length M.cs _ (jD 0) (Nat.le_refl _) hml))<|ag [] [8] []<|RD.one 9 (RDO.ev [] [] λ n3=>?_)
 refine RD.one 10 (lQ [] Po cl [(⟨some ⟨q1,0,none⟩,M.cs.length,M.cs.length,ia M.cs⟩:Ck)] 0 0 rfl hs (by simp;omega) ?_)
 rintro A4 c5 T6 ⟨Z0,hz8⟩
 refine ag [] [11,12] []<|RD.one 13 (RDO.ev [] [.own 2] λ _=>?_)
 refine RD.fin<|RN.ret [] [2,1] [0] (v:=.tuple #[]) (H':=(ap [(rp,.lit (Setup.l S3++[vP bp 0,vI (ev:Int),vP gb 0,.slice rA rn rc,.slice A4 (cl.length+1) c5]) 86 (0,0)),(q1,.rows 1 M.cs.length (aJ M.cs) 3 (0,0))] [T6])) ?_
 exact⟨((q1,A4,c5),T6),rfl,rfl,Z0⟩
theorem pi{rs_:List Bx}{ds_:List Dr}{S2:Setup}{bp gb mb b o N c:Nat}{j:Nat × Int}{full xs:List Inp}{M:MemS}{G0 F:HL}(hG:GameX rs_ ds_ bp gb mb S2 M (99000000+20000) G0)(hb:0 <= M.base /\ M.base <= 900000000)(hj:j.1<5)(hA:AtOk F bp (M.get 0) j)(hE:cX F)(hI:(b,.rows 3 N (fS full) 119 (0,0))∈F)(hir:o+xs.length <= N)(Th:xs.length <= 1000000)(hx:∀k,k<xs.length -> full.getD (o+k) dI=xs.getD k dI)(hk:TkOk S2 j xs M):Sp Tryz.prog 37 #[vP gb 0,vS b (o * 3) xs.length c] (ap [] [G0]) F (λ u H'=>∃x:MemS × HL,H'=ap [] [x.2] /\ (u=vI 0 /\ GameX rs_ ds_ bp gb mb S2 x.1 99020000 x.2 /\ x.1.cs=(nU (sy S2 j xs) M).cs /\ 0 <= x.1.base /\ x.1.base <= M.base+1000000)):=by
 refine Sp.run Tryz.func37 rfl mn (A:=[]) (Ts:=[G0]) rfl λ w0=>?_
 refine ae 9 [] λ _=>RN.ct [] [0] (H5 (c:=c) (k:=99000000) hG hj (hA.mono λ x hx=>ar hx) (ar hE) (ar hI) hir Th hx hk) ?_
 rintro _ ⟨⟨A1,c2,n3⟩,T4,E5⟩ ⟨WZ,Z0,rfl⟩
 dsimp only at WZ Z0
 have hb2_:0 <= (nU (sy S2 j xs) M).base /\ (nU (sy S2 j xs) M).base <= 1000000000:=by rw[xW];omega
 refine ae 22 [] λ _=>RN.cp (Cb WZ (aq 0))<|ae 7 [] λ _=>RN.cp (Nm WZ (aq 0) hb2_)<|RN.ct [] [0] (Pl (k2:=99020000) WZ _ (by decide) hb2_) ?_
 rintro _ T8 ⟨rfl,hG9⟩
 refine ae 3 [] λ _=>RN.ret [] [] [0] (v:=vI 0) (H':=(ap [] [T8])) ?_
 obtain⟨_,Uu,_⟩:=WZ.mem
 have hl_:=Uu.len2
 have hbe_:=xW (sy S2 j xs) M
 exact⟨(⟨(nU (sy S2 j xs) M).cs,[],(nU (sy S2 j xs) M).base+((nU (sy S2 j xs) M).lg.length:Int)⟩,T8),rfl,rfl,hG9,rfl,by show 0 <= (nU (sy S2 j xs) M).base+_;omega,by show (nU (sy S2 j xs) M).base+_ <= _;omega⟩
theorem Ag(S:Setup)(rs:List Bx)(ds:List Dr)(F:HL)(hS:SetCl F S)(hM:MapIn F S rs ds)(h1:1 <= S.nb)(RI:S.rn <= 1000000)(RM:S.dn <= 1000000):Sp Tryz.prog 49 #[Setup.v S] (ap [] []) F (λ u H'=>∃x:Setup × HL,H'=ap [] [x.2] /\ (u=Setup.v x.1 /\ SetEq S x.1 /\ rh x.1 rs ds x.2)):=by
 have hp:=hS.pl
 have hn:=hS.nb
 have hr:=hS.room
 refine Sp.run Tryz.func49 rfl (mc hS.blk mn) (A:=[]) (Ts:=[]) rfl λ w0=>?_
 refine ae 10 [.own 1] λ n1=>RN.ct (Hp:=[]) (Tp:=[]) [] [] (lw (some ⟨S.bb,S.bo * 9,none⟩) S.nb S.bc (jx S) _ (RowL.src uG (by decide) (tG hS.toSh).up) (by omega)) ?_
 rintro _ ⟨A2,c3,T4⟩ ⟨rfl,hc5⟩
 dsimp only at hc5
 refine ae 7 [.own 1] λ _=>?_
 obtain⟨bb,rfl,rfl,Rq⟩:=hc5.open (by rw[fL];omega)
 have hcap:S.nb <= c3:=by rw[fL] at Rq;exact Rq
 refine pB 0 (x:=(bb,.rows 9 c3 (jF (jx S)) 78 (0,0)))<|ae 7 [.own 2] λ _=>RN.nt<|RN.loop (σ:=Nat × List Bod × HL) (λ ⟨i,bods,U_⟩=>⟨[(1,vP (n1+0) 0),(2,vP (n1+1) 0),(10,vI (S.nb:Int)),(11,vI (i:Int))],[(bb,.rows 9 c3 (jF bods) 78 (0,0)),((n1+1),.lit [vI 0,.slice none 0 0,vI 0,vI 0,vI 0,vI 0,.slice none 0 0,.slice none 0 0,vI 0,vI 0,vI 0,vI 0,vI 0,vI 0,vI 0,vI 0] 31 (0,0)),((n1+0),.lit [vI S.players,vS bb 0 S.nb c3,vI S.box.x0,vI S.box.y0,vI S.box.x1,vI S.box.y1,.slice S.rA S.rn S.rc,.slice S.dA S.dn S.dc,vI S.fog,vI S.g.x,vI S.g.y,vI S.push,vI S.drag,vI S.rest,vI S.rounds,vI S.fuel] 31 (0,0))],[U_],i <= S.nb /\ bods.length=S.nb /\ (∀k,k<S.nb -> ∃A c,bods.getD k dB=(S.body k).at A c) /\ (∀k,k<i -> ShH (bods.getD k dB).sh U_) /\ ∀k,i <= k -> k<S.nb -> bods.getD k dB=S.body k,S.nb-i⟩) (0,jx S,[]) [0,1,2] [0] (⟨Nat.zero_le _,fL S,λ k hk=>⟨_,_,iB hk⟩,λ k hk=>absurd hk (Nat.not_lt_zero _),λ k _ hk=>iB hk⟩) ?_
 rintro⟨i,bods,U_⟩ ⟨SD,Q8,SO,SN,TO⟩ V5
 refine ae 6 [] λ _=>RN.em ((i:Int)<(S.nb:Int)) 12 (λ h8=>?_) λ h8=>?_
 ·refine ae 7 [] λ _=>?_
  have Sn:(RowL lr 29 F (bods.getD i dB).sh.A (bods.getD i dB).sh.poly.length (bods.getD i dB).sh.poly /\ (bods.getD i dB).sh.poly.length <= 1000000) /\ ((bods.getD i dB).sh.poly=[] \/ 3 <= (bods.getD i dB).sh.poly.length):=by rw[TO i (Nat.le_refl _) (by omega)];exact hS.shp i (by omega)
  have Of:=Sn.1.1
  have WC:(bods.getD i dB).sh.poly.length <= 100000000:=by have:=Sn.1.2;omega
  refine ae 4 [] λ _=>RN.draw [14] []<|aC [] [0,2,3,5,1,4,6,7,8,9] [.own 2,.own 2,.ix i,.row 0 i 1] [((0+i * 9)+1)=i * 9+1 /\ i<c3,(i:Int)=((i:Nat):Int) /\ i<S.nb]<|RD.one 10 (RDO.ct [] (Hp:=[]) (Tp:=[]) [] [] (mz ((bods.getD i dB).sh.A) ((bods.getD i dB).sh.poly.length) ((bods.getD i dB).sh.cap) ((bods.getD i dB).sh.poly) _ (RowL.src zw (by decide) Of.up) WC) ?_)
  rintro _ ⟨A9,TY,No⟩ ⟨rfl,Vx⟩
  dsimp only at Vx
  refine aC [] [11,12,13] [.ix i] [(i:Int)=((i:Nat):Int) /\ i<S.nb]<|RD.one 14 (eA [] [.row 0 i 1] [((0+i * 9)+1)=i * 9+1 /\ i<c3] λ _=>?_)
  refine RD.fin<|ai 6 [.nw] [aS ((i:Int)+1)] λ _=>cr 0 (congrArg (λ v_=>(.rows 9 c3 v_ 78 (0,0):Blk)) (show (dh (jF bods) i 1 (.slice A9 ((bods.getD i dB).sh.poly.length) TY))=(jF (bods.set i ((bods.getD i dB).at A9 TY))) from (Bo (by omega) A9 TY)))<|kO [1,0]<|mv ?_
  refine V5 (i+1,(bods.set i ((bods.getD i dB).at A9 TY)),U_++No) [0,1,2] [0] ?_
  try dsimp only
  refine⟨⟨by omega,by rw[List.length_set];exact Q8,λ t ht=>?_,λ t ht=>?_,λ t W6 Q1=>?_⟩,by omega⟩
  ·rcases Decidable.em (i=t) with rfl|h_
   ·rw[dq (by omega),TO i (Nat.le_refl _) ht];exact⟨_,_,rfl⟩
   ·rw[cS h_];exact SO t ht
  ·rcases Decidable.em (i=t) with rfl|h_
   ·rw[dq (by omega)];exact ShH.right (tH Sn.2 Sn.1.2 Vx)
   ·rw[cS h_];exact(SN t (by omega)).left
  ·rw[cS (by omega)];exact TO t (by omega) Q1
 ·refine ae 10 [.own 2] λ _=>RN.ct (Hp:=[]) (Tp:=[]) [] [] (mA S.rA S.rn S.rc rs _ (RowL.src F6 (by decide) hM.rooms.up) (by omega)) ?_
  rintro _ ⟨A13,c14,Sk⟩ ⟨rfl,Vw⟩
  dsimp only at Vw
  refine ae 8 [.own 2,.own 2] λ _=>RN.ct (Hp:=[]) (Tp:=[]) [] [] (lx S.dA S.dn S.dc ds _ (RowL.src F7 (by decide) hM.doors.up) (by omega)) ?_
  rintro _ ⟨Zb,YZ,TZ⟩ ⟨rfl,Vv⟩
  dsimp only at Vv
  refine ae 10 (ow 2 17++ow 1 16) λ _=>RN.ret (ow 1 16) [0] [0,1,2] (v:=.agg #[vI S.players,vS bb 0 S.nb c3,vI S.box.x0,vI S.box.y0,vI S.box.x1,vI S.box.y1,.slice A13 S.rn c14,.slice Zb S.dn YZ,vI S.fog,vI S.g.x,vI S.g.y,vI S.push,vI S.drag,vI S.rest,vI S.rounds,vI S.fuel]) (H':=(ap [(bb,.rows 9 c3 (jF bods) 78 (0,0))] [TZ,Sk,U_])) ?_
  have ei:i=S.nb:=by omega
  subst ei
  have S4:∀k,bods.getD (0+k) dB=bods.getD k dB:=λ k=>by rw[Nat.zero_add]
  refine⟨((⟨S.players,bb,0,S.nb,c3,c3,bods,S.box,A13,S.rn,c14,Zb,S.dn,YZ,S.fog,S.g,S.push,S.drag,S.rest,S.rounds,S.fuel⟩:Setup),[(bb,.rows 9 c3 (jF bods) 78 (0,0))]++(TZ++Sk++U_)),(by simp[ap]),rfl,⟨⟨rfl,rfl,rfl,rfl,rfl,rfl,rfl,rfl,rfl,rfl,rfl,rfl⟩,λ k hk=>?_,rfl,Q8⟩,λ F2 hF=>⟨⟨⟨hp,by omega⟩,hF _ (by simp),(by show 0+S.nb <= c3;omega),λ k hk=>?_⟩,?_,?_⟩⟩
  ·obtain⟨A,c,h⟩:=SO k hk;exact⟨A,c,by show bods.getD (0+k) dB=_;rw[S4];exact h⟩
  ·show ShIn F2 (bods.getD (0+k) dB).sh;rw[S4];exact SN k hk F2 λ x hx=>hF x (by simp[hx])
  ·have h_:=Vw.rowL (F:=F2) λ x hx=>hF x (by simp[hx]);rw[hM.rooms.len] at h_;exact h_
  ·have h_:=Vv.rowL (F:=F2) λ x hx=>hF x (by simp[hx]);rw[hM.doors.len] at h_;exact h_
end Go.Proofs.YtgdcbiiopbpgaaaGreatDoor
