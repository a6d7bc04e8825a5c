import Derived.Test.YtgdcbiiopbpgaaaGreatDoorY15
import Derived.Test.YtgdcbiiopbpgaaaGreatDoorY07
import Derived.Laws.IdiomCopy
import Derived.Test.YtgdcbiiopbpgaaaGreatDoorY08
set_option maxHeartbeats 4000000
set_option maxRecDepth 100000
set_option linter.unusedSimpArgs false
set_option linter.unusedVariables false
namespace Go.Proofs.YtgdcbiiopbpgaaaGreatDoor
open IntKind
open Go.RowKit
def H5(p n r f:Int):Int:=i64.wrap ((i64.wrap ((i64.wrap ((i64.wrap ((i64.wrap (p+(i64.wrap ((i64.wrap ((i64.wrap (p+1))+n))*(i64.wrap (f+3))))))+(i64.wrap (2*n))))+3))+(i64.wrap ((i64.wrap ((i64.wrap (r*n))*(i64.wrap (n-1)))).tdiv 2))))+(i64.wrap (n*(i64.wrap (n+1)))))
theorem yo{S:Setup}(hS:SetV S):l0 S.players S.nb S.rounds 0 <= H5 S.players S.nb S.rounds 60 /\ H5 S.players S.nb S.rounds 60 <= 650:=by
 have hp:=hS.pl
 have hn:=hS.nb
 have hr:=hS.ro
 have key:∀p:Fin 3,∀n:Fin 5,∀r:Fin 3,l0 ((p.1+1:Nat):Int) ((n.1+1:Nat):Int) ((r.1+1:Nat):Int) 0 <= H5 ((p.1+1:Nat):Int) ((n.1+1:Nat):Int) ((r.1+1:Nat):Int) 60 /\ H5 ((p.1+1:Nat):Int) ((n.1+1:Nat):Int) ((r.1+1:Nat):Int) 60 <= 650:=by decide +kernel
 have:=key ⟨S.players.toNat-1,by omega⟩ ⟨S.nb-1,by omega⟩ ⟨S.rounds.toNat-1,by omega⟩
 dsimp only at this
 rwa [show ((S.players.toNat-1+1:Nat):Int)=S.players by omega,show S.nb-1+1=S.nb by omega,show ((S.rounds.toNat-1+1:Nat):Int)=S.rounds by omega] at this
theorem setV{xs:List Int}{F:HL}{A:Option Addr}{n:Nat}(hl:ArgL F A n xs){S:Setup}{T:HL}(h:SetG xs S T):SetV S:=by
 have h1:=qx hl
 have h2:=vj hl
 have hn:=h.nb
 have k2:=ie hl 2
 obtain⟨e1,e2,e3,e4,e5,e6,e7,e8⟩:=h.nums
 exact⟨by rw[h.pl];exact h2,by omega,by rw[e7];omega,by rw[e8];omega⟩
theorem kl{l:List Int}{i j:Nat}{v:Int}(h:i≠j):(l.set i v).getD j 0=l.getD j 0:=by
 rw[List.getD_eq_getElem?_getD,List.getD_eq_getElem?_getD,List.getElem?_set_ne h]
theorem uw{S:Setup}(hp:0 <= S.players){j:Nat}(hj:j<48):∀i,i <= S.nb -> (eS S i).getD j 0=0
 | 0,_=>by
  rw[eS,List.getD_eq_getElem?_getD,List.getElem?_replicate]
  split <;> rfl
 | i+1,hi=>by
  have hb:af S (i:Int)=48+4*S.players+8*(i:Int):=by
   rcases oD hp (i:Int) with e|⟨_,_,e⟩
   ·unfold af at e
    rw[if_neg (by omega),if_neg (by omega)] at e;omega
   ·exact e
  rw[eS,kl (by omega),kl (by omega),kl (by omega),kl (by omega),kl (by omega),kl (by omega)]
  exact uw hp hj i (by omega)
structure TE2(S:Setup)(t:Int)(M:MemS):Prop where
 len:(M.cs.length:Int)=sizeOf S
 z:∀k:Int,1 <= k -> k <= 10 -> M.get k=0
 t0:M.get 0=t
theorem KY{S:Setup}(hS:SetV S):TE2 S 0 ⟨eS S S.nb,[],0⟩:=by
 have hp:=hS.pl
 have hlen:(((⟨eS S S.nb,[],0⟩:MemS).cs.length:Nat):Int)=sizeOf S:=by
  show ((eS S S.nb).length:Int)=_
  rw[gL];unfold sizeOf;omega
 have g:∀k:Int,0 <= k -> k<48 -> (⟨eS S S.nb,[],0⟩:MemS).get k=0:=λ k h0 h1=>by
  unfold MemS.get
  split
  ·exact uw (by omega) (by omega) S.nb (Nat.le_refl _)
  ·rfl
 exact⟨hlen,λ k h1 h2=>g k (by omega) (by omega),g 0 (by omega) (by omega)⟩
theorem TE2.tv{S:Setup}(hS:SetV S){t:Int}(ht:0 <= t /\ t <= 1000){M:MemS}(h:TE2 S t M)(ins:Nat -> Inp):TV S ins M /\ nH S M=l0 S.players S.nb S.rounds 0 /\ EV M:=by
 have h1:=h.z 1 (by omega) (by omega)
 have h2:=h.z 2 (by omega) (by omega)
 have hp:=hS.pl
 refine⟨⟨h.len,by rw[h.t0];omega,by rw[h1,h2];exact .inl ⟨rfl,by omega,by omega⟩,λ q hq=>by rw[h1,if_pos rfl,h2] at hq;omega,.inl ⟨h1,h2⟩⟩,?_,h1,h2⟩
 unfold nH
 rw[h1,h2];rfl
theorem Ps{S:Setup}(hS:SetV S){g:Gm}(hg:g.S=S)(Tu:S.players <= g.ni){t:Int}(ht:0 <= t /\ t <= 1000){M:MemS}(h:TE2 S t M):∃m,((m+1:Nat):Int) <= H5 S.players S.nb S.rounds 60 /\ dQ g (m+1) M /\ TE2 S (t+1) (gn g (m+1) M) /\
  Numb t 0 (fK g (m+1) M) /\ (gn g (m+1) M).get 11=((fK g (m+1) M).length:Int) /\ ((fK g (m+1) M).length:Int) <= 40:=by
 obtain⟨h1,h2,h3⟩:=h.tv hS ht (λ q=>g.ins.getD (g.io+q) dI)
 have hb:=yo hS
 have Yj:=Cf hS.pl ⟨by have:=hS.nb;omega,by have:=hS.nb;omega⟩ hS.ro h1.ct
 unfold nH at h2
 obtain⟨m,a1,a2,a3,a4,a5,a6,a7,a8⟩:=Ch hS hg (λ _ _=>rfl) Tu (l0 S.players S.nb S.rounds 0).toNat M h1 (by unfold nH;omega)
 rw[if_pos h3] at a6 a7
 rw[h.t0] at a5 a6
 exact⟨m,by omega,a2,⟨a4,a3,a5⟩,a6,by rw[a7];omega,by omega⟩
theorem SetEq.pl{S S1:Setup}(h:SetEq S S1):S1.players=S.players:=h.nums.1
theorem SetEq.nb{S S1:Setup}(h:SetEq S S1):S1.nb=S.nb:=h.nums.2.1
theorem SetEq.size{S S1:Setup}(h:SetEq S S1):sizeOf S1=sizeOf S:=by unfold sizeOf;rw[h.pl,h.nb]
theorem SetEq.setV{S S1:Setup}(h:SetEq S S1)(hV:SetV S):SetV S1:=by
 obtain⟨e1,e2,_,_,_,_,_,_,_,_,e3,e4⟩:=h.nums
 exact⟨by rw[e1];exact hV.pl,by rw[e2];exact hV.nb,by rw[e3];exact hV.ro,by rw[e4];exact hV.fu⟩
theorem TE2.eq{S S1:Setup}(h:SetEq S S1){t:Int}{M:MemS}(hT:TE2 S t M):TE2 S1 t M:=⟨by rw[h.size];exact hT.len,hT.z,hT.t0⟩
theorem Ci{S S':Setup}(h:SetEq S S'):(S'.bods.drop S'.bo).map Bod.nm=(List.range S.nb).map λ k=>(S.body k).nm:=by
 rw[h.whole.1,List.drop_zero]
 apply List.ext_getElem?
 intro k
 by_cases hk:k<S.nb
 ·obtain⟨A,c,e⟩:=h.bod k hk
  have hl:k<S'.bods.length:=by rw[h.whole.2];exact hk
  have e2:S'.bods[k]?=some (S'.body k):=by
   show _=some (S'.bods.getD (S'.bo+k) dB)
   rw[h.whole.1,Nat.zero_add,List.getD_eq_getElem?_getD,List.getElem?_eq_getElem hl];rfl
  rw[List.getElem?_map,e2,e]
  simp[hk]
  rfl
 ·rw[List.getElem?_eq_none (by rw[List.length_map,h.whole.2];omega),List.getElem?_eq_none (by simp;omega)]
theorem SetEq.nm2{S S1 S2:Setup}(h1:SetEq S S1)(h2:SetEq S S2):S1.nm=S2.nm:=by
 have b1:=Ci h1
 have b2:=Ci h2
 obtain⟨x1,x2,x3,x4,x5,x6,x7,x8,x9,x10,x11,x12⟩:=h1.nums
 obtain⟨y1,y2,y3,y4,y5,y6,y7,y8,y9,y10,y11,y12⟩:=h2.nums
 unfold Setup.nm
 rw[b1,b2,x1,x2,x3,x4,x5,x6,x7,x8,x9,x10,x11,x12,y1,y2,y3,y4,y5,y6,y7,y8,y9,y10,y11,y12]
theorem KZ{S1 S2:Setup}(h:S1.nm=S2.nm)(j:Nat × Int)(n:Nat)(xs:List Inp):GEq (gC S1 j n xs) (gC S2 j n xs):=by
 refine⟨?_,λ k hk=>rfl⟩
 unfold Gm.nm
 simp only[h]
theorem Aj{G G':Nat -> Gm}(h:∀k,GEq (G k) (G' k))(M:MemS):∀k,ET G M k=ET G' M k
 | 0=>rfl
 | k+1=>by rw[ET,ET,Aj h M k,Gg (h k)]
theorem Pt{S S1 S2:Setup}(h1:SetEq S S1)(h2:SetEq S S2)(J:Nat -> Nat × Int)(xss:List (List Inp)):∀k,GEq (rG S1 J xss k) (rG S2 J xss k):=λ k=>KZ (h1.nm2 h2) _ _ _
theorem Nz{pl:Int}{n:Nat}{xs:List Inp}{now:Int}(h1:(n:Int)=pl)(h2:∀k,k<n -> j4 (xs.getD k dI))(h3:now<6000):fF pl n xs now=0:=by
 unfold fF
 rw[if_pos h1,if_pos h2,if_neg (by omega)]
theorem H6{S1:Setup}(hV:SetV S1){t:Int}(ht:0 <= t /\ t <= 1000){M:MemS}(hT:TE2 S1 t M){xs:List Inp}(h1:(xs.length:Int)=S1.players)(h2:∀k,k<xs.length -> j4 (xs.getD k dI))(j:Nat × Int):TkOk S1 j xs M /\ TE2 S1 (t+1) (oh (uu S1 j xs) M):=by
 obtain⟨m,a1,a2,a3,_⟩:=Ps hV (g:=uu S1 j xs) rfl (by show S1.players <= (xs.length:Int);omega) ht hT
 have hb:=(yo hV).2
 refine⟨⟨⟨m,by omega,a2⟩,by rw[hT.t0];exact ht.1,by rw[hT.t0];exact Nz h1 h2 (by omega)⟩,?_⟩
 rw[<- (LY (by omega) a2).1]
 exact a3
def fM(pl:Int)(xs:List Inp):Prop:=(xs.length:Int)=pl /\ ∀k,k<xs.length -> j4 (xs.getD k dI)
theorem H7{S1:Setup}(hV:SetV S1){M0:MemS}(hT:TE2 S1 0 M0){xss:List (List Inp)}(J:Nat -> Nat × Int)(n:Nat)(hn:n <= 50)(hr:∀i,i<n -> fM S1.players (xss.getD i [])):∀i,i <= n -> TE2 S1 (i:Int) (ET (rG S1 J xss) M0 i)
 | 0,_=>hT
 | i+1,h=>by
  have ih:=H7 hV hT J n hn hr i (by omega)
  have:=(H6 hV (t:=(i:Int)) (by omega) ih (hr i (by omega)).1 (hr i (by omega)).2 (J i)).2
  rw[ET]
  exact_mod_cast this
theorem Pu{S1:Setup}(hV:SetV S1){M0:MemS}(hT:TE2 S1 0 M0){xss:List (List Inp)}(J:Nat -> Nat × Int)(n:Nat)(hn:n <= 50)(hr:∀i,i<n -> fM S1.players (xss.getD i []))(i:Nat)(hi:i<n):TkOk S1 (J i) (xss.getD i []) (ET (rG S1 J xss) M0 i) :=
 (H6 hV (t:=(i:Int)) (by omega) (H7 hV hT J n hn hr i (by omega)) (hr i hi).1 (hr i hi).2 (J i)).1
theorem H8{n:Int}(h:0 <= n):j4 (xe n):=by
 unfold j4 xe
 dsimp only
 split <;> omega
theorem K3{F:HL}{A:Option Addr}{n:Nat}{xs:List Int}(hl:ArgL F A n xs){pl:Int}(hp:0 <= pl)(t:Int):fM pl (rowL pl xs t pl.toNat):=by
 refine⟨by rw[fA];omega,λ k hk=>?_⟩
 rw[fA] at hk
 rw[Gq hk]
 exact H8 (J6 hl pl t k).1
theorem H9{S S1:Setup}(hV:SetV S)(he:SetEq S S1):TE2 S1 0 ⟨eS S S.nb,[],0⟩:=(KY hV).eq he
section
variable {S S1:Setup} {rs_:List Bx} {ds_:List Dr} {bp n cap:Nat} {j:Nat × Int} {A:Option Addr} {rs:List Rw} {xss:List (List Inp)} {F:HL}
end
theorem SlIs.rowN{α:Type}{e:Enc α}{T:TypeId}{l:List α}{A:Option Addr}{cap n:Nat}{Hl F:HL}(h:SlIs e T l A cap Hl)(hF:∀x∈Hl,x∈F)(hn:l.length=n):RowL e T F A n l:=hn ▸ h.toRowL hF
theorem yp{n m k:Int}(e:au n m=k)(hm:0<m)(F:HL):Sp Tryz.prog 10 #[vI n,vI m] [] F (λ u H'=>u=vI k /\ H'=[]):=e ▸ gt n m (by omega) F
theorem mQ{α:Type}{l r:List α}{o:Nat}(h:(l.drop o).take r.length=r){k:Nat}(hk:k<r.length)(d:α):l.getD (o+k) d=r.getD k d:=by
 have h1:((l.drop o).take r.length)[k]?=r[k]?:=by rw[h]
 rw[List.getElem?_take,if_pos hk,List.getElem?_drop] at h1
 rw[List.getD_eq_getElem?_getD,List.getD_eq_getElem?_getD,h1]
structure Ver where (t:Int) (A:Option Addr) (n c:Nat) (e0 e1 e2:Int)
def fw:Enc Ver:=⟨5,λ p k=>match k with|0=>vI p.t|1=>.slice p.A p.n p.c|2=>vI p.e0|3=>vI p.e1|_=>vI p.e2,⟨0,none,0,0,0,0,0⟩⟩
noncomputable def L0:TypeInfo:=match Tryz.prog.info? 111 with | some i=>i | none=>⟨.bool,"",0,0,false,0,0,none,false,#[]⟩
noncomputable def L2:Value:=match L0.zero with|some z=>z|none=>.bool false
theorem NA:EncOk fw Tryz.prog 111 L0 L2 where
 info:=by kernel_rfl
 zero:=by kernel_rfl
 size:=by kernel_rfl
 zsize:=by kernel_rfl
 zcell:=λ k hk=>by
  have h:∀k<5,L2.cells[k]?=some (fw.cell fw.dflt k):=by intro k hk;(iterate 5 (rcases k with _|k;· kernel_rfl));omega
  exact h k hk
 one:=λ x k=>by unfold fw;dsimp only;split <;> rfl
 bytes:=Nat.le_of_ble_eq_true (by kernel_rfl)
abbrev ko(t:Int)(j:Nat)(A:Option Addr)(c:Nat):Ver:=⟨t,A,cG j,c,bB j 0,bB j 1,bB j 2⟩
inductive Book2(tk:Int)(j1 j2 bp:Nat):HL -> Prop
 | mk (A:Option Addr) (c:Nat) (A1 A2:Option Addr) (c1 c2:Nat) (Hl T1 T2:HL) (hs:SlIs fw 111 [ko 0 j1 A1 c1,ko tk j2 A2 c2] A c Hl) (h1:CodT j1 A1 T1) (h2:CodT j2 A2 T2):Book2 tk j1 j2 bp (ap [(bp,.lit [.slice A 2 c] 105 (0,0))] [Hl,T1,T2])
theorem K4(tk:Int)(Wc:0<tk)(j1 j2 bp q:Nat)(Aa:Option Addr)(ca:Nat)(Tz F:HL)(RS:j2<5)(hE:pV F)(h1:CodT j1 Aa Tz):Sp Tryz.prog 33 #[vP bp 0,vI tk,.string (pU j2)] (ap [(bp,.lit [vS q 0 1 1] 105 (0,0)),(q,.lit [vI 0,.slice Aa (cG j1) ca,vI (bB j1 0),vI (bB j1 1),vI (bB j1 2)] 111 (0,0))] [Tz]) F (λ u H'=>∃x:HL,H'=ap [] [x] /\ (u=vI 0 /\ Book2 tk j1 j2 bp x)):=by
 refine Sp.run Tryz.func33 rfl mn (A:=[(bp,.lit [vS q 0 1 1] 105 (0,0)),(q,.lit [vI 0,.slice Aa (cG j1) ca,vI (bB j1 0),vI (bB j1 1),vI (bB j1 2)] 111 (0,0))]) (Ts:=[Tz]) rfl λ w0=>?_
 refine ae 21 [.own 0] λ _=>RN.draw [] []<|ag [] [0,1,5,2,6,3,7,4,8,9,10,11,12,13,14] [.own 0,.own 0,.own 1]<|RD.fin<|ae 1 [] λ _=>cH 29 (decide_eq_false (show ¬ tk <= 0 by omega))<|ae 6 [] λ _=>RN.ct (Hp:=[]) (Tp:=[]) [] [] (HH RS _ (aq hE)) ?_
 rintro _ ⟨A1,c2,T3⟩ ⟨rfl,hC4⟩
 dsimp only at hC4
 refine ae 19 [.own 0,.own 0,.own 0,.own 0] λ n5=>RN.draw [9,12] []<|ag [] [0,1,5,6,2,7,3,4] [.own 0,.own 0,.own 0,.own 0,.own 1]<|RD.one 8 (RDO.ev [] [] λ n7=>?_)
 refine RD.dn 3 (.rows 5 1 (aJ fw [ko 0 j1 Aa ca]) 111 (0,0))<|Pn 3<|RD.one 9 (lY [] NA ([ko 0 j1 Aa ca]) [ko tk j2 A1 c2] 0 0 rfl (SlIs.one (b:=q)) (Nat.le_of_ble_eq_true rfl) ?_)
 rintro A8 c9 TG ⟨hs11,hz12⟩
 refine ag [] [10,11] []<|RD.one 12 (RDO.ev [] [.own 2] λ _=>?_)
 refine RD.fin<|ae 6 [] λ _=>RN.ret [] [2] [0,2,1] (v:=vI 0) (H':=(ap [(bp,.lit [.slice A8 2 c9] 105 (0,0))] [TG,Tz,T3])) ?_
 exact⟨ap [(bp,.lit [.slice A8 2 c9] 105 (0,0))] [TG,Tz,T3],by simp[ap],rfl,.mk _ _ _ _ _ _ _ _ _ hs11 h1 hC4⟩
theorem K5{j1 bp:Nat}{TB:HL}(hB:Book1 j1 bp TB)(tk:Int)(Wc:0<tk)(j2:Nat)(F:HL)(RS:j2<5)(hE:pV F):Sp Tryz.prog 33 #[vP bp 0,vI tk,.string (pU j2)] (ap [] [TB]) F (λ u H'=>∃x:HL,H'=ap [] [x] /\ (u=vI 0 /\ Book2 tk j1 j2 bp x)):=by
 cases hB with
 | mk q A c T h =>
  rw[bD]
  exact K4 tk Wc j1 j2 bp q A c T F RS hE h
theorem Pv(q2 q3:Nat)(tk:Int)(bp b o c j1 j2:Nat)(full:List Ver)(Aa Ab:Option Addr)(ca cb:Nat)(t:Int)(F:HL)(hb:(bp,.lit [vS b (o*5) 2 c] 105 (0,0))∈F)(hq:(b,.rows 5 (o+c) (aJ fw full) 111 (0,0))∈F)(hc:2 <= c)(TX:full.getD o fw.dflt=ko 0 j1 Aa ca)(TW:full.getD (1+o) fw.dflt=ko tk j2 Ab cb)(ht:0 <= t)(h2:(q2,.lit [vP bp 0] 33 (0,0))∈F)(h3:(q3,.lit [vI t] 3 (0,0))∈F):Sp Tryz.prog 146 #[vI 0,vP q2 0,vP q3 0] [] F (λ u H'=>u=.bool false /\ H'=[]):=by
 refine Sp.run Tryz.func146 rfl (mc h2 (mc h3 (mc hb (mc hq mn)))) (A:=[]) (Ts:=[]) rfl λ w0=>?_
 refine ae 6 [] λ _=>RN.draw [] []<|aG [] [0,4,8,1,2,3,5,6,7] [.ro 0,.ro 1,.ro 2,.rorow 3 o 0] [o*5=o*5+0 /\ o<(o+c)]<|ja 12 (congrArg (λ v_:Ver=>vI v_.t) TX)<|ag [] [9,10] []<|RD.fin<|ae 1 [] λ _=>RN.ret [] [] [] (v:=.bool (decide (0>t))) (H':=[]) ?_
 exact⟨congrArg Value.bool (decide_eq_false (by omega)),rfl⟩
theorem L3(q2 q3:Nat)(tk:Int)(bp b o c j1 j2:Nat)(full:List Ver)(Aa Ab:Option Addr)(ca cb:Nat)(t:Int)(F:HL)(hb:(bp,.lit [vS b (o*5) 2 c] 105 (0,0))∈F)(hq:(b,.rows 5 (o+c) (aJ fw full) 111 (0,0))∈F)(hc:2 <= c)(TX:full.getD o fw.dflt=ko 0 j1 Aa ca)(TW:full.getD (1+o) fw.dflt=ko tk j2 Ab cb)(ht:0 <= t)(h2:(q2,.lit [vP bp 0] 33 (0,0))∈F)(h3:(q3,.lit [vI t] 3 (0,0))∈F):Sp Tryz.prog 146 #[vI 1,vP q2 0,vP q3 0] [] F (λ u H'=>u=.bool (decide (tk>t)) /\ H'=[]):=by
 refine Sp.run Tryz.func146 rfl (mc h2 (mc h3 (mc hb (mc hq mn)))) (A:=[]) (Ts:=[]) rfl λ w0=>?_
 refine ae 6 [] λ _=>RN.draw [] []<|aG [] [0,4,8,1,2,3,5,6,7] [.ro 0,.ro 1,.ro 2,.rorow 3 (1+o) 0] [(o*5+5)=(1+o)*5+0 /\ (1+o)<(o+c)]<|ja 12 (congrArg (λ v_:Ver=>vI v_.t) TW)<|ag [] [9,10] []<|RD.fin<|ae 1 [] λ _=>?_
 exact RN.ret [] [] [] ⟨rfl,rfl⟩
theorem Ib(q2 q3:Nat)(tk:Int)(bp b o c j1 j2:Nat)(full:List Ver)(Aa Ab:Option Addr)(ca cb:Nat)(t:Int)(F:HL)(hb:(bp,.lit [vS b (o*5) 2 c] 105 (0,0))∈F)(hq:(b,.rows 5 (o+c) (aJ fw full) 111 (0,0))∈F)(hc:2 <= c)(TX:full.getD o fw.dflt=ko 0 j1 Aa ca)(TW:full.getD (1+o) fw.dflt=ko tk j2 Ab cb)(ht:0 <= t)(h2:(q2,.lit [vP bp 0] 33 (0,0))∈F)(h3:(q3,.lit [vI t] 3 (0,0))∈F)(UZ:tk>t):Sp Tryz.prog 145 #[vI 2,.func (.func 146) #[] #[vP q2 0,vP q3 0]] [] F (λ u H'=>u=vI 1 /\ H'=[]):=by
 refine Sp.run Tryz.func145 rfl (mc h2 (mc h3 (mc hb (mc hq mn)))) (A:=[]) (Ts:=[]) rfl λ w0=>?_
 refine ae 14 [] λ _=>RN.rounds 4<|ae 27 [] λ _=>RN.cp (L3 q2 q3 tk bp b o c j1 j2 full Aa Ab ca cb t _ (aq hb) (aq hq) hc TX TW ht (aq h2) (aq h3))<|ae 3 [] λ _=>cH 21 (nt (decide_eq_true UZ))<|ae 34 [] λ _=>RN.cp (Pv q2 q3 tk bp b o c j1 j2 full Aa Ab ca cb t _ (aq hb) (aq hq) hc TX TW ht (aq h2) (aq h3))<|ae 31 [] λ _=>?_
 exact RN.ret [] [] [] ⟨rfl,rfl⟩
theorem Ic(q2 q3:Nat)(tk:Int)(bp b o c j1 j2:Nat)(full:List Ver)(Aa Ab:Option Addr)(ca cb:Nat)(t:Int)(F:HL)(hb:(bp,.lit [vS b (o*5) 2 c] 105 (0,0))∈F)(hq:(b,.rows 5 (o+c) (aJ fw full) 111 (0,0))∈F)(hc:2 <= c)(TX:full.getD o fw.dflt=ko 0 j1 Aa ca)(TW:full.getD (1+o) fw.dflt=ko tk j2 Ab cb)(ht:0 <= t)(h2:(q2,.lit [vP bp 0] 33 (0,0))∈F)(h3:(q3,.lit [vI t] 3 (0,0))∈F)(UZ:¬ tk>t):Sp Tryz.prog 145 #[vI 2,.func (.func 146) #[] #[vP q2 0,vP q3 0]] [] F (λ u H'=>u=vI 2 /\ H'=[]):=by
 refine Sp.run Tryz.func145 rfl (mc h2 (mc h3 (mc hb (mc hq mn)))) (A:=[]) (Ts:=[]) rfl λ w0=>?_
 refine ae 14 [] λ _=>RN.rounds 4<|ae 27 [] λ _=>RN.cp (L3 q2 q3 tk bp b o c j1 j2 full Aa Ab ca cb t _ (aq hb) (aq hq) hc TX TW ht (aq h2) (aq h3))<|ae 3 [] λ _=>cH 21 (nf (decide_eq_false UZ))<|ae 28 [] λ _=>?_
 exact RN.ret [] [] [] ⟨rfl,rfl⟩
theorem QS(tk:Int)(bp b o c j1 j2:Nat)(full:List Ver)(Aa Ab:Option Addr)(ca cb:Nat)(t:Int)(F:HL)(hb:(bp,.lit [vS b (o*5) 2 c] 105 (0,0))∈F)(hq:(b,.rows 5 (o+c) (aJ fw full) 111 (0,0))∈F)(hc:2 <= c)(TX:full.getD o fw.dflt=ko 0 j1 Aa ca)(TW:full.getD (1+o) fw.dflt=ko tk j2 Ab cb)(ht:0 <= t)(hj:j1<5)(hC:SrcIn Tryz.prog iq F Aa (cG j1) (fO j1))(UZ:tk>t):Sp Tryz.prog 124 #[vP bp 0,vI t] [] F (λ u H'=>∃x:Option Addr × Nat × HL,H'=ap [] [x.2.2] /\ (u=.tuple #[vI 0,.agg #[.slice x.1 (cG j1) x.2.1,vI (bB j1 0),vI (bB j1 1),vI (bB j1 2)]] /\ ClS iq 155 (fO j1) x.1 x.2.1 x.2.2)):=by
 refine Sp.run Tryz.func124 rfl (mc hb (mc hq mn)) (A:=[]) (Ts:=[]) rfl λ w0=>?_
 refine ae 16 [.own 2,.ro 0] λ n1=>RN.cp (Ib (n1+0) (n1+1) tk bp b o c j1 j2 full Aa Ab ca cb t _ (aq hb) (aq hq) hc TX TW ht (az 2) (az 1) UZ)<|ai 21 [.own 2,.ro 0,.rorow 1 o 1,.rorow 1 o 2,.rorow 1 o 3,.rorow 1 o 4] [(o*5+4)=o*5+4 /\ o<(o+c),(o*5+3)=o*5+3 /\ o<(o+c),(o*5+2)=o*5+2 /\ o<(o+c),(o*5+1)=o*5+1 /\ o<(o+c)] λ _=>aB 26 (congrArg (λ v_:Ver=>(.agg #[.slice v_.A v_.n v_.c,vI v_.e0,vI v_.e1,vI v_.e2]:Value)) TX)<|ae 5 [.own 0,.own 0,.own 0,.own 0] λ n2=>RN.draw [8] []<|ag [] [0,1,4,2,5] [.own 0,.own 0,.own 0,.own 0]<|RD.one 3 (RDO.ct [] (Hp:=[]) (Tp:=[]) [] [] (mJ Aa (cG j1) ca (fO j1) _ hC.up (by have:=qD hj;omega)) ?_)
 rintro _ ⟨A3,c4,T5⟩ ⟨rfl,hc6⟩
 dsimp only at hc6
 refine ag [] [6,7] []<|RD.one 8 (RDO.ev [] [.own 1,.own 1,.own 1,.own 1] λ _=>?_)
 refine RD.fin<|ae 1 [] λ _=>RN.ret [.own 1,.own 1,.own 1,.own 1] [] [0] (v:=.tuple #[vI 0,.agg #[.slice A3 (cG j1) c4,vI (bB j1 0),vI (bB j1 1),vI (bB j1 2)]]) (H':=(ap [] [T5])) ?_
 exact⟨(A3,c4,T5),rfl,rfl,hc6⟩
theorem QT(tk:Int)(bp b o c j1 j2:Nat)(full:List Ver)(Aa Ab:Option Addr)(ca cb:Nat)(t:Int)(F:HL)(hb:(bp,.lit [vS b (o*5) 2 c] 105 (0,0))∈F)(hq:(b,.rows 5 (o+c) (aJ fw full) 111 (0,0))∈F)(hc:2 <= c)(TX:full.getD o fw.dflt=ko 0 j1 Aa ca)(TW:full.getD (1+o) fw.dflt=ko tk j2 Ab cb)(ht:0 <= t)(hj:j2<5)(hC:SrcIn Tryz.prog iq F Ab (cG j2) (fO j2))(UZ:¬ tk>t):Sp Tryz.prog 124 #[vP bp 0,vI t] [] F (λ u H'=>∃x:Option Addr × Nat × HL,H'=ap [] [x.2.2] /\ (u=.tuple #[vI 1,.agg #[.slice x.1 (cG j2) x.2.1,vI (bB j2 0),vI (bB j2 1),vI (bB j2 2)]] /\ ClS iq 155 (fO j2) x.1 x.2.1 x.2.2)):=by
 refine Sp.run Tryz.func124 rfl (mc hb (mc hq mn)) (A:=[]) (Ts:=[]) rfl λ w0=>?_
 refine ae 16 [.own 2,.ro 0] λ n1=>RN.cp (Ic (n1+0) (n1+1) tk bp b o c j1 j2 full Aa Ab ca cb t _ (aq hb) (aq hq) hc TX TW ht (az 2) (az 1) UZ)<|ai 21 [.own 2,.ro 0,.rorow 1 (1+o) 1,.rorow 1 (1+o) 2,.rorow 1 (1+o) 3,.rorow 1 (1+o) 4] [(o*5+9)=(1+o)*5+4 /\ (1+o)<(o+c),(o*5+8)=(1+o)*5+3 /\ (1+o)<(o+c),(o*5+7)=(1+o)*5+2 /\ (1+o)<(o+c),(o*5+6)=(1+o)*5+1 /\ (1+o)<(o+c)] λ _=>aB 26 (congrArg (λ v_:Ver=>(.agg #[.slice v_.A v_.n v_.c,vI v_.e0,vI v_.e1,vI v_.e2]:Value)) TW)<|ae 5 [.own 0,.own 0,.own 0,.own 0] λ n2=>RN.draw [8] []<|ag [] [0,1,4,2,5] [.own 0,.own 0,.own 0,.own 0]<|RD.one 3 (RDO.ct [] (Hp:=[]) (Tp:=[]) [] [] (mJ Ab (cG j2) cb (fO j2) _ hC.up (by have:=qD hj;omega)) ?_)
 rintro _ ⟨A3,c4,T5⟩ ⟨rfl,hc6⟩
 dsimp only at hc6
 refine ag [] [6,7] []<|RD.one 8 (RDO.ev [] [.own 1,.own 1,.own 1,.own 1] λ _=>?_)
 refine RD.fin<|ae 1 [] λ _=>RN.ret [.own 1,.own 1,.own 1,.own 1] [] [0] (v:=.tuple #[vI 1,.agg #[.slice A3 (cG j2) c4,vI (bB j2 0),vI (bB j2 1),vI (bB j2 2)]]) (H':=(ap [] [T5])) ?_
 exact⟨(A3,c4,T5),rfl,rfl,hc6⟩
theorem Book2.at{tk:Int}{j1 j2 bp:Nat}{TB F:HL}(hB:Book2 tk j1 j2 bp TB)(hT:∀x∈TB,x∈F)(SG:j1<5)(RS:j2<5)(t:Int)(ht:0 <= t):AtOk F bp t (if tk>t then (j1,0) else (j2,1)):=λ F' hF=>by
 cases hB with
 | mk A c A1 A2 c1 c2 Hl T1 T2 hs h1 h2 =>
  rcases hs with ⟨_,_,h,_⟩|⟨b,o,full,rfl,rfl,e1,e2,e3⟩
  ·cases h
  ·have hc:2 <= c:=e2
   have TX:full.getD o fw.dflt=ko 0 j1 A1 c1:=by have:=mQ e3 (k:=0) (by simp) fw.dflt;rw[Nat.add_zero] at this;exact this
   have TW:full.getD (1+o) fw.dflt=ko tk j2 A2 c2:=by have:=mQ e3 (k:=1) (by simp) fw.dflt;rw[Nat.add_comm o 1] at this;exact this
   have hm:∀x,x∈ap [(bp,Blk.lit [.slice (some ⟨b,o*fw.w,none⟩) 2 c] 105 (0,0))] [[(b,.rows fw.w (o+c) (aJ fw full) 111 (0,0))],T1,T2] -> x∈F':=λ x hx=>hF x (hT x hx)
   by_cases UZ:tk>t
   ·rw[if_pos UZ]
    exact QS tk bp b o c j1 j2 full A1 A2 c1 c2 t F' (hm _ (List.mem_append_left _ List.mem_cons_self)) (hm _ (List.mem_append_right _ List.mem_cons_self)) hc TX TW ht SG (h1.src F' λ x hx=>hm x (by simp[ap,hx])) UZ
   ·rw[if_neg UZ]
    exact QT tk bp b o c j1 j2 full A1 A2 c1 c2 t F' (hm _ (List.mem_append_left _ List.mem_cons_self)) (hm _ (List.mem_append_right _ List.mem_cons_self)) hc TX TW ht RS (h2.src F' λ x hx=>hm x (by simp[ap,hx])) UZ
open Go.Shelf
theorem Ak{cs vs:List Value}(h:cs.length=vs.length):jG cs 0 vs=vs:=by
 apply List.ext_getElem?
 intro j
 rw[mX vs cs 0 (by omega) j]
 split
 ·rfl
 ·next h1=>rw[List.getElem?_eq_none (by omega),List.getElem?_eq_none (by omega)]
theorem oE{b:Nat}{ty:TypeId}{fz:Nat × Nat}:∀ (vs:List Value) (o:Nat) (W:World) (cs:List Value),W.heap[b]?=some (Blk.lit cs ty fz).den -> (W.setCells b o vs).heap[b]?=some (Blk.lit (jG cs o vs) ty fz).den
 | [],o,W,cs,h=>h
 | v::r,o,W,cs,h=>by
  rw[World.setCells,jG]
  have h1:=pE (v:=v) (a:=⟨b,o,none⟩) rfl rfl h
  rw[iJ] at h1
  exact oE r (o+1) _ _ h1
theorem oG{b k:Nat}(hk:k≠b):∀ (vs:List Value) (o:Nat) (W:World),(W.setCells b o vs).heap[k]?=W.heap[k]?
 | [],_,_=>rfl
 | v::r,o,W=>by
  rw[World.setCells,oG hk r (o+1)]
  exact Below.heap_setCell _ _ _ _ hk
def NB(P:Program)(o:Oper)(L:FL):Option (Addr × Nat × Nat × Addr × Nat × Nat × TypeId × TypeId × TypeId):=match o.guard,o.op with
 | none,.call c=>match c.callee,c.args.toList,c.argTypes.toList with
  | .builtin .copy,[a1,a2],[t,tx]=>match kR L a1 && kR L a2,ik L a1,ik L a2 with
   | true,.slice (some d) n cap,.slice (some a) m c'=>match P.underlying t with
    | some (.slice T)=>some (d,n,cap,a,m,c',T,t,tx)
    | _=>none
   | _,_,_=>none
  | _,_,_=>none
 | _,_=>none
section
variable {r:Option Nat} {P:Program} {N:Nat} {D:List Deferred} {F:HL} {w0:World} {R:HL} {s:Cfg} {Q:Exit -> Act -> World -> Prop}
theorem D8{o:Oper}{L:FL}{d:Addr}{n cap:Nat}{a:Addr}{m c':Nat}{T t tx:TypeId}(h:NB P o L=some (d,n,cap,a,m,c',T,t,tx)) :
  ∃a1 a2,o.guard=none /\ o.op=.call { callee:=.builtin .copy,args:=#[a1,a2],argTypes:=#[t,tx] } /\ (kR L a1 && kR L a2)=true /\ ik L a1=.slice (some d) n cap /\ ik L a2=.slice (some a) m c' /\ P.underlying t=some (.slice T):=by
 unfold NB at h
 split at h
 case h_2=>cases h
 rename_i c hg I_
 split at h
 case h_2=>cases h
 rename_i a1 a2 t' Zk h1 h2 h3
 split at h
 case h_2=>cases h
 rename_i d' n' bY a' m' c2 h4 h5 h6
 split at h
 case h_2=>cases h
 rename_i T' h7
 simp only[Option.some.injEq,Prod.mk.injEq] at h
 obtain⟨e1,e2,e3,e4,e5,e6,e7,e8,e9⟩:=h
 subst e1;subst e2;subst e3;subst e4;subst e5;subst e6;subst e7;subst e8;subst e9
 refine⟨a1,a2,hg,?_,h4,h5,h6,h7⟩
 obtain⟨cal,args,ZE⟩:=c
 simp only at h1 h2 h3
 subst h1
 have e1:args=#[a1,a2]:=by cases args;simp_all
 have e2:ZE=#[t',Zk]:=by cases ZE;simp_all
 rw[I_,e1,e2]
def Pw(P:Program)(N i:Nat)(oo:Option Oper)(s:Cfg):Option (Addr × Nat × Nat × Addr × Nat × Nat × TypeId × TypeId × TypeId × (Nat × Blk)):=match oo with
 | some o=>match NB P o s.L,s.A[i]?,(fg N o.dst undef s.L).isSome with
  | some (d,n,cap,a,m,c',T,t,tx),some x,true=>some (d,n,cap,a,m,c',T,t,tx,x)
  | _,_,_=>none
 | none=>none
theorem RN.cpy(i:Nat)(X:Blk){b n cap m c':Nat}{a:Addr}{T t tx ty:TypeId}{g:Nat -> Nat -> Value}(vs:List Value)(hl:vs.length=n)(hm:m=n)(h1:∀v∈vs,v.oneCell'=true)(ID:(P.info? T).map (·.size)=some 1)
  (hs:∀w,Rel (ap s.A s.Ts++F) w -> ∀j v,vs[j]?=some v -> w.cell? (a.add j)=some v)
  (hX:X.den=(Blk.lit vs ty (0,0)).den) (hk:RN r P N D F w0 R (Oh i X (fD N (vI (n:Int)) s)) Q)
  (h:Pw P N i (p7 s) s=some (⟨b,0,none⟩,n,cap,a,m,c',T,t,tx,(b,.rows 1 n g ty (0,0))):=by kernel_rfl):RN r P N D F w0 R s Q:=by
 unfold Pw at h
 split at h
 case h_2=>cases h
 rename_i o q0
 split at h
 case h_2=>cases h
 rename_i d' n' bY a' m' c2 T' t' Zk x hv hx hp
 simp only[Option.some.injEq,Prod.mk.injEq] at h
 obtain⟨e1,e2,e3,e4,e5,e6,e7,e8,e9,e10⟩:=h
 subst e1;subst e2;subst e3;subst e4;subst e5;subst e6;subst e7;subst e8;subst e9;subst e10
 obtain⟨a1,a2,q1,q2,q3,q4,q5,q6⟩:=D8 hv
 refine⟨λ hR aa w hF aT hB=>?_⟩
 obtain⟨c,k,L,Bs,Ts⟩:=s
 unfold p7 at q0
 cases c with
 | code c=>cases q0
 | ex c=>cases q0
 | drw _ _=>cases q0
 | ops ops pc =>
  simp only at q0 q3 q4 q5 hx hp hF aT hs
  have K_:ops.toList.drop pc=o::ops.toList.drop (pc+1):=by
   have iF:pc<ops.toList.length:=(List.getElem?_eq_some_iff.1 q0).1
   rw[List.drop_eq_getElem_cons iF,(List.getElem?_eq_some_iff.1 q0).2]
  show wpListIn _ _ _ _ _ _ _ _
  rw[K_,wpListIn,if_pos (by simp[Region.wanted,q1])]
  refine⟨λ _ _=>trivial,?_⟩
  subst hm
  have Xt:(ap Bs Ts)[i]?=some (b,Blk.rows 1 m' g ty (0,0)):=by
   show (Bs++Ts.flatten)[i]?=_
   rw[List.getElem?_append_left (List.getElem?_eq_some_iff.1 hx).1];exact hx
  have SL:w.heap[b]?=some (Blk.lit (bm 1 g m') ty (0,0)).den:=aT.holds (b,.rows 1 m' g ty (0,0)) (List.mem_append_left _ (List.mem_of_getElem? Xt))
  have hrl:(bm 1 g m').length=m':=by rw[cU];omega
  have key:ez P o aa w λ u w'=>u=vI (m':Int) /\ Rel (bz (ap Bs Ts) i (b,X)++F) w' /\ Below 0 w w':=by
   simp only[Bool.and_eq_true] at q3
   have e1:=(hF.eval q3.1).trans q4
   have e2:=(hF.eval q3.2).trans q5
   have f_:=run_copy_cells (P:=P) w t' Zk o.type T' b 0 m' bY a' m' c2 vs q6 ID (by simp[hl]) (hs w aT) (λ j hj=>by
     have RS:j<(bm 1 g m').length:=by omega
     rw[Nat.zero_add,nJ (v:=(bm 1 g m')[j]) SL rfl rfl (by simp[RS])];rfl) (λ j hj=>oL SL rfl rfl) h1
   unfold ez
   have he:(execOp aa.eval o).run P w=.ok (.value (vI (m':Int))) (w.setCells b 0 vs):=by
    simp[execOp,q2,resolve,invoke,builtin,Sem.run_bind,e1,e2,f_,goInt,hl]
   rw[he]
   refine⟨rfl,?_,iP b vs 0 w⟩
   have hd:=oE vs 0 w _ SL
   rw[Ak (by omega),<- hX] at hd
   exact aT.upd Xt hd (λ k hk=>oG hk vs 0 w)
  refine gh (by rw[q2];intro c hc;cases hc) key ?_
  rintro u w' ⟨rfl,Q1,Tn⟩
  obtain⟨L',p1⟩:=eJ hp (vI (m':Int))
  have hh:=hk.h hR
  have RZ:Oh i X (fD N (vI (m':Int)) ⟨.ops ops pc,k,L,Bs,Ts⟩)=⟨.ops ops (pc+1),k,L',bz Bs i (b,X),Ts⟩:=by
   unfold fD
   simp only[q0,p1]
   unfold Oh
   simp only[hx]
  rw[RZ] at hh
  refine hh _ w' (hF.put p1) ?_ (hB.trans Tn)
  have e3:bz (ap Bs Ts) i (b,X)=ap (bz Bs i (b,X)) Ts:=by
   show bz (Bs++Ts.flatten) i _=bz Bs i _++Ts.flatten
   rw[iJ,iJ,List.set_append_left _ _ (List.getElem?_eq_some_iff.1 hx).1]
  rw[<- e3]
  exact Q1
end
def Ie(i v:Int):Int:=jW ⟨#[108,101,97,102]⟩ [i,v]
def Cj(a b:Int):Int:=jW ⟨#[112,97,105,114]⟩ [bg a,bg b]
def Ig:Int:=jW ⟨#[101,109,112,116,121]⟩ []
def ll(n:Nat):Nat:=if n <= 1 then 0 else Lib.bitLen (n-1)
def vW(n:Nat):Nat:=2 ^ ll n
theorem NC{n:Nat}(h:(n:Int) <= 1):ll n=0:=by
 unfold ll
 rw[if_pos (by omega)]
theorem ND{n:Nat}(hl:n <= 1000000)(h:¬ (n:Int) <= 1):uR ((n:Int)-1)=(ll n:Int):=by
 unfold ll uR
 rw[if_neg (by omega)]
 have e:(wj ((n:Int)-1)).toNat=n-1:=by
  rw[show wj ((n:Int)-1)=(n:Int)-1 by rw[wj,IntKind.wrap];simp[IntKind.signed,IntKind.bits];omega]
  omega
 rw[e]
theorem L4:∀ (f x:Nat),x<2 ^ f -> x≠0 -> ∃m,Lib.bitLenAux f x=m+1 /\ 2 ^ m <= x /\ x<2 ^ (m+1)
 | 0,x,h,h0=>absurd (by simpa using h) h0
 | f+1,x,h,h0=>by
  rw[Lib.bitLenAux,if_neg h0]
  by_cases h2:x / 2=0
  ·have e:Lib.bitLenAux f (x / 2)=0:=by rw[h2];cases f <;> simp[Lib.bitLenAux]
   rw[e]
   exact⟨0,rfl,by simp;omega,by simp;omega⟩
  ·obtain⟨m,e,h3,h4⟩:=L4 f (x / 2) (by rw[Nat.pow_succ] at h;omega) h2
   rw[e]
   exact⟨m+1,by omega,by rw[Nat.pow_succ];omega,by rw[Nat.pow_succ];omega⟩
theorem Al{n:Nat}(h:n <= 1000000):ll n <= 20 /\ n <= vW n /\ 1 <= vW n /\ vW n <= 2000000:=by
 unfold vW ll
 by_cases h1:n <= 1
 ·rw[if_pos h1]
  simp
  omega
 ·rw[if_neg h1]
  obtain⟨m,e,b2,b3⟩:=L4 64 (n-1) (by omega) (by omega)
  rw[show Lib.bitLen (n-1)=m+1 from e]
  have hm:m<20:=by
   apply Classical.byContradiction
   intro hn
   have:=Nat.pow_le_pow_right (n:=2) (by omega) (show 20 <= m by omega)
   omega
  rw[Nat.pow_succ] at b3 ⊢
  omega
theorem Px{n:Nat}(h:n <= 1000000):i64.wrap (1*2 ^ min ((ll n:Int)).toNat 64)=(vW n:Int):=by
 obtain⟨h1,h2,h3,h4⟩:=Al h
 rw[Int.toNat_natCast,Nat.min_eq_left (by omega),IntKind.wrap_i64]
 have e:(1:Int)*2 ^ ll n=(vW n:Int):=by
  unfold vW
  rw[Int.one_mul]
  norm_cast
 rw[e]
 omega
def ji(f:Nat -> Int):Nat -> Nat -> Value:=λ i k=>match k with|0=>.int .u64 (f i)|_=>default
def vK(f:Nat -> Int)(i:Nat)(v:Int):Nat -> Int:=λ j=>if j=i then v else f j
theorem se(f:Nat -> Int)(i:Nat)(v:Int):db (ji f) i 0 (.int .u64 v)=ji (vK f i v):=by
 funext j k
 unfold db ji vK
 cases k with
 | zero=>by_cases h:j=i <;> simp[h]
 | succ k=>simp
def K6(xs:List Int)(sz:Nat):Nat -> Nat -> Int
 | 0=>λ _=>0
 | i+1=>vK (K6 xs sz i) (sz+i) (Ie i (xs.getD i 0))
def Ii(xs:List Int)(sz:Nat):Nat -> Nat -> Int
 | 0=>K6 xs sz xs.length
 | m+1=>vK (Ii xs sz m) (sz+(xs.length+m)) Ig
def s9(xs:List Int)(sz:Nat):Nat -> Nat -> Int
 | 0=>Ii xs sz (sz-xs.length)
 | m+1=>vK (s9 xs sz m) (sz-1-m) (Cj (s9 xs sz m (2*(sz-1-m))) (s9 xs sz m (2*(sz-1-m)+1)))
def ij(xs:List Int):Int:=s9 xs (vW xs.length) (vW xs.length-1) 1
theorem D9(xs:List Int)(sz:Nat):il [.int .u64 0]=ji (K6 xs sz 0):=by
 funext j k
 cases k with
 | zero=>rfl
 | succ k=>simp[il,ji]
theorem K7{xs:List Int}{sz j:Nat}(h:xs.length <= j):vK (Ii xs sz (j-xs.length)) (sz+j) Ig=Ii xs sz (j+1-xs.length):=by
 rw[show j+1-xs.length=(j-xs.length)+1 by omega,Ii,show xs.length+(j-xs.length)=j by omega]
theorem K8{xs:List Int}{sz k:Nat}(h:k+1 <= sz)(h1:1 <= k):vK (s9 xs sz (sz-1-k)) k (Cj (s9 xs sz (sz-1-k) (2*k)) (s9 xs sz (sz-1-k) (2*k+1)))=s9 xs sz (sz-1-(k-1)):=by
 rw[show sz-1-(k-1)=(sz-1-k)+1 by omega,s9,show sz-1-(sz-1-k)=k by omega]
theorem Ea(xs:List Int){n:Nat}(h:xs.length=n):bm 1 (aN xs) n=xs.map vI:=by
 refine iI (by simpa using h) λ i k hi hk=>?_
 obtain rfl:k=0:=by omega
 have UE:i<xs.length:=by omega
 simp[aN,List.getD_eq_getElem?_getD,List.getElem?_eq_getElem UE]
theorem Ij{q c:Nat}{ty:TypeId}{xs:List Int}{H F:HL}(hq:(q,.rows 1 c (aN xs) ty (0,0))∈H++F)(hc:xs.length <= c):∀w,Rel (H++F) w -> ∀j v,(xs.map vI)[j]?=some v -> w.cell? (Addr.add ⟨q,0,none⟩ j)=some v:=by
 intro w hr j v hv
 have hj:j<xs.length:=by
  have:=(List.getElem?_eq_some_iff.1 hv).1
  simpa using this
 have hb:=hr.holds _ hq
 rw[show Addr.add ⟨q,0,none⟩ j=⟨q,j,none⟩ by unfold Addr.add;split <;> simp_all,jQ (i:=j) (k:=0) hb rfl rfl (by simp) (by omega) (by omega)]
 rw[<- hv]
 simp[aN,List.getD_eq_getElem?_getD,List.getElem?_eq_getElem hj]
theorem NE{xs:List Int}:∀v∈xs.map vI,v.oneCell'=true:=by
 intro v hv
 obtain⟨x,_,rfl⟩:=List.mem_map.1 hv
 rfl
theorem Ik(b:ByteArray)(F:HL)(hb:b.size <= 1000000):Sp Tryz.prog 16 #[.string b,.slice none 0 0] [] F (λ u H'=>u=.int .u64 (jW b []) /\ H'=[]):=by
 refine Sp.run Tryz.func16 rfl mn (A:=[]) (Ts:=[]) rfl λ w0=>?_
 refine ae 10 [] λ _=>RN.cp (iX b 0 _ (by assumption))<|ae 12 [] λ _=>RN.rounds 1<|ae 15 [] λ _=>RN.cp (eM (cL b 0) 0 _)<|ae 3 [] λ _=>?_
 exact RN.ret [] [] [] ⟨rfl,rfl⟩
theorem Am(n:Nat)(F:HL)(hl:n <= 1000000):Sp Tryz.prog 73 #[vI (n:Int)] [] F (λ u H'=>u=vI (ll n:Int) /\ H'=[]):=by
 refine Sp.run Tryz.func73 rfl mn (A:=[]) (Ts:=[]) rfl λ w0=>?_
 refine ae 12 [] λ _=>RN.em ((n:Int) <= 1) 4 (λ h1=>?_) λ h1=>?_
 ·refine ae 6 [] λ _=>RN.ret [] [] [] (v:=vI 0) (H':=[]) ?_
  exact⟨congrArg (λ x:Nat=>vI (x:Int)) (NC (by assumption)).symm,rfl⟩
 ·refine ai 8 [.nw] [aU ((n:Int)-1)] λ _=>RN.cp (wl ((n:Int)-1) _)<|ae 3 [] λ _=>RN.ret [] [] [] (v:=vI (uR ((n:Int)-1))) (H':=[]) ?_
  exact⟨congrArg vI (ND hl (by assumption)),rfl⟩
theorem Eb(i v:Int)(F:HL):Sp Tryz.prog 74 #[vI i,vI v] [] F (λ u H'=>u=.int .u64 (Ie i v) /\ H'=[]):=by
 refine Sp.run Tryz.func74 rfl mn (A:=[]) (Ts:=[]) rfl λ w0=>?_
 refine ae 10 [] λ n1=>RN.dn 0 (.rows 1 2 (aN [i,v]) 3 (0,0))<|RN.cp (nX (⟨#[108,101,97,102]⟩) ([i,v]) (n1+0) 2 _ (by decide) (Nat.le_of_ble_eq_true rfl) (Nat.le_of_ble_eq_true rfl) (az 0))<|ae 3 [] λ _=>?_
 exact RN.ret [] [] [] ⟨rfl,rfl⟩
theorem Ec(a b:Int)(F:HL):Sp Tryz.prog 75 #[.int .u64 a,.int .u64 b] [] F (λ u H'=>u=.int .u64 (Cj a b) /\ H'=[]):=by
 refine Sp.run Tryz.func75 rfl mn (A:=[]) (Ts:=[]) rfl λ w0=>?_
 refine ae 12 [] λ n1=>RN.dn 0 (.rows 1 2 (aN [i64.wrap a,i64.wrap b]) 3 (0,0))<|RN.cp (nX (⟨#[112,97,105,114]⟩) ([i64.wrap a,i64.wrap b]) (n1+0) 2 _ (by decide) (Nat.le_of_ble_eq_true rfl) (Nat.le_of_ble_eq_true rfl) (az 0))<|ae 3 [] λ _=>?_
 exact RN.ret [] [] [] ⟨rfl,rfl⟩
theorem Il(q c:Nat)(xs:List Int)(F:HL)(hq:(q,.rows 1 c (aN xs) 3 (0,0))∈F)(hc:xs.length <= c)(hl:xs.length <= 1000000):Sp Tryz.prog 40 #[vS q 0 xs.length c] (ap [] []) F (λ u H'=>∃x:Nat × Nat × Nat,H'=ap [(x.1,.lit [vI (ll xs.length:Int),vS x.2.1 0 xs.length xs.length,vS x.2.2 0 (2*vW xs.length) (2*vW xs.length)] 150 (0,0)),(x.2.1,.rows 1 xs.length (aN xs) 3 (0,0)),(x.2.2,.rows 1 (2*vW xs.length) (ji (s9 xs (vW xs.length) (vW xs.length-1))) 45 (0,0))] [] /\ u=vP x.1 0):=by
 obtain⟨UI,Uu,XJ,hb4⟩:=Al hl
 have he:=Px hl
 obtain⟨sz,ID⟩:∃sz,vW xs.length=sz:=⟨_,rfl⟩
 rw[ID] at Uu XJ hb4 he
 refine Sp.run Tryz.func40 rfl (mc hq mn) (A:=[]) (Ts:=[]) rfl λ w0=>?_
 refine ae 9 [] λ _=>RN.cp (Am xs.length _ hl)<|ai 11 [.dv] [0 <= (ll xs.length:Int)] λ _=>RN.draw [] []<|ja 4 (congrArg (λ v_=>(vI v_:Value)) he)<|aG [] [0,1,4,2,5] [.nw] [aU (2*(sz:Int))]<|jU (σ:=Nat × Nat × Nat) (λ ⟨n1,n2,n3⟩=>⟨[(0,vS q 0 xs.length c),(4,vI (sz:Int)),(5,vP (n3+0) 0)],[((n3+0),.lit [vI (ll xs.length:Int),vS (n1+0) 0 xs.length xs.length,vS (n2+0) 0 (2*sz) (2*sz)] 150 (0,0)),((n2+0),.rows 1 (2*sz) (il [.int .u64 0]) 45 (0,0)),((n1+0),.rows 1 xs.length (il [vI 0]) 3 (0,0))],[],True,0⟩) ?_ ?_
 ·rintro⟨n1,n2,n3⟩
  refine ae 8 [.own 0] λ _=>RN.cpy (b:=(n1+0)) (n:=xs.length) (cap:=xs.length) (m:=xs.length) (c':=c) (a:=⟨q,0,none⟩) (T:=3) (t:=22) (tx:=22) (ty:=3) (g:=(il [vI 0])) 2 (.rows 1 xs.length (aN xs) 3 (0,0)) (xs.map vI) (by simp) rfl NE rfl (Ij (List.mem_append_right _ hq) hc) (congrArg (λ l:List Value=>(Obj.cells ⟨l⟩ 3 (0,0))) (Ea xs rfl))<|ae 11 [] λ _=>cj 1 (congrArg (λ v_=>(.rows 1 (2*sz) v_ 45 (0,0):Blk)) (show (il [.int .u64 0])=(ji (K6 xs sz 0)) from D9 xs sz))<|RN.loop (σ:=Nat) (λ i=>⟨[(0,vS q 0 xs.length c),(4,vI (sz:Int)),(5,vP (n3+0) 0),(31,vS q 0 xs.length c),(32,vI (xs.length:Int)),(33,vI (i:Int))],[((n3+0),.lit [vI (ll xs.length:Int),vS (n1+0) 0 xs.length xs.length,vS (n2+0) 0 (2*sz) (2*sz)] 150 (0,0)),((n2+0),.rows 1 (2*sz) (ji (K6 xs sz i)) 45 (0,0)),((n1+0),.rows 1 xs.length (aN xs) 3 (0,0))],[],i <= xs.length,xs.length-i⟩) 0 [0,1,2] [] (Nat.zero_le _) ?_
  rintro i hI4 SQ
  refine ae 6 [] λ _=>RN.em ((i:Int)<(xs.length:Int)) 34 (λ h6=>?_) λ h6=>?_
  ·refine ai 14 [.ix i,.rorow 0 i 0] [(0+i*1)=i*1+0 /\ i<c,(i:Int)=((i:Nat):Int) /\ i<xs.length] λ _=>RN.draw [11] []<|aG [] [0,4,5,7,8,1,6,2,3] [.nw,.own 0] [aU ((sz:Int)+(i:Int))]<|RD.cp [] 9 (λ X_=>(Eb (i:Int) (xs.getD i 0) _))<|aG [] [10] [.ix (sz+i)] [(sz:Int)+(i:Int)=(((sz+i):Nat):Int) /\ (sz+i)<(2*sz)]<|RD.one 11 (eC [] [.row 1 (sz+i) 0] [(0+(sz+i)*1)=(sz+i)*1+0 /\ (sz+i)<(2*sz)] λ _=>?_)
   refine RD.fin<|ai 6 [.nw] [aU ((i:Int)+1)] λ _=>cj 1 (congrArg (λ v_=>(.rows 1 (2*sz) v_ 45 (0,0):Blk)) (show (db (ji (K6 xs sz i)) (sz+i) 0 (.int .u64 (Ie (i:Int) (xs.getD i 0))))=(ji (K6 xs sz (i+1))) from (se _ _ _))) ?_
   refine SQ (i+1) [0,1,2] [] ?_
   try dsimp only
   exact⟨by omega,by omega⟩
  ·obtain rfl:i=xs.length:=by omega
   refine ae 8 [] λ _=>RN.cp (Ik (⟨#[101,109,112,116,121]⟩) _ (by decide))<|ae 12 [] λ _=>cj 1 (congrArg (λ v_=>(.rows 1 (2*sz) v_ 45 (0,0):Blk)) (show (ji (K6 xs sz xs.length))=(ji (Ii xs sz (xs.length-xs.length))) from (by rw[Nat.sub_self];rfl)))<|RN.loop (σ:=Nat) (λ j=>⟨[(4,vI (sz:Int)),(5,vP (n3+0) 0),(8,.int .u64 (jW (⟨#[101,109,112,116,121]⟩) [])),(9,vI (j:Int))],[((n3+0),.lit [vI (ll xs.length:Int),vS (n1+0) 0 xs.length xs.length,vS (n2+0) 0 (2*sz) (2*sz)] 150 (0,0)),((n2+0),.rows 1 (2*sz) (ji (Ii xs sz (j-xs.length))) 45 (0,0)),((n1+0),.rows 1 xs.length (aN xs) 3 (0,0))],[],xs.length <= j /\ j <= sz,sz-j⟩) xs.length [0,1,2] [] (⟨Nat.le_refl _,by omega⟩) ?_
   rintro j ⟨UX,hj2_⟩ X0
   refine ae 8 [] λ _=>RN.em ((j:Int)<(sz:Int)) 55 (λ h9=>?_) λ h9=>?_
   ·refine ai 24 [.own 0,.nw,.ix (sz+j),.row 1 (sz+j) 0,.nw] [aU ((j:Int)+1),(0+(sz+j)*1)=(sz+j)*1+0 /\ (sz+j)<(2*sz),(sz:Int)+(j:Int)=(((sz+j):Nat):Int) /\ (sz+j)<(2*sz),aU ((sz:Int)+(j:Int))] λ _=>cj 1 (congrArg (λ v_=>(.rows 1 (2*sz) v_ 45 (0,0):Blk)) (show (db (ji (Ii xs sz (j-xs.length))) (sz+j) 0 (.int .u64 (jW (⟨#[101,109,112,116,121]⟩) [])))=(ji (Ii xs sz (j+1-xs.length))) from (by rw[se,<- K7 (by omega)];rfl))) ?_
    refine X0 (j+1) [0,1,2] [] ?_
    try dsimp only
    exact⟨⟨by omega,by omega⟩,by omega⟩
   ·obtain rfl:sz=j:=by omega
    refine ai 15 [.nw] [aU ((sz:Int)-1)] λ _=>cj 1 (congrArg (λ v_=>(.rows 1 (2*sz) v_ 45 (0,0):Blk)) (show (ji (Ii xs sz (sz-xs.length)))=(ji (s9 xs sz (sz-1-(sz-1)))) from (by rw[Nat.sub_self];rfl)))<|aB 10 (congrArg (λ v_=>(vI v_:Value)) (show (sz:Int)-1=((sz-1:Nat):Int) by omega))<|RN.loop (σ:=Nat) (λ k=>⟨[(5,vP (n3+0) 0),(10,vI (k:Int))],[((n3+0),.lit [vI (ll xs.length:Int),vS (n1+0) 0 xs.length xs.length,vS (n2+0) 0 (2*sz) (2*sz)] 150 (0,0)),((n2+0),.rows 1 (2*sz) (ji (s9 xs sz (sz-1-k))) 45 (0,0)),((n1+0),.rows 1 xs.length (aN xs) 3 (0,0))],[],k+1 <= sz,k⟩) (sz-1) [0,1,2] [] (by omega) ?_
    rintro k hI10 U4
    refine ae 7 [] λ _=>RN.em ((k:Int) >= 1) 70 (λ RE=>?_) λ RE=>?_
    ·refine ae 5 [] λ _=>RN.draw [24] []<|aG [] [0,4,5,9,13,17,1,6,10,14,18,2,7,15,19,3,8,16,11,20,12,21] [.nw,.nw,.nw,.own 0,.own 0,.own 0,.ix (2*k),.ix (2*k+1),.row 1 (2*k) 0,.row 1 (2*k+1) 0] [(0+(2*k+1)*1)=(2*k+1)*1+0 /\ (2*k+1)<(2*sz),(0+(2*k)*1)=(2*k)*1+0 /\ (2*k)<(2*sz),(2*(k:Int))+1=(((2*k+1):Nat):Int) /\ (2*k+1)<(2*sz),2*(k:Int)=(((2*k):Nat):Int) /\ (2*k)<(2*sz),aU ((2*(k:Int))+1),aU (2*(k:Int)),aU (2*(k:Int))]<|RD.cp [] 22 (λ X_=>(Ec ((s9 xs sz (sz-1-k)) (2*k)) ((s9 xs sz (sz-1-k)) (2*k+1)) _))<|aG [] [23] [.ix k] [(k:Int)=((k:Nat):Int) /\ k<(2*sz)]<|RD.one 24 (eC [] [.row 1 k 0] [(0+k*1)=k*1+0 /\ k<(2*sz)] λ _=>?_)
     refine RD.fin<|ai 7 [.nw] [aU ((k:Int)-1)] λ _=>cj 1 (congrArg (λ v_=>(.rows 1 (2*sz) v_ 45 (0,0):Blk)) (show (db (ji (s9 xs sz (sz-1-k))) k 0 (.int .u64 (Cj ((s9 xs sz (sz-1-k)) (2*k)) ((s9 xs sz (sz-1-k)) (2*k+1)))))=(ji (s9 xs sz (sz-1-(k-1)))) from (by rw[se,K8 (by omega) (by omega)])))<|aB 10 (congrArg (λ v_=>(vI v_:Value)) (show (k:Int)-1=((k-1:Nat):Int) by omega)) ?_
     refine U4 (k-1) [0,1,2] [] ?_
     try dsimp only
     exact⟨by omega,by omega⟩
    ·obtain rfl:k=0:=by omega
     refine ae 12 [] λ _=>RN.ret [] [0,2,1] [] (v:=vP (n3+0) 0) (H':=[((n3+0),.lit [vI (ll xs.length:Int),vS (n1+0) 0 xs.length xs.length,vS (n2+0) 0 (2*sz) (2*sz)] 150 (0,0)),((n1+0),.rows 1 xs.length (aN xs) 3 (0,0)),((n2+0),.rows 1 (2*sz) (ji (s9 xs sz (sz-1-0))) 45 (0,0))]) ?_
     subst ID
     exact⟨(_,_,_),rfl,rfl⟩
 ·intro Xp
  refine fQ 3 6 ?_ ?_
  ·refine eC [] [.mk xs.length xs.length] [(xs.length:Int)=((xs.length:Nat):Int) /\ (xs.length:Int)=((xs.length:Nat):Int) /\ xs.length <= xs.length /\ 8*xs.length <= 140737488355328 /\ 1=1 /\ xs.length <= 9223372036854775807] λ ZM=>RD.one 6 (eC [] [.mk (2*sz) (2*sz)] [2*(sz:Int)=(((2*sz):Nat):Int) /\ 2*(sz:Int)=(((2*sz):Nat):Int) /\ (2*sz) <= (2*sz) /\ 8*(2*sz) <= 140737488355328 /\ 1=1 /\ (2*sz) <= 9223372036854775807] λ n15=>?_)
   refine RD.one 7 (RDO.ev [] [] λ _=>?_)
   refine RD.one 8 (RDO.ev [] [] λ n16=>?_)
   refine RD.one 9 (RDO.ev [] [] λ _=>?_)
   exact Xp ⟨ZM,n15,n16⟩ [0,1,2] []
  ·refine eC [] [.mk (2*sz) (2*sz)] [2*(sz:Int)=(((2*sz):Nat):Int) /\ 2*(sz:Int)=(((2*sz):Nat):Int) /\ (2*sz) <= (2*sz) /\ 8*(2*sz) <= 140737488355328 /\ 1=1 /\ (2*sz) <= 9223372036854775807] λ n17=>RD.one 3 (eC [] [.mk xs.length xs.length] [(xs.length:Int)=((xs.length:Nat):Int) /\ (xs.length:Int)=((xs.length:Nat):Int) /\ xs.length <= xs.length /\ 8*xs.length <= 140737488355328 /\ 1=1 /\ xs.length <= 9223372036854775807] λ n18=>?_)
   refine RD.one 7 (RDO.ev [] [] λ _=>?_)
   refine RD.one 8 (RDO.ev [] [] λ n19=>?_)
   refine RD.one 9 (RDO.ev [] [] λ _=>?_)
   exact Xp ⟨n18,n17,n19⟩ [0,2,1] []
theorem Ed(t cb nb n c:Nat)(h:Int)(f:Nat -> Int)(F:HL)(ht:(t,.lit [vI h,vS cb 0 n n,vS nb 0 c c] 150 (0,0))∈F)(hn:(nb,.rows 1 c (ji f) 45 (0,0))∈F)(hc:2 <= c):Sp Tryz.prog 41 #[vP t 0] [] F (λ u H'=>u=.int .u64 (f 1) /\ H'=[]):=by
 refine Sp.run Tryz.func41 rfl (mc ht (mc hn mn)) (A:=[]) (Ts:=[]) rfl λ w0=>?_
 refine ai 16 [.ro 0,.ix 1,.rorow 1 1 0] [(0+1*1)=1*1+0 /\ 1<c,1=((1:Nat):Int) /\ 1<c] λ _=>?_
 exact RN.ret [] [] [] ⟨rfl,rfl⟩
theorem Ee(q c:Nat)(xs:List Int)(F:HL)(hq:(q,.rows 1 c (aN xs) 3 (0,0))∈F)(hc:xs.length <= c)(hl:xs.length <= 1000000):Sp Tryz.prog 14 #[vS q 0 xs.length c] [] F (λ u H'=>u=.int .u64 (ij xs) /\ H'=[]):=by
 refine Sp.run Tryz.func14 rfl (mc hq mn) (A:=[]) (Ts:=[]) rfl λ w0=>?_
 refine ae 8 [] λ _=>RN.ct (Hp:=[]) (Tp:=[]) [] [] (Il q c xs _ (aq hq) hc hl) ?_
 rintro _ ⟨t1,c2,n3⟩ rfl
 refine RN.cp (Ed t1 c2 n3 xs.length (2*vW xs.length) (ll xs.length) (s9 xs (vW xs.length) (vW xs.length-1)) _ (az 0) (az 2) (by have:=(Al hl).2.2.1;omega))<|ae 3 [] λ _=>?_
 exact RN.ret [] [] [] ⟨rfl,rfl⟩
def jf(A:Option Addr)(l sz cap:Nat):Option Addr:=if cap=l then A else A.map (·.add (l*sz))
def QU(P:Program)(o:Oper)(L:FL):Option (Option Addr × Nat × Nat × Int × Nat):=match o.guard,o.op with
 | none,.slice t x (some lo) none none=>match kR L x && kR L lo,P.underlying t,ik L x,ik L lo with
  | true,some (.slice elem),.slice a len cap,.int .i64 l=>match P.info? elem with
   | some inf=>some (a,len,cap,l,inf.size)
   | none=>none
  | _,_,_,_=>none
 | _,_=>none
def slK(P:Program)(N:Nat)(oo:Option Oper)(s:Cfg):Option (Option Addr × Nat × Nat × Int × Nat):=match oo with
 | some o=>match QU P o s.L,(fg N o.dst undef s.L).isSome with
  | some x,true=>some x
  | _,_=>none
 | none=>none
section
variable {r:Option Nat} {P:Program} {N:Nat} {D:List Deferred} {F:HL} {w0:World} {R:HL} {s:Cfg} {Q:Exit -> Act -> World -> Prop}
theorem Im{o:Oper}{L:FL}{A:Option Addr}{n cap sz:Nat}{l:Int}(h:QU P o L=some (A,n,cap,l,sz)) :
  ∃t x lo elem inf,o.guard=none /\ o.op=.slice t x (some lo) none none /\ (kR L x && kR L lo)=true /\ P.underlying t=some (.slice elem) /\ ik L x=.slice A n cap /\ ik L lo=.int .i64 l /\ P.info? elem=some inf /\ inf.size=sz:=by
 unfold QU at h
 split at h
 case h_2=>cases h
 rename_i t x lo hg I_
 split at h
 case h_2=>cases h
 rename_i elem a len cp l' h1 h2 h3 h4
 split at h
 case h_2=>cases h
 rename_i inf h5
 simp only[Option.some.injEq,Prod.mk.injEq] at h
 obtain⟨e1,e2,e3,e4,e5⟩:=h
 subst e1;subst e2;subst e3;subst e4
 exact⟨t,x,lo,elem,inf,hg,I_,h1,h2,h3,h4,h5,e5⟩
theorem RN.slA{A:Option Addr}{n cap l sz:Nat}{li:Int}(hl:li=(l:Int))(h1:l <= n)(h2:n <= cap)(hk:RN r P N D F w0 R (fD N (.slice (jf A l sz cap) (n-l) (cap-l)) s) Q)
  (h:slK P N (p7 s) s=some (A,n,cap,li,sz):=by kernel_rfl):RN r P N D F w0 R s Q:=by
 unfold slK at h
 split at h
 case h_2=>cases h
 rename_i o q0
 split at h
 case h_2=>cases h
 rename_i y hv hp
 simp only[Option.some.injEq] at h
 rw[h] at hv
 clear h
 obtain⟨t,x,lo,elem,inf,q1,q2,q3,q4,q5,q6,q7,q8⟩:=Im hv
 refine⟨λ hR aa w hF aT hB=>?_⟩
 obtain⟨c,k,L,Bs,Ts⟩:=s
 unfold p7 at q0
 cases c with
 | code c=>cases q0
 | ex c=>cases q0
 | drw _ _=>cases q0
 | ops ops pc =>
  simp only at q0 q3 q5 q6 hp hF aT
  have K_:ops.toList.drop pc=o::ops.toList.drop (pc+1):=by
   have iF:pc<ops.toList.length:=(List.getElem?_eq_some_iff.1 q0).1
   rw[List.drop_eq_getElem_cons iF,(List.getElem?_eq_some_iff.1 q0).2]
  show wpListIn _ _ _ _ _ _ _ _
  rw[K_,wpListIn,if_pos (by simp[Region.wanted,q1])]
  refine⟨λ _ _=>trivial,?_⟩
  have key:ez P o aa w λ u w'=>u=.slice (jf A l sz cap) (n-l) (cap-l) /\ Rel (ap Bs Ts++F) w' /\ Below 0 w w':=by
   simp only[Bool.and_eq_true] at q3
   have e1:=(hF.eval q3.1).trans q5
   have e2:=(hF.eval q3.2).trans q6
   have k1:=kw (P:=P) (ρ:=aa.eval) (lo:=some lo) (hi:=none) (l:=l) (h:=n) (len:=n) (cap:=cap) (by show EW _ _ _ _;unfold EW;simp only[e2];exact hl) rfl h1 h2 w
   have k2:=λ W=>dN q7 W
   have k3:=λ W=>aO q4 W
   unfold ez
   have he:(execOp aa.eval o).run P w=.ok (.value (.slice (jf A l sz cap) (n-l) (cap-l))) w:=by
    rw[show Option.map aa.eval none=none from rfl,show Option.map aa.eval (some lo)=some (aa.eval lo) from rfl] at k1
    simp[execOp,q2,Instr.sliceAt,Instr.slice,e1,k3,Go.sizeOf,k2,Sem.run_bind,k1,jf,q8]
   rw[he]
   exact⟨rfl,aT,Below.refl _ _⟩
  refine gh (by rw[q2];intro c hc;cases hc) key ?_
  rintro u w' ⟨rfl,Q1,Tn⟩
  obtain⟨L',p1⟩:=eJ hp (.slice (jf A l sz cap) (n-l) (cap-l))
  have hh:=hk.h hR
  have RZ:fD N (.slice (jf A l sz cap) (n-l) (cap-l)) ⟨.ops ops pc,k,L,Bs,Ts⟩=⟨.ops ops (pc+1),k,L',Bs,Ts⟩:=by
   unfold fD
   simp only[q0,p1]
  rw[RZ] at hh
  exact hh _ w' (hF.put p1) Q1 (hB.trans Tn)
end
section
variable {α:Type} {e:Enc α} {T:TypeId} {F:HL} {A:Option Addr} {n cap:Nat} {xs:List α} {Hl:HL}
theorem RowL.take(h:RowL e T F A n xs){k:Nat}(hk:k <= n):RowL e T F A k (xs.take k):=by
 cases h with
 | zero =>
  obtain rfl:k=0:=by omega
  exact .zero _
 | rows q o N full fz n xs hq ho hn hx =>
  refine .rows q o N full fz k _ hq (by omega) (by rw[List.length_take];omega) (λ i hi=>?_)
  rw[hx i (by omega),List.getD_eq_getElem?_getD,List.getD_eq_getElem?_getD,List.getElem?_take,if_pos hi]
end
def J2(tk:Int)(j1 j2 i:Nat):Nat × Int:=if tk>(i:Int) then (j1,0) else (j2,1)
theorem Cm{tk:Int}{j1 j2 bp:Nat}{TB F:HL}(hB:Book2 tk j1 j2 bp TB)(hT:∀x∈TB,x∈F)(SG:j1<5)(RS:j2<5){t:Nat}{v:Int}(e:v=(t:Int)):(J2 tk j1 j2 t).1<5 /\ AtOk F bp v (J2 tk j1 j2 t):=by
 subst e
 refine⟨?_,hB.at hT SG RS _ (by omega)⟩
 unfold J2
 split
 ·exact SG
 ·exact RS
theorem TE2.cs{S:Setup}{t:Int}{M N:MemS}(h:M.cs=N.cs)(hT:TE2 S t M):TE2 S t N:=by
 have hg:∀k,N.get k=M.get k:=λ k=>by unfold MemS.get;rw[h]
 exact⟨by rw[<- h];exact hT.len,λ k h1 h2=>by rw[hg];exact hT.z k h1 h2,by rw[hg];exact hT.t0⟩
abbrev qE(tk:Int)(j1 j2 t:Nat):Nat -> Nat × Int:=λ i=>J2 tk j1 j2 (t+i)
section
variable {tk:Int} {S S1 S2:Setup} {rs_:List Bx} {ds_:List Dr} {bp gb n cap k t j1 j2:Nat} {A:Option Addr} {rs:List Rw} {xss:List (List Inp)} {M R:MemS} {G0 F TB:HL}
end
theorem Sp.fr{P:Program}{f:FuncId}{args:Array Value}{H H2 X F:HL}{R R2:Value -> HL -> Prop}(hp:H2.Perm (H++X))(h:Sp P f args H (X++F) R)(hr:∀u Y,R u Y -> ∃H',R2 u H' /\ H'.Perm (Y++X)):Sp P f args H2 F R2:=λ w hR =>
 (h w (by rw[<- List.append_assoc];exact hR.perm (hp.symm.append_right F))).mono λ e w' ⟨v,Y,h1,h2,h3,h4⟩=>by
  obtain⟨H',h5,h6⟩:=hr v Y h2
  exact⟨v,H',h1,h5,(by rw[<- List.append_assoc] at h3;exact h3.perm (h6.append_right F)),h4⟩
inductive GameX(rs:List Bx)(ds:List Dr)(bp gb mb:Nat)(S:Setup)(M:MemS)(k:Nat):HL -> Prop
 | mk (T U:HL) (hM:MemH mb M k T) (hU:ry S rs ds U):GameX rs ds bp gb mb S M k (ap [(gb,.lit (d8 S bp mb) 140 (0,0))] [T,U])
section
variable {rs:List Bx} {ds:List Dr} {bp gb mb:Nat} {S:Setup} {M:MemS} {k:Nat} {G0:HL}
theorem GameH.x(h:GameH rs ds bp gb S M k G0):∃mb,GameX rs ds bp gb mb S M k G0:=by
 cases h with
 | mk mb T U hM hU=>exact⟨mb,.mk T U hM hU⟩
theorem GameX.h(h:GameX rs ds bp gb mb S M k G0):GameH rs ds bp gb S M k G0:=by
 cases h with
 | mk T U hM hU=>exact .mk mb T U hM hU
theorem GameX.weak(h:GameX rs ds bp gb mb S M k G0){k':Nat}(hk:k' <= k):GameX rs ds bp gb mb S M k' G0:=by
 cases h with
 | mk T U hM hU=>exact .mk T U (hM.weak hk) hU
theorem GameX.mem(h:GameX rs ds bp gb mb S M k G0):∃T,MemH mb M k T /\ ∀x∈T,x∈G0:=by
 cases h with
 | mk T U hM hU=>exact⟨T,hM,λ x hx=>by simp[ap,hx]⟩
theorem Cn(h:GameX rs ds bp gb mb S M k G0){F:HL}(hF:∀x∈G0,x∈F):Sp Tryz.prog 38 #[vP gb 0] [] F (λ u H'=>u=vP mb 0 /\ H'=[]):=by
 cases h with
 | mk T U hM hU=>exact Gy S bp gb mb F (hF _ (by simp[ap]))
theorem An(h:GameX rs ds bp gb mb S M k G0){F:HL}(hF:∀x∈G0,x∈F):Sp Tryz.prog 39 #[vP mb 0] (ap [] []) F (λ u H'=>∃q,H'=ap [(q,.rows 1 M.cs.length (aN M.cs) 3 (0,0))] [] /\ u=vS q 0 M.cs.length M.cs.length):=by
 obtain⟨T,hM,hT⟩:=h.mem
 exact Du mb M k T F hM λ x hx=>hF x (hT x hx)
end
theorem Io{rs:List Bx}{ds:List Dr}{S:Setup}{bp gb mb b o N c k:Nat}{j:Nat × Int}{full xs:List Inp}{M:MemS}{G0 F:HL}(hG:GameX rs ds bp gb mb S M (k+20000) G0)(hj:j.1<5)(hA:AtOk F bp (M.get 0) j)(hE:dh F)(hI:(b,.rows 3 N (gc full) 119 (0,0))∈F)(hir:o+xs.length <= N)(Tu:xs.length <= 1000000)(hx:∀k,k<xs.length -> full.getD (o+k) dI=xs.getD k dI)(hk:TkOk S j xs M) :
  Sp Tryz.prog 70 #[vP gb 0,vS b (o*3) xs.length c] (ap [] [G0]) F (λ u H'=>∃x:(Option Addr × Nat × Nat) × HL × HL,H'=ap [] [x.2.1,x.2.2] /\ (GameX rs ds bp gb mb S (oh (uu S j xs) M) k x.2.1 /\ SlIs wG 197 (PY (uu S j xs) M) x.1.1 x.1.2.1 x.2.2 /\ u=.tuple #[.slice x.1.1 (PY (uu S j xs) M).length x.1.2.1,vI ((x.1.2.2+1:Nat):Int),vI 0])):=by
 obtain⟨m,hm,hg⟩:=hk.ex
 obtain⟨e1,e2⟩:=LY hm hg
 cases hG with
 | mk T U hM hU =>
  rw[bD]
  refine(HN S rs ds bp gb mb b o N xs.length c m k j full xs M T U F hj hA hU hE hI hir Tu (by omega) rfl hx (hM.weak (by omega)) hk.now hg hk.ok).mono λ u H' h=>?_
  obtain⟨x,rfl,h1,h2,h3⟩:=h
  rw[e1] at h1
  rw[e2] at h2 h3
  exact⟨((x.2.1,x.2.2.1,m),ap [(gb,.lit (d8 S bp mb) 140 (0,0))] [x.1,U],x.2.2.2),by simp[ap],.mk x.1 U h1 hU,h2,h3⟩
theorem NF{rs:List Bx}{ds:List Dr}{bp gb mb:Nat}{S:Setup}{M:MemS}{k:Nat}{G0:HL}(h:GameX rs ds bp gb mb S M k G0){F:HL}(hF:∀x∈G0,x∈F)(hb:0 <= M.base /\ M.base <= 1000000000):Sp Tryz.prog 72 #[vP mb 0] [] F (λ u H'=>u=vI (M.base+(M.lg.length:Int)) /\ H'=[]):=by
 obtain⟨T,hM,hT⟩:=h.mem
 exact Nt hM (λ x hx=>hF x (hT x hx)) hb
theorem Py{rs:List Bx}{ds:List Dr}{bp gb mb:Nat}{S:Setup}{M:MemS}{k:Nat}{G0:HL}(h:GameX rs ds bp gb mb S M k G0)(F:HL){k2:Nat}(hk:k2 <= 100000000)(hb:0 <= M.base /\ M.base <= 1000000000):Sp Tryz.prog 71 #[vP mb 0,vI (M.base+(M.lg.length:Int))] (ap [] [G0]) F (λ u H'=>∃x,H'=ap [] [x] /\ (u=vI 0 /\ GameX rs ds bp gb mb S ⟨M.cs,[],M.base+(M.lg.length:Int)⟩ k2 x)):=by
 cases h with
 | mk T U hM hU =>
  have h1:=HS (k2:=k2) ([(gb,Blk.lit (d8 S bp mb) 140 (0,0))]++(U++F)) hM hb hk
  refine Sp.fr (X:=[(gb,Blk.lit (d8 S bp mb) 140 (0,0))]++U) ?_ (F:=F) (by rw[List.append_assoc];exact h1) ?_
  ·rw[bD,bD]
   show (([(gb,Blk.lit (d8 S bp mb) 140 (0,0))]++[T,U].flatten)).Perm _
   simp only[List.flatten_cons,List.flatten_nil,List.append_nil]
   exact(List.perm_append_comm_assoc _ _ _)
  ·rintro u Y ⟨x,rfl,rfl,h4⟩
   refine⟨ap [(gb,Blk.lit (d8 S bp mb) 140 (0,0))] [x,U],⟨_,(bD _).symm,rfl,.mk x U h4 hU⟩,?_⟩
   rw[bD]
   show (([(gb,Blk.lit (d8 S bp mb) 140 (0,0))]++[x,U].flatten)).Perm _
   simp only[List.flatten_cons,List.flatten_nil,List.append_nil]
   exact(List.perm_append_comm_assoc _ _ _)
structure Ck where (A:Option Addr) (n c:Nat) (r:Int)
def yq:Enc Ck:=⟨2,λ p k=>match k with|0=>.slice p.A p.n p.c|_=>.int .u64 p.r,⟨none,0,0,0⟩⟩
noncomputable def Pz:TypeInfo:=match Tryz.prog.info? 88 with | some i=>i | none=>⟨.bool,"",0,0,false,0,0,none,false,#[]⟩
noncomputable def PA:Value:=match Pz.zero with|some z=>z|none=>.bool false
theorem PC:EncOk yq Tryz.prog 88 Pz PA where
 info:=by kernel_rfl
 zero:=by kernel_rfl
 size:=by kernel_rfl
 zsize:=by kernel_rfl
 zcell:=λ k hk=>by
  have h:∀k<2,PA.cells[k]?=some (yq.cell yq.dflt k):=by intro k hk;(iterate 2 (rcases k with _|k;· kernel_rfl));omega
  exact h k hk
 one:=λ x k=>by unfold yq;dsimp only;split <;> rfl
 bytes:=Nat.le_of_ble_eq_true (by kernel_rfl)
def CksT(cl:List Ck)(V5:Nat -> List Int)(T:HL):Prop:=∀F:HL,(∀x∈T,x∈F) -> ∀k,k<cl.length -> ∃q,cl.getD k yq.dflt=⟨some ⟨q,0,none⟩,(V5 k).length,(V5 k).length,ij (V5 k)⟩ /\ (q,.rows 1 (V5 k).length (aN (V5 k)) 3 (0,0))∈F
theorem CksT.nil(V5:Nat -> List Int):CksT [] V5 []:=λ F _ k hk=>absurd hk (Nat.not_lt_zero _)
theorem CksT.snoc{cl:List Ck}{V5:Nat -> List Int}{T:HL}{q:Nat}{cs:List Int}(h:CksT cl V5 T)(e:V5 cl.length=cs):CksT (cl++[⟨some ⟨q,0,none⟩,cs.length,cs.length,ij cs⟩]) V5 (T++[(q,.rows 1 cs.length (aN cs) 3 (0,0))]):=λ F hF k hk=>by
 rw[pw]
 by_cases Wg:k<cl.length
 ·rw[if_pos Wg]
  exact h F (λ x hx=>hF x (List.mem_append_left _ hx)) k Wg
 ·have:k=cl.length:=by simp at hk;omega
  rw[if_neg Wg,if_pos this,this,e]
  exact⟨q,rfl,hF _ (List.mem_append_right _ (List.mem_singleton.2 rfl))⟩
theorem RwsT.snocC{rs:List Rw}{xss:List (List Inp)}{T T1:HL}{xs:List Inp}{A:Option Addr}{c n:Nat}(h:RwsT rs xss T)(hs:ClS eE 119 xs A c T1)(h1:1 <= xs.length)(hn:n=xs.length):RwsT (rs++[⟨A,n,c⟩]) (xss++[xs]) (T++T1):=by
 obtain⟨A0,hs⟩:=hs
 rcases hs with ⟨rfl,_⟩|⟨b,rfl,rfl,h3⟩
 ·simp at h1
 ·refine h.snoc (A:=some ⟨b,0,none⟩) (c:=c) (T1:=[(b,.rows 3 c (aJ eE xs) 119 (0,0))]) (.inr ⟨b,0,xs++List.replicate (c-xs.length) eE.dflt,by simp,?_,by simp;omega,h3,by simp⟩) h1 hn
  rw[Nat.zero_add,jZ];rfl
theorem Ip{n ev:Nat}(h:(n+1) % ev=0):(n+1) / ev=n / ev+1:=by rw[Nat.succ_div,if_pos (Nat.dvd_of_mod_eq_zero h)]
theorem NG{n ev:Nat}(h:¬ (n+1) % ev=0):(n+1) / ev=n / ev:=by rw[Nat.succ_div,if_neg (λ e=>h (Nat.mod_eq_zero_of_dvd e))];rfl
theorem NH{n ev:Nat}(h:(n+1) % ev=0):(n / ev+1)*ev=n+1:=by
 rw[<- Ip h,Nat.mul_comm]
 have:=Nat.div_add_mod (n+1) ev
 omega
theorem sf(S2 S3:Setup)(rs_:List Bx)(ds_:List Dr)(bp gb mb rp ev rn rc cc k:Nat)(rA cA:Option Addr)(cl:List Ck)(M:MemS)(G0 Hl F:HL)(hG:GameX rs_ ds_ bp gb mb S2 M k G0)(hF:∀x∈G0,x∈F)(hs:SlIs yq 88 cl cA cc Hl)(hcl:cl.length <= 100000)(hml:M.cs.length <= 1000000):Sp Tryz.prog 50 #[vP rp 0] (ap [(rp,.lit (Setup.l S3++[vP bp 0,vI (ev:Int),vP gb 0,.slice rA rn rc,.slice cA cl.length cc]) 86 (0,0))] [Hl]) F (λ u H'=>∃x:(Nat × Option Addr × Nat) × HL,H'=ap [(rp,.lit (Setup.l S3++[vP bp 0,vI (ev:Int),vP gb 0,.slice rA rn rc,.slice x.1.2.1 (cl.length+1) x.1.2.2]) 86 (0,0)),(x.1.1,.rows 1 M.cs.length (aN M.cs) 3 (0,0))] [x.2] /\ (u=.tuple #[] /\ SlIs yq 88 (cl++[⟨some ⟨x.1.1,0,none⟩,M.cs.length,M.cs.length,ij M.cs⟩]) x.1.2.1 x.1.2.2 x.2)):=by
 refine Sp.run Tryz.func50 rfl mn (A:=[(rp,.lit (Setup.l S3++[vP bp 0,vI (ev:Int),vP gb 0,.slice rA rn rc,.slice cA cl.length cc]) 86 (0,0))]) (Ts:=[Hl]) rfl λ w0=>?_
 refine ae 6 [.own 0] λ _=>RN.cp (Cn hG (λ x hx=>aq (hF x hx)))<|RN.ct (Hp:=[]) (Tp:=[]) [] [] (An hG (λ x hx=>aq (hF x hx))) ?_
 rintro _ q1 rfl
 refine ae 3 [] λ _=>RN.draw [10,13] []<|ag [] [0,1,5,6,2,3,4] [.own 1]<|RD.cp [] 7 (λ X_=>(Ee q1 M.cs.length M.cs _ (jH 0) (Nat.le_refl _) hml))<|ag [] [8] []<|RD.one 9 (RDO.ev [] [] λ n3=>?_)
 refine RD.one 10 (lY [] PC cl [(⟨some ⟨q1,0,none⟩,M.cs.length,M.cs.length,ij M.cs⟩:Ck)] 0 0 rfl hs (by simp;omega) ?_)
 rintro A4 c5 T6 ⟨Z9,hz8⟩
 refine ag [] [11,12] []<|RD.one 13 (RDO.ev [] [.own 2] λ _=>?_)
 refine RD.fin<|RN.ret [] [2,1] [0] (v:=.tuple #[]) (H':=(ap [(rp,.lit (Setup.l S3++[vP bp 0,vI (ev:Int),vP gb 0,.slice rA rn rc,.slice A4 (cl.length+1) c5]) 86 (0,0)),(q1,.rows 1 M.cs.length (aN M.cs) 3 (0,0))] [T6])) ?_
 exact⟨((q1,A4,c5),T6),rfl,rfl,Z9⟩
theorem pA{rs_:List Bx}{ds_:List Dr}{S2:Setup}{bp gb mb b o N c:Nat}{j:Nat × Int}{full xs:List Inp}{M:MemS}{G0 F:HL}(hG:GameX rs_ ds_ bp gb mb S2 M (99000000+20000) G0)(hb:0 <= M.base /\ M.base <= 900000000)(hj:j.1<5)(hA:AtOk F bp (M.get 0) j)(hE:dh F)(hI:(b,.rows 3 N (gc full) 119 (0,0))∈F)(hir:o+xs.length <= N)(Tu:xs.length <= 1000000)(hx:∀k,k<xs.length -> full.getD (o+k) dI=xs.getD k dI)(hk:TkOk S2 j xs M):Sp Tryz.prog 37 #[vP gb 0,vS b (o*3) xs.length c] (ap [] [G0]) F (λ u H'=>∃x:MemS × HL,H'=ap [] [x.2] /\ (u=vI 0 /\ GameX rs_ ds_ bp gb mb S2 x.1 99020000 x.2 /\ x.1.cs=(oh (uu S2 j xs) M).cs /\ 0 <= x.1.base /\ x.1.base <= M.base+1000000)):=by
 refine Sp.run Tryz.func37 rfl mn (A:=[]) (Ts:=[G0]) rfl λ w0=>?_
 refine ae 9 [] λ _=>RN.ct [] [0] (Io (c:=c) (k:=99000000) hG hj (hA.mono λ x hx=>aq hx) (aq hE) (aq hI) hir Tu hx hk) ?_
 rintro _ ⟨⟨A1,c2,n3⟩,T4,E5⟩ ⟨W7,Z9,rfl⟩
 dsimp only at W7 Z9
 have hb2_:0 <= (oh (uu S2 j xs) M).base /\ (oh (uu S2 j xs) M).base <= 1000000000:=by rw[yj];omega
 refine ae 22 [] λ _=>RN.cp (Cn W7 (ar 0))<|ae 7 [] λ _=>RN.cp (NF W7 (ar 0) hb2_)<|RN.ct [] [0] (Py (k2:=99020000) W7 _ (by decide) hb2_) ?_
 rintro _ T8 ⟨rfl,hG9⟩
 refine ae 3 [] λ _=>RN.ret [] [] [0] (v:=vI 0) (H':=(ap [] [T8])) ?_
 obtain⟨_,UC,_⟩:=W7.mem
 have hl_:=UC.len2
 have hbe_:=yj (uu S2 j xs) M
 exact⟨(⟨(oh (uu S2 j xs) M).cs,[],(oh (uu S2 j xs) M).base+((oh (uu S2 j xs) M).lg.length:Int)⟩,T8),rfl,rfl,hG9,rfl,by show 0 <= (oh (uu S2 j xs) M).base+_;omega,by show (oh (uu S2 j xs) M).base+_ <= _;omega⟩
theorem Ao(S:Setup)(rs:List Bx)(ds:List Dr)(F:HL)(hS:SetCl F S)(hM:MapIn F S rs ds)(h1:1 <= S.nb)(RY:S.rn <= 1000000)(R3:S.dn <= 1000000):Sp Tryz.prog 49 #[Setup.v S] (ap [] []) F (λ u H'=>∃x:Setup × HL,H'=ap [] [x.2] /\ (u=Setup.v x.1 /\ SetEq S x.1 /\ ry x.1 rs ds x.2)):=by
 have hp:=hS.pl
 have hn:=hS.nb
 have hr:=hS.room
 refine Sp.run Tryz.func49 rfl (mc hS.blk mn) (A:=[]) (Ts:=[]) rfl λ w0=>?_
 refine ae 10 [.own 1] λ n1=>RN.ct (Hp:=[]) (Tp:=[]) [] [] (lC (some ⟨S.bb,S.bo*9,none⟩) S.nb S.bc (jA S) _ (RowL.src uU (by decide) (tU hS.toSh).up) (by omega)) ?_
 rintro _ ⟨A2,c3,T4⟩ ⟨rfl,hc5⟩
 dsimp only at hc5
 refine ae 7 [.own 1] λ _=>?_
 obtain⟨bb,rfl,rfl,RJ⟩:=hc5.open (by rw[fL];omega)
 have hcap:S.nb <= c3:=by rw[fL] at RJ;exact RJ
 refine pK 0 (x:=(bb,.rows 9 c3 (jJ (jA S)) 78 (0,0)))<|ae 7 [.own 2] λ _=>RN.nt<|RN.loop (σ:=Nat × List Bod × HL) (λ ⟨i,bods,U_⟩=>⟨[(1,vP (n1+0) 0),(2,vP (n1+1) 0),(10,vI (S.nb:Int)),(11,vI (i:Int))],[(bb,.rows 9 c3 (jJ bods) 78 (0,0)),((n1+1),.lit [vI 0,.slice none 0 0,vI 0,vI 0,vI 0,vI 0,.slice none 0 0,.slice none 0 0,vI 0,vI 0,vI 0,vI 0,vI 0,vI 0,vI 0,vI 0] 31 (0,0)),((n1+0),.lit [vI S.players,vS bb 0 S.nb c3,vI S.box.x0,vI S.box.y0,vI S.box.x1,vI S.box.y1,.slice S.rA S.rn S.rc,.slice S.dA S.dn S.dc,vI S.fog,vI S.g.x,vI S.g.y,vI S.push,vI S.drag,vI S.rest,vI S.rounds,vI S.fuel] 31 (0,0))],[U_],i <= S.nb /\ bods.length=S.nb /\ (∀k,k<S.nb -> ∃A c,bods.getD k dB=(S.body k).at A c) /\ (∀k,k<i -> ShH (bods.getD k dB).sh U_) /\ ∀k,i <= k -> k<S.nb -> bods.getD k dB=S.body k,S.nb-i⟩) (0,jA S,[]) [0,1,2] [0] (⟨Nat.zero_le _,fL S,λ k hk=>⟨_,_,iH hk⟩,λ k hk=>absurd hk (Nat.not_lt_zero _),λ k _ hk=>iH hk⟩) ?_
 rintro⟨i,bods,U_⟩ ⟨Tf,Rp,RH,S_,TZ⟩ V9
 refine ae 6 [] λ _=>RN.em ((i:Int)<(S.nb:Int)) 12 (λ h8=>?_) λ h8=>?_
 ·refine ae 7 [] λ _=>?_
  have SC:(RowL lA 29 F (bods.getD i dB).sh.A (bods.getD i dB).sh.poly.length (bods.getD i dB).sh.poly /\ (bods.getD i dB).sh.poly.length <= 1000000) /\ ((bods.getD i dB).sh.poly=[] \/ 3 <= (bods.getD i dB).sh.poly.length):=by rw[TZ i (Nat.le_refl _) (by omega)];exact hS.shp i (by omega)
  have Q3:=SC.1.1
  have WI:(bods.getD i dB).sh.poly.length <= 100000000:=by have:=SC.1.2;omega
  refine ae 4 [] λ _=>RN.draw [14] []<|aG [] [0,2,3,5,1,4,6,7,8,9] [.own 2,.own 2,.ix i,.row 0 i 1] [((0+i*9)+1)=i*9+1 /\ i<c3,(i:Int)=((i:Nat):Int) /\ i<S.nb]<|RD.one 10 (RDO.ct [] (Hp:=[]) (Tp:=[]) [] [] (mH ((bods.getD i dB).sh.A) ((bods.getD i dB).sh.poly.length) ((bods.getD i dB).sh.cap) ((bods.getD i dB).sh.poly) _ (RowL.src zE (by decide) Q3.up) WI) ?_)
  rintro _ ⟨A9,Ug,Of⟩ ⟨rfl,VD⟩
  dsimp only at VD
  refine aG [] [11,12,13] [.ix i] [(i:Int)=((i:Nat):Int) /\ i<S.nb]<|RD.one 14 (eC [] [.row 0 i 1] [((0+i*9)+1)=i*9+1 /\ i<c3] λ _=>?_)
  refine RD.fin<|ai 6 [.nw] [aU ((i:Int)+1)] λ _=>cj 0 (congrArg (λ v_=>(.rows 9 c3 v_ 78 (0,0):Blk)) (show (db (jJ bods) i 1 (.slice A9 ((bods.getD i dB).sh.poly.length) Ug))=(jJ (bods.set i ((bods.getD i dB).at A9 Ug))) from (BB (by omega) A9 Ug)))<|kV [1,0]<|mE ?_
  refine V9 (i+1,(bods.set i ((bods.getD i dB).at A9 Ug)),U_++Of) [0,1,2] [0] ?_
  try dsimp only
  refine⟨⟨by omega,by rw[List.length_set];exact Rp,λ t ht=>?_,λ t ht=>?_,λ t Xc Rj=>?_⟩,by omega⟩
  ·rcases Decidable.em (i=t) with rfl|h_
   ·rw[bF (by omega),TZ i (Nat.le_refl _) ht];exact⟨_,_,rfl⟩
   ·rw[bj h_];exact RH t ht
  ·rcases Decidable.em (i=t) with rfl|h_
   ·rw[bF (by omega)];exact ShH.right (tV SC.2 SC.1.2 VD)
   ·rw[bj h_];exact(S_ t (by omega)).left
  ·rw[bj (by omega)];exact TZ t (by omega) Rj
 ·refine ae 10 [.own 2] λ _=>RN.ct (Hp:=[]) (Tp:=[]) [] [] (mI S.rA S.rn S.rc rs _ (RowL.src Gl (by decide) hM.rooms.up) (by omega)) ?_
  rintro _ ⟨A13,c14,Sz⟩ ⟨rfl,VC⟩
  dsimp only at VC
  refine ae 8 [.own 2,.own 2] λ _=>RN.ct (Hp:=[]) (Tp:=[]) [] [] (lD S.dA S.dn S.dc ds _ (RowL.src Gn (by decide) hM.doors.up) (by omega)) ?_
  rintro _ ⟨Zi,Zc,Uh⟩ ⟨rfl,VB⟩
  dsimp only at VB
  refine ae 10 (ow 2 17++ow 1 16) λ _=>RN.ret (ow 1 16) [0] [0,1,2] (v:=.agg #[vI S.players,vS bb 0 S.nb c3,vI S.box.x0,vI S.box.y0,vI S.box.x1,vI S.box.y1,.slice A13 S.rn c14,.slice Zi S.dn Zc,vI S.fog,vI S.g.x,vI S.g.y,vI S.push,vI S.drag,vI S.rest,vI S.rounds,vI S.fuel]) (H':=(ap [(bb,.rows 9 c3 (jJ bods) 78 (0,0))] [Uh,Sz,U_])) ?_
  have ei:i=S.nb:=by omega
  subst ei
  have Tj:∀k,bods.getD (0+k) dB=bods.getD k dB:=λ k=>by rw[Nat.zero_add]
  refine⟨((⟨S.players,bb,0,S.nb,c3,c3,bods,S.box,A13,S.rn,c14,Zi,S.dn,Zc,S.fog,S.g,S.push,S.drag,S.rest,S.rounds,S.fuel⟩:Setup),[(bb,.rows 9 c3 (jJ bods) 78 (0,0))]++(Uh++Sz++U_)),(by simp[ap]),rfl,⟨⟨rfl,rfl,rfl,rfl,rfl,rfl,rfl,rfl,rfl,rfl,rfl,rfl⟩,λ k hk=>?_,rfl,Rp⟩,λ F2 hF=>⟨⟨⟨hp,by omega⟩,hF _ (by simp),(by show 0+S.nb <= c3;omega),λ k hk=>?_⟩,?_,?_⟩⟩
  ·obtain⟨A,c,h⟩:=RH k hk;exact⟨A,c,by show bods.getD (0+k) dB=_;rw[Tj];exact h⟩
  ·show ShIn F2 (bods.getD (0+k) dB).sh;rw[Tj];exact S_ k hk F2 λ x hx=>hF x (by simp[hx])
  ·have h_:=VC.rowL (F:=F2) λ x hx=>hF x (by simp[hx]);rw[hM.rooms.len] at h_;exact h_
  ·have h_:=VB.rowL (F:=F2) λ x hx=>hF x (by simp[hx]);rw[hM.doors.len] at h_;exact h_
end Go.Proofs.YtgdcbiiopbpgaaaGreatDoor
