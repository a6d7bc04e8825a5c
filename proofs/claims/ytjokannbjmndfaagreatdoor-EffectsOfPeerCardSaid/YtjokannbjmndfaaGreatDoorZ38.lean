import Derived.Test.YtjokannbjmndfaaGreatDoorZ37
import Derived.Test.YtjokannbjmndfaaGreatDoorZ20
import Derived.Test.YtjokannbjmndfaaGreatDoorZ35
import Derived.Test.YtjokannbjmndfaaGreatDoorZ36
set_option linter.all false
set_option maxHeartbeats 4000000
set_option maxRecDepth 100000
namespace Go.Proofs.YtjokannbjmndfaaGreatDoor
open IntKind
open Go.RowKit
variable {A Aa Ab:Option Addr} {F TB:HL} {M:MemS} {S S1 S2:Setup} {b bp cb i j1 j2 n o:Nat} {t:Int} {xs:List Inp} {α:Type}
def KA(p n r f:Int):Int:=i64.wrap ((i64.wrap ((i64.wrap ((i64.wrap ((i64.wrap (p+(i64.wrap ((i64.wrap ((i64.wrap (p+1))+n))*(i64.wrap (f+3))))))+(i64.wrap (2*n))))+3))+(i64.wrap ((i64.wrap ((i64.wrap (r*n))*(i64.wrap (n-1)))).tdiv 2))))+(i64.wrap (n*(i64.wrap (n+1)))))
theorem sT(hS:SetV S):l0 S.players S.nb S.rounds 0<=KA S.players S.nb S.rounds 60/\KA S.players S.nb S.rounds 60<=650:=by
 have hp:=hS.pl;have hn:=hS.nb;have hr:=hS.ro;have key:∀p:Fin 3,∀n:Fin 5,∀r:Fin 3,l0 ((p.1+1:Nat):Int) ((n.1+1:Nat):Int) ((r.1+1:Nat):Int) 0<=KA ((p.1+1:Nat):Int) ((n.1+1:Nat):Int) ((r.1+1:Nat):Int) 60/\KA ((p.1+1:Nat):Int) ((n.1+1:Nat):Int) ((r.1+1:Nat):Int) 60<=650:=by decide+kernel
 have:=key ⟨S.players.toNat-1,by omega⟩ ⟨S.nb-1,by omega⟩ ⟨S.rounds.toNat-1,by omega⟩;dsimp only at this;rwa [show ((S.players.toNat-1+1:Nat):Int)=S.players by omega,show S.nb-1+1=S.nb by omega,show ((S.rounds.toNat-1+1:Nat):Int)=S.rounds by omega] at this
theorem setV{xs:List Int}(hl:ArgL F A n xs){T:HL}(h:SetG xs S T)(h60:(60:Int)<=60:=by decide):SetV S:=by
 have h1:=qV hl;have h2:=wp hl;have hn:=h.nb;have k2:=iu hl 2;obtain⟨e1,e2,e3,e4,e5,e6,e7,e8⟩:=h.nums;exact⟨by rw[h.pl];exact h2,by omega,by rw[e7];omega,by rw[e8];omega⟩
theorem j9{l:List Int}{j:Nat}{v:Int}(h:i≠j):(l.set i v).getD j 0=l.getD j 0:=by
 rw[aaG,aaG,List.getElem?_set_ne h]
theorem vu{S:Setup}(hp:0<=S.players){j:Nat}(hj:j<48):∀i,i<=S.nb->(bz S i).getD j 0=0
 |0,_=>by
  rw[bz,aaG,ac2];split <;> rfl
 |i+1,hi=>by
  have hb:ag S (i:Int)=48+4*S.players+8*(i:Int):=by
   rcases oK hp (i:Int) with e|⟨_,_,e⟩
   ·unfold ag at e;rw[if_neg (by omega),if_neg (by omega)] at e;omega
   ·exact e
  rw[bz,j9 (by omega),j9 (by omega),j9 (by omega),j9 (by omega),j9 (by omega),j9 (by omega)];exact vu hp hj i (by omega)
structure TE2(S:Setup)(t:Int)(M:MemS):Prop where
 len:(M.cs.length:Int)=sizeOf S
 z:∀k:Int,1<=k->k<=10->M.get k=0
 t0:M.get 0=t
theorem Ni(hS:SetV S):TE2 S 0 ⟨bz S S.nb,[],0⟩:=by
 have hp:=hS.pl;have hlen:(((⟨bz S S.nb,[],0⟩:MemS).cs.length:Nat):Int)=sizeOf S:=by
  show ((bz S S.nb).length:Int)=_;rw[jQ];unfold sizeOf;omega
 have g:∀k:Int,0<=k->k<48->(⟨bz S S.nb,[],0⟩:MemS).get k=0:=λ k h0 h1=>by
  unfold MemS.get;split
  ·exact vu (by omega) (by omega) S.nb (aaI _)
  ·rfl
 exact⟨hlen,λ k h1 h2=>g k (by omega) (by omega),g 0 (by omega) (by omega)⟩
theorem TE2.tv(hS:SetV S)(ht:0<=t/\t<=1000)(h:TE2 S t M)(ins:Nat->Inp):TV S ins M/\nI S M=l0 S.players S.nb S.rounds 0/\GQ M:=by
 have h1:=h.z 1 (by omega) (by omega);have h2:=h.z 2 (by omega) (by omega);have hp:=hS.pl;refine⟨⟨h.len,by rw[h.t0];omega,by rw[h1,h2];exact .inl ⟨rfl,by omega,by omega⟩,λ q hq=>by rw[h1,if_pos rfl,h2] at hq;omega,.inl ⟨h1,h2⟩⟩,?_,h1,h2⟩;unfold nI;rw[h1,h2];rfl
theorem Ot(hS:SetV S){g:Gm}(hg:g.S=S)(VS:S.players<=g.ni)(ht:0<=t/\t<=1000)(h:TE2 S t M):∃m,((m+1:Nat):Int)<=KA S.players S.nb S.rounds 60/\dK g (m+1) M/\TE2 S (t+1) (fW g (m+1) M)/\
  Numb t 0 (effsV g (m+1) M)/\(fW g (m+1) M).get 11=((effsV g (m+1) M).length:Int)/\((effsV g (m+1) M).length:Int)<=40:=by
 obtain⟨h1,h2,h3⟩:=h.tv hS ht (λ q=>g.ins.getD (g.io+q) dI);have hb:=sT hS;have abM:=DP hS.pl ⟨by have:=hS.nb;omega,by have:=hS.nb;omega⟩ hS.ro h1.ct;unfold nI at h2;obtain⟨m,a1,a2,a3,a4,a5,a6,a7,a8⟩:=DS hS hg (λ _ _=>rfl) VS (l0 S.players S.nb S.rounds 0).toNat M h1 (by unfold nI;omega);rw[if_pos h3] at a6 a7;rw[h.t0] at a5 a6;exact⟨m,by omega,a2,⟨a4,a3,a5⟩,a6,by rw[a7];omega,by omega⟩
theorem SetEq.pl(h:SetEq S S1):S1.players=S.players:=h.nums.1
theorem SetEq.nb(h:SetEq S S1):S1.nb=S.nb:=h.nums.2.1
theorem SetEq.size(h:SetEq S S1):sizeOf S1=sizeOf S:=by unfold sizeOf;rw[h.pl,h.nb]
theorem SetEq.setV(h:SetEq S S1)(hV:SetV S):SetV S1:=by
 obtain⟨e1,e2,_,_,_,_,_,_,_,_,e3,e4⟩:=h.nums;exact⟨by rw[e1];exact hV.pl,by rw[e2];exact hV.nb,by rw[e3];exact hV.ro,by rw[e4];exact hV.fu⟩
theorem TE2.eq(h:SetEq S S1)(hT:TE2 S t M):TE2 S1 t M:=⟨by rw[h.size];exact hT.len,hT.z,hT.t0⟩
theorem DT{S':Setup}(h:SetEq S S'):(S'.bods.drop S'.bo).map Bod.nm=(List.range S.nb).map λ k=>(S.body k).nm:=by
 rw[h.whole.1,adq];apply acg;intro k
 by_cases hk:k<S.nb
 ·obtain⟨A,c,e⟩:=h.bod k hk;have hl:k<S'.bods.length:=by rw[h.whole.2];exact hk
  have e2:S'.bods[k]?=some (S'.body k):=by
   show _=some (S'.bods.getD (S'.bo+k) dB);rw[h.whole.1,abP,aaG,aa1 hl];rfl
  rw[abo,e2,e];simp[hk];rfl
 ·rw[abQ (by rw[acD,h.whole.2];omega),abQ (by simp;omega)]
theorem SetEq.nm2(h1:SetEq S S1)(h2:SetEq S S2):S1.nm=S2.nm:=by
 have b1:=DT h1;have b2:=DT h2;obtain⟨x1,x2,x3,x4,x5,x6,x7,x8,x9,x10,x11,x12⟩:=h1.nums;obtain⟨y1,y2,y3,y4,y5,y6,y7,y8,y9,y10,y11,y12⟩:=h2.nums;unfold Setup.nm;rw[b1,b2,x1,x2,x3,x4,x5,x6,x7,x8,x9,x10,x11,x12,y1,y2,y3,y4,y5,y6,y7,y8,y9,y10,y11,y12]
theorem wU(h:S1.nm=S2.nm){j:Nat×Int}:GEq (gG S1 j n xs) (gG S2 j n xs):=by
 refine⟨?_,λ k hk=>rfl⟩;unfold Gm.nm;simp only[h]
theorem sU{G G':Nat->Gm}(h:∀k,GEq (G k) (G' k))(M:MemS):∀k,kH G M k=kH G' M k
 |0=>rfl
 |k+1=>by rw[kH,kH,sU h M k,BA (h k)]
theorem KB{G G':Nat->Gm}(h:∀k,GEq (G k) (G' k))(M:MemS):∀k,plE G M k=plE G' M k
 |0=>rfl
 |k+1=>by rw[plE,plE,KB h M k,sU h M k,Iq (h k)]
theorem KC(h1:SetEq S S1)(h2:SetEq S S2)(J:Nat->Nat×Int)(xss:List (List Inp)):∀k,GEq (rG S1 J xss k) (rG S2 J xss k):=λ k=>wU (h1.nm2 h2)
theorem P9{pl:Int}{now:Int}(h1:(n:Int)=pl)(h2:∀k,k<n->fy (xs.getD k dI))(h3:now<6000):dq pl n xs now=0:=by
 unfold dq;rw[if_pos h1,if_pos h2,if_neg (by omega)]
theorem KD(hV:SetV S1)(ht:0<=t/\t<=1000)(hT:TE2 S1 t M)(h1:(xs.length:Int)=S1.players)(h2:∀k,k<xs.length->fy (xs.getD k dI))(j:Nat×Int):TkOk S1 j xs M/\TE2 S1 (t+1) (iK (mu S1 j xs) M):=by
 obtain⟨m,a1,a2,a3,_⟩:=Ot hV (g:=mu S1 j xs) rfl (by show S1.players<=(xs.length:Int);omega) ht hT;have hb:=(sT hV).2;refine⟨⟨⟨m,by omega,a2⟩,by rw[hT.t0];exact ht.1,by rw[hT.t0];exact P9 h1 h2 (by omega)⟩,?_⟩;rw[<- (DJ (by omega) a2).1];exact a3
def RowOk(pl:Int)(xs:List Inp):Prop:=(xs.length:Int)=pl/\∀k,k<xs.length->fy (xs.getD k dI)
theorem zR{S1:Setup}(hV:SetV S1){M0:MemS}(hT:TE2 S1 0 M0){xss:List (List Inp)}(J:Nat->Nat×Int){n:Nat}(hn:n<=50)(hr:∀i,i<n->RowOk S1.players (xss.getD i [])):∀i,i<=n->TE2 S1 (i:Int) (kH (rG S1 J xss) M0 i)
 |0,_=>hT
 |i+1,h=>by
  have ih:=zR hV hT J hn hr i (by omega);have:=(KD hV (t:=(i:Int)) (by omega) ih (hr i (by omega)).1 (hr i (by omega)).2 (J i)).2;rw[kH]
  exact_mod_cast this
theorem Ou(hV:SetV S1){M0:MemS}(hT:TE2 S1 0 M0){xss:List (List Inp)}(J:Nat->Nat×Int)(hn:n<=50)(hr:∀i,i<n->RowOk S1.players (xss.getD i []))(hi:i<n):TkOk S1 (J i) (xss.getD i []) (kH (rG S1 J xss) M0 i) :=
 (KD hV (t:=(i:Int)) (by omega) (zR hV hT J hn hr i (by omega)) (hr i hi).1 (hr i hi).2 (J i)).1
theorem KE{n:Int}(h:0<=n):fy (yF n):=by
 unfold fy yF;dsimp only;split <;> omega
theorem DU{xs:List Int}(hl:ArgL F A n xs){pl:Int}(hp:0<=pl):RowOk pl (rowL pl xs t pl.toNat):=by
 refine⟨by rw[ez];omega,λ k hk=>?_⟩;rw[ez] at hk;rw[IQ hk];exact KE (Ml hl pl t k).1
theorem sV(hV:SetV S)(he:SetEq S S1):TE2 S1 0 ⟨bz S S.nb,[],0⟩:=(Ni hV).eq he
section
variable {S S1:Setup} {rs_:List Bx} {ds_:List Dr} {bp n cap:Nat} {j:Nat×Int} {A:Option Addr} {rs:List Rw} {xss:List (List Inp)} {F:HL}
end
theorem SlIs.rowN{e:Enc α}{T:TypeId}{l:List α}{cap:Nat}{Hl:HL}(h:SlIs e T l A cap Hl)(hF:∀x∈Hl,x∈F)(hn:l.length=n):RowL e T F A n l:=hn▸h.toRowL hF
theorem mT{l r:List α}(h:(l.drop o).take r.length=r){k:Nat}(hk:k<r.length)(d:α):l.getD (o+k) d=r.getD k d:=by
 have h1:((l.drop o).take r.length)[k]?=r[k]?:=by rw[h]
 rw[abn,if_pos hk,abi] at h1;rw[aaG,aaG,h1]
structure Ver where (t:Int) (A:Option Addr) (n c:Nat) (e0 e1 e2:Int)
def fK:Enc Ver:=⟨5,λ p k=>match k with|0=>vI p.t|1=>.slice p.A p.n p.c|2=>vI p.e0|3=>vI p.e1|_=>vI p.e2,⟨0,none,0,0,0,0,0⟩⟩
noncomputable def Ov:TypeInfo:=match Tryz.prog.info? 84 with | some i=>i | none=>⟨.bool,"",0,0,false,0,0,none,false,#[]⟩
noncomputable def Ow:Value:=match Ov.zero with|some z=>z|none=>.bool false
theorem Qa:EncOk fK Tryz.prog 84 Ov Ow where
 info:=by kernel_rfl
 zero:=by kernel_rfl
 size:=by kernel_rfl
 zsize:=by kernel_rfl
 zcell:=λ k hk=>by
  have h:∀k<5,Ow.cells[k]?=some (fK.cell fK.dflt k):=by intro k hk;(iterate 5 (rcases k with _|k;· kernel_rfl));omega
  exact h k hk
 one:=λ x k=>by unfold fK;dsimp only;split <;> rfl
 bytes:=aaH (by kernel_rfl)
abbrev kI(t:Int)(j:Nat)(A:Option Addr)(c:Nat):Ver:=⟨t,A,fO j,c,bW j 0,bW j 1,bW j 2⟩
inductive Book2(tk:Int)(j1 j2 bp:Nat):HL->Prop
 |mk (A:Option Addr) (c:Nat) (A1 A2:Option Addr) (c1 c2:Nat) (Hl T1 T2:HL) (hs:SlIs fK 84 [kI 0 j1 A1 c1,kI tk j2 A2 c2] A c Hl) (h1:CodT j1 A1 T1) (h2:CodT j2 A2 T2):Book2 tk j1 j2 bp (ap [(bp,.lit [.slice A 2 c] 87 (0,0))] [Hl,T1,T2])
theorem Nj{tk:Int}(htk:0<tk) (bp q:Nat)(ca:Nat){Tz:HL}(X5:j2<5)(hE:vk F)(h1:CodT j1 Aa Tz):af1 7 #[vP bp 0,vI tk,.string (oE j2)] (ap [(bp,.lit [vS q 0 1 1] 87 (0,0)),(q,.lit [vI 0,.slice Aa (fO j1) ca,vI (bW j1 0),vI (bW j1 1),vI (bW j1 2)] 84 (0,0))] [Tz]) F (λ u H'=>∃x:HL,H'=ap [] [x]/\(u=vI 0/\Book2 tk j1 j2 bp x)):=by
 refine QF Tryz.func7 mn<|Sr 21 [.o 0]<|aak [] []<|af [] [0,1,5,2,6,3,7,4,8,9,10,11,12,13,14] [.o 0,.o 0,.o 1]<|QQ 1<|ci 29 (abv (show ¬ tk<=0 by omega))<|OG 6<|Ss (J0 X5 (aC hE)) ?_;rintro _ ⟨A1,c2,T3⟩ ⟨rfl,hC4⟩;dsimp only at hC4;refine ae 19 (aab 4) λ n5=>aak [9,12] []<|af [] [0,1,5,6,2,7,3,4] (aab 4++[.o 1])<|aae 8 (aag [] [] λ n7=>?_);refine RD.dn 3 (.rows 5 1 (aD fK [kI 0 j1 Aa ca]) 84 (0,0))<|Q1 3<|aae 9 (vO [] Qa (l:=[kI 0 j1 Aa ca]) [kI tk j2 A1 c2] 0 0 rfl (SlIs.one (b:=q)) (aaH rfl) ?_);rintro A8 c9 VI ⟨ZO,adH⟩;refine afZ [10,11]<|Sx 12 [] [.o 2]<|QQ 6<|QI [] [2] [0,2,1] (vI 0) (ap [(bp,.lit [.slice A8 2 c9] 87 (0,0))] [VI,Tz,T3]) ⟨ap [(bp,.lit [.slice A8 2 c9] 87 (0,0))] [VI,Tz,T3],by simp[ap],rfl,.mk _ _ _ _ _ _ _ _ _ ZO h1 hC4⟩
theorem Nl(hB:Book1 j1 bp TB)(tk:Int)(htk:0<tk)(X5:j2<5)(hE:vk F):af1 7 #[vP bp 0,vI tk,.string (oE j2)] (ap [] [TB]) F (λ u H'=>∃x:HL,H'=ap [] [x]/\(u=vI 0/\Book2 tk j1 j2 bp x)):=by
 cases hB with
 |mk q A c T h=>
  rw[bm];exact Nj htk bp q c X5 hE h
theorem Sg{q2 q3:Nat}{tk:Int}{c:Nat}{full:List Ver}{ca:Nat}(hb:(bp,.lit [vS b (o*5) 2 c] 87 (0,0))∈F)(hq:(b,.rows 5 (o+c) (aD fK full) 84 (0,0))∈F)(hc:2<=c)(WI:full.getD o fK.dflt=kI 0 j1 Aa ca)(WH:full.getD (1+o) fK.dflt=kI tk j2 Ab cb)(ht:0<=t)(h2:(q2,.lit [vP bp 0] 34 (0,0))∈F)(h3:(q3,.lit [vI t] 3 (0,0))∈F):af0 130 #[vI 0,vP q2 0,vP q3 0] F (.bool false):=by
 refine rx Tryz.func130 (mc h2 (mc h3 (mc hb (mc hq mn)))) [] []<|OG 6<|aak [] []<|aH [] [0,4,8,1,2,3,5,6,7] [.ro 0,.ro 1,.ro 2,.rorow 3 o 0] [o*5=o*5+0/\o<(o+c)]<|fM 12 (congrArg (λ v_:Ver=>vI v_.t) WI)<|afZ [9,10]<|QQ 1<|QJ (.bool (decide (0>t))) [] ⟨congrArg Value.bool (abv (by omega)),rfl⟩
theorem Ox{q2 q3:Nat}{tk:Int}{c:Nat}{full:List Ver}{ca:Nat}(hb:(bp,.lit [vS b (o*5) 2 c] 87 (0,0))∈F)(hq:(b,.rows 5 (o+c) (aD fK full) 84 (0,0))∈F)(hc:2<=c)(WI:full.getD o fK.dflt=kI 0 j1 Aa ca)(WH:full.getD (1+o) fK.dflt=kI tk j2 Ab cb)(ht:0<=t)(h2:(q2,.lit [vP bp 0] 34 (0,0))∈F)(h3:(q3,.lit [vI t] 3 (0,0))∈F):af0 130 #[vI 1,vP q2 0,vP q3 0] F (.bool (decide (tk>t))):=by
 refine rx Tryz.func130 (mc h2 (mc h3 (mc hb (mc hq mn)))) [] []<|OG 6<|aak [] []<|aH [] [0,4,8,1,2,3,5,6,7] [.ro 0,.ro 1,.ro 2,.rorow 3 (1+o) 0] [(o*5+5)=(1+o)*5+0/\(1+o)<(o+c)]<|fM 12 (congrArg (λ v_:Ver=>vI v_.t) WH)<|afZ [9,10]<|aad<|ae 1 [] λ _=>QJ _ _ ⟨rfl,rfl⟩
theorem KF{q2 q3:Nat}{tk:Int}{c:Nat}{full:List Ver}{ca:Nat}(hb:(bp,.lit [vS b (o*5) 2 c] 87 (0,0))∈F)(hq:(b,.rows 5 (o+c) (aD fK full) 84 (0,0))∈F)(hc:2<=c)(WI:full.getD o fK.dflt=kI 0 j1 Aa ca)(WH:full.getD (1+o) fK.dflt=kI tk j2 Ab cb)(ht:0<=t)(h2:(q2,.lit [vP bp 0] 34 (0,0))∈F)(h3:(q3,.lit [vI t] 3 (0,0))∈F)(X7:tk>t):af0 129 #[vI 2,.func (.func 130) #[] #[vP q2 0,vP q3 0]] F (vI 1):=by
 refine rx Tryz.func129 (mc h2 (mc h3 (mc hb (mc hq mn)))) [] []<|OG 14<|aaq 4<|OG 27<|aah (Ox (aC hb) (aC hq) hc WI WH ht (aC h2) (aC h3))<|OG 3<|ci 21 (nt (abw X7))<|OG 34<|aah (Sg (aC hb) (aC hq) hc WI WH ht (aC h2) (aC h3))<|ae 31 [] λ _=>QJ _ _ ⟨rfl,rfl⟩
theorem KG{q2 q3:Nat}{tk:Int}{c:Nat}{full:List Ver}{ca:Nat}(hb:(bp,.lit [vS b (o*5) 2 c] 87 (0,0))∈F)(hq:(b,.rows 5 (o+c) (aD fK full) 84 (0,0))∈F)(hc:2<=c)(WI:full.getD o fK.dflt=kI 0 j1 Aa ca)(WH:full.getD (1+o) fK.dflt=kI tk j2 Ab cb)(ht:0<=t)(h2:(q2,.lit [vP bp 0] 34 (0,0))∈F)(h3:(q3,.lit [vI t] 3 (0,0))∈F)(X7:¬ tk>t):af0 129 #[vI 2,.func (.func 130) #[] #[vP q2 0,vP q3 0]] F (vI 2):=by
 refine rx Tryz.func129 (mc h2 (mc h3 (mc hb (mc hq mn)))) [] []<|OG 14<|aaq 4<|OG 27<|aah (Ox (aC hb) (aC hq) hc WI WH ht (aC h2) (aC h3))<|OG 3<|ci 21 (nf (abv X7))<|ae 28 [] λ _=>QJ _ _ ⟨rfl,rfl⟩
theorem TQ{tk:Int}{c:Nat}{full:List Ver}{ca:Nat}(hb:(bp,.lit [vS b (o*5) 2 c] 87 (0,0))∈F)(hq:(b,.rows 5 (o+c) (aD fK full) 84 (0,0))∈F)(hc:2<=c)(WI:full.getD o fK.dflt=kI 0 j1 Aa ca)(WH:full.getD (1+o) fK.dflt=kI tk j2 Ab cb)(ht:0<=t)(hj:j1<5)(hC:SrcIn Tryz.prog ld F Aa (fO j1) (kF j1))(X7:tk>t):af1 103 #[vP bp 0,vI t] [] F (λ u H'=>∃x:Option Addr×Nat×HL,H'=ap [] [x.2.2]/\(u=.tuple #[vI 0,.agg #[.slice x.1 (fO j1) x.2.1,vI (bW j1 0),vI (bW j1 1),vI (bW j1 2)]]/\ClS ld 230 (kF j1) x.1 x.2.1 x.2.2)):=by
 refine rx Tryz.func103 (mc hb (mc hq mn)) [] []<|ae 16 [.o 2,.ro 0] λ n1=>aah (KF (q2:=n1+0) (q3:=n1+1) (bp:=bp) (b:=b) (full:=full) (aC hb) (aC hq) hc WI WH ht (ay 2) (ay 1) X7)<|ah 21 [.o 2,.ro 0,.rorow 1 o 1,.rorow 1 o 2,.rorow 1 o 3,.rorow 1 o 4] [(o*5+4)=o*5+4/\o<(o+c),(o*5+3)=o*5+3/\o<(o+c),(o*5+2)=o*5+2/\o<(o+c),(o*5+1)=o*5+1/\o<(o+c)] λ _=>aw 26 (congrArg (λ v_:Ver=>(.agg #[.slice v_.A v_.n v_.c,vI v_.e0,vI v_.e1,vI v_.e2]:Value)) WI)<|ae 5 (aab 4) λ n2=>aak [8] []<|af [] [0,1,4,2,5] (aab 4)<|aae 3 (QP [] (mL ca hC.up (by have:=wL hj;omega)) ?_);rintro _ ⟨A3,c4,T5⟩ ⟨rfl,hc6⟩;dsimp only at hc6;refine afZ [6,7]<|Sx 8 [] (ow 1 4)<|QQ 1<|QI (ow 1 4) [] [0] (.tuple #[vI 0,.agg #[.slice A3 (fO j1) c4,vI (bW j1 0),vI (bW j1 1),vI (bW j1 2)]]) (ap [] [T5]) ⟨(A3,c4,T5),rfl,rfl,hc6⟩
theorem TT{tk:Int}{c:Nat}{full:List Ver}{ca:Nat}(hb:(bp,.lit [vS b (o*5) 2 c] 87 (0,0))∈F)(hq:(b,.rows 5 (o+c) (aD fK full) 84 (0,0))∈F)(hc:2<=c)(WI:full.getD o fK.dflt=kI 0 j1 Aa ca)(WH:full.getD (1+o) fK.dflt=kI tk j2 Ab cb)(ht:0<=t)(hj:j2<5)(hC:SrcIn Tryz.prog ld F Ab (fO j2) (kF j2))(X7:¬ tk>t):af1 103 #[vP bp 0,vI t] [] F (λ u H'=>∃x:Option Addr×Nat×HL,H'=ap [] [x.2.2]/\(u=.tuple #[vI 1,.agg #[.slice x.1 (fO j2) x.2.1,vI (bW j2 0),vI (bW j2 1),vI (bW j2 2)]]/\ClS ld 230 (kF j2) x.1 x.2.1 x.2.2)):=by
 refine rx Tryz.func103 (mc hb (mc hq mn)) [] []<|ae 16 [.o 2,.ro 0] λ n1=>aah (KG (q2:=n1+0) (q3:=n1+1) (bp:=bp) (b:=b) (full:=full) (aC hb) (aC hq) hc WI WH ht (ay 2) (ay 1) X7)<|ah 21 [.o 2,.ro 0,.rorow 1 (1+o) 1,.rorow 1 (1+o) 2,.rorow 1 (1+o) 3,.rorow 1 (1+o) 4] [(o*5+9)=(1+o)*5+4/\(1+o)<(o+c),(o*5+8)=(1+o)*5+3/\(1+o)<(o+c),(o*5+7)=(1+o)*5+2/\(1+o)<(o+c),(o*5+6)=(1+o)*5+1/\(1+o)<(o+c)] λ _=>aw 26 (congrArg (λ v_:Ver=>(.agg #[.slice v_.A v_.n v_.c,vI v_.e0,vI v_.e1,vI v_.e2]:Value)) WH)<|ae 5 (aab 4) λ n2=>aak [8] []<|af [] [0,1,4,2,5] (aab 4)<|aae 3 (QP [] (mL cb hC.up (by have:=wL hj;omega)) ?_);rintro _ ⟨A3,c4,T5⟩ ⟨rfl,hc6⟩;dsimp only at hc6;refine afZ [6,7]<|Sx 8 [] (ow 1 4)<|QQ 1<|QI (ow 1 4) [] [0] (.tuple #[vI 1,.agg #[.slice A3 (fO j2) c4,vI (bW j2 0),vI (bW j2 1),vI (bW j2 2)]]) (ap [] [T5]) ⟨(A3,c4,T5),rfl,rfl,hc6⟩
theorem Book2.at{tk:Int}(hB:Book2 tk j1 j2 bp TB)(hT:∀x∈TB,x∈F)(Z0:j1<5)(X5:j2<5)(t:Int)(ht:0<=t):AtOk F bp t (if tk>t then (j1,0) else (j2,1)):=λ F' hF=>by
 cases hB with
 |mk A c A1 A2 c1 c2 Hl T1 T2 hs h1 h2=>
  rcases hs with ⟨_,_,h,_⟩|⟨b,o,full,rfl,rfl,e1,e2,e3⟩
  ·cases h
  ·have hc:2<=c:=e2;have WI:full.getD o fK.dflt=kI 0 j1 A1 c1:=by have:=mT e3 (k:=0) (by simp) fK.dflt;rw[acK] at this;exact this
   have WH:full.getD (1+o) fK.dflt=kI tk j2 A2 c2:=by have:=mT e3 (k:=1) (by simp) fK.dflt;rw[Nat.add_comm o 1] at this;exact this
   have hm:∀x,x∈ap [(bp,Blk.lit [.slice (some ⟨b,o*fK.w,none⟩) 2 c] 87 (0,0))] [[(b,.rows fK.w (o+c) (aD fK full) 84 (0,0))],T1,T2]->x∈F':=λ x hx=>hF x (hT x hx)
   by_cases X7:tk>t
   ·rw[if_pos X7];exact TQ (hm _ (aaB _ aaC)) (hm _ (aaz _ aaC)) hc WI WH ht Z0 (h1.src F' λ x hx=>hm x (by simp[ap,hx])) X7
   ·rw[if_neg X7];exact TT (hm _ (aaB _ aaC)) (hm _ (aaz _ aaC)) hc WI WH ht X5 (h2.src F' λ x hx=>hm x (by simp[ap,hx])) X7
end Go.Proofs.YtjokannbjmndfaaGreatDoor
