import Derived.Test.YthoijjeddhfcnaaGreatDoorZ32
import Derived.Test.YthoijjeddhfcnaaGreatDoorZ17
import Derived.Test.YthoijjeddhfcnaaGreatDoorZ31
import Derived.Laws.IdiomCopy
import Derived.Test.YthoijjeddhfcnaaGreatDoorZ29
import Derived.Lib.SlicesCompact
set_option maxHeartbeats 4000000
set_option maxRecDepth 100000
set_option linter.unusedSimpArgs false
set_option linter.unusedVariables false
namespace Go.Proofs.YthoijjeddhfcnaaGreatDoor
open IntKind
open Go.RowKit
def Gs(p n r f:Int):Int:=i64.wrap ((i64.wrap ((i64.wrap ((i64.wrap ((i64.wrap (p+(i64.wrap ((i64.wrap ((i64.wrap (p+1))+n))*(i64.wrap (f+3))))))+(i64.wrap (2*n))))+3))+(i64.wrap ((i64.wrap ((i64.wrap (r*n))*(i64.wrap (n-1)))).tdiv 2))))+(i64.wrap (n*(i64.wrap (n+1)))))
theorem qu{S:Setup}(hS:SetV S):l0 S.players S.nb S.rounds 0 <= Gs S.players S.nb S.rounds 60 /\ Gs S.players S.nb S.rounds 60 <= 650:=by
 have hp:=hS.pl
 have hn:=hS.nb
 have hr:=hS.ro
 have key:∀p:Fin 3,∀n:Fin 5,∀r:Fin 3,l0 ((p.1+1:Nat):Int) ((n.1+1:Nat):Int) ((r.1+1:Nat):Int) 0 <= Gs ((p.1+1:Nat):Int) ((n.1+1:Nat):Int) ((r.1+1:Nat):Int) 60 /\ Gs ((p.1+1:Nat):Int) ((n.1+1:Nat):Int) ((r.1+1:Nat):Int) 60 <= 650:=by decide +kernel
 have:=key ⟨S.players.toNat-1,by omega⟩ ⟨S.nb-1,by omega⟩ ⟨S.rounds.toNat-1,by omega⟩
 dsimp only at this
 rwa [show ((S.players.toNat-1+1:Nat):Int)=S.players by omega,show S.nb-1+1=S.nb by omega,show ((S.rounds.toNat-1+1:Nat):Int)=S.rounds by omega] at this
theorem setV{xs:List Int}{F:HL}{A:Option Addr}{n:Nat}(hl:ArgL F A n xs){S:Setup}{T:HL}(h:SetG xs S T):SetV S:=by
 have h1:=oV hl
 have h2:=tz hl
 have hn:=h.nb
 have k2:=gn hl 2
 obtain⟨e1,e2,e3,e4,e5,e6,e7,e8⟩:=h.nums
 exact⟨by rw[h.pl];exact h2,by omega,by rw[e7];omega,by rw[e8];omega⟩
theorem bJ{l:List Int}{i j:Nat}{v:Int}(h:i≠j):(l.set i v).getD j 0=l.getD j 0:=by
 rw[List.getD_eq_getElem?_getD,List.getD_eq_getElem?_getD,List.getElem?_set_ne h]
theorem sH{S:Setup}(hp:0 <= S.players){j:Nat}(hj:j<48):∀i,i <= S.nb -> (d7 S i).getD j 0=0
 | 0,_=>by
  rw[d7,List.getD_eq_getElem?_getD,List.getElem?_replicate]
  split <;> rfl
 | i+1,hi=>by
  have hb:ae S (i:Int)=48+4*S.players+8*(i:Int):=by
   rcases fP hp (i:Int) with e|⟨_,_,e⟩
   ·unfold ae at e
    rw[if_neg (by omega),if_neg (by omega)] at e;omega
   ·exact e
  rw[d7,bJ (by omega),bJ (by omega),bJ (by omega),bJ (by omega),bJ (by omega),bJ (by omega)]
  exact sH hp hj i (by omega)
structure TE2(S:Setup)(t:Int)(M:MemS):Prop where
 len:(M.cs.length:Int)=sizeOf S
 z:∀k:Int,1 <= k -> k <= 10 -> M.get k=0
 t0:M.get 0=t
theorem AD{S:Setup}(hS:SetV S):TE2 S 0 ⟨d7 S S.nb,[],0⟩:=by
 have hp:=hS.pl
 have hlen:(((⟨d7 S S.nb,[],0⟩:MemS).cs.length:Nat):Int)=sizeOf S:=by
  show ((d7 S S.nb).length:Int)=_
  rw[ii];unfold sizeOf;omega
 have g:∀k:Int,0 <= k -> k<48 -> (⟨d7 S S.nb,[],0⟩:MemS).get k=0:=λ k h0 h1=>by
  unfold MemS.get
  split
  ·exact sH (by omega) (by omega) S.nb (Nat.le_refl _)
  ·rfl
 exact⟨hlen,λ k h1 h2=>g k (by omega) (by omega),g 0 (by omega) (by omega)⟩
theorem TE2.tv{S:Setup}(hS:SetV S){t:Int}(ht:0 <= t /\ t <= 1000){M:MemS}(h:TE2 S t M)(ins:Nat -> Inp):TV S ins M /\ jc S M=l0 S.players S.nb S.rounds 0 /\ CG M:=by
 have h1:=h.z 1 (by omega) (by omega)
 have h2:=h.z 2 (by omega) (by omega)
 have hp:=hS.pl
 refine⟨⟨h.len,by rw[h.t0];omega,by rw[h1,h2];exact .inl ⟨rfl,by omega,by omega⟩,λ q hq=>by rw[h1,if_pos rfl,h2] at hq;omega,.inl ⟨h1,h2⟩⟩,?_,h1,h2⟩
 unfold jc
 rw[h1,h2];rfl
theorem Ko{S:Setup}(hS:SetV S){g:Gm}(hg:g.S=S)(Pq:S.players <= g.ni){t:Int}(ht:0 <= t /\ t <= 1000){M:MemS}(h:TE2 S t M):∃m,((m+1:Nat):Int) <= Gs S.players S.nb S.rounds 60 /\ eL g (m+1) M /\ TE2 S (t+1) (dD g (m+1) M) /\
  Numb t 0 (cK g (m+1) M) /\ (dD g (m+1) M).get 11=((cK g (m+1) M).length:Int) /\ ((cK g (m+1) M).length:Int) <= 40:=by
 obtain⟨h1,h2,h3⟩:=h.tv hS ht (λ q=>g.ins.getD (g.io+q) dI)
 have hb:=qu hS
 have SH:=tY hS.pl ⟨by have:=hS.nb;omega,by have:=hS.nb;omega⟩ hS.ro h1.ct
 unfold jc at h2
 obtain⟨m,a1,a2,a3,a4,a5,a6,a7,a8⟩:=AC hS hg (λ _ _=>rfl) Pq (l0 S.players S.nb S.rounds 0).toNat M h1 (by unfold jc;omega)
 rw[if_pos h3] at a6 a7
 rw[h.t0] at a5 a6
 exact⟨m,by omega,a2,⟨a4,a3,a5⟩,a6,by rw[a7];omega,by omega⟩
theorem SetEq.pl{S S1:Setup}(h:SetEq S S1):S1.players=S.players:=h.nums.1
theorem SetEq.nb{S S1:Setup}(h:SetEq S S1):S1.nb=S.nb:=h.nums.2.1
theorem SetEq.size{S S1:Setup}(h:SetEq S S1):sizeOf S1=sizeOf S:=by unfold sizeOf;rw[h.pl,h.nb]
theorem SetEq.setV{S S1:Setup}(h:SetEq S S1)(hV:SetV S):SetV S1:=by
 obtain⟨e1,e2,_,_,_,_,_,_,_,_,e3,e4⟩:=h.nums
 exact⟨by rw[e1];exact hV.pl,by rw[e2];exact hV.nb,by rw[e3];exact hV.ro,by rw[e4];exact hV.fu⟩
theorem TE2.eq{S S1:Setup}(h:SetEq S S1){t:Int}{M:MemS}(hT:TE2 S t M):TE2 S1 t M:=⟨by rw[h.size];exact hT.len,hT.z,hT.t0⟩
theorem AE{S S':Setup}(h:SetEq S S'):(S'.bods.drop S'.bo).map Bod.nm=(List.range S.nb).map λ k=>(S.body k).nm:=by
 rw[h.whole.1,List.drop_zero]
 apply List.ext_getElem?
 intro k
 by_cases hk:k<S.nb
 ·obtain⟨A,c,e⟩:=h.bod k hk
  have hl:k<S'.bods.length:=by rw[h.whole.2];exact hk
  have e2:S'.bods[k]?=some (S'.body k):=by
   show _=some (S'.bods.getD (S'.bo+k) dB)
   rw[h.whole.1,Nat.zero_add,List.getD_eq_getElem?_getD,List.getElem?_eq_getElem hl];rfl
  rw[List.getElem?_map,e2,e]
  simp[hk]
  rfl
 ·rw[List.getElem?_eq_none (by rw[List.length_map,h.whole.2];omega),List.getElem?_eq_none (by simp;omega)]
theorem SetEq.nm2{S S1 S2:Setup}(h1:SetEq S S1)(h2:SetEq S S2):S1.nm=S2.nm:=by
 have b1:=AE h1
 have b2:=AE h2
 obtain⟨x1,x2,x3,x4,x5,x6,x7,x8,x9,x10,x11,x12⟩:=h1.nums
 obtain⟨y1,y2,y3,y4,y5,y6,y7,y8,y9,y10,y11,y12⟩:=h2.nums
 unfold Setup.nm
 rw[b1,b2,x1,x2,x3,x4,x5,x6,x7,x8,x9,x10,x11,x12,y1,y2,y3,y4,y5,y6,y7,y8,y9,y10,y11,y12]
theorem Jm{S1 S2:Setup}(h:S1.nm=S2.nm)(j:Nat × Int)(n:Nat)(xs:List Inp):GEq (db S1 j n xs) (db S2 j n xs):=by
 refine⟨?_,λ k hk=>rfl⟩
 unfold Gm.nm
 simp only[h]
theorem L0{pl:Int}{n:Nat}{xs:List Inp}{now:Int}(h1:(n:Int)=pl)(h2:∀k,k<n -> i9 (xs.getD k dI))(h3:now<6000):cV pl n xs now=0:=by
 unfold cV
 rw[if_pos h1,if_pos h2,if_neg (by omega)]
theorem Gt{S1:Setup}(hV:SetV S1){t:Int}(ht:0 <= t /\ t <= 1000){M:MemS}(hT:TE2 S1 t M){xs:List Inp}(h1:(xs.length:Int)=S1.players)(h2:∀k,k<xs.length -> i9 (xs.getD k dI))(j:Nat × Int):TkOk S1 j xs M /\ TE2 S1 (t+1) (oC (Hv S1 j xs) M):=by
 obtain⟨m,a1,a2,a3,_⟩:=Ko hV (g:=Hv S1 j xs) rfl (by show S1.players <= (xs.length:Int);omega) ht hT
 have hb:=(qu hV).2
 refine⟨⟨⟨m,by omega,a2⟩,by rw[hT.t0];exact ht.1,by rw[hT.t0];exact L0 h1 h2 (by omega)⟩,?_⟩
 rw[<- (Gj (by omega) a2).1]
 exact a3
def Kq(pl:Int)(xs:List Inp):Prop:=(xs.length:Int)=pl /\ ∀k,k<xs.length -> i9 (xs.getD k dI)
theorem Gu{n:Int}(h:0 <= n):i9 (vu n):=by
 unfold i9 vu
 dsimp only
 split <;> omega
theorem Jn{F:HL}{A:Option Addr}{n:Nat}{xs:List Int}(hl:ArgL F A n xs){pl:Int}(hp:0 <= pl)(t:Int):Kq pl (rowL pl xs t pl.toNat):=by
 refine⟨by rw[fc];omega,λ k hk=>?_⟩
 rw[fc] at hk
 rw[EM hk]
 exact Gu (Io hl pl t k).1
section
variable {S S1:Setup} {rs_:List Bx} {ds_:List Dr} {bp n cap:Nat} {j:Nat × Int} {A:Option Addr} {rs:List Rw} {xss:List (List Inp)} {F:HL}
end
open Go.Shelf
section
variable {r:Option Nat} {P:Program} {N:Nat} {D:List Deferred} {F:HL} {w0:World} {R:HL} {s:Cfg} {Q:Exit -> Act -> World -> Prop}
end
section
variable {r:Option Nat} {P:Program} {N:Nat} {D:List Deferred} {F:HL} {w0:World} {R:HL} {s:Cfg} {Q:Exit -> Act -> World -> Prop}
end
section
variable {α:Type} {e:Enc α} {T:TypeId} {F:HL} {A:Option Addr} {n cap:Nat} {xs:List α} {Hl:HL}
end
theorem TE2.cs{S:Setup}{t:Int}{M N:MemS}(h:M.cs=N.cs)(hT:TE2 S t M):TE2 S t N:=by
 have hg:∀k,N.get k=M.get k:=λ k=>by unfold MemS.get;rw[h]
 exact⟨by rw[<- h];exact hT.len,λ k h1 h2=>by rw[hg];exact hT.z k h1 h2,by rw[hg];exact hT.t0⟩
section
variable {tk:Int} {S S1 S2:Setup} {rs_:List Bx} {ds_:List Dr} {bp gb n cap k t j1 j2:Nat} {A:Option Addr} {rs:List Rw} {xss:List (List Inp)} {M R:MemS} {G0 F TB:HL}
end
def Setup.std(S:Setup):Setup:={ S with bo:=0,bods:=kf S }
theorem L2(S:Setup):SetEq S S.std:=⟨⟨rfl,rfl,rfl,rfl,rfl,rfl,rfl,rfl,rfl,rfl,rfl,rfl⟩,λ k hk=>⟨(S.body k).sh.A,(S.body k).sh.cap,by
 show (kf S).getD (0+k) dB=_
 rw[Nat.zero_add,js hk]
 rfl⟩,rfl,jq S⟩
section
variable {S S2:Setup} {J:Nat -> Nat × Int} {xss:List (List Inp)} {n:Nat}
end
def Stp.cut(t:Stp):Stp:={ t with S:=t.S.std }
theorem jG{S:Setup}{k:Nat}(h:k<S.nb):S.std.body k=S.body k:=by
 show (kf S).getD (0+k) dB=_
 rw[Nat.zero_add]
 exact js h
theorem qx{S:Setup}{k:Int}:movP S.std k↔movP S k:=and_congr_right λ h=>by
 have h2:0 <= k /\ k<S.nb:=h
 rw[jG (by omega)]
theorem iX{S:Setup}{k:Int}(h:0 <= k /\ k<S.nb)(M:MemS):ai S.std M k=ai S M k:=by
 unfold ai
 rw[jG (by omega)]
 rfl
theorem CI(t:Stp)(M:MemS):cq t.cut M=cq t M:=by
 unfold cq
 refine ite_congr rfl (λ e1=>ite_congr rfl (λ e2=>?_) λ _=>rfl) λ _=>rfl
 have e1':0 <= t.i /\ t.i<t.S.nb:=e1
 have YZ:0 <= t.j /\ t.j<t.S.nb:=e2
 have c1:jO t.cut M=jO t M:=by
  show aG (t.S.std.body t.i.toNat).sh ⟨(ai t.S.std M t.i).px,(ai t.S.std M t.i).py⟩ (t.S.std.body t.j.toNat).sh ⟨(ai t.S.std M t.j).px,(ai t.S.std M t.j).py⟩=_
  rw[jG (by omega),jG (by omega),iX e1',iX YZ]
  rfl
 have c2:fA t.cut M=fA t M:=by
  show aJ (ai t.S.std M t.i) (ai t.S.std M t.j) (jO t.cut M).1 t.S.rest=_
  rw[c1,iX e1',iX YZ]
  rfl
 rw[c1]
 refine ite_congr rfl (λ _=>?_) λ _=>rfl
 unfold dY
 rw[c2]
 rfl
theorem wL(t:Stp)(M:MemS):bj t.cut M=bj t M:=by
 unfold bj
 rw[CI]
 rfl
theorem Gv(t:Stp)(M:MemS)(hj:0 <= t.j /\ t.j<t.S.nb):dH t.cut M=dH t M:=by
 unfold dH
 refine ite_congr rfl (λ _=>rfl) λ _=>ite_congr (propext qx) (λ e=>?_) λ _=>rfl
 have e1:0 <= t.i /\ t.i<t.S.nb:=e.1
 have c1:kq t.cut M=kq t M:=by
  show fw (t.S.std.body t.i.toNat).sh ⟨(ai t.S.std M t.i).px,(ai t.S.std M t.i).py⟩ ⟨(ai t.S.std M t.i).vx,(ai t.S.std M t.i).vy⟩ (t.S.std.body t.j.toNat).sh ⟨(ai t.S.std M t.j).px,(ai t.S.std M t.j).py⟩ ⟨0,0⟩=_
  rw[jG (by omega),jG (by omega),iX e1,iX hj]
  rfl
 rw[c1]
theorem yO(t:Stp)(M:MemS)(h:0 <= t.i /\ t.i<t.S.nb):bI t.cut M=bI t M:=by
 have c1:eC t.cut M=eC t M:=by
  show ay ⟨(ai t.S.std M t.i).px,(ai t.S.std M t.i).py⟩ (aY ⟨(ai t.S.std M t.i).vx,(ai t.S.std M t.i).vy⟩ (iQ M) 1024)=_
  rw[iX h]
  rfl
 unfold bI
 rw[c1]
 rfl
theorem Gw(t:Stp)(M:MemS):cY t.cut M=cY t M:=by
 unfold cY
 refine ite_congr rfl (λ e=>?_) λ _=>?_
 ·rw[Gv t M e]
  rfl
 ·show eH t (if movP t.S.std t.i then bI t.cut M else M)=eH t (if movP t.S t.i then bI t M else M)
  congr 1
  exact ite_congr (propext qx) (λ e=>yO t M e.1) λ _=>rfl
theorem CJ(t:Stp)(M:MemS):aM t.cut M=aM t M:=by
 have h1:∀N,bB t.cut N=bB t N:=λ N=>by
  unfold bB
  refine ite_congr (propext qx) (λ e=>?_) λ _=>rfl
  have e1:0 <= t.i /\ t.i<t.S.nb:=e.1
  have c1:bO t.cut N=bO t N:=by
   show ar (if ah t.S t.i >= 0 then ay (ay ⟨(ai t.S.std N t.i).vx,(ai t.S.std N t.i).vy⟩ t.S.g) ⟨aV (N.get (ah t.S t.i+0)*t.S.push),aV (N.get (ah t.S t.i+1)*t.S.push)⟩ else ay ⟨(ai t.S.std N t.i).vx,(ai t.S.std N t.i).vy⟩ t.S.g) (aV (1024-t.S.drag))=_
   rw[iX e1]
   rfl
  rw[c1]
  rfl
 unfold aM
 rw[h1]
 rfl
def Gm.cut(g:Gm):Gm:={ g with S:=g.S.std }
theorem tZ(g:Gm)(M:MemS):cF g.cut M=cF g M:=by
 unfold cF
 rw[show g.cut.step M=(g.step M).cut from rfl,wL,Gw,CJ]
 rfl
theorem Jo(g:Gm)(M:MemS):fB g.cut M=fB g M:=rfl
theorem wM(g:Gm):∀ (n:Nat) (M:MemS),dD g.cut n M=dD g n M
 | 0,_=>rfl
 | n+1,M=>by rw[dD,dD,dp,dp,tZ,wM g n]
section
variable {r:Option Nat} {P:Program} {N:Nat} {D:List Deferred} {F:HL} {w0:World} {R:HL} {s:Cfg} {Q:Exit -> Act -> World -> Prop}
end
def rg(lo:Int)(n:Nat):List Int:=(List.range n).map λ k:Nat=>lo+(k:Int)
theorem qy{lo y:Int}{n:Nat}:y∈rg lo n↔lo <= y /\ y<lo+(n:Int):=by
 unfold rg
 rw[List.mem_map]
 constructor
 ·rintro⟨k,hk,rfl⟩;have:=List.mem_range.1 hk;omega
 ·intro h;exact⟨(y-lo).toNat,List.mem_range.2 (by omega),by omega⟩
def Oq(M:MemS)(k:Int):List Int:=if 0 <= i64.wrap (M.get 7-k) /\ i64.wrap (M.get 7-k)<16 then [M.get (16+i64.wrap (M.get 7-k))] else []
def Kr(M:MemS):List Int:=Oq M 1++Oq M 2
abbrev srt(l:List Int):List Int:=l.mergeSort λ x y=>decide (x <= y)
theorem AF{l:List Int}{x:Int}:x∈srt l↔x∈l:=List.mem_mergeSort
theorem AG{l:List Int}{x:Int}:x∈Lib.compact l↔x∈l:=by
 unfold Lib.compact Lib.compactUpTo
 rw[List.mem_map]
 constructor
 ·rintro⟨j,hj,rfl⟩
  have h1:=List.mem_range.1 (List.mem_filter.1 hj).1
  rw[getElem!_pos l.toArray j (by simpa using h1)]
  simp
 ·intro h
  obtain⟨j,hj,rfl⟩:=List.getElem_of_mem h
  have key:∀n j:Nat,j<n -> (hj:j<l.length) -> ∃a∈(List.range l.length).filter (Lib.keeps l.toArray),l.toArray[a]! = l[j]:=by
   intro n
   induction n with
   | zero=>intro j h;omega
   | succ n ih =>
    intro j hn hj
    by_cases h0:l.toArray[j]! ≠ l.toArray[j-1]! \/ j=0
    ·refine⟨j,List.mem_filter.2 ⟨List.mem_range.2 hj,?_⟩,?_⟩
     ·unfold Lib.keeps
      simp only[decide_eq_true_eq]
      exact h0.elim .inr .inl
     ·rw[getElem!_pos l.toArray j (by simpa using hj)];simp
    ·have h1:l.toArray[j]! = l.toArray[j-1]!:=by
      by_cases e:l.toArray[j]! = l.toArray[j-1]!
      ·exact e
      ·exact absurd (.inl e) h0
     have h2:j≠0:=λ e=>h0 (.inr e)
     obtain⟨a,ha,hb⟩:=ih (j-1) (by omega) (by omega)
     refine⟨a,ha,?_⟩
     rw[getElem!_pos l.toArray j (by simpa using hj),getElem!_pos l.toArray (j-1) (by simp;omega)] at h1
     rw[hb]
     simpa using h1.symm
  exact key (j+1) j (Nat.lt_succ_self _) hj
def sI(M:MemS):List Int:=((if M.get 1=1 \/ M.get 1=2 \/ M.get 1=6 then Kr M else [])++(if 3 <= M.get 1 /\ M.get 1 <= 7 then [M.get 2] else []))++(if M.get 1=4 \/ M.get 1=5 then [M.get 3] else [])
def headL(S:Setup)(M:MemS):List Int:=(rg 0 14++(if M.get 1=1 \/ M.get 1=2 \/ M.get 1=6 then rg 16 16++rg 32 16 else []))++(if 0 <= ah S (M.get 2) /\ (M.get 1=0 \/ M.get 1=1 \/ M.get 1=3) then rg (ah S (M.get 2)) 4 else [])
def Pj(S:Setup)(b:Int):List Int:=if 0 <= ae S b then rg (ae S b) 8 else []
def L3(S:Setup)(M:MemS):List Int:=headL S M++(Lib.compact (srt (sI M))).flatMap (Pj S)
structure Loc0(D:Int -> Prop)(P:MemS -> MemS -> Prop):Prop where
 get:∀ {M N:MemS} {i:Int},D i -> P M N -> M.get i=N.get i
 set:∀ {M N:MemS} {i:Int} (v:Int),D i -> P M N -> P (M.set i v) (N.set i v)
structure Loc(D:Int -> Prop)(P:MemS -> MemS -> Prop):Prop extends Loc0 D P where
 low:∀i:Int,0 <= i -> i<14 -> i≠4 -> D i
 s4:∀ {M N:MemS} (v:Int),P M N -> P (M.set 4 v) (N.set 4 v)
abbrev qz(D:Int -> Prop)(S:Setup)(k:Int):Prop:=0 <= ae S k -> ∀c:Int,0 <= c -> c<8 -> D (ae S k+c)
abbrev Ot(D:Int -> Prop)(S:Setup)(k:Int):Prop:=0 <= ah S k -> ∀c:Int,0 <= c -> c<4 -> D (ah S k+c)
abbrev L4(D:Int -> Prop):Prop:=∀i:Int,16 <= i -> i<48 -> D i
section
variable {D:Int -> Prop} {P:MemS -> MemS -> Prop} {M N:MemS}
theorem dq{c:Prop}[Decidable c]{A B A' B':MemS}(h1:c -> P A A')(h2:¬ c -> P B B'):P (if c then A else B) (if c then A' else B'):=by
 split
 ·exact h1 (by assumption)
 ·exact h2 (by assumption)
theorem Loc.s0(h:Loc D P)(i v:Int)(hi:0 <= i /\ i<14)(hp:P M N):P (M.set i v) (N.set i v):=by
 by_cases e:i=4
 ·subst e
  exact h.s4 v hp
 ·exact h.set v (h.low i hi.1 hi.2 e) hp
theorem Loc.g0(h:Loc D P)(i:Int)(hi:0 <= i /\ i<14 /\ i≠4)(hp:P M N):M.get i=N.get i:=h.get (h.low i hi.1 hi.2.1 hi.2.2) hp
theorem iu(h:Loc D P)(t:Stp)(ph j:Int)(hp:P M N):P (aQ t ph j M) (aQ t ph j N):=h.s0 3 _ (by decide) (h.s0 2 _ (by decide) (h.s0 1 _ (by decide) hp))
theorem Gx(h:Loc D P)(t:Stp)(DO:Ot D t.S t.i)(hp:P M N):P (aW t M) (aW t N):=by
 unfold aW
 have h1:P (aZ t M) (aZ t N):=by
  unfold aZ
  exact dq (λ _=>h.s0 11 _ (by decide) (h.s0 13 _ (by decide) hp)) λ _=>hp
 generalize aZ t M=A at h1
 generalize aZ t N=B at h1
 have h2:P (bu t A) (bu t B):=by
  unfold bu
  refine dq (λ e=>dq (λ _=>?_) λ _=>h1) λ _=>h1
  exact h.set _ (DO e 2 (by decide) (by decide)) (h.set _ (DO e 1 (by decide) (by decide)) (h.set _ (DO e 0 (by decide) (by decide)) h1))
 unfold b8
 exact dq (λ _=>h.s0 2 _ (by decide) h2) λ _=>iu h t 1 0 h2
theorem nh{S:Setup}{k:Int}(hp:0 <= S.players)(h:0 <= k /\ k<S.nb):0 <= ae S k:=by
 unfold ae
 rw[if_neg (by omega),if_neg (by omega)]
 omega
theorem j0(h:Loc0 D P){S:Setup}{k:Int}(hb:∀c:Int,0 <= c -> c<8 -> D (ae S k+c))(hp:P M N):ai S M k=ai S N k:=by
 unfold ai
 rw[h.get (hb 0 (by decide) (by decide)) hp,h.get (hb 1 (by decide) (by decide)) hp,h.get (hb 2 (by decide) (by decide)) hp,h.get (hb 3 (by decide) (by decide)) hp]
theorem sJ(h:Loc0 D P){t:Stp}{k:Int}(hb:∀c:Int,0 <= c -> c<8 -> D (ae t.S k+c))(m:Mot)(hp:P M N):P (bG t k m M) (bG t k m N) :=
 h.set _ (hb 3 (by decide) (by decide)) (h.set _ (hb 2 (by decide) (by decide)) (h.set _ (hb 1 (by decide) (by decide)) (h.set _ (hb 0 (by decide) (by decide)) hp)))
theorem nj(h:Loc0 D P)(t:Stp){c sp:Int}(pos lo hi:Int)(hc:D c)(hs:D sp)(hp:P M N):P (b7 t c sp pos lo hi M) (b7 t c sp pos lo hi N):=by
 have h1:=h.set (az pos lo hi) hc hp
 unfold b7
 rw[h.get hs h1]
 exact dq (λ _=>h1) λ _=>h.set _ hs h1
theorem CK(h:Loc D P)(t:Stp)(hb:∀c:Int,0 <= c -> c<8 -> D (ae t.S t.i+c))(hp:P M N):P (bI t M) (bI t N):=by
 have e:eC t M=eC t N:=by
  unfold eC iQ
  rw[j0 h.toLoc0 hb hp,h.g0 5 (by decide) hp]
 unfold bI
 rw[e]
 exact nj h.toLoc0 t _ _ _ (hb 1 (by decide) (by decide)) (hb 3 (by decide) (by decide)) (nj h.toLoc0 t _ _ _ (hb 0 (by decide) (by decide)) (hb 2 (by decide) (by decide)) hp)
theorem Gy(h:Loc D P)(t:Stp)(hS:0 <= t.S.players)(hb:qz D t.S t.i)(DO:Ot D t.S t.i)(hp:P M N):P (aM t M) (aM t N):=by
 unfold aM
 have h1:P (bA t M) (bA t N):=by
  unfold bA
  exact dq (λ e=>h.set _ (hb e 6 (by decide) (by decide)) hp) λ _=>hp
 generalize bA t M=A at h1
 generalize bA t N=B at h1
 have h2:P (bB t A) (bB t B):=by
  unfold bB
  refine dq (λ e=>?_) λ _=>h1
  have PX:=hb (nh hS e.1)
  have e2:bO t A=bO t B:=by
   unfold bO
   rw[j0 h.toLoc0 PX h1]
   split
   ·next e3=>rw[h.get (DO e3 0 (by decide) (by decide)) h1,h.get (DO e3 1 (by decide) (by decide)) h1]
   ·rfl
  rw[e2]
  exact h.set _ (PX 3 (by decide) (by decide)) (h.set _ (PX 2 (by decide) (by decide)) h1)
 unfold bW
 exact dq (λ _=>h.s0 2 _ (by decide) h2) λ _=>h.s0 4 _ (by decide) (iu h t 4 1 h2)
theorem wN(h:Loc0 D P)(t:Stp)(hS:0 <= t.S.players)(hi:qz D t.S t.i)(hj:qz D t.S t.j)(hp:P M N):P (cq t M) (cq t N):=by
 unfold cq
 refine dq (λ e1=>dq (λ e2=>?_) λ _=>hp) λ _=>hp
 have PL:=hi (nh hS e1)
 have QI:=hj (nh hS e2)
 have c1:jO t M=jO t N:=by unfold jO;rw[j0 h PL hp,j0 h QI hp]
 have c2:fA t M=fA t N:=by unfold fA;rw[j0 h PL hp,j0 h QI hp,c1]
 rw[c1]
 refine dq (λ _=>?_) λ _=>hp
 unfold dY
 rw[c2]
 exact h.set _ (QI 6 (by decide) (by decide)) (h.set _ (PL 6 (by decide) (by decide)) (sJ h QI _ (sJ h PL _ hp)))
theorem yP(h:Loc D P)(h4:D 4)(t:Stp)(hS:0 <= t.S.players)(hi:qz D t.S t.i)(hj:qz D t.S t.j)(hp:P M N):P (bj t M) (bj t N):=by
 unfold bj
 rw[h.get h4 hp]
 have h5:=h.s0 5 1024 (by decide) (iu h t 5 0 hp)
 exact dq (λ _=>h5) λ _=>dq (λ _=>h5) λ _=>h.s0 3 _ (by decide) (h.s0 2 _ (by decide) (h.s0 4 _ (by decide) (wN h.toLoc0 t hS hi hj hp)))
theorem Jp(h:Loc D P)(t:Stp)(hS:0 <= t.S.players)(hi:qz D t.S t.i)(hj:qz D t.S t.j)(hjs:0 <= t.j /\ t.j<t.S.nb)(hp:P M N):P (dH t M) (dH t N):=by
 unfold dH
 refine dq (λ _=>hp) λ _=>dq (λ e=>?_) λ _=>hp
 have c1:kq t M=kq t N:=by unfold kq;rw[j0 h.toLoc0 (hi (nh hS e.1)) hp,j0 h.toLoc0 (hj (nh hS hjs)) hp]
 rw[c1,h.g0 5 (by decide) hp]
 exact dq (λ _=>h.s0 5 _ (by decide) hp) λ _=>hp
theorem Jq(h:Loc D P)(t:Stp)(hS:0 <= t.S.players)(hi:qz D t.S t.i)(hj:qz D t.S t.j)(hp:P M N):P (cY t M) (cY t N):=by
 unfold cY
 refine dq (λ e=>h.s0 3 _ (by decide) (Jp h t hS hi hj e hp)) λ _=>?_
 have h1:P (if movP t.S t.i then bI t M else M) (if movP t.S t.i then bI t N else N):=dq (λ e=>CK h t (hi (nh hS e.1)) hp) λ _=>hp
 unfold eH
 exact dq (λ _=>h.s0 5 _ (by decide) (h.s0 3 _ (by decide) (h.s0 2 _ (by decide) h1))) λ _=>h.s0 5 _ (by decide) (iu h t 6 0 h1)
theorem AJ(h:Loc D P)(hp:P M N):∀n,n <= 10 -> P (cf M n) (cf N n)
 | 0,_=>hp
 | n+1,hn=>by
  rw[cf,cf]
  exact h.s0 _ _ (by omega) (AJ h hp n (by omega))
theorem Jr(h:Loc D P)(t:Stp)(hi:qz D t.S t.i)(hp:P M N):P (dg t M) (dg t N):=by
 unfold dg
 have h1:P (eA t M) (eA t N):=by
  unfold eA
  refine dq (λ e=>?_) λ _=>hp
  have PL:=hi e
  rw[h.get (PL 2 (by decide) (by decide)) hp,h.get (PL 3 (by decide) (by decide)) hp,h.get (PL 7 (by decide) (by decide)) hp]
  exact h.set _ (PL 7 (by decide) (by decide)) hp
 generalize eA t M=A at h1
 generalize eA t N=B at h1
 unfold fT
 rw[h.g0 0 (by decide) h1]
 exact dq (λ _=>h.s0 2 _ (by decide) h1) λ _=>AJ h (h.s0 0 _ (by decide) h1) 10 (Nat.le_refl _)
def RP(P:MemS -> MemS -> Prop)(r s:VR):Prop:=P r.M s.M /\ r.v=s.v /\ r.e=s.e /\ r.em=s.em
theorem RP.ite{c:Prop}[Decidable c]{x y x' y':VR}(h1:c -> RP P x x')(h2:¬ c -> RP P y y'):RP P (if c then x else y) (if c then x' else y'):=by
 split
 ·exact h1 (by assumption)
 ·exact h2 (by assumption)
theorem RP.of{A B:MemS}(hp:P A B){v v':Int}(e:v=v'){f:Eff}{b:Bool}:RP P ⟨A,v,f,b⟩ ⟨B,v',f,b⟩:=⟨hp,e,rfl,rfl⟩
theorem RP.m{r s:VR}(h:RP P r s){v:Int}:RP P ⟨r.M,v,r.e,r.em⟩ ⟨s.M,v,s.e,s.em⟩:=⟨h.1,rfl,h.2.2.1,h.2.2.2⟩
theorem Js(h:Loc D P)(k v:Int)(hp:P M N):RP P (cN k v M) (cN k v N):=by
 unfold cN
 rw[h.g0 11 (by decide) hp,h.g0 12 (by decide) hp,h.g0 0 (by decide) hp]
 exact .ite (λ _=>.of hp rfl) λ _=>⟨h.s0 11 _ (by decide) (h.s0 12 _ (by decide) hp),rfl,rfl,rfl⟩
theorem NT{S:Setup}(hV:SetV S){k n:Int}(h:0 <= ae S k)(hn:0 <= n /\ n<8):aV (ae S k+n)=ae S k+n:=by
 have hp:=hV.pl
 have hb:=hV.nb
 rcases fP (S:=S) (by omega) k with e|⟨_,_,e⟩
 ·omega
 ·exact aK (by omega)
theorem Jt(h:Loc D P)(hD:L4 D){S:Setup}(hV:SetV S){op n:Int}(a b:Int)(hn:eN op=0 \/ (0 <= n /\ n<eN op))(ha:op=4 \/ op=5 -> qz D S a)(hp:P M N):RP P (aH S op n a b M) (aH S op n a b N):=by
 have PZ:op=2 \/ op=3 -> 0 <= n /\ n<16:=by
  rintro(rfl|rfl) <;> exact hn.resolve_left (by decide)
 have h8:op=4 \/ op=5 -> 0 <= n /\ n<8:=by
  rintro(rfl|rfl) <;> exact hn.resolve_left (by decide)
 unfold aH
 refine .ite (λ _=>.of hp rfl) λ _=>.ite (λ e=>.of hp ?_) λ _=>.ite (λ _=>.of hp (h.g0 9 (by decide) hp)) λ _=>.ite (λ _=>.of hp (h.g0 10 (by decide) hp)) λ _=>.ite (λ _=>.of hp (h.g0 0 (by decide) hp)) λ _=>?_
 ·have:=PZ (.inl e)
  rw[aK (by omega)]
  exact h.get (hD _ (by omega) (by omega)) hp
 refine .ite (λ _=>.of hp rfl) λ _=>.ite (λ _=>.of hp rfl) λ _=>.ite (λ _=>.of hp rfl) λ _=>.ite (λ _=>.of hp rfl) λ _=>.ite (λ _=>.of hp rfl) λ _=>.ite (λ _=>.of hp rfl) λ _=>.ite (λ _=>.of hp rfl) λ _=>.ite (λ _=>.of hp rfl) λ _=>.ite (λ _=>.of hp rfl) λ _=>?_
 refine .ite (λ e=>?_) λ _=>.ite (λ e=>.of hp ?_) λ _=>.ite (λ e=>.of ?_ rfl) λ _=>?_
 ·have:=PZ (.inr e)
  rw[aK (by omega)]
  exact .of (h.set _ (hD _ (by omega) (by omega)) hp) rfl
 ·split
  ·next e2 =>
   rw[NT hV e2 (h8 (.inl e))]
   exact h.get (ha (.inl e) e2 _ (h8 (.inl e)).1 (h8 (.inl e)).2) hp
  ·rfl
 ·refine dq (λ e2=>?_) λ _=>hp
  rw[NT hV e2 (h8 (.inr e))]
  exact h.set _ (ha (.inr e) e2 _ (h8 (.inr e)).1 (h8 (.inr e)).2) hp
 refine .ite (λ _=>.of (h.s0 6 _ (by decide) hp) rfl) λ _=>.ite (λ _=>.of (dq (λ _=>h.s0 6 _ (by decide) hp) λ _=>hp) rfl) λ _=>.ite (λ _=>?_) λ _=>.of hp rfl
 exact(Js h a b hp).m
theorem Ju(h:Loc D P)(hD:L4 D){S:Setup}(hV:SetV S)(code:List Ins)(n:Nat)(t_:∀k:Int,1 <= k -> k <= 2 -> 0 <= M.get 7-k -> M.get 7-k<16 -> qz D S (M.get (16+(M.get 7-k))))(hp:P M N):RP P (ao S code n M) (ao S code n N):=by
 have e6:=h.g0 6 (by decide) hp
 have e7:=h.g0 7 (by decide) hp
 have e8:=h.g0 8 (by decide) hp
 have er:c7 code n M↔c7 code n N:=by unfold c7 aX;rw[e6,e7,e8]
 unfold ao
 by_cases hr:c7 code n M
 ·rw[if_pos hr,if_pos (er.1 hr)]
  have hc:aX code M=aX code N:=by unfold aX;rw[e6]
  rw[<- hc,<- e6,<- e7,<- e8]
  obtain⟨_,_,_,hx⟩:=hr
  obtain⟨Z2,Rb,UP,hq,hn⟩:=qr hx
  have heb:=LY Z2
  generalize (aX code M).op=op at *
  generalize (aX code M).n=k at *
  have hs:aV (M.get 7-eP op)=M.get 7-eP op:=aK (by omega)
  have UM:aV (16+M.get 7)=16+M.get 7:=aK (by omega)
  have Xf:aV (16+M.get 7-eP op)=16+M.get 7-eP op:=aK (by omega)
  have hs3:aV (16+M.get 7-eP op+1)=16+M.get 7-eP op+1:=aK (by omega)
  rw[hs] at hq
  have hs4:aV (M.get 7-eP op+eQ op)=M.get 7-eP op+eQ op:=aK (by omega)
  rw[hs4] at hq
  have ha:dC op (M.get 7) M=dC op (M.get 7) N:=by
   unfold dC
   rw[UM,Xf]
   split
   ·exact h.get (hD _ (by omega) (by omega)) hp
   ·split
    ·exact h.get (hD _ (by omega) (by omega)) hp
    ·rfl
  have hb:dQ op (M.get 7) M=dQ op (M.get 7) N:=by
   unfold dQ
   rw[UM,Xf,hs3]
   split
   ·exact h.get (hD _ (by omega) (by omega)) hp
   ·rfl
  have hm:P (dw op (M.get 7) (M.get 6) (M.get 8) M) (dw op (M.get 7) (M.get 6) (M.get 8) N):=by
   unfold dw
   exact dq (λ _=>h.s0 6 _ (by decide) (h.s0 8 _ (by decide) hp)) λ _=>h.s0 7 _ (by decide) (h.s0 6 _ (by decide) (h.s0 8 _ (by decide) hp))
  have hD4:op=4 \/ op=5 -> qz D S (dC op (M.get 7) M):=by
   rintro(rfl|rfl)
   ·have e1:eP 4=1:=by decide
    have:=t_ 1 (by decide) (by decide) (by omega) (by omega)
    unfold dC
    rw[UM,Xf,e1]
    rw[if_neg (by decide),if_pos rfl]
    rwa [show 16+M.get 7-1=16+(M.get 7-1) by omega]
   ·have e1:eP 5=2:=by decide
    have:=t_ 2 (by decide) (by decide) (by omega) (by omega)
    unfold dC
    rw[UM,Xf,e1]
    rw[if_pos rfl]
    rwa [show 16+M.get 7-2=16+(M.get 7-2) by omega]
  have iF:RP P (bQ S op k (M.get 7) (M.get 6) (M.get 8) M) (bQ S op k (M.get 7) (M.get 6) (M.get 8) N):=by
   unfold bQ
   rw[<- ha,<- hb]
   exact Jt h hD hV _ _ hn hD4 hm
  unfold cz
  rw[UM,Xf]
  refine .ite (λ e=>?_) λ _=>iF
  refine⟨?_,iF.2.1,iF.2.2.1,iF.2.2.2⟩
  rw[iF.2.1]
  exact h.set _ (hD _ (by omega) (by omega)) iF.1
 ·rw[if_neg hr,if_neg λ e=>hr (er.2 e)]
  exact .of hp rfl
theorem L5(h:Loc D P)(code:List Ins)(n:Nat)(hp:P M N):bE code n M=bE code n N:=by
 have hc:aX code M=aX code N:=by unfold aX;rw[h.g0 6 (by decide) hp]
 have er:c7 code n M↔c7 code n N:=by unfold c7 aX;rw[h.g0 6 (by decide) hp,h.g0 7 (by decide) hp,h.g0 8 (by decide) hp]
 unfold bE
 by_cases hr:c7 code n M
 ·rw[if_pos hr,if_pos (er.1 hr),hc]
 ·rw[if_neg hr,if_neg λ e=>hr (er.2 e)]
theorem Gz(h:Loc D P)(e f a b:Int)(hp:P M N):P (aU e f a b M) (aU e f a b N):=by
 unfold aU
 exact dq (λ _=>hp) λ _=>h.s0 10 _ (by decide) (h.s0 9 _ (by decide) (h.s0 8 _ (by decide) (h.s0 7 _ (by decide) (h.s0 6 _ (by decide) hp))))
theorem yQ(h:Loc D P)(hD:L4 D)(e:Int)(t:Stp)(hV:SetV t.S)(t_:∀k:Int,1 <= k -> k <= 2 -> 0 <= M.get 7-k -> M.get 7-k<16 -> qz D t.S (M.get (16+(M.get 7-k))))(a b:Int)(hp:P M N):RP P (ew e t a b M) (ew e t a b N) /\ dh e t a b M=dh e t a b N:=by
 have h1:=Gz h e t.S.fuel a b hp
 constructor
 ·unfold ew
  exact .ite (λ _=>.ite (λ _=>.of h1 rfl) λ _=>.of (h.s0 3 _ (by decide) h1) rfl) λ _=>(Ju h hD hV t.code t.cn t_ hp).m
 ·unfold dh
  rw[L5 h t.code t.cn hp]
theorem AK(h:Loc D P){r s:VR}(hr:RP P r s)(over:Bool)(t:Stp)(IT:Bool)(hp:P M N):RP P (di r over t IT M) (di s over t IT N):=by
 have h2:RP P ⟨r.M,0,r.e,r.em⟩ ⟨s.M,0,s.e,s.em⟩:=hr.m
 unfold di
 refine .ite (λ _=>.ite (λ _=>.ite (λ _=>?_) λ _=>h2) λ _=>.of (h.s0 2 _ (by decide) hp) rfl) λ _=>.ite (λ _=>?_) λ _=>h2
 ·exact⟨h.s0 2 _ (by decide) hr.1,rfl,hr.2.2.1,hr.2.2.2⟩
 ·exact⟨h.s0 2 _ (by decide) (h.s0 3 _ (by decide) hr.1),rfl,hr.2.2.1,hr.2.2.2⟩
theorem L6(h:Loc D P)(hD:L4 D)(t:Stp)(hV:SetV t.S)(DO:Ot D t.S t.i)(t_:∀k:Int,1 <= k -> k <= 2 -> 0 <= M.get 7-k -> M.get 7-k<16 -> qz D t.S (M.get (16+(M.get 7-k))))(hp:P M N):RP P (eF t M) (eF t N):=by
 unfold eF
 refine .ite (λ _=>.of (iu h t 2 0 hp) rfl) λ e=>?_
 rw[h.get (DO (by omega) 2 (by decide) (by decide)) hp]
 obtain⟨h1,h2⟩:=yQ h hD t.e0 t hV t_ t.i (N.get (ah t.S t.i+2)) hp
 have h3:=AK h h1 (dh t.e0 t t.i (N.get (ah t.S t.i+2)) N) t (!decide (N.get (ah t.S t.i+2)=0)) hp
 unfold cW cB iC
 rw[h2]
 exact h3.m
theorem L7(h:Loc D P)(hD:L4 D)(t:Stp)(hV:SetV t.S)(hb:qz D t.S t.i)(t_:∀k:Int,1 <= k -> k <= 2 -> 0 <= M.get 7-k -> M.get 7-k<16 -> qz D t.S (M.get (16+(M.get 7-k))))(hp:P M N):RP P (eG t M) (eG t N):=by
 unfold eG
 refine .ite (λ _=>.of (iu h t 7 0 hp) rfl) λ e=>?_
 rw[h.get (hb (by omega) 6 (by decide) (by decide)) hp]
 obtain⟨h1,h2⟩:=yQ h hD t.e2 t hV t_ t.i (aV (N.get (ae t.S t.i+6)-1)) hp
 have h3:=AK h h1 (dh t.e2 t t.i (aV (N.get (ae t.S t.i+6)-1)) N) t (!decide (N.get (ae t.S t.i+6)=0)) hp
 unfold cX cC iE
 rw[h2]
 exact h3.m
theorem Jv(h:Loc D P)(hD:L4 D)(t:Stp)(hV:SetV t.S)(t_:∀k:Int,1 <= k -> k <= 2 -> 0 <= M.get 7-k -> M.get 7-k<16 -> qz D t.S (M.get (16+(M.get 7-k))))(hp:P M N):RP P (cS t M) (cS t N):=by
 obtain⟨h1,h2⟩:=yQ h hD t.e1 t hV t_ 0 0 hp
 unfold cS dm i5
 rw[h2]
 exact .ite (λ _=>⟨iu h t 3 0 h1.1,rfl,h1.2.2.1,h1.2.2.2⟩) λ _=>h1.m
end
theorem t6{S:Setup}{M:MemS}{y:Int}:y∈L3 S M↔(((0 <= y /\ y<14) \/ ((M.get 1=1 \/ M.get 1=2 \/ M.get 1=6) /\ (16 <= y /\ y<48))) \/ ((M.get 1=0 \/ M.get 1=1 \/ M.get 1=3) /\ 0 <= ah S (M.get 2) /\ ah S (M.get 2) <= y /\ y<ah S (M.get 2)+4)) \/ ∃b,b∈sI M /\ 0 <= ae S b /\ ae S b <= y /\ y<ae S b+8:=by
 unfold L3 headL
 rw[List.mem_append,List.mem_append,List.mem_append,List.mem_flatMap]
 refine or_congr (or_congr (or_congr ?_ ?_) ?_) ?_
 ·rw[qy];constructor <;> (intro h;omega)
 ·by_cases h:M.get 1=1 \/ M.get 1=2 \/ M.get 1=6
  ·rw[if_pos h,List.mem_append,qy,qy]
   exact⟨λ h2=>⟨h,by omega⟩,λ h2=>by have:=h2.2;omega⟩
  ·rw[if_neg h]
   exact⟨λ h2=>absurd h2 List.not_mem_nil,λ h2=>absurd h2.1 h⟩
 ·by_cases h:0 <= ah S (M.get 2) /\ (M.get 1=0 \/ M.get 1=1 \/ M.get 1=3)
  ·rw[if_pos h,qy]
   exact⟨λ h2=>⟨h.2,h.1,h2.1,by have:=h2.2;omega⟩,λ h2=>⟨h2.2.2.1,by have:=h2.2.2.2;omega⟩⟩
  ·rw[if_neg h]
   exact⟨λ h2=>absurd h2 List.not_mem_nil,λ h2=>absurd ⟨h2.2.1,h2.1⟩ h⟩
 ·have hb:∀b,y∈Pj S b↔0 <= ae S b /\ ae S b <= y /\ y<ae S b+8:=λ b=>by
   unfold Pj
   split
   ·rw[qy];constructor <;> (intro h;omega)
   ·exact⟨λ h=>absurd h List.not_mem_nil,λ h=>by omega⟩
  constructor
  ·rintro⟨b,Ri,hy⟩;exact⟨b,AF.1 (AG.1 Ri),(hb b).1 hy⟩
  ·rintro⟨b,Ri,hy⟩;exact⟨b,AG.2 (AF.2 Ri),(hb b).2 hy⟩
theorem NU{D:Int -> Prop}{P:MemS -> MemS -> Prop}{g:Gm}(hV:SetV g.S){M N:MemS}(hT:∀y,y∈L3 g.S M -> y≠4 -> D y)(h4:M.get 1=4 -> D 4)(h:Loc D P)(hp:P M N)(QR:qQ M):RP P (cF g M) (cF g N) /\ fB g M=fB g N:=by
 have hV1:=hV.pl
 have hS:0 <= g.S.players:=by omega
 have e1:=h.g0 1 (by decide) hp
 have e2:=h.g0 2 (by decide) hp
 have e3:=h.g0 3 (by decide) hp
 have et:g.step M=g.step N:=by unfold Gm.step;rw[e2,e3]
 have WH:∀b,b∈sI M -> qz D g.S b:=λ b hb h0 c c0 c8=>hT _ (t6.2 (.inr ⟨b,hb,h0,by omega,by omega⟩)) (by rcases fP (S:=g.S) hS b with e|⟨_,_,e⟩ <;> omega)
 have hi:3 <= M.get 1 -> qz D g.S (M.get 2):=λ h3=>WH _ (by
  unfold sI
  rw[List.mem_append,List.mem_append,if_pos (c:=3 <= M.get 1 /\ M.get 1 <= 7) ⟨h3,QR.2⟩]
  exact .inl (.inr (List.mem_singleton.2 rfl)))
 have hj:M.get 1=4 \/ M.get 1=5 -> qz D g.S (M.get 3):=λ h3=>WH _ (by
  unfold sI
  rw[List.mem_append,if_pos h3]
  exact .inr (List.mem_singleton.2 rfl))
 have DO:M.get 1=0 \/ M.get 1=1 \/ M.get 1=3 -> Ot D g.S (M.get 2):=λ h3 h0 c c0 c4=>hT _ (t6.2 (.inl (.inr ⟨h3,h0,by omega,by omega⟩))) (by rcases lC (S:=g.S) (M.get 2) with ⟨e,_⟩|⟨_,_,e⟩ <;> omega)
 have hD:M.get 1=1 \/ M.get 1=2 \/ M.get 1=6 -> L4 D:=λ h3 i h0 h1=>hT _ (t6.2 (.inl (.inl (.inr ⟨h3,h0,h1⟩)))) (by omega)
 have t_:M.get 1=1 \/ M.get 1=2 \/ M.get 1=6 -> ∀k:Int,1 <= k -> k <= 2 -> 0 <= M.get 7-k -> M.get 7-k<16 -> qz D g.S (M.get (16+(M.get 7-k))):=λ h3 k k1 k2 h0 h1=>WH _ (by
  have hk:M.get (16+(M.get 7-k))∈Oq M k:=by
   unfold Oq
   rw[show i64.wrap (M.get 7-k)=M.get 7-k from aK (by omega),if_pos ⟨h0,h1⟩]
   exact List.mem_singleton.2 rfl
  unfold sI Kr
  rw[List.mem_append,List.mem_append,if_pos h3,List.mem_append]
  refine .inl (.inl ?_)
  rcases(show k=1 \/ k=2 by omega) with rfl|rfl
  ·exact .inl hk
  ·exact .inr hk)
 constructor
 ·unfold cF
  rw[<- et,<- e1]
  have mk:∀ {A B:MemS},P A B -> RP P ⟨A,0,bH,false⟩ ⟨B,0,bH,false⟩:=λ h=>.of h rfl
  refine .ite (λ e=>mk (Gx h (g.step M) (DO (.inl e)) hp)) λ h0=>.ite (λ e=>L6 h (hD (.inl e)) (g.step M) hV (DO (.inr (.inl e))) (t_ (.inl e)) hp) λ h1=>.ite (λ e=>Jv h (hD (.inr (.inl e))) (g.step M) hV (t_ (.inr (.inl e))) hp) λ h2=>.ite (λ e=>mk (Gy h (g.step M) hS (hi (by omega)) (DO (.inr (.inr e))) hp)) λ h3=>.ite (λ e=>mk (yP h (h4 e) (g.step M) hS (hi (by omega)) (hj (.inl e)) hp)) λ h4=>.ite (λ e=>mk (Jq h (g.step M) hS (hi (by omega)) (hj (.inr e)) hp)) λ h5=>.ite (λ e=>L7 h (hD (.inr (.inr e))) (g.step M) hV (hi (by omega)) (t_ (.inr (.inr e))) hp) λ h6=>mk (Jr h (g.step M) (hi ?_) hp)
  have:=QR.1
  omega
 ·unfold fB
  rw[<- et,<- e1]
end Go.Proofs.YthoijjeddhfcnaaGreatDoor
