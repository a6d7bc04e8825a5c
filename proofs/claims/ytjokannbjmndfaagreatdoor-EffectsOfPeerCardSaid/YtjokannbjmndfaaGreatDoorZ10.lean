import Derived.Test.YtjokannbjmndfaaGreatDoorZ09
import Derived.Test.YtjokannbjmndfaaGreatDoorZ06
set_option linter.all false
set_option maxHeartbeats 4000000
set_option maxRecDepth 100000
namespace Go.Proofs.YtjokannbjmndfaaGreatDoor
open IntKind
open Go.RowKit
section
variable {F T:HL} {M:MemS} {mb tb:Nat}
structure Inp where (dx dy act:Int)
abbrev dI:Inp:=⟨0,0,0⟩
structure Ins where (op n:Int)
abbrev dIns:Ins:=⟨0,0⟩
structure Eff where (t i k v:Int)
abbrev aaa(x:Eff):List Value:=[vI x.t,vI x.i,vI x.k,vI x.v]
abbrev bx:Eff:=⟨0,0,0,0⟩
def cT:Enc Inp:=⟨3,λ p k=>match k with|0=>vI p.dx|1=>vI p.dy|_=>vI p.act,dI⟩
noncomputable def N0:TypeInfo:=match Tryz.prog.info? 106 with | some i=>i | none=>⟨.bool,"",0,0,false,0,0,none,false,#[]⟩
noncomputable def N3:Value:=match N0.zero with|some z=>z|none=>.bool false
theorem rF:EncOk cT Tryz.prog 106 N0 N3 where
 info:=by kernel_rfl
 zero:=by kernel_rfl
 size:=by kernel_rfl
 zsize:=by kernel_rfl
 zcell:=λ k hk=>by
  have h:∀k<3,N3.cells[k]?=some (cT.cell cT.dflt k):=by intro k hk;(iterate 3 (rcases k with _|k;· kernel_rfl));omega
  exact h k hk
 one:=λ x k=>by unfold cT;dsimp only;split <;> rfl
 bytes:=aaH (by kernel_rfl)
abbrev jM(l:List Inp):Nat->Nat->Value:=aD cT l
structure Stp where
 S:Setup
 cA:Option Addr
 cn:Nat
 cc:Nat
 e0:Int
 e1:Int
 e2:Int
 version:Int
 ib:Nat
 io:Nat
 ni:Nat
 ic:Nat
 iR:Nat
 ins:List Inp
 i:Int
 j:Int
 ended:Bool
 f0:Int
 f1:Int
 f2:Int
 f3:Int
 emitted:Bool
 code:List Ins
def Stp.inp(t:Stp)(k:Nat):Inp:=t.ins.getD (t.io+k) dI
def movP(S:Setup)(k:Int):Prop:=(0<=k/\k<S.nb)/\(S.body k.toNat).mot.inv>0
instance (S:Setup) (k:Int):Decidable (movP S k):=inferInstanceAs (Decidable (_/\_))
theorem movP.has{S:Setup}{k:Int}(h:movP S k):0<=k/\k<S.nb:=h.1
def au(S:Setup)(M:MemS)(k:Int):Mot:=⟨M.get (ag S k+0),M.get (ag S k+1),M.get (ag S k+2),M.get (ag S k+3),(S.body k.toNat).mot.inv⟩
def aZ(t:Stp)(ph j:Int)(M:MemS):MemS:=((M.set 1 ph).set 2 0).set 3 j
def cX(t:Stp)(k:Int)(m:Mot)(M:MemS):MemS:=(((M.set (ag t.S k+0) m.px).set (ag t.S k+1) m.py).set (ag t.S k+2) m.vx).set (ag t.S k+3) m.vy
def dD(t:Stp)(c sp pos lo hi:Int)(M:MemS):MemS:=if bF pos lo hi=pos then M.set c (bF pos lo hi) else (M.set c (bF pos lo hi)).set sp (aV (0-f9 ((M.set c (bF pos lo hi)).get sp) t.S.rest))
def cQ(t:Stp)(M:MemS):MemS:=if t.i=0 then (M.set 13 t.version).set 11 0 else M
def cY(t:Stp)(M:MemS):MemS:=if ai t.S t.i>=0 then if t.i<t.ni then ((M.set (ai t.S t.i+0) (t.inp t.i.toNat).dx).set (ai t.S t.i+1) (t.inp t.i.toNat).dy).set (ai t.S t.i+2) (t.inp t.i.toNat).act else M else M
def fT(t:Stp)(M:MemS):MemS:=if aV (t.i+1)<t.S.players then M.set 2 (aV (t.i+1)) else aZ t 1 0 M
def dN(t:Stp)(M:MemS):MemS:=fT t (cY t (cQ t M))
abbrev Stp.l(t:Stp)(mb:Nat):List Value:=[.iface 95 (vP mb 0),vI t.S.players,vS t.S.bb (t.S.bo*9) t.S.nb t.S.bc,vI t.S.box.x0,vI t.S.box.y0,vI t.S.box.x1,vI t.S.box.y1,.slice t.S.rA t.S.rn t.S.rc,.slice t.S.dA t.S.dn t.S.dc,vI t.S.fog,vI t.S.g.x,vI t.S.g.y,vI t.S.push,vI t.S.drag,vI t.S.rest,vI t.S.rounds,vI t.S.fuel,.slice t.cA t.cn t.cc,vI t.e0,vI t.e1,vI t.e2,vI t.version,vS t.ib (t.io*3) t.ni t.ic,vI t.i,vI t.j,.bool t.ended,vI t.f0,vI t.f1,vI t.f2,vI t.f3,.bool t.emitted]
abbrev Stp.lp(t:Stp)(mb:Nat):List Value:=[.iface 95 (vP mb 0),vI t.S.players,vS t.S.bb (t.S.bo*9) t.S.nb t.S.bc,vI t.S.box.x0,vI t.S.box.y0,vI t.S.box.x1,vI t.S.box.y1,.slice t.S.rA t.S.rn t.S.rc,.slice t.S.dA t.S.dn t.S.dc,vI t.S.fog,vI t.S.g.x,vI t.S.g.y,vI t.S.push,vI t.S.drag,vI t.S.rest,vI t.S.rounds,vI t.S.fuel,.slice t.cA t.cn t.cc,vI t.e0,vI t.e1,vI t.e2,vI t.version,vS t.ib (t.io*3) t.ni t.ic,vI t.i,vI t.j,.bool t.ended]
theorem qP{t:Stp}(k:Int)(hb:(tb,.lit (Stp.l t mb) 253 (0,0))∈F):af1 189 #[vP tb 0,vI k] [] F (λ u H'=>u=.bool (decide (0<=k/\k<t.S.nb))/\H'=[]):=by
 refine QH Tryz.func189 hb<|OG 10<|aal (k>=0) 7 (λ h1=>?_) λ h1=>?_
 ·refine Sr 12 [.ro 0]<|QJ (.bool (decide (k<(t.S.nb:Int)))) [] ⟨by simp[*],rfl⟩
 ·refine OG 12<|QJ (.bool false) [] ⟨by simp[*],rfl⟩
theorem lz{t:Stp}(k:Int)(hb:(tb,.lit (Stp.l t mb) 253 (0,0))∈F)(hS:SetIn F t.S):af0 182 #[vP tb 0,vI k] F (.bool (decide (movP t.S k))):=by
 have hn:=hS.nb;have hr:=hS.room;refine rx Tryz.func182 (mc hb (mc hS.blk mn)) [] []<|OG 9<|aah (qP k (aaz _ hb))<|OG 1<|aal (0<=k/\k<t.S.nb) 8 (λ h1=>?_) λ h1=>?_
 ·refine ah 15 [.ro 0,.ix ((k).toNat),.rorow 1 (t.S.bo+((k).toNat)) 6] [((t.S.bo*9+((k).toNat)*9)+6)=(t.S.bo+((k).toNat))*9+6/\(t.S.bo+((k).toNat))<t.S.bR,k=(((k).toNat:Nat):Int)/\(k).toNat<t.S.nb] λ _=>QJ (.bool (decide ((t.S.bods.getD (t.S.bo+((k).toNat)) dB).mot.inv>0))) [] ⟨?_,rfl⟩;simp[movP,Setup.body, *]
 ·refine OG 15<|QJ (.bool false) [] ⟨?_,rfl⟩;simp[movP,Setup.body, *]
theorem gm{t:Stp}{i:Int}{k:Nat}(hb:(tb,.lit (Stp.l t mb) 253 (0,0))∈F)(hS:SetIn F t.S)(hM:MemH mb M k T)(hT:∀x∈T,x∈F)(hi:0<=i/\i<t.S.nb) :af0 183 #[vP tb 0,vI i] F (.agg #[vI ((au t.S M i).px),vI ((au t.S M i).py),vI ((au t.S M i).vx),vI ((au t.S M i).vy),vI ((au t.S M i).inv)]):=by
 have hp:=hS.pl;have hn:=hS.nb;have hr:=hS.room;refine rx Tryz.func183 (mc hb (mc hS.blk mn)) [] []<|ae 12 [.ro 0,.ro 0,.ro 0,.ro 0,.ro 0,.ro 0,.ro 0,.ro 0,.ro 0,.ro 0,.ro 0,.ro 0,.ro 0,.ro 0,.ro 0,.ro 0] λ n1=>aah (dh i hS.toSetN) ?_;have Zt:=dg hS.toSetN i;refine OG 4<|aak [41] []<|aH [] [0,4,7,11,15,19,22,26,30,35,1,5,8,12,16,20,23,27,31,2,9,17,24,32,3,10,18,25,33,34,36,37,38,39] [.nw,.nw,.nw,.nw,.ro 0,.ro 0,.ro 0,.ro 0,.ro 0,.ix ((i).toNat),.rorow 1 (t.S.bo+((i).toNat)) 6] [((t.S.bo*9+((i).toNat)*9)+6)=(t.S.bo+((i).toNat))*9+6/\(t.S.bo+((i).toNat))<t.S.bR,i=(((i).toNat:Nat):Int)/\(i).toNat<t.S.nb,aX ((ag t.S i)+3),aX ((ag t.S i)+2),aX ((ag t.S i)+1),aX ((ag t.S i)+0)]<|aac [] 6 (λ X_=>(aA ((ag t.S i)+0) hM (λ x hx=>aaz _ (aaz _ (hT x hx)))))<|aac [] 13 (λ X_=>(aA ((ag t.S i)+1) hM (λ x hx=>aaz _ (aaz _ (hT x hx)))))<|afZ [14]<|aac [] 21 (λ X_=>(aA ((ag t.S i)+2) hM (λ x hx=>aaz _ (aaz _ (hT x hx)))))<|aac [] 28 (λ X_=>(aA ((ag t.S i)+3) hM (λ x hx=>aaz _ (aaz _ (hT x hx)))))<|afZ [29,40]<|Sx 41 [] (ow 0 5)<|aad<|ae 1 [] λ _=>aap (ow 0 5) [] [] ⟨rfl,rfl⟩
theorem fi(t:Stp)(ph:Int)(j:Int)(tb:Nat)(k:Nat)(hM:MemH mb M (k+3) T)(hS:SetIn F t.S) :af1 179 #[vP tb 0,vI ph,vI j] (ap [(tb,.lit (Stp.l t mb) 253 (0,0))] [T]) F (λ u H'=>∃x,H'=ap [(tb,.lit (Stp.l t mb) 253 (0,0))] [x]/\(MemH mb (aZ t ph j M) k x)):=by
 have hp:=hS.pl;have hn:=hS.nb;have hr:=hS.room;refine QF Tryz.func179 (mc hS.blk mn)<|Sr 7 [.o 0]<|aai [] [0] (al 1 ph hM) ?_;rintro _ T1 Zu;refine Sr 8 [.o 0]<|aai [] [0] (al 2 0 Zu) ?_;rintro _ T3 R_;refine Sr 8 [.o 0]<|aai [] [0] (al 3 j R_) ?_;rintro _ T5 Vc;refine OG 1<|QI [] [0] [0] (.tuple #[]) (ap [(tb,.lit (Stp.l t mb) 253 (0,0))] [T5]) ⟨T5,rfl,?_⟩;have e:(aZ t ph j M)=(((M.set 1 ph).set 2 0).set 3 j):=by
  first|(simp only[aZ];try rfl;done)|rfl
 rw[e];exact Vc.weak (by omega)
theorem mJ(t:Stp)(i:Int)(m:Mot)(tb:Nat)(k:Nat)(hM:MemH mb M (k+4) T)(hS:SetIn F t.S) :af1 218 #[vP tb 0,vI i,.agg #[vI m.px,vI m.py,vI m.vx,vI m.vy,vI m.inv]] (ap [(tb,.lit (Stp.l t mb) 253 (0,0))] [T]) F (λ u H'=>∃x,H'=ap [(tb,.lit (Stp.l t mb) 253 (0,0))] [x]/\(MemH mb (cX t i m M) k x)):=by
 have hp:=hS.pl;have hn:=hS.nb;have hr:=hS.room;refine QF Tryz.func218 (mc hS.blk mn)<|ae 12 (ow 1 16) λ n1=>aah (dh i hS.toSetN) ?_;have Zt:=dg hS.toSetN i;refine OG 4<|aak [9] []<|aH [] [0,4,6,1,5,7,2,8,3] [.nw,.o 0,.o 1] [aX ((ag t.S i)+0)]<|aae 9 (aaf [] [] [0] (al ((ag t.S i)+0) m.px hM) ?_);rintro _ T3 R_;refine QQ 2<|aak [9] []<|aH [] [0,4,6,1,5,7,2,8,3] [.nw,.o 0,.o 1] [aX ((ag t.S i)+1)]<|aae 9 (aaf [] [] [0] (al ((ag t.S i)+1) m.py R_) ?_);rintro _ T5 Vc;refine QQ 2<|aak [9] []<|aH [] [0,4,6,1,5,7,2,8,3] [.nw,.o 0,.o 1] [aX ((ag t.S i)+2)]<|aae 9 (aaf [] [] [0] (al ((ag t.S i)+2) m.vx Vc) ?_);rintro _ T7 Wt;refine QQ 1<|aak [9] []<|aH [] [0,4,6,1,5,7,2,8,3] [.nw,.o 0,.o 1] [aX ((ag t.S i)+3)]<|aae 9 (aaf [] [] [0] (al ((ag t.S i)+3) m.vy Wt) ?_);rintro _ T9 VE;refine aad<|QI [] [1] [0] (.tuple #[]) (ap [(tb,.lit (Stp.l t mb) 253 (0,0))] [T9]) ⟨T9,rfl,?_⟩;have e:(cX t i m M)=((((M.set ((ag t.S i)+0) m.px).set ((ag t.S i)+1) m.py).set ((ag t.S i)+2) m.vx).set ((ag t.S i)+3) m.vy):=by
  first|(simp only[cX];try rfl;done)|rfl
 rw[e];exact VE.weak (by omega)
theorem uk(t:Stp)(c:Int)(s:Int)(pos:Int)(lo:Int)(hi:Int)(tb:Nat)(k:Nat)(hM:MemH mb M (k+2) T)(hS:SetIn F t.S) :af1 221 #[vP tb 0,vI c,vI s,vI pos,vI lo,vI hi] (ap [(tb,.lit (Stp.l t mb) 253 (0,0))] [T]) F (λ u H'=>∃x,H'=ap [(tb,.lit (Stp.l t mb) 253 (0,0))] [x]/\(MemH mb (dD t c s pos lo hi M) k x)):=by
 have hp:=hS.pl;have hn:=hS.nb;have hr:=hS.room;refine QF Tryz.func221 (mc hS.blk mn)<|OG 5<|aah (dG pos lo hi)<|Sr 11 [.o 0]<|aai [] [0] (al c (bF pos lo hi) hM) ?_;rintro _ T1 Zu;refine OG 9<|aam (bF pos lo hi=pos) 26 (λ h3=>?_) λ h3=>?_
 ·refine OG 2<|QI [] [0] [0] (.tuple #[]) (ap [(tb,.lit (Stp.l t mb) 253 (0,0))] [T1]) ⟨T1,rfl,?_⟩;have e:(dD t c s pos lo hi M)=(M.set c (bF pos lo hi)):=by
   first|(simp only[dD,if_pos h3];try rfl;done)|rfl
  rw[e];exact Zu.weak (by omega)
 ·refine OG 1<|aak [20] []<|af [] [0,4,5,9,11,1,6,12,2,7,13,3,8,14,15,18,19] (aab 3)<|aac [] 10 (λ X_=>(aA s Zu (aL 0)))<|aac [] 16 (λ X_=>(nW ((M.set c (bF pos lo hi)).get s) t.S.rest))<|afZ [17]<|aae 20 (aaf [] [] [0] (al s (i64.wrap (0-(f9 ((M.set c (bF pos lo hi)).get s) t.S.rest))) Zu) ?_);rintro _ T4 XE;refine aad<|QI [] [0] [0] (.tuple #[]) (ap [(tb,.lit (Stp.l t mb) 253 (0,0))] [T4]) ⟨T4,rfl,?_⟩;have e:(dD t c s pos lo hi M)=((M.set c (bF pos lo hi)).set s (i64.wrap (0-(f9 ((M.set c (bF pos lo hi)).get s) t.S.rest)))):=by
   first|(simp only[dD,if_neg h3];try rfl;done)|rfl
  rw[e];exact XE.weak (by omega)
end
section
variable {F T:HL} {M:MemS} {b cap mb q:Nat} {s:Shp} (t:Stp) (r:Int) (off:V2) (tb:Nat) (pos:V2) (k:Nat) (ax:V2)
theorem Ez (hM:MemH mb M (k+8) T) (hS:SetIn F t.S) (hI:(t.ib,.rows 3 t.iR (jM t.ins) 106 (0,0))∈F) (hir:t.io+t.ni<=t.iR/\t.ni<=1000000):af1 132 #[vP tb 0] (ap [(tb,.lit (Stp.l t mb) 253 (0,0))] [T]) F (λ u H'=>∃x,H'=ap [(tb,.lit (Stp.l t mb) 253 (0,0))] [x]/\(MemH mb (dN t M) k x)):=by
 have hp:=hS.pl;have hn:=hS.nb;have hr:=hS.room;refine QF Tryz.func132 (mc hS.blk (mc hI mn))<|OG 1<|RN.cut (σ:=MemS×HL) (λ ⟨rW,UB⟩=>⟨[(0,vP tb 0)],[(tb,.lit (Stp.l t mb) 253 (0,0))],[UB],rW=cQ t M/\MemH mb rW (k+6) UB,0⟩) ?_ ?_
 ·intro mt1;refine Sr 9 [.o 0]<|aal (t.i=0) 8 (λ h2=>?_) λ h2=>?_
  ·refine OG 2<|aak [10] []<|af [] [0,4,1,5,2,6,3,7,8,9] (aab 2)<|aae 10 (aaf [] [] [0] (al 13 t.version hM) ?_);rintro _ T3 R_;refine aad<|Sr 6 [.o 0]<|aai [] [0] (al 11 0 R_) ?_;rintro _ T5 Vc;refine ae 1 [] λ _=>mt1 (((M.set 13 t.version).set 11 0),T5) [0] [0] ?_
   try dsimp only
   refine⟨?_,Vc.weak (by omega)⟩
   first|(simp only[cQ,if_pos h2];try rfl;done)|rfl
  ·refine ae 2 [] λ _=>mt1 (M,T) [0] [0] ?_
   try dsimp only
   refine⟨?_,hM.weak (by omega)⟩
   first|(simp only[cQ,if_neg h2];try rfl;done)|rfl
 ·rintro⟨rW,UB⟩ ⟨WQ,UM⟩;refine OG 3<|aak [] []<|af [] [0,4,1,5,2,6,3,7] (ow 0 17)<|aac [] 8 (λ X_=>(ly t.i hS.toSetN)) ?_;have hb7:=lx hS.toSetN t.i;refine afZ [9]<|QQ 1<|RN.cut (σ:=MemS×HL) (λ ⟨X2,Wn⟩=>⟨[(0,vP tb 0)],[(tb,.lit (Stp.l t mb) 253 (0,0))],[Wn],X2=cY t rW/\MemH mb X2 (k+3) Wn,0⟩) ?_ ?_
  ·intro XO;refine OG 1<|aak [] []<|afZ [0,1,2]<|RD.em (ai t.S t.i>=0) 36 (λ h9=>?_) λ h9=>?_
   ·refine af [] [3,7,4,8,5,9,6,10,11,12,13] (aab 2)<|QQ 1<|aal (t.i<(t.ni:Int)) 47 (λ UE=>?_) λ UE=>?_
    ·refine OG 2<|aak [11] []<|aH [] [0,4,1,5,2,6,3,7,8,9] [.o 0,.o 0,.ix ((t.i).toNat),.rorow 1 (t.io+((t.i).toNat)) 0,.rorow 1 (t.io+((t.i).toNat)) 1,.rorow 1 (t.io+((t.i).toNat)) 2] [((t.io*3+((t.i).toNat)*3)+2)=(t.io+((t.i).toNat))*3+2/\(t.io+((t.i).toNat))<t.iR,((t.io*3+((t.i).toNat)*3)+1)=(t.io+((t.i).toNat))*3+1/\(t.io+((t.i).toNat))<t.iR,(t.io*3+((t.i).toNat)*3)=(t.io+((t.i).toNat))*3+0/\(t.io+((t.i).toNat))<t.iR,t.i=(((t.i).toNat:Nat):Int)/\(t.i).toNat<t.ni]<|aae 10 (aag [] [] λ n11=>?_);refine Sx 11 [] (aab 3)<|QQ 2<|aak [8] []<|aH [] [0,4,6,1,5,7,2,3] [.nw,.o 0,.o 1] [aX ((ai t.S t.i)+0)]<|aae 8 (aaf [] [] [0] (al ((ai t.S t.i)+0) ((t.ins.getD (t.io+((t.i).toNat)) dI).dx) UM) ?_);rintro _ T12 Y2;refine QQ 2<|aak [8] []<|aH [] [0,4,6,1,5,7,2,3] [.nw,.o 0,.o 1] [aX ((ai t.S t.i)+1)]<|aae 8 (aaf [] [] [0] (al ((ai t.S t.i)+1) ((t.ins.getD (t.io+((t.i).toNat)) dI).dy) Y2) ?_);rintro _ T14 Y1;refine QQ 1<|aak [8] []<|aH [] [0,4,6,1,5,7,2,3] [.nw,.o 0,.o 1] [aX ((ai t.S t.i)+2)]<|aae 8 (aaf [] [] [0] (al ((ai t.S t.i)+2) ((t.ins.getD (t.io+((t.i).toNat)) dI).act) Y1) ?_);rintro _ Zx Xq;refine aad<|XO ((((rW.set ((ai t.S t.i)+0) ((t.ins.getD (t.io+((t.i).toNat)) dI).dx)).set ((ai t.S t.i)+1) ((t.ins.getD (t.io+((t.i).toNat)) dI).dy)).set ((ai t.S t.i)+2) ((t.ins.getD (t.io+((t.i).toNat)) dI).act)),Zx) [1] [0] ?_
     try dsimp only
     refine⟨?_,Xq.weak (by omega)⟩
     first|(simp only[cY,Stp.inp,if_pos h9,if_pos UE];try rfl;done)|rfl
    ·refine ae 2 [] λ _=>XO (rW,UB) [0] [0] ?_
     try dsimp only
     refine⟨?_,UM.weak (by omega)⟩
     first|(simp only[cY,Stp.inp,if_pos h9,if_neg UE];try rfl;done)|rfl
   ·refine afZ [3,7,4,8,5,9,6,10,11,12,13]<|aad<|ae 3 [] λ _=>XO (rW,UB) [0] [0] ?_
    try dsimp only
    refine⟨?_,UM.weak (by omega)⟩
    first|(simp only[cY,Stp.inp,if_neg h9];try rfl;done)|rfl
  ·rintro⟨X2,Wn⟩ ⟨Ze,YX⟩;refine OG 2<|aak [] []<|af [] [0,5,1,6,2,7,3,8,4,9,10] (aab 2)<|QQ 1<|aal (i64.wrap (t.i+1)<t.S.players) 95 (λ h18=>?_) λ h18=>?_
   ·refine OG 1<|aak [11] []<|af [] [0,4,1,5,2,6,3,7,8,9,10] (aab 2)<|aae 11 (aaf [] [] [0] (al 2 (i64.wrap (t.i+1)) YX) ?_);rintro _ Wv XX;refine aad<|QI [] [0] [0] (.tuple #[]) (ap [(tb,.lit (Stp.l t mb) 253 (0,0))] [Wv]) ⟨Wv,rfl,?_⟩;have e:(dN t M)=(X2.set 2 (i64.wrap (t.i+1))):=by
     first|(simp only[dN,fT,<- WQ,<- Ze,if_pos h18];try rfl;done)|rfl
    rw[e];exact XX.weak (by omega)
   ·refine OG 3<|aai [0] [0] (fi t 1 0 tb k YX hS.up ) ?_;rintro _ T21 acv;refine OG 1<|QI [] [0] [0] (.tuple #[]) (ap [(tb,.lit (Stp.l t mb) 253 (0,0))] [T21]) ⟨T21,rfl,?_⟩;have e:(dN t M)=(aZ t 1 0 X2):=by
     first|(simp only[dN,fT,<- WQ,<- Ze,if_neg h18];try rfl;done)|rfl
    rw[e];exact acv.weak (by omega)
def js(t:Stp):Bool:=if aV (t.i+1)<t.S.nb then t.ended else true
def fB(t:Stp)(M:MemS):MemS:=if ag t.S t.i>=0 then M.set (ag t.S t.i+7) (if M.get (ag t.S t.i+2)=0 then if M.get (ag t.S t.i+3)=0 then (if 1000<aV (M.get (ag t.S t.i+7)+1) then 1000 else aV (M.get (ag t.S t.i+7)+1)) else 0 else 0) else M
def eI(M:MemS):Nat->MemS
 |0=>M
 |n+1=>(eI M n).set ((n+1:Nat):Int) 0
def kT(t:Stp)(M:MemS):MemS:=if aV (t.i+1)<t.S.nb then M.set 2 (aV (t.i+1)) else eI (M.set 0 (aV (M.get 0+1))) 10
def fN(t:Stp)(M:MemS):MemS:=kT t (fB t M)
def fU(t:Stp)(M:MemS):V2:=ao (if ai t.S t.i>=0 then br (br ⟨(au t.S M t.i).vx,(au t.S M t.i).vy⟩ t.S.g) ⟨aV (M.get (ai t.S t.i+0)*t.S.push),aV (M.get (ai t.S t.i+1)*t.S.push)⟩ else br ⟨(au t.S M t.i).vx,(au t.S M t.i).vy⟩ t.S.g) (aV (1024-t.S.drag))
def eJ(t:Stp)(M:MemS):MemS:=if ag t.S t.i>=0 then M.set (ag t.S t.i+6) 0 else M
def d7(t:Stp)(M:MemS):MemS:=if movP t.S t.i then (M.set (ag t.S t.i+2) (bF (fU t M).x (-16384) 16384)).set (ag t.S t.i+3) (bF (fU t M).y (-16384) 16384) else M
def fV(t:Stp)(M:MemS):MemS:=if aV (t.i+1)<t.S.nb then M.set 2 (aV (t.i+1)) else (aZ t 4 1 M).set 4 0
def dP(t:Stp)(M:MemS):MemS:=fV t (d7 t (eJ t M))
def lX(M:MemS):Int:=if aV (M.get 5+128)<1024 then aV (M.get 5+128) else 1024
def gE(t:Stp)(M:MemS):V2:=br ⟨(au t.S M t.i).px,(au t.S M t.i).py⟩ (eM ⟨(au t.S M t.i).vx,(au t.S M t.i).vy⟩ (lX M) 1024)
def cI(t:Stp)(M:MemS):MemS:=dD t (ag t.S t.i+1) (ag t.S t.i+3) (gE t M).y t.S.box.y0 t.S.box.y1 (dD t (ag t.S t.i+0) (ag t.S t.i+2) (gE t M).x t.S.box.x0 t.S.box.x1 M)
theorem EA (hM:MemH mb M (k+8) T) (hS:SetIn F t.S) :af1 135 #[vP tb 0] (ap [(tb,.lit (Stp.l t mb) 253 (0,0))] [T]) F (λ u H'=>∃x,H'=ap [(tb,.lit (Stp.l t mb) 253 (0,0))] [x]/\(MemH mb (dP t M) k x)):=by
 have hp:=hS.pl;have hn:=hS.nb;have hr:=hS.room;refine QF Tryz.func135 (mc hS.blk mn)<|OG 2<|aak [] []<|af [] [0,4,1,5,2,6,3,7] (ow 0 17)<|aac [] 8 (λ X_=>(dh t.i hS.toSetN)) ?_;have Xo:=dg hS.toSetN t.i;refine afZ [9]<|QQ 1<|RN.cut (σ:=MemS×HL) (λ ⟨rW,UB⟩=>⟨[(0,vP tb 0)],[(tb,.lit (Stp.l t mb) 253 (0,0))],[UB],rW=eJ t M/\MemH mb rW (k+7) UB,0⟩) ?_ ?_
 ·intro Ue;refine OG 6<|aal (ag t.S t.i>=0) 19 (λ h3=>?_) λ h3=>?_
  ·refine ah 8 [.o 0,.nw] [aX ((ag t.S t.i)+6)] λ _=>aai [] [0] (al ((ag t.S t.i)+6) 0 hM) ?_;rintro _ T4 XE;refine ae 1 [] λ _=>Ue ((M.set ((ag t.S t.i)+6) 0),T4) [0] [0] ?_
   try dsimp only
   refine⟨?_,XE.weak (by omega)⟩
   first|(simp only[eJ,if_pos h3];try rfl;done)|rfl
  ·refine ae 2 [] λ _=>Ue (M,T) [0] [0] ?_
   try dsimp only
   refine⟨?_,hM.weak (by omega)⟩
   first|(simp only[eJ,if_neg h3];try rfl;done)|rfl
 ·rintro⟨rW,UB⟩ ⟨WQ,UM⟩;refine OG 2<|RN.cut (σ:=MemS×HL) (λ ⟨X2,Wn⟩=>⟨[(0,vP tb 0)],[(tb,.lit (Stp.l t mb) 253 (0,0))],[Wn],X2=d7 t rW/\MemH mb X2 (k+5) Wn,0⟩) ?_ ?_
  ·intro Wx;refine Sr 7 [.o 0]<|aah (lz (t:=t) t.i (tb:=tb) (mb:=mb) (ay 0) hS.up)<|OG 2<|aal (movP t.S t.i) 32 (λ h7=>?_) λ h7=>?_
   ·have:=movP.has h7;refine Sr 8 [.o 0]<|aah (gm (t:=t) (i:=t.i) (tb:=tb) (ay 0) hS.up UM (ar 0) (movP.has h7))<|ae 5 (ow 0 5) λ n8=>aak [9] []<|af [] [0,2,1,3,4,5,6] [.o 0,.o 0,.o 1,.o 1]<|aac [] 7 (λ X_=>(eV (⟨(au t.S rW t.i).vx,(au t.S rW t.i).vy⟩:V2) t.S.g))<|aae 8 (aag [] [] λ n9=>?_);refine Sx 9 [] (aab 2)<|QQ 3<|aak [] []<|af [] [0,4,1,5,2,6,3,7] (ow 2 17)<|aac [] 8 (λ X_=>(ly t.i hS.toSetN)) ?_;have aov:=lx hS.toSetN t.i;refine afZ [9]<|QQ 7<|aal (ai t.S t.i>=0) 57 (λ Ve=>?_) λ Ve=>?_
    ·refine OG 2<|aak [] []<|aH [] [0,4,7,11,1,5,8,12,2,9,3,10] [.nw,.nw,.o 2,.o 2] [aX ((ai t.S t.i)+1),aX ((ai t.S t.i)+0)]<|aac [] 6 (λ X_=>(aA ((ai t.S t.i)+0) UM (aL 0)))<|aac [] 13 (λ X_=>(aA ((ai t.S t.i)+1) UM (aL 0)))<|afZ [14,15]<|QQ 1<|aak [17] []<|af [] [0,1,2,8,9,3,10,4,11,5,12,6,13,7,14,15] [.o 0,.o 0,.o 2,.o 2]<|aac [] 16 (λ X_=>(eV (br (⟨(au t.S rW t.i).vx,(au t.S rW t.i).vy⟩:V2) t.S.g) (⟨i64.wrap ((rW.get ((ai t.S t.i)+0))*t.S.push),i64.wrap ((rW.get ((ai t.S t.i)+1))*t.S.push)⟩:V2)))<|Sx 17 [] (aab 2)<|QQ 2<|aak [8] []<|af [] [0,1,2,3,4,5,6] [.o 0,.o 0,.o 2]<|aac [] 7 (λ X_=>(gl (br (br (⟨(au t.S rW t.i).vx,(au t.S rW t.i).vy⟩:V2) t.S.g) (⟨i64.wrap ((rW.get ((ai t.S t.i)+0))*t.S.push),i64.wrap ((rW.get ((ai t.S t.i)+1))*t.S.push)⟩:V2)) (i64.wrap (1024-t.S.drag))))<|Sx 8 [] (aab 2)<|QQ 2<|aak [] []<|af [] [0,4,1,5,2,6,3,7] (ow 2 17)<|aac [] 8 (λ X_=>(dh t.i hS.toSetN)) ?_;have aiG:=dg hS.toSetN t.i;refine afZ [9]<|QQ 2<|aak [11] []<|aH [] [0,4,6,1,5,7,2,3,9,10] [.nw,.o 0,.o 2] [aX ((ag t.S t.i)+2)]<|aac [] 8 (λ X_=>(dG ((ao (br (br (⟨(au t.S rW t.i).vx,(au t.S rW t.i).vy⟩:V2) t.S.g) (⟨i64.wrap ((rW.get ((ai t.S t.i)+0))*t.S.push),i64.wrap ((rW.get ((ai t.S t.i)+1))*t.S.push)⟩:V2)) (i64.wrap (1024-t.S.drag))).x) (-16384) 16384))<|aae 11 (aaf [] [] [0] (al ((ag t.S t.i)+2) (bF ((ao (br (br (⟨(au t.S rW t.i).vx,(au t.S rW t.i).vy⟩:V2) t.S.g) (⟨i64.wrap ((rW.get ((ai t.S t.i)+0))*t.S.push),i64.wrap ((rW.get ((ai t.S t.i)+1))*t.S.push)⟩:V2)) (i64.wrap (1024-t.S.drag))).x) (-16384) 16384) UM) ?_);rintro _ U2 UN;refine QQ 1<|aak [11] []<|aH [] [0,4,6,1,5,7,2,3,9,10] [.nw,.o 0,.o 2] [aX ((ag t.S t.i)+3)]<|aac [] 8 (λ X_=>(dG ((ao (br (br (⟨(au t.S rW t.i).vx,(au t.S rW t.i).vy⟩:V2) t.S.g) (⟨i64.wrap ((rW.get ((ai t.S t.i)+0))*t.S.push),i64.wrap ((rW.get ((ai t.S t.i)+1))*t.S.push)⟩:V2)) (i64.wrap (1024-t.S.drag))).y) (-16384) 16384))<|aae 11 (aaf [] [] [0] (al ((ag t.S t.i)+3) (bF ((ao (br (br (⟨(au t.S rW t.i).vx,(au t.S rW t.i).vy⟩:V2) t.S.g) (⟨i64.wrap ((rW.get ((ai t.S t.i)+0))*t.S.push),i64.wrap ((rW.get ((ai t.S t.i)+1))*t.S.push)⟩:V2)) (i64.wrap (1024-t.S.drag))).y) (-16384) 16384) UN) ?_);rintro _ Vf Ul;refine aad<|Wx (((rW.set ((ag t.S t.i)+2) (bF ((ao (br (br (⟨(au t.S rW t.i).vx,(au t.S rW t.i).vy⟩:V2) t.S.g) (⟨i64.wrap ((rW.get ((ai t.S t.i)+0))*t.S.push),i64.wrap ((rW.get ((ai t.S t.i)+1))*t.S.push)⟩:V2)) (i64.wrap (1024-t.S.drag))).x) (-16384) 16384)).set ((ag t.S t.i)+3) (bF ((ao (br (br (⟨(au t.S rW t.i).vx,(au t.S rW t.i).vy⟩:V2) t.S.g) (⟨i64.wrap ((rW.get ((ai t.S t.i)+0))*t.S.push),i64.wrap ((rW.get ((ai t.S t.i)+1))*t.S.push)⟩:V2)) (i64.wrap (1024-t.S.drag))).y) (-16384) 16384)),Vf) [2] [0] ?_
     try dsimp only
     refine⟨?_,Ul.weak (by omega)⟩
     first|(simp only[d7,fU,if_pos h7,if_pos Ve];try rfl;done)|rfl
    ·refine OG 4<|aak [8] []<|af [] [0,1,2,3,4,5,6] [.o 0,.o 0,.o 2]<|aac [] 7 (λ X_=>(gl (br (⟨(au t.S rW t.i).vx,(au t.S rW t.i).vy⟩:V2) t.S.g) (i64.wrap (1024-t.S.drag))))<|Sx 8 [] (aab 2)<|QQ 2<|aak [] []<|af [] [0,4,1,5,2,6,3,7] (ow 2 17)<|aac [] 8 (λ X_=>(dh t.i hS.toSetN)) ?_;have aot:=dg hS.toSetN t.i;refine afZ [9]<|QQ 2<|aak [11] []<|aH [] [0,4,6,1,5,7,2,3,9,10] [.nw,.o 0,.o 2] [aX ((ag t.S t.i)+2)]<|aac [] 8 (λ X_=>(dG ((ao (br (⟨(au t.S rW t.i).vx,(au t.S rW t.i).vy⟩:V2) t.S.g) (i64.wrap (1024-t.S.drag))).x) (-16384) 16384))<|aae 11 (aaf [] [] [0] (al ((ag t.S t.i)+2) (bF ((ao (br (⟨(au t.S rW t.i).vx,(au t.S rW t.i).vy⟩:V2) t.S.g) (i64.wrap (1024-t.S.drag))).x) (-16384) 16384) UM) ?_);rintro _ T18 Y0;refine QQ 1<|aak [11] []<|aH [] [0,4,6,1,5,7,2,3,9,10] [.nw,.o 0,.o 2] [aX ((ag t.S t.i)+3)]<|aac [] 8 (λ X_=>(dG ((ao (br (⟨(au t.S rW t.i).vx,(au t.S rW t.i).vy⟩:V2) t.S.g) (i64.wrap (1024-t.S.drag))).y) (-16384) 16384))<|aae 11 (aaf [] [] [0] (al ((ag t.S t.i)+3) (bF ((ao (br (⟨(au t.S rW t.i).vx,(au t.S rW t.i).vy⟩:V2) t.S.g) (i64.wrap (1024-t.S.drag))).y) (-16384) 16384) Y0) ?_);rintro _ Zw YZ;refine aad<|Wx (((rW.set ((ag t.S t.i)+2) (bF ((ao (br (⟨(au t.S rW t.i).vx,(au t.S rW t.i).vy⟩:V2) t.S.g) (i64.wrap (1024-t.S.drag))).x) (-16384) 16384)).set ((ag t.S t.i)+3) (bF ((ao (br (⟨(au t.S rW t.i).vx,(au t.S rW t.i).vy⟩:V2) t.S.g) (i64.wrap (1024-t.S.drag))).y) (-16384) 16384)),Zw) [2] [0] ?_
     try dsimp only
     refine⟨?_,YZ.weak (by omega)⟩
     first|(simp only[d7,fU,if_pos h7,if_neg Ve];try rfl;done)|rfl
   ·refine ae 2 [] λ _=>Wx (rW,UB) [0] [0] ?_
    try dsimp only
    refine⟨?_,UM.weak (by omega)⟩
    first|(simp only[d7,fU,if_neg h7];try rfl;done)|rfl
  ·rintro⟨X2,Wn⟩ ⟨Ze,YX⟩;refine OG 3<|aak [] []<|af [] [0,5,1,6,2,7,3,8,4,9,10,11] (aab 2)<|QQ 1<|aal (i64.wrap (t.i+1)<(t.S.nb:Int)) 141 (λ h22=>?_) λ h22=>?_
   ·refine OG 2<|aak [11] []<|af [] [0,4,1,5,2,6,3,7,8,9,10] (aab 2)<|aae 11 (aaf [] [] [0] (al 2 (i64.wrap (t.i+1)) YX) ?_);rintro _ X1 acs;refine QQ 1<|QI [] [0] [0] (.tuple #[]) (ap [(tb,.lit (Stp.l t mb) 253 (0,0))] [X1]) ⟨X1,rfl,?_⟩;have e:(dP t M)=(X2.set 2 (i64.wrap (t.i+1))):=by
     first|(simp only[dP,fV,<- WQ,<- Ze,if_pos h22];try rfl;done)|rfl
    rw[e];exact acs.weak (by omega)
   ·refine OG 6<|aai [0] [0] (fi t 4 1 tb (k+2) YX hS.up ) ?_;rintro _ T25 Xp;refine Sr 7 [.o 0]<|aai [] [0] (al 4 0 Xp) ?_;rintro _ Zh WN;refine OG 1<|QI [] [0] [0] (.tuple #[]) (ap [(tb,.lit (Stp.l t mb) 253 (0,0))] [Zh]) ⟨Zh,rfl,?_⟩;have e:(dP t M)=((aZ t 4 1 X2).set 4 0):=by
     first|(simp only[dP,fV,<- WQ,<- Ze,if_neg h22];try rfl;done)|rfl
    rw[e];exact WN.weak (by omega)
theorem Bc (hM:MemH mb M (k+4) T) (hS:SetIn F t.S) (hi:movP t.S t.i):af1 191 #[vP tb 0] (ap [(tb,.lit (Stp.l t mb) 253 (0,0))] [T]) F (λ u H'=>∃x,H'=ap [(tb,.lit (Stp.l t mb) 253 (0,0))] [x]/\(MemH mb (cI t M) k x)):=by
 have hp:=hS.pl;have hn:=hS.nb;have hr:=hS.room;refine QF Tryz.func191 (mc hS.blk mn)<|Sr 7 [.o 0]<|aah (gm (t:=t) (i:=t.i) (tb:=tb) (ay 0) hS.up hM (ar 0) (movP.has hi))<|ae 10 (ow 0 5++[.o 1]) λ n1=>aah (aA 5 hM (ar 0))<|OG 6<|aak [8] []<|af [] [0,2,4,1,3] (aab 4)<|aac [] 5 (λ X_=>(lu (⟨(au t.S M t.i).vx,(au t.S M t.i).vy⟩:V2) (if i64.wrap ((M.get 5)+128)<1024 then i64.wrap ((M.get 5)+128) else 1024) 1024))<|aac [] 6 (λ X_=>(eV (⟨(au t.S M t.i).px,(au t.S M t.i).py⟩:V2) (eM (⟨(au t.S M t.i).vx,(au t.S M t.i).vy⟩:V2) (if i64.wrap ((M.get 5)+128)<1024 then i64.wrap ((M.get 5)+128) else 1024) 1024)))<|aae 7 (aag [] [] λ n2=>?_);refine Sx 8 [] (aab 2)<|QQ 2<|aak [16] []<|af [] [0,4,9,1,5,10,2,6,11,3,7,12,13] (ow 2 21)<|aac [] 8 (λ X_=>(dh t.i hS.toSetN)) ?_;have hb3:=dg hS.toSetN t.i;refine aae 14 (aag [] [] λ n4=>?_);refine afZ [15]<|Sx 16 [] (aab 4)<|aad<|ah 14 [.nw,.nw,.o 1,.o 0,.o 0] [aX ((ag t.S t.i)+2),aX ((ag t.S t.i)+0)] λ _=>aai [3] [0] (uk t ((ag t.S t.i)+0) ((ag t.S t.i)+2) ((br (⟨(au t.S M t.i).px,(au t.S M t.i).py⟩:V2) (eM (⟨(au t.S M t.i).vx,(au t.S M t.i).vy⟩:V2) (if i64.wrap ((M.get 5)+128)<1024 then i64.wrap ((M.get 5)+128) else 1024) 1024)).x) t.S.box.x0 t.S.box.x1 tb (k+2) hM hS.up ) ?_;rintro _ T5 Vc;refine ah 14 [.nw,.nw,.o 2,.o 1,.o 1] [aX ((ag t.S t.i)+3),aX ((ag t.S t.i)+1)] λ _=>aai [0] [0] (uk t ((ag t.S t.i)+1) ((ag t.S t.i)+3) ((br (⟨(au t.S M t.i).px,(au t.S M t.i).py⟩:V2) (eM (⟨(au t.S M t.i).vx,(au t.S M t.i).vy⟩:V2) (if i64.wrap ((M.get 5)+128)<1024 then i64.wrap ((M.get 5)+128) else 1024) 1024)).y) t.S.box.y0 t.S.box.y1 tb k Vc hS.up ) ?_;rintro _ T7 Wt;refine OG 1<|QI [] [0] [0] (.tuple #[]) (ap [(tb,.lit (Stp.l t mb) 253 (0,0))] [T7]) ⟨T7,rfl,?_⟩;have e:(cI t M)=(dD t ((ag t.S t.i)+1) ((ag t.S t.i)+3) ((br (⟨(au t.S M t.i).px,(au t.S M t.i).py⟩:V2) (eM (⟨(au t.S M t.i).vx,(au t.S M t.i).vy⟩:V2) (if i64.wrap ((M.get 5)+128)<1024 then i64.wrap ((M.get 5)+128) else 1024) 1024)).y) t.S.box.y0 t.S.box.y1 (dD t ((ag t.S t.i)+0) ((ag t.S t.i)+2) ((br (⟨(au t.S M t.i).px,(au t.S M t.i).py⟩:V2) (eM (⟨(au t.S M t.i).vx,(au t.S M t.i).vy⟩:V2) (if i64.wrap ((M.get 5)+128)<1024 then i64.wrap ((M.get 5)+128) else 1024) 1024)).x) t.S.box.x0 t.S.box.x1 M)):=by
  first|(simp only[cI,gE,lX,if_pos hi];try rfl;done)|rfl
 rw[e];exact Wt.weak (by omega)
theorem ShIn.up{X:HL}(h:ShIn F s):ShIn (X++F) s:=h.mono λ x hx=>aaz _ hx
def isZ(a:V2):Prop:=((decide (a.x=0) && (decide (a.y=0) && true)))=true
instance (a:V2):Decidable (isZ a):=inferInstanceAs (Decidable (_=true))
def im(a:V2):V2:=if isZ (kS a) then ⟨1024,0⟩ else kS a
def gL(pos ax:V2)(l:List V2):Nat->Int×Int
 |0=>(0,0)
 |k+1=>if (k:Int)=0 then (if cS (br pos (l.getD k ⟨0,0⟩)) ax<cS (br pos (l.getD k ⟨0,0⟩)) ax then cS (br pos (l.getD k ⟨0,0⟩)) ax else cS (br pos (l.getD k ⟨0,0⟩)) ax,if cS (br pos (l.getD k ⟨0,0⟩)) ax>cS (br pos (l.getD k ⟨0,0⟩)) ax then cS (br pos (l.getD k ⟨0,0⟩)) ax else cS (br pos (l.getD k ⟨0,0⟩)) ax)
  else (if cS (br pos (l.getD k ⟨0,0⟩)) ax<(gL pos ax l k).1 then cS (br pos (l.getD k ⟨0,0⟩)) ax else (gL pos ax l k).1,if cS (br pos (l.getD k ⟨0,0⟩)) ax>(gL pos ax l k).2 then cS (br pos (l.getD k ⟨0,0⟩)) ax else (gL pos ax l k).2)
def i5(s:Shp)(pos ax:V2):Int×Int:=if jD s then (aV (cS pos ax-s.r),aV (cS pos ax+s.r)) else gL pos ax s.poly s.poly.length
def m8(a:Shp)(pa:V2)(b:Shp)(pb ax:V2):Int:=aV ((if (i5 b pb ax).2<(i5 a pa ax).2 then (i5 b pb ax).2 else (i5 a pa ax).2)-(if (i5 b pb ax).1>(i5 a pa ax).1 then (i5 b pb ax).1 else (i5 a pa ax).1))
def Qy(off v:V2):Int:=aV (aV ((br off v).x*(br off v).x)+aV ((br off v).y*(br off v).y))
def eX(off:V2)(l:List V2):Nat->V2×Int
 |0=>(l.getD 0 ⟨0,0⟩,Qy off (l.getD 0 ⟨0,0⟩))
 |k+1=>if Qy off (l.getD (1+k) ⟨0,0⟩)<(eX off l k).2 then (l.getD (1+k) ⟨0,0⟩,Qy off (l.getD (1+k) ⟨0,0⟩)) else eX off l k
def jE(c:V2)(s:Shp)(pos:V2):V2:=br (dm pos c) (eX (dm pos c) s.poly (s.poly.length-1)).1
theorem i6(a:V2):af0 262 #[.agg #[vI a.x,vI a.y]] F (.agg #[vI ((im a).x),vI ((im a).y)]):=by
 refine QG Tryz.func262<|ae 10 [.o 1,.o 1] λ n1=>aah (Ew a)<|ae 11 (aab 4++[.sq]) λ n2=>rv ((decide ((kS a).x=0) && (decide ((kS a).y=0) && true))) 8 (λ h3=>?_) λ h3=>?_
 ·refine Sr 9 [.o 1,.o 1]<|QI [.o 1,.o 1] [] [] (.agg #[vI 1024,vI 0]) [] ⟨?_,rfl⟩
  first|rw[show im a=⟨1024,0⟩ from if_pos (by assumption)]|rw[show im a=kS a from if_neg (by assumption)]
 ·refine Sr 7 [.o 0,.o 0,.o 1,.o 1]<|QI [.o 1,.o 1] [] [] (.agg #[vI ((kS a).x),vI ((kS a).y)]) [] ⟨?_,rfl⟩
  first|rw[show im a=⟨1024,0⟩ from if_pos (by assumption)]|rw[show im a=kS a from if_neg (by assumption)]
theorem xQ(A:Option Addr)(cap:Nat)(pos ax:V2)(F:HL):af0 265 #[.agg #[vI r,.slice A 0 cap],.agg #[vI pos.x,vI pos.y],.agg #[vI ax.x,vI ax.y]] F (.tuple #[vI (i5 ⟨r,[],A,cap⟩ pos ax).1,vI (i5 ⟨r,[],A,cap⟩ pos ax).2]):=by
 refine QG Tryz.func265<|ae 13 [.o 2,.o 2] λ n1=>aah (pg r A 0 cap)<|Sr 7 [.o 1,.o 1,.o 0,.o 0]<|aah (nY pos ax)<|OG 4<|aak [] []<|af [] [0,1,4,5,2,6,3,7,8,9] [.o 2,.o 2]<|aad<|ae 1 [] λ _=>QJ _ _ ⟨rfl,rfl⟩
theorem EB{l:List V2}(hb:(b,.rows 2 cap (jL l) 30 (0,0))∈F)(We:3<=l.length)(h4:l.length<=cap)(h5:l.length<=1000000):af0 265 #[.agg #[vI r,vS b 0 l.length cap],.agg #[vI pos.x,vI pos.y],.agg #[vI ax.x,vI ax.y]] F (.tuple #[vI (i5 ⟨r,l,some ⟨b,0,none⟩,cap⟩ pos ax).1,vI (i5 ⟨r,l,some ⟨b,0,none⟩,cap⟩ pos ax).2]):=by
 refine QH Tryz.func265 hb<|ae 13 [.o 2,.o 2] λ n1=>aah (pg r (some ⟨b,0,none⟩) l.length cap)<|OG 2<|ci 13 (abv (show ¬ ((l.length:Int)=0) by omega))<|Sr 13 [.o 2]<|aan (σ:=Nat) (λ k=>⟨[(4,vP (n1+1) 0),(5,vP (n1+2) 0),(6,vI ((gL pos ax l k).1)),(7,vI ((gL pos ax l k).2)),(26,vS b 0 l.length cap),(27,vI (l.length:Int)),(28,vI (k:Int))],[((n1+2),.lit [vI ax.x,vI ax.y] 30 (0,0)),((n1+1),.lit [vI pos.x,vI pos.y] 30 (0,0)),((n1+0),.lit [vI r,vS b 0 l.length cap] 71 (0,0))],[],k<=l.length,l.length-k⟩) 0 [0,1,2] [] (aaJ _) ?_;rintro k hI2 UC;refine OG 6<|aal ((k:Int)<(l.length:Int)) 29 (λ h4=>?_) λ h4=>?_
 ·refine ah 16 [.ix k,.rorow 0 k 0,.rorow 0 k 1,.o 0,.o 0] [((0+k*2)+1)=k*2+1/\k<cap,(0+k*2)=k*2+0/\k<cap,(k:Int)=((k:Nat):Int)/\k<l.length] λ n5=>aak [] []<|af [] [0,1,3] [.o 2,.o 2,.o 0,.o 0,.o 1,.o 1]<|aac [] 2 (λ X_=>(eV pos (l.getD k ⟨0,0⟩)))<|aac [] 4 (λ X_=>(nY (br pos (l.getD k ⟨0,0⟩)) ax))<|afZ [5]<|QQ 8<|aal ((k:Int)=0) 39 (λ h6=>?_) λ h6=>?_
  ·refine ah 24 [.nw] [aX ((k:Int)+1)] λ _=>?_;have e_:gL pos ax l (k+1)=(if cS (br pos (l.getD k ⟨0,0⟩)) ax<cS (br pos (l.getD k ⟨0,0⟩)) ax then cS (br pos (l.getD k ⟨0,0⟩)) ax else cS (br pos (l.getD k ⟨0,0⟩)) ax,if cS (br pos (l.getD k ⟨0,0⟩)) ax>cS (br pos (l.getD k ⟨0,0⟩)) ax then cS (br pos (l.getD k ⟨0,0⟩)) ax else cS (br pos (l.getD k ⟨0,0⟩)) ax):=by
    rw[gL,if_pos h6]
   refine aw 6 (congrArg (λ v_=>(vI v_:Value)) (congrArg Prod.fst e_).symm)<|aw 7 (congrArg (λ v_=>(vI v_:Value)) (congrArg Prod.snd e_).symm)<|UC (k+1) [1,2,3] [] ?_
   try dsimp only
   exact⟨by omega,by omega⟩
  ·refine ah 19 [.nw] [aX ((k:Int)+1)] λ _=>?_;have e_:gL pos ax l (k+1)=(if cS (br pos (l.getD k ⟨0,0⟩)) ax<(gL pos ax l k).1 then cS (br pos (l.getD k ⟨0,0⟩)) ax else (gL pos ax l k).1,if cS (br pos (l.getD k ⟨0,0⟩)) ax>(gL pos ax l k).2 then cS (br pos (l.getD k ⟨0,0⟩)) ax else (gL pos ax l k).2):=by
    rw[gL,if_neg h6]
   refine aw 6 (congrArg (λ v_=>(vI v_:Value)) (congrArg Prod.fst e_).symm)<|aw 7 (congrArg (λ v_=>(vI v_:Value)) (congrArg Prod.snd e_).symm)<|UC (k+1) [1,2,3] [] ?_
   try dsimp only
   exact⟨by omega,by omega⟩
 ·refine OG 14<|QJ (.tuple #[vI ((gL pos ax l k).1),vI ((gL pos ax l k).2)]) [] ?_;have ek:k=l.length:=by omega
  subst ek;refine⟨?_,rfl⟩;unfold i5;rw[if_neg (by intro e;simp[jD] at e;rw[e] at We;simp at We)]
theorem xR(h:ShIn F s):af0 265 #[Qw s,.agg #[vI pos.x,vI pos.y],.agg #[vI ax.x,vI ax.y]] F (.tuple #[vI (i5 s pos ax).1,vI (i5 s pos ax).2]):=by
 cases h with
 |circle r A cap=>exact xQ r A cap pos ax F
 |poly r l b cap h h3 h4 h5=>exact EB r pos ax h h3 h4 h5
theorem EC{a:Shp}(pa:V2){b:Shp}(pb ax:V2)(ha:ShIn F a)(hb:ShIn F b):af0 237 #[.agg #[vI a.r,.slice a.A a.poly.length a.cap],.agg #[vI pa.x,vI pa.y],.agg #[vI b.r,.slice b.A b.poly.length b.cap],.agg #[vI pb.x,vI pb.y],.agg #[vI ax.x,vI ax.y]] F (vI (m8 a pa b pb ax)):=by
 refine QG Tryz.func237<|ae 15 [.o 4,.o 4,.o 3,.o 3,.o 0,.o 0] λ n1=>aah (xR pa ax (ha.up))<|Sr 12 [.o 2,.o 2,.o 1,.o 1,.o 0,.o 0]<|aah (xR pb ax (hb.up))<|ae 19 [] λ _=>QJ _ _ ⟨rfl,rfl⟩
theorem CV(v off:V2)(hq:(q,.lit [vI off.x,vI off.y] 30 (0,0))∈F):af0 298 #[.agg #[vI v.x,vI v.y],vP q 0] F (vI (Qy off v)):=by
 refine QH Tryz.func298 hq<|ae 10 [.ro 0,.ro 0,.o 0,.o 0] λ n1=>aah (eV off v)<|ae 20 (ow 0 6) λ n2=>QJ _ _ ⟨rfl,rfl⟩
theorem ED{l:List V2}(hb:(b,.rows 2 cap (jL l) 30 (0,0))∈F)(h3:3<=l.length)(h4:l.length<=cap)(h5:l.length<=1000000)(hq:(q,.lit [vI off.x,vI off.y] 30 (0,0))∈F):af0 297 #[vS b 0 l.length cap,.func (.func 298) #[] #[vP q 0]] F (.agg #[vI (((eX off l (l.length-1)).1).x),vI (((eX off l (l.length-1)).1).y)]):=by
 refine rx Tryz.func297 (mc hb (mc hq mn)) [] []<|ae 6 [] λ n1=>aak [9] [0]<|aH [0] [0,3,4,1,5,2,6] [.ix 0,.ix 0,.rorow 0 0 0,.rorow 0 0 1,.rorow 0 0 0,.rorow 0 0 1] [((0+0*2)+1)=0*2+1/\0<cap,(0+0*2)=0*2+0/\0<cap,((0+0*2)+1)=0*2+1/\0<cap,(0+0*2)=0*2+0/\0<cap,0=((0:Nat):Int)/\0<l.length,0=((0:Nat):Int)/\0<l.length]<|aac [0] 7 (λ X_=>(CV (l.getD 0 ⟨0,0⟩) off (aaz _ (aaz _ hq))))<|aae 8 (aag [] [] λ n3=>?_);refine Sx 9 [1] (aab 2)<|af [1] [10] []<|aad<|ah 11 [.sl 1 l.length false] [1=((1:Nat):Int)/\l.length=l.length/\1<=l.length/\l.length<=cap/\cap≠1] λ _=>aan (σ:=Nat) (λ k=>⟨[(1,.func (.func 298) #[] #[vP q 0]),(4,vP (n1+0) 0),(5,vP (n3+0) 0),(6,vI ((eX off l k).2)),(19,vS b 2 (l.length-1) (cap-1)),(20,vI (((l.length-1):Nat):Int)),(21,vI (k:Int))],[((n3+0),.lit [vI ((eX off l k).1.x),vI ((eX off l k).1.y)] 30 (0,0)),((n1+0),.lit [vI 0,vI 0] 30 (0,0))],[],k<=l.length-1,l.length-k⟩) 0 [0,1] [] (aaJ _) ?_;rintro k hI4 Zk;refine OG 6<|aal ((k:Int)<(((l.length-1):Nat):Int)) 22 (λ h6=>?_) λ h6=>?_
 ·refine ah 17 [.ix k,.rorow 0 (1+k) 0,.rorow 0 (1+k) 1,.o 0,.o 0,.o 0,.o 0] [((2+k*2)+1)=(1+k)*2+1/\(1+k)<cap,(2+k*2)=(1+k)*2+0/\(1+k)<cap,(k:Int)=((k:Nat):Int)/\k<(l.length-1)] λ n7=>aah (CV (l.getD (1+k) ⟨0,0⟩) off (aaz _ hq))<|OG 10<|aal (Qy off (l.getD (1+k) ⟨0,0⟩)<(eX off l k).2) 30 (λ h8=>?_) λ h8=>?_
  ·refine ah 13 [.o 0,.o 0,.o 1,.o 1,.nw] [aX ((k:Int)+1)] λ _=>?_;have e_:eX off l (k+1)=(l.getD (1+k) ⟨0,0⟩,Qy off (l.getD (1+k) ⟨0,0⟩)):=by rw[eX,if_pos h8]
   refine aw 6 (congrArg (λ v_=>(vI v_:Value)) (congrArg Prod.snd e_).symm)<|RN.bv 1 (congrArg (λ v_=>(.lit [vI v_.1.x,vI v_.1.y] 30 (0,0):Blk)) e_.symm)<|Zk (k+1) [1,2] [] ?_
   try dsimp only
   exact⟨by omega,by omega⟩
  ·refine ah 8 [.nw] [aX ((k:Int)+1)] λ _=>?_;have e_:eX off l (k+1)=eX off l k:=by rw[eX,if_neg h8]
   refine aw 6 (congrArg (λ v_=>(vI v_:Value)) (congrArg Prod.snd e_).symm)<|RN.bv 1 (congrArg (λ v_=>(.lit [vI v_.1.x,vI v_.1.y] 30 (0,0):Blk)) e_.symm)<|Zk (k+1) [1,2] [] ?_
   try dsimp only
   exact⟨by omega,by omega⟩
 ·refine Sr 12 [.o 0,.o 0,.o 1,.o 1]<|QI [.o 1,.o 1] [] [] (.agg #[vI ((eX off l k).1.x),vI ((eX off l k).1.y)]) [] ?_;have ek:k=l.length-1:=by omega
  subst ek;exact⟨rfl,rfl⟩
end
end Go.Proofs.YtjokannbjmndfaaGreatDoor
