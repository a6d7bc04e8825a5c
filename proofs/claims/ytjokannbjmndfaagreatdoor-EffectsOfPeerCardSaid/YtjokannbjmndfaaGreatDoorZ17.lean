import Derived.Test.YtjokannbjmndfaaGreatDoorZ16
import Derived.Test.YtjokannbjmndfaaGreatDoorZ14
set_option linter.all false
set_option maxHeartbeats 4000000
set_option maxRecDepth 100000
namespace Go.Proofs.YtjokannbjmndfaaGreatDoor
open IntKind
open Go.RowKit
section
variable {F T:HL} {M:MemS} {mb:Nat}
theorem HO(t:Stp) (tb:Nat) (k:Nat) (hM:MemH mb M (k+14) T) (hS:SetIn F t.S) :af1 139 #[vP tb 0] (ap [(tb,.lit (Stp.l t mb) 253 (0,0))] [T]) F (λ u H'=>∃x,H'=ap [(tb,.lit [.iface 95 (vP mb 0),vI t.S.players,vS t.S.bb (t.S.bo*9) t.S.nb t.S.bc,vI t.S.box.x0,vI t.S.box.y0,vI t.S.box.x1,vI t.S.box.y1,.slice t.S.rA t.S.rn t.S.rc,.slice t.S.dA t.S.dn t.S.dc,vI t.S.fog,vI t.S.g.x,vI t.S.g.y,vI t.S.push,vI t.S.drag,vI t.S.rest,vI t.S.rounds,vI t.S.fuel,.slice t.cA t.cn t.cc,vI t.e0,vI t.e1,vI t.e2,vI t.version,vS t.ib (t.io*3) t.ni t.ic,vI t.i,vI t.j,.bool (js t),vI t.f0,vI t.f1,vI t.f2,vI t.f3,.bool t.emitted] 253 (0,0))] [x]/\(MemH mb (fN t M) k x)):=by
 have hp:=hS.pl;have hn:=hS.nb;have hr:=hS.room;refine QF Tryz.func139 (mc hS.blk mn)<|OG 2<|aak [] []<|af [] [0,4,1,5,2,6,3,7] (ow 0 17)<|aac [] 8 (λ X_=>(dh t.i hS.toSetN)) ?_;have Xo:=dg hS.toSetN t.i;refine afZ [9]<|QQ 1<|RN.cut (σ:=MemS×HL) (λ ⟨rW,UB⟩=>⟨[(0,vP tb 0)],[(tb,.lit (Stp.l t mb) 253 (0,0))],[UB],rW=fB t M/\MemH mb rW (k+13) UB,0⟩) ?_ ?_
 ·intro Ue;refine OG 6<|aal (ag t.S t.i>=0) 15 (λ h3=>?_) λ h3=>?_
  ·refine ah 15 [.o 0,.nw] [aX ((ag t.S t.i)+2)] λ _=>aah (aA ((ag t.S t.i)+2) hM (ar 0))<|OG 2<|aal (M.get ((ag t.S t.i)+2)=0) 24 (λ h4=>?_) λ h4=>?_
   ·refine ah 6 [.o 0,.nw] [aX ((ag t.S t.i)+3)] λ _=>aah (aA ((ag t.S t.i)+3) hM (ar 0))<|OG 4<|aal (M.get ((ag t.S t.i)+3)=0) 33 (λ h5=>?_) λ h5=>?_
    ·refine ah 8 [.o 0,.nw] [aX ((ag t.S t.i)+7)] λ _=>aah (aA ((ag t.S t.i)+7) hM (ar 0))<|ah 13 [.o 0,.nw] [aX ((ag t.S t.i)+7)] λ _=>aai [] [0] (al ((ag t.S t.i)+7) (if 1000<i64.wrap ((M.get ((ag t.S t.i)+7))+1) then 1000 else i64.wrap ((M.get ((ag t.S t.i)+7))+1)) hM) ?_;rintro _ T6 YY;refine ae 1 [] λ _=>Ue ((M.set ((ag t.S t.i)+7) (if 1000<i64.wrap ((M.get ((ag t.S t.i)+7))+1) then 1000 else i64.wrap ((M.get ((ag t.S t.i)+7))+1))),T6) [0] [0] ?_
     try dsimp only
     refine⟨?_,YY.weak (by omega)⟩
     first|(simp only[fB,if_pos h3,if_pos h4,if_pos h5];try rfl;done)|rfl
    ·refine ah 11 [.o 0,.nw] [aX ((ag t.S t.i)+7)] λ _=>aai [] [0] (al ((ag t.S t.i)+7) 0 hM) ?_;rintro _ T8 XW;refine ae 1 [] λ _=>Ue ((M.set ((ag t.S t.i)+7) 0),T8) [0] [0] ?_
     try dsimp only
     refine⟨?_,XW.weak (by omega)⟩
     first|(simp only[fB,if_pos h3,if_pos h4,if_neg h5];try rfl;done)|rfl
   ·refine ah 22 [.o 0,.nw] [aX ((ag t.S t.i)+7)] λ _=>aai [] [0] (al ((ag t.S t.i)+7) 0 hM) ?_;rintro _ VI VD;refine ae 1 [] λ _=>Ue ((M.set ((ag t.S t.i)+7) 0),VI) [0] [0] ?_
    try dsimp only
    refine⟨?_,VD.weak (by omega)⟩
    first|(simp only[fB,if_pos h3,if_neg h4];try rfl;done)|rfl
  ·refine ae 2 [] λ _=>Ue (M,T) [0] [0] ?_
   try dsimp only
   refine⟨?_,hM.weak (by omega)⟩
   first|(simp only[fB,if_neg h3];try rfl;done)|rfl
 ·rintro⟨rW,UB⟩ ⟨WQ,UM⟩;refine OG 3<|aak [] []<|af [] [0,5,1,6,2,7,3,8,4,9,10,11] (aab 2)<|QQ 1<|aal (i64.wrap (t.i+1)<(t.S.nb:Int)) 62 (λ UO=>?_) λ UO=>?_
  ·refine OG 2<|aak [11] []<|af [] [0,4,1,5,2,6,3,7,8,9,10] (aab 2)<|aae 11 (aaf [] [] [0] (al 2 (i64.wrap (t.i+1)) UM) ?_);rintro _ U2 UN;refine QQ 1<|QI [] [0] [0] (.tuple #[]) (ap [(tb,.lit (Stp.l t mb) 253 (0,0))] [U2]) ⟨U2,by simp only[js,Stp.l,if_pos UO],?_⟩;have e:(fN t M)=(rW.set 2 (i64.wrap (t.i+1))):=by
    simp only[fN,kT,<- WQ,if_pos UO]
   rw[e];exact UN.weak (by omega)
  ·refine Sr 12 [.o 0]<|aak [12] []<|af [] [0,4,1,5,2,6,3,7,10,11] (aab 2)<|aac [] 8 (λ X_=>(aA 0 UM (aL 0)))<|afZ [9]<|aae 12 (aaf [] [] [0] (al 0 (i64.wrap ((rW.get 0)+1)) UM) ?_);rintro _ Vf Ul;refine QQ 7<|aan (σ:=Nat×HL) (λ ⟨n,T_⟩=>⟨[(0,vP tb 0),(4,vI ((n+1:Nat):Int))],[(tb,.lit [.iface 95 (vP mb 0),vI t.S.players,vS t.S.bb (t.S.bo*9) t.S.nb t.S.bc,vI t.S.box.x0,vI t.S.box.y0,vI t.S.box.x1,vI t.S.box.y1,.slice t.S.rA t.S.rn t.S.rc,.slice t.S.dA t.S.dn t.S.dc,vI t.S.fog,vI t.S.g.x,vI t.S.g.y,vI t.S.push,vI t.S.drag,vI t.S.rest,vI t.S.rounds,vI t.S.fuel,.slice t.cA t.cn t.cc,vI t.e0,vI t.e1,vI t.e2,vI t.version,vS t.ib (t.io*3) t.ni t.ic,vI t.i,vI t.j,.bool true,vI t.f0,vI t.f1,vI t.f2,vI t.f3,.bool t.emitted] 253 (0,0))],[T_],n<=10/\MemH mb (eI (rW.set 0 (i64.wrap ((rW.get 0)+1))) n) (k+10-n) T_,10-n⟩) (0,Vf) [0] [0] (⟨by omega,Ul.weak (by omega)⟩) ?_;rintro⟨n,T_⟩ ⟨hn_,XD⟩ agN;refine OG 7<|aal (((n+1:Nat):Int)<=10) 92 (λ h19=>?_) λ h19=>?_
   ·obtain⟨e_,Xl⟩:∃e,k+10-n=e+1:=⟨k+9-n,by omega⟩;have aiQ:MemH mb (eI (rW.set 0 (i64.wrap ((rW.get 0)+1))) n) (e_+1) T_:=Xl▸XD;refine Sr 11 [.o 0]<|aai [] [0] (al ((n+1:Nat):Int) 0 aiQ) ?_;rintro _ Zw YZ;refine ah 8 [.nw] [aX (((n+1:Nat):Int)+1)] λ _=>agN (n+1,Zw) [0] [0] ?_
    try dsimp only
    refine⟨⟨by omega,YZ.cast (by rw[eI]) (by omega)⟩,by omega⟩
   ·refine OG 5<|QI [] [0] [0] (.tuple #[]) (ap [(tb,.lit [.iface 95 (vP mb 0),vI t.S.players,vS t.S.bb (t.S.bo*9) t.S.nb t.S.bc,vI t.S.box.x0,vI t.S.box.y0,vI t.S.box.x1,vI t.S.box.y1,.slice t.S.rA t.S.rn t.S.rc,.slice t.S.dA t.S.dn t.S.dc,vI t.S.fog,vI t.S.g.x,vI t.S.g.y,vI t.S.push,vI t.S.drag,vI t.S.rest,vI t.S.rounds,vI t.S.fuel,.slice t.cA t.cn t.cc,vI t.e0,vI t.e1,vI t.e2,vI t.version,vS t.ib (t.io*3) t.ni t.ic,vI t.i,vI t.j,.bool true,vI t.f0,vI t.f1,vI t.f2,vI t.f3,.bool t.emitted] 253 (0,0))] [T_]) ⟨T_,by simp only[js,Stp.l,if_neg UO,if_neg h19],?_⟩;have en:n=10:=by omega
    have e:(fN t M)=(eI (rW.set 0 (i64.wrap ((rW.get 0)+1))) n):=by
     rw[en];simp only[fN,kT,<- WQ,if_neg UO,if_neg h19]
    rw[e];exact XD.weak (by omega)
structure Gm where
 S:Setup
 cA:Option Addr
 cn:Nat
 cc:Nat
 e0:Int
 e1:Int
 e2:Int
 version:Int
 ib:Nat
 io:Nat
 ni:Nat
 ic:Nat
 iR:Nat
 ins:List Inp
 code:List Ins
abbrev Gm.step(g:Gm)(M:MemS):Stp:=⟨g.S,g.cA,g.cn,g.cc,g.e0,g.e1,g.e2,g.version,g.ib,g.io,g.ni,g.ic,g.iR,g.ins,M.get 2,M.get 3,false,0,0,0,0,false,g.code⟩
theorem O9(g:Gm)(k:Nat)(hM:MemH mb M (k+20) T)(hS:SetIn F g.S)(hp:M.get 1=0)(hI:(g.ib,.rows 3 g.iR (jM g.ins) 106 (0,0))∈F)(hir:g.io+g.ni<=g.iR/\g.ni<=1000000):af1 104 #[.iface 95 (vP mb 0),.agg #[vI g.S.players,vS g.S.bb (g.S.bo*9) g.S.nb g.S.bc,vI g.S.box.x0,vI g.S.box.y0,vI g.S.box.x1,vI g.S.box.y1,.slice g.S.rA g.S.rn g.S.rc,.slice g.S.dA g.S.dn g.S.dc,vI g.S.fog,vI g.S.g.x,vI g.S.g.y,vI g.S.push,vI g.S.drag,vI g.S.rest,vI g.S.rounds,vI g.S.fuel],.agg #[.slice g.cA g.cn g.cc,vI g.e0,vI g.e1,vI g.e2],vI g.version,vS g.ib (g.io*3) g.ni g.ic] (ap [] [T]) F (λ u H'=>∃x,H'=ap [] [x]/\(MemH mb (dN (g.step M) M) k x/\u=.tuple #[.bool false,.agg #[vI 0,vI 0,vI 0,vI 0],.bool false])):=by
 refine QF Tryz.func104 mn<|ae 29 (ow 0 8) λ n1=>aah (jq hp hM (ar 0))<|OG 18<|aak [] []<|af [] [0,1,2,3,4,5,7] (ow 3 16++(ow 2 4))<|aac [] 6 (λ X_=>(aA 2 hM (aL 0)))<|aac [] 8 (λ X_=>(aA 3 hM (aL 0)))<|afZ [9]<|aae 10 (aag [] [] λ n2=>?_);refine afZ [11]<|aad<|Sr 7 [.o 1]<|aai [0] [0] (Ez (g.step M) (n2+0) (k+12) hM hS.up (aaz _ hI) hir) ?_;rintro _ T3 R_;refine OG 3<|aak [13] [0,1,3,4]<|af [0,1,3,4] [0,4,8,1,5,9,2,6,10,3,7,11,12] (ow 0 5++[.ro 0])<|Sx 13 [0,1,3,4] (ow 2 4)<|af [0,1,3,4] [14] []<|QQ 1<|QI (ow 2 4) [] [0] (.tuple #[.bool false,.agg #[vI 0,vI 0,vI 0,vI 0],.bool false]) (ap [] [T3]) ⟨T3,rfl,R_.weak (by omega),rfl⟩
theorem Pa(g:Gm)(k:Nat)(hM:MemH mb M (k+20) T)(hS:SetIn F g.S)(hp:M.get 1=1)(hE:¬ M.get 3=0->cF F)(hC:CodeIn F g.code g.cA g.cn):af1 104 #[.iface 95 (vP mb 0),.agg #[vI g.S.players,vS g.S.bb (g.S.bo*9) g.S.nb g.S.bc,vI g.S.box.x0,vI g.S.box.y0,vI g.S.box.x1,vI g.S.box.y1,.slice g.S.rA g.S.rn g.S.rc,.slice g.S.dA g.S.dn g.S.dc,vI g.S.fog,vI g.S.g.x,vI g.S.g.y,vI g.S.push,vI g.S.drag,vI g.S.rest,vI g.S.rounds,vI g.S.fuel],.agg #[.slice g.cA g.cn g.cc,vI g.e0,vI g.e1,vI g.e2],vI g.version,vS g.ib (g.io*3) g.ni g.ic] (ap [] [T]) F (λ u H'=>∃x,H'=ap [] [x]/\(MemH mb (eR (g.step M) M).M k x/\u=.tuple #[.bool false,.agg (aaa (eR (g.step M) M).e).toArray,.bool ((eR (g.step M) M).em)])):=by
 refine QF Tryz.func104 mn<|ae 29 (ow 0 8) λ n1=>aah (jq hp hM (ar 0))<|OG 18<|aak [] []<|af [] [0,1,2,3,4,5,7] (ow 3 16++(ow 2 4))<|aac [] 6 (λ X_=>(aA 2 hM (aL 0)))<|aac [] 8 (λ X_=>(aA 3 hM (aL 0)))<|afZ [9]<|aae 10 (aag [] [] λ n2=>?_);refine afZ [11]<|aad<|Sr 7 [.o 1]<|aai [0] [0] (Rm (g.step M) (n2+0) (k+11) hM hS.up (λ h_=>aC (hE h_)) hC.up) ?_;rintro _ T3 R_;refine OG 3<|aak [13] [0,1,3,4]<|af [0,1,3,4] [0,4,8,1,5,9,2,6,10,3,7,11,12] (ow 0 5++[.ro 0])<|Sx 13 [0,1,3,4] (ow 2 4)<|af [0,1,3,4] [14] []<|QQ 1<|QI (ow 2 4) [] [0] (.tuple #[.bool false,.agg (aaa (eR (g.step M) M).e).toArray,.bool ((eR (g.step M) M).em)]) (ap [] [T3]) ⟨T3,rfl,R_.weak (by omega),rfl⟩
theorem Pb(g:Gm)(k:Nat)(hM:MemH mb M (k+20) T)(hS:SetIn F g.S)(hp:M.get 1=2)(hE:¬ M.get 3=0->cF F)(hC:CodeIn F g.code g.cA g.cn):af1 104 #[.iface 95 (vP mb 0),.agg #[vI g.S.players,vS g.S.bb (g.S.bo*9) g.S.nb g.S.bc,vI g.S.box.x0,vI g.S.box.y0,vI g.S.box.x1,vI g.S.box.y1,.slice g.S.rA g.S.rn g.S.rc,.slice g.S.dA g.S.dn g.S.dc,vI g.S.fog,vI g.S.g.x,vI g.S.g.y,vI g.S.push,vI g.S.drag,vI g.S.rest,vI g.S.rounds,vI g.S.fuel],.agg #[.slice g.cA g.cn g.cc,vI g.e0,vI g.e1,vI g.e2],vI g.version,vS g.ib (g.io*3) g.ni g.ic] (ap [] [T]) F (λ u H'=>∃x,H'=ap [] [x]/\(MemH mb (cG (g.step M) M).M k x/\u=.tuple #[.bool false,.agg (aaa (cG (g.step M) M).e).toArray,.bool ((cG (g.step M) M).em)])):=by
 refine QF Tryz.func104 mn<|ae 29 (ow 0 8) λ n1=>aah (jq hp hM (ar 0))<|OG 18<|aak [] []<|af [] [0,1,2,3,4,5,7] (ow 3 16++(ow 2 4))<|aac [] 6 (λ X_=>(aA 2 hM (aL 0)))<|aac [] 8 (λ X_=>(aA 3 hM (aL 0)))<|afZ [9]<|aae 10 (aag [] [] λ n2=>?_);refine afZ [11]<|aad<|Sr 7 [.o 1]<|aai [0] [0] (O8 (g.step M) (n2+0) (k+11) hM hS.up (λ h_=>aC (hE h_)) hC.up) ?_;rintro _ T3 R_;refine OG 3<|aak [13] [0,1,3,4]<|af [0,1,3,4] [0,4,8,1,5,9,2,6,10,3,7,11,12] (ow 0 5++[.ro 0])<|Sx 13 [0,1,3,4] (ow 2 4)<|af [0,1,3,4] [14] []<|QQ 1<|QI (ow 2 4) [] [0] (.tuple #[.bool false,.agg (aaa (cG (g.step M) M).e).toArray,.bool ((cG (g.step M) M).em)]) (ap [] [T3]) ⟨T3,rfl,R_.weak (by omega),rfl⟩
end
section
variable {F T:HL} {M:MemS} {mb:Nat} (g:Gm) (k:Nat)
theorem Pc(hM:MemH mb M (k+20) T)(hS:SetIn F g.S)(hp:M.get 1=3) :af1 104 #[.iface 95 (vP mb 0),.agg #[vI g.S.players,vS g.S.bb (g.S.bo*9) g.S.nb g.S.bc,vI g.S.box.x0,vI g.S.box.y0,vI g.S.box.x1,vI g.S.box.y1,.slice g.S.rA g.S.rn g.S.rc,.slice g.S.dA g.S.dn g.S.dc,vI g.S.fog,vI g.S.g.x,vI g.S.g.y,vI g.S.push,vI g.S.drag,vI g.S.rest,vI g.S.rounds,vI g.S.fuel],.agg #[.slice g.cA g.cn g.cc,vI g.e0,vI g.e1,vI g.e2],vI g.version,vS g.ib (g.io*3) g.ni g.ic] (ap [] [T]) F (λ u H'=>∃x,H'=ap [] [x]/\(MemH mb (dP (g.step M) M) k x/\u=.tuple #[.bool false,.agg #[vI 0,vI 0,vI 0,vI 0],.bool false])):=by
 refine QF Tryz.func104 mn<|ae 29 (ow 0 8) λ n1=>aah (jq hp hM (ar 0))<|OG 18<|aak [] []<|af [] [0,1,2,3,4,5,7] (ow 3 16++(ow 2 4))<|aac [] 6 (λ X_=>(aA 2 hM (aL 0)))<|aac [] 8 (λ X_=>(aA 3 hM (aL 0)))<|afZ [9]<|aae 10 (aag [] [] λ n2=>?_);refine afZ [11]<|aad<|Sr 7 [.o 1]<|aai [0] [0] (EA (g.step M) (n2+0) (k+12) hM hS.up ) ?_;rintro _ T3 R_;refine OG 3<|aak [13] [0,1,3,4]<|af [0,1,3,4] [0,4,8,1,5,9,2,6,10,3,7,11,12] (ow 0 5++[.ro 0])<|Sx 13 [0,1,3,4] (ow 2 4)<|af [0,1,3,4] [14] []<|QQ 1<|QI (ow 2 4) [] [0] (.tuple #[.bool false,.agg #[vI 0,vI 0,vI 0,vI 0],.bool false]) (ap [] [T3]) ⟨T3,rfl,R_.weak (by omega),rfl⟩
theorem Pd(hM:MemH mb M (k+20) T)(hS:SetIn F g.S)(hp:M.get 1=4) :af1 104 #[.iface 95 (vP mb 0),.agg #[vI g.S.players,vS g.S.bb (g.S.bo*9) g.S.nb g.S.bc,vI g.S.box.x0,vI g.S.box.y0,vI g.S.box.x1,vI g.S.box.y1,.slice g.S.rA g.S.rn g.S.rc,.slice g.S.dA g.S.dn g.S.dc,vI g.S.fog,vI g.S.g.x,vI g.S.g.y,vI g.S.push,vI g.S.drag,vI g.S.rest,vI g.S.rounds,vI g.S.fuel],.agg #[.slice g.cA g.cn g.cc,vI g.e0,vI g.e1,vI g.e2],vI g.version,vS g.ib (g.io*3) g.ni g.ic] (ap [] [T]) F (λ u H'=>∃x,H'=ap [] [x]/\(MemH mb (bD (g.step M) M) k x/\u=.tuple #[.bool false,.agg #[vI 0,vI 0,vI 0,vI 0],.bool false])):=by
 refine QF Tryz.func104 mn<|ae 29 (ow 0 8) λ n1=>aah (jq hp hM (ar 0))<|OG 18<|aak [] []<|af [] [0,1,2,3,4,5,7] (ow 3 16++(ow 2 4))<|aac [] 6 (λ X_=>(aA 2 hM (aL 0)))<|aac [] 8 (λ X_=>(aA 3 hM (aL 0)))<|afZ [9]<|aae 10 (aag [] [] λ n2=>?_);refine afZ [11]<|aad<|Sr 7 [.o 1]<|aai [0] [0] (v6 (g.step M) (n2+0) (k+6) hM hS.up ) ?_;rintro _ T3 R_;refine OG 3<|aak [13] [0,1,3,4]<|af [0,1,3,4] [0,4,8,1,5,9,2,6,10,3,7,11,12] (ow 0 5++[.ro 0])<|Sx 13 [0,1,3,4] (ow 2 4)<|af [0,1,3,4] [14] []<|QQ 1<|QI (ow 2 4) [] [0] (.tuple #[.bool false,.agg #[vI 0,vI 0,vI 0,vI 0],.bool false]) (ap [] [T3]) ⟨T3,rfl,R_.weak (by omega),rfl⟩
theorem Pe(hM:MemH mb M (k+20) T)(hS:SetIn F g.S)(hp:M.get 1=5) :af1 104 #[.iface 95 (vP mb 0),.agg #[vI g.S.players,vS g.S.bb (g.S.bo*9) g.S.nb g.S.bc,vI g.S.box.x0,vI g.S.box.y0,vI g.S.box.x1,vI g.S.box.y1,.slice g.S.rA g.S.rn g.S.rc,.slice g.S.dA g.S.dn g.S.dc,vI g.S.fog,vI g.S.g.x,vI g.S.g.y,vI g.S.push,vI g.S.drag,vI g.S.rest,vI g.S.rounds,vI g.S.fuel],.agg #[.slice g.cA g.cn g.cc,vI g.e0,vI g.e1,vI g.e2],vI g.version,vS g.ib (g.io*3) g.ni g.ic] (ap [] [T]) F (λ u H'=>∃x,H'=ap [] [x]/\(MemH mb (dC (g.step M) M) k x/\u=.tuple #[.bool false,.agg #[vI 0,vI 0,vI 0,vI 0],.bool false])):=by
 refine QF Tryz.func104 mn<|ae 29 (ow 0 8) λ n1=>aah (jq hp hM (ar 0))<|OG 18<|aak [] []<|af [] [0,1,2,3,4,5,7] (ow 3 16++(ow 2 4))<|aac [] 6 (λ X_=>(aA 2 hM (aL 0)))<|aac [] 8 (λ X_=>(aA 3 hM (aL 0)))<|afZ [9]<|aae 10 (aag [] [] λ n2=>?_);refine afZ [11]<|aad<|Sr 7 [.o 1]<|aai [0] [0] (EK (g.step M) (n2+0) (k+12) hM hS.up ) ?_;rintro _ T3 R_;refine OG 3<|aak [13] [0,1,3,4]<|af [0,1,3,4] [0,4,8,1,5,9,2,6,10,3,7,11,12] (ow 0 5++[.ro 0])<|Sx 13 [0,1,3,4] (ow 2 4)<|af [0,1,3,4] [14] []<|QQ 1<|QI (ow 2 4) [] [0] (.tuple #[.bool false,.agg #[vI 0,vI 0,vI 0,vI 0],.bool false]) (ap [] [T3]) ⟨T3,rfl,R_.weak (by omega),rfl⟩
theorem Pf(hM:MemH mb M (k+20) T)(hS:SetIn F g.S)(hp:M.get 1=6)(hE:¬ M.get 3=0->cF F)(hC:CodeIn F g.code g.cA g.cn):af1 104 #[.iface 95 (vP mb 0),.agg #[vI g.S.players,vS g.S.bb (g.S.bo*9) g.S.nb g.S.bc,vI g.S.box.x0,vI g.S.box.y0,vI g.S.box.x1,vI g.S.box.y1,.slice g.S.rA g.S.rn g.S.rc,.slice g.S.dA g.S.dn g.S.dc,vI g.S.fog,vI g.S.g.x,vI g.S.g.y,vI g.S.push,vI g.S.drag,vI g.S.rest,vI g.S.rounds,vI g.S.fuel],.agg #[.slice g.cA g.cn g.cc,vI g.e0,vI g.e1,vI g.e2],vI g.version,vS g.ib (g.io*3) g.ni g.ic] (ap [] [T]) F (λ u H'=>∃x,H'=ap [] [x]/\(MemH mb (eS (g.step M) M).M k x/\u=.tuple #[.bool false,.agg (aaa (eS (g.step M) M).e).toArray,.bool ((eS (g.step M) M).em)])):=by
 refine QF Tryz.func104 mn<|ae 29 (ow 0 8) λ n1=>aah (jq hp hM (ar 0))<|OG 18<|aak [] []<|af [] [0,1,2,3,4,5,7] (ow 3 16++(ow 2 4))<|aac [] 6 (λ X_=>(aA 2 hM (aL 0)))<|aac [] 8 (λ X_=>(aA 3 hM (aL 0)))<|afZ [9]<|aae 10 (aag [] [] λ n2=>?_);refine afZ [11]<|aad<|Sr 7 [.o 1]<|aai [0] [0] (Rn (g.step M) (n2+0) (k+11) hM hS.up (λ h_=>aC (hE h_)) hC.up) ?_;rintro _ T3 R_;refine OG 3<|aak [13] [0,1,3,4]<|af [0,1,3,4] [0,4,8,1,5,9,2,6,10,3,7,11,12] (ow 0 5++[.ro 0])<|Sx 13 [0,1,3,4] (ow 2 4)<|af [0,1,3,4] [14] []<|QQ 1<|QI (ow 2 4) [] [0] (.tuple #[.bool false,.agg (aaa (eS (g.step M) M).e).toArray,.bool ((eS (g.step M) M).em)]) (ap [] [T3]) ⟨T3,rfl,R_.weak (by omega),rfl⟩
theorem Pg(hM:MemH mb M (k+20) T)(hS:SetIn F g.S)(hp:M.get 1=7) :af1 104 #[.iface 95 (vP mb 0),.agg #[vI g.S.players,vS g.S.bb (g.S.bo*9) g.S.nb g.S.bc,vI g.S.box.x0,vI g.S.box.y0,vI g.S.box.x1,vI g.S.box.y1,.slice g.S.rA g.S.rn g.S.rc,.slice g.S.dA g.S.dn g.S.dc,vI g.S.fog,vI g.S.g.x,vI g.S.g.y,vI g.S.push,vI g.S.drag,vI g.S.rest,vI g.S.rounds,vI g.S.fuel],.agg #[.slice g.cA g.cn g.cc,vI g.e0,vI g.e1,vI g.e2],vI g.version,vS g.ib (g.io*3) g.ni g.ic] (ap [] [T]) F (λ u H'=>∃x,H'=ap [] [x]/\(MemH mb (fN (g.step M) M) k x/\u=.tuple #[.bool (js (g.step M)),.agg #[vI 0,vI 0,vI 0,vI 0],.bool false])):=by
 refine QF Tryz.func104 mn<|ae 29 (ow 0 8) λ n1=>aah (jq hp hM (ar 0))<|OG 18<|aak [] []<|af [] [0,1,2,3,4,5,7] (ow 3 16++(ow 2 4))<|aac [] 6 (λ X_=>(aA 2 hM (aL 0)))<|aac [] 8 (λ X_=>(aA 3 hM (aL 0)))<|afZ [9]<|aae 10 (aag [] [] λ n2=>?_);refine afZ [11]<|aad<|Sr 7 [.o 1]<|aai [0] [0] (HO (g.step M) (n2+0) (k+6) hM hS.up ) ?_;rintro _ T3 R_;refine OG 3<|aak [13] [0,1,3,4]<|af [0,1,3,4] [0,4,8,1,5,9,2,6,10,3,7,11,12] (ow 0 5++[.ro 0])<|Sx 13 [0,1,3,4] (ow 2 4)<|af [0,1,3,4] [14] []<|QQ 1<|QI (ow 2 4) [] [0] (.tuple #[.bool (js (g.step M)),.agg #[vI 0,vI 0,vI 0,vI 0],.bool false]) (ap [] [T3]) ⟨T3,rfl,R_.weak (by omega),rfl⟩
def aB:Enc Eff:=⟨4,λ p k=>match k with|0=>vI p.t|1=>vI p.i|2=>vI p.k|_=>vI p.v,bx⟩
noncomputable def N7:TypeInfo:=match Tryz.prog.info? 112 with | some i=>i | none=>⟨.bool,"",0,0,false,0,0,none,false,#[]⟩
noncomputable def N8:Value:=match N7.zero with|some z=>z|none=>.bool false
theorem fI:EncOk aB Tryz.prog 112 N7 N8 where
 info:=by kernel_rfl
 zero:=by kernel_rfl
 size:=by kernel_rfl
 zsize:=by kernel_rfl
 zcell:=λ k hk=>by
  have h:∀k<4,N8.cells[k]?=some (aB.cell aB.dflt k):=by intro k hk;(iterate 4 (rcases k with _|k;· kernel_rfl));omega
  exact h k hk
 one:=λ x k=>by unfold aB;dsimp only;split <;> rfl
 bytes:=aaH (by kernel_rfl)
def d8(g:Gm)(M:MemS):VR:=if M.get 1=0 then ⟨dN (g.step M) M,0,bx,false⟩ else if M.get 1=1 then (eR (g.step M) M) else if M.get 1=2 then (cG (g.step M) M) else if M.get 1=3 then ⟨dP (g.step M) M,0,bx,false⟩ else if M.get 1=4 then ⟨bD (g.step M) M,0,bx,false⟩ else if M.get 1=5 then ⟨dC (g.step M) M,0,bx,false⟩ else if M.get 1=6 then (eS (g.step M) M) else ⟨fN (g.step M) M,0,bx,false⟩
def jf(g:Gm)(M:MemS):Bool:=if M.get 1=7 then js (g.step M) else false
abbrev jg(g:Gm)(M:MemS):MemS:=(d8 g M).M
abbrev EL(M:MemS):Prop:=0<=M.get 1/\M.get 1<=7
structure GmIn(F:HL)(g:Gm):Prop where
 set:SetIn F g.S
 ins:(g.ib,.rows 3 g.iR (jM g.ins) 106 (0,0))∈F
 room:g.io+g.ni<=g.iR/\g.ni<=1000000
 eff:cF F
 code:CodeIn F g.code g.cA g.cn
structure GmC(F:HL)(g:Gm):Prop where
 set:SetIn F g.S
 ins:(g.ib,.rows 3 g.iR (jM g.ins) 106 (0,0))∈F
 room:g.io+g.ni<=g.iR/\g.ni<=1000000
 code:CodeIn F g.code g.cA g.cn
theorem GmIn.c{g:Gm}(h:GmIn F g):GmC F g:=⟨h.set,h.ins,h.room,h.code⟩
abbrev Tb(M:MemS):Prop:=(M.get 1=1\/M.get 1=2\/M.get 1=6)/\¬ M.get 3=0
theorem Bn{g:Gm}(hM:MemH mb M (k+20) T)(hg:GmC F g)(hJ:Tb M->cF F)(h0:EL M){Zj:Int}(Ym:g.version=Zj):af1 104 #[.iface 95 (vP mb 0),.agg #[vI g.S.players,vS g.S.bb (g.S.bo*9) g.S.nb g.S.bc,vI g.S.box.x0,vI g.S.box.y0,vI g.S.box.x1,vI g.S.box.y1,.slice g.S.rA g.S.rn g.S.rc,.slice g.S.dA g.S.dn g.S.dc,vI g.S.fog,vI g.S.g.x,vI g.S.g.y,vI g.S.push,vI g.S.drag,vI g.S.rest,vI g.S.rounds,vI g.S.fuel],.agg #[.slice g.cA g.cn g.cc,vI g.e0,vI g.e1,vI g.e2],vI Zj,vS g.ib (g.io*3) g.ni g.ic] (ap [] [T]) F (λ u H'=>∃x,H'=ap [] [x]/\(MemH mb (jg g M) k x/\u=.tuple #[.bool (jf g M),.agg (aaa (d8 g M).e).toArray,.bool ((d8 g M).em)])):=by
 subst Ym
 by_cases h0:M.get 1=0
 ·rw[jg,show d8 g M=⟨dN (g.step M) M,0,bx,false⟩ by simp only[d8,if_pos h0],show jf g M=false by simp[jf,h0]];exact O9 g k hM hg.set h0 hg.ins hg.room
 by_cases h1:M.get 1=1
 ·rw[jg,show d8 g M=(eR (g.step M) M) by simp only[d8,if_neg h0,if_pos h1],show jf g M=false by simp[jf,h1]];exact Pa g k hM hg.set h1 (λ h_=>hJ ⟨by omega,h_⟩) hg.code
 by_cases h2:M.get 1=2
 ·rw[jg,show d8 g M=(cG (g.step M) M) by simp only[d8,if_neg h0,if_neg h1,if_pos h2],show jf g M=false by simp[jf,h2]];exact Pb g k hM hg.set h2 (λ h_=>hJ ⟨by omega,h_⟩) hg.code
 by_cases h3:M.get 1=3
 ·rw[jg,show d8 g M=⟨dP (g.step M) M,0,bx,false⟩ by simp only[d8,if_neg h0,if_neg h1,if_neg h2,if_pos h3],show jf g M=false by simp[jf,h3]];exact Pc g k hM hg.set h3
 by_cases h4:M.get 1=4
 ·rw[jg,show d8 g M=⟨bD (g.step M) M,0,bx,false⟩ by simp only[d8,if_neg h0,if_neg h1,if_neg h2,if_neg h3,if_pos h4],show jf g M=false by simp[jf,h4]];exact Pd g k hM hg.set h4
 by_cases h5:M.get 1=5
 ·rw[jg,show d8 g M=⟨dC (g.step M) M,0,bx,false⟩ by simp only[d8,if_neg h0,if_neg h1,if_neg h2,if_neg h3,if_neg h4,if_pos h5],show jf g M=false by simp[jf,h5]];exact Pe g k hM hg.set h5
 by_cases h6:M.get 1=6
 ·rw[jg,show d8 g M=(eS (g.step M) M) by simp only[d8,if_neg h0,if_neg h1,if_neg h2,if_neg h3,if_neg h4,if_neg h5,if_pos h6],show jf g M=false by simp[jf,h6]];exact Pf g k hM hg.set h6 (λ h_=>hJ ⟨by omega,h_⟩) hg.code
 have h7:M.get 1=7:=by omega
 rw[jg,show d8 g M=⟨fN (g.step M) M,0,bx,false⟩ by simp only[d8,if_neg h0,if_neg h1,if_neg h2,if_neg h3,if_neg h4,if_neg h5,if_neg h6],show jf g M=js (g.step M) by simp[jf,h7]];exact Pg g k hM hg.set h7
end
section
variable {g g':Gm} {n:Nat} {α:Type} (S:Setup) (b:Bod) (a:Shp) (e:Int) (t:Stp) (pa:V2) (self other:Int) (M:MemS) (k:Int)
theorem EM{mb:Nat}{M:MemS}(k:Nat){T F:HL}(hM:MemH mb M (k+20) T)(hg:GmIn F g)(h0:EL M){Zj:Int}(Ym:g.version=Zj):af1 104 #[.iface 95 (vP mb 0),.agg #[vI g.S.players,vS g.S.bb (g.S.bo*9) g.S.nb g.S.bc,vI g.S.box.x0,vI g.S.box.y0,vI g.S.box.x1,vI g.S.box.y1,.slice g.S.rA g.S.rn g.S.rc,.slice g.S.dA g.S.dn g.S.dc,vI g.S.fog,vI g.S.g.x,vI g.S.g.y,vI g.S.push,vI g.S.drag,vI g.S.rest,vI g.S.rounds,vI g.S.fuel],.agg #[.slice g.cA g.cn g.cc,vI g.e0,vI g.e1,vI g.e2],vI Zj,vS g.ib (g.io*3) g.ni g.ic] (ap [] [T]) F (λ u H'=>∃x,H'=ap [] [x]/\(MemH mb (jg g M) k x/\u=.tuple #[.bool (jf g M),.agg (aaa (d8 g M).e).toArray,.bool ((d8 g M).em)])):=Bn k hM hg.c (λ _=>hg.eff) h0 Ym
def fW(g:Gm):Nat->MemS->MemS
 |0,M=>M
 |n+1,M=>fW g n (jg g M)
def effsV(g:Gm):Nat->MemS->List Eff
 |0,_=>[]
 |n+1,M=>(if (d8 g M).em=true then [(d8 g M).e] else [])++effsV g n (jg g M)
def dK(g:Gm):Nat->MemS->Prop
 |0,_=>False
 |n+1,M=>EL M/\((n=0/\jf g M=true)\/(jf g M=false/\dK g n (jg g M)))
theorem ur{M:MemS}(h:(d8 g M).em=true):effsV g (n+1) M=(d8 g M).e::effsV g n (jg g M):=by rw[effsV,if_pos h];rfl
theorem oh{M:MemS}(h:¬ (d8 g M).em=true):effsV g (n+1) M=effsV g n (jg g M):=by rw[effsV,if_neg h];rfl
theorem us(g:Gm):∀n M,(effsV g n M).length<=n
 |0,_=>aaI _
 |n+1,M=>by
  rw[effsV,aaK];have:=us g n (jg g M);split
  ·simp;omega
  ·simp;omega
def Shp.nm(s:Shp):Shp:=⟨s.r,s.poly,none,0⟩
def Bod.nm(b:Bod):Bod:=⟨b.sh.nm,b.mot,b.a,b.b⟩
def Setup.nm(S:Setup):Setup:={ S with bb:=0,bo:=0,bc:=0,bR:=0,bods:=(S.bods.drop S.bo).map Bod.nm,rA:=none,rc:=0,dA:=none,dc:=0 }
def Stp.nm(t:Stp):Stp:={ t with S:=t.S.nm,cA:=none,cc:=0,ib:=0,io:=0,ic:=0,iR:=0,ins:=[] }
theorem EN(l:List α)(o k:Nat)(d:α):(l.drop o).getD (0+k) d=l.getD (o+k) d:=by
 rw[abP,aaG,aaG,abi]
theorem HP{β:Type}(f:α->β){l:List α}{k:Nat}(d:α):(l.map f).getD k (f d)=f (l.getD k d):=by
 rw[aaG,aaG,abo];cases l[k]? <;> rfl
theorem qQ(k:Nat):S.nm.body k=(S.body k).nm:=by
 show ((S.bods.drop S.bo).map Bod.nm).getD (0+k) dB=Bod.nm (S.bods.getD (S.bo+k) dB);rw[<- EN S.bods S.bo k dB];exact HP Bod.nm dB
theorem ko:S.nm.players=S.players:=rfl
theorem iA:S.nm.nb=S.nb:=rfl
theorem HQ:S.nm.box=S.box:=rfl
theorem Ph:S.nm.g=S.g:=rfl
theorem EO:S.nm.push=S.push:=rfl
theorem EP:S.nm.drag=S.drag:=rfl
theorem ut:S.nm.rest=S.rest:=rfl
theorem yb:S.nm.rounds=S.rounds:=rfl
theorem uu:S.nm.fuel=S.fuel:=rfl
theorem CW:t.nm.cn=t.cn:=rfl
theorem CX:t.nm.e0=t.e0:=rfl
theorem LZ:t.nm.e1=t.e1:=rfl
theorem CY:t.nm.e2=t.e2:=rfl
theorem v8:t.nm.version=t.version:=rfl
theorem cZ:t.nm.i=t.i:=rfl
theorem g9:t.nm.j=t.j:=rfl
theorem Bo:t.nm.ended=t.ended:=rfl
theorem qR:t.nm.f0=t.f0:=rfl
theorem qS:t.nm.f1=t.f1:=rfl
theorem qT:t.nm.f2=t.f2:=rfl
theorem qU:t.nm.f3=t.f3:=rfl
theorem iB:t.nm.emitted=t.emitted:=rfl
theorem po:t.nm.code=t.code:=rfl
theorem bC:t.nm.S=t.S.nm:=rfl
theorem CZ:b.nm.sh=b.sh.nm:=rfl
theorem yc:b.nm.mot=b.mot:=rfl
theorem Pi(s:Shp):s.nm.r=s.r:=rfl
theorem jx :ai S.nm k=ai S k:=by
 unfold ai;simp only[ko,bC] <;> rfl
theorem fj :ag S.nm k=ag S k:=by
 unfold ag;simp only[ko,iA,bC] <;> rfl
theorem wa :(movP S.nm k)=(movP S k):=by
 unfold movP;simp only[iA,bC,yc,qQ] <;> rfl
theorem ol :au S.nm M k=au S M k:=by
 unfold au;simp only[bC,yc,qQ,fj] <;> rfl
theorem yd(b:Shp)(pb:V2) :cj a.nm pa b.nm pb=cj a pa b pb:=by
 kernel_rfl
theorem HS(va:V2)(b:Shp)(pb vb:V2) :mK a.nm pa va b.nm pb vb=mK a pa va b pb vb:=by
 kernel_rfl
theorem Bp(m:Mot)(M:MemS) :cX t.nm k m M=cX t k m M:=by
 unfold cX;simp only[bC,fj] <;> rfl
theorem EQ(c sp pos lo hi:Int)(M:MemS) :dD t.nm c sp pos lo hi M=dD t c sp pos lo hi M:=by
 unfold dD;simp only[ut,bC] <;> rfl
theorem uv :cQ t.nm M=cQ t M:=by
 unfold cQ;simp only[v8,cZ,bC] <;> rfl
theorem uw :fT t.nm M=fT t M:=by
 unfold fT;simp only[ko,cZ,bC] <;> rfl
theorem ye :js t.nm=js t:=by
 unfold js;simp only[iA,cZ,Bo,bC] <;> rfl
theorem HT :fB t.nm M=fB t M:=by
 unfold fB;simp only[cZ,bC,fj] <;> rfl
theorem HU :kT t.nm M=kT t M:=by
 unfold kT;simp only[iA,cZ,bC] <;> rfl
theorem yf :fN t.nm M=fN t M:=by
 unfold fN;simp only[bC,HT,HU] <;> rfl
theorem ES :fU t.nm M=fU t M:=by
 unfold fU;simp only[Ph,EO,EP,cZ,bC,jx,ol] <;> rfl
theorem ET :eJ t.nm M=eJ t M:=by
 unfold eJ;simp only[cZ,bC,fj] <;> rfl
theorem EU :d7 t.nm M=d7 t M:=by
 unfold d7;simp only[cZ,bC,fj,wa,ES] <;> rfl
theorem EV :fV t.nm M=fV t M:=by
 unfold fV;simp only[iA,cZ,bC] <;> rfl
theorem ux :dP t.nm M=dP t M:=by
 unfold dP;simp only[bC,ET,EU,EV] <;> rfl
theorem Bq :gE t.nm M=gE t M:=by
 unfold gE;simp only[cZ,bC,ol] <;> rfl
theorem Br :cI t.nm M=cI t M:=by
 unfold cI;simp only[HQ,cZ,bC,fj,EQ,Bq] <;> rfl
theorem HV(op n a b:Int)(M:MemS) :dz S.nm op n a b M=dz S op n a b M:=by
 unfold dz;simp only[bC,fj] <;> rfl
theorem HW(op n sp pc fuel:Int)(M:MemS) :iq S.nm op n sp pc fuel M=iq S op n sp pc fuel M:=by
 unfold iq;simp only[uu,bC,HV] <;> rfl
theorem HX(code:List Ins)(n:Nat)(M:MemS) :aj S.nm code n M=aj S code n M:=by
 unfold aj;simp only[po,bC,HW] <;> rfl
theorem wb :ep e t.nm self other M=ep e t self other M:=by
 unfold ep;simp only[uu,CW,g9,iB,po,bC,HX,qR,qS,qT,qU] <;> rfl
theorem wc :di e t.nm self other M=di e t self other M:=by
 unfold di;simp only[CW,g9,po,bC] <;> rfl
theorem yg(r:VR)(over:Bool)(t:Stp)(UP:Bool)(M:MemS) :c6 r over t.nm UP M=c6 r over t UP M:=by
 unfold c6;simp only[cZ,g9,iB,bC,Pi,qR,qS,qT,qU] <;> rfl
theorem C0 :eR t.nm M=eR t M:=by
 unfold eR;simp only[cZ,iB,bC,jx,qR,qS,qT,qU,CX,CY,wb,wc,yg] <;> rfl
theorem yh :cG t.nm M=cG t M:=by
 unfold cG;simp only[bC,LZ,cZ,g9,wb,wc] <;> rfl
theorem C1 :eS t.nm M=eS t M:=by
 unfold eS;simp only[cZ,iB,bC,fj,qR,qS,qT,qU,CX,CY,wb,wc,yg] <;> rfl
theorem C2 :tD t.nm M=tD t M:=by
 unfold tD;simp only[cZ,g9,bC,CZ,qQ,ol,yd] <;> rfl
theorem L0 :ya t.nm M=ya t M:=by
 unfold ya;simp only[ut,cZ,g9,bC,ol,C2] <;> rfl
theorem yi :fD t.nm M=fD t M:=by
 unfold fD;simp only[cZ,g9,bC,fj,Bp,L0] <;> rfl
theorem EW :dp t.nm M=dp t M:=by
 unfold dp;simp only[iA,cZ,g9,bC,C2,yi] <;> rfl
theorem L2 :tE t.nm M=tE t M:=by
 unfold tE;simp only[cZ,g9,bC,CZ,qQ,ol,HS] <;> rfl
theorem HY :ew t.nm M=ew t M:=by
 unfold ew;simp only[cZ,g9,bC,wa,L2] <;> rfl
theorem HZ :fE t.nm M=fE t M:=by
 unfold fE;simp only[iA,cZ,bC] <;> rfl
theorem yj :dC t.nm M=dC t M:=by
 unfold dC;simp only[iA,cZ,g9,bC,wa,Br,HY,HZ] <;> rfl
theorem ql :bD t.nm M=bD t M:=by
 unfold bD;simp only[iA,yb,cZ,g9,bC,EW] <;> rfl
def Gm.nm(g:Gm):Gm:={ g with S:=g.S.nm,cA:=none,cc:=0,ib:=0,io:=0,ic:=0,iR:=0,ins:=[] }
theorem lZ(g:Gm)(M:MemS):g.nm.step M=(g.step M).nm:=rfl
structure GEq(g g':Gm):Prop where
 nm:g.nm=g'.nm
 inp:∀k,k<g.ni->g.ins.getD (g.io+k) dI=g'.ins.getD (g'.io+k) dI
theorem EY(h:GEq g g')(M:MemS):dN (g.step M) M=dN (g'.step M) M:=by
 have hs:(g.step M).nm=(g'.step M).nm:=by rw[<- lZ,<- lZ,h.nm]
 unfold dN;rw[<- uv (g.step M),hs,uv];generalize cQ (g'.step M) M=N;have hb:cY (g.step M) N=cY (g'.step M) N:=by
  have hS:(g.step M).S.nm=(g'.step M).S.nm:=show (g.step M).nm.S=(g'.step M).nm.S by rw[hs]
  have hi:(g.step M).i=(g'.step M).i:=show (g.step M).nm.i=(g'.step M).nm.i by rw[hs]
  have hn:(g.step M).ni=(g'.step M).ni:=show (g.step M).nm.ni=(g'.step M).nm.ni by rw[hs]
  unfold cY;rw[<- jx (g.step M).S,hS,jx,hi,hn]
  by_cases h1:ai (g'.step M).S (g'.step M).i>=0
  ·rw[if_pos h1,if_pos h1]
   by_cases h2:(g'.step M).i<(g'.step M).ni
   ·rw[if_pos h2,if_pos h2];have h3:0<=(g'.step M).i:=by
     rcases Int.lt_or_le (g'.step M).i 0 with h4|h4
     ·unfold ai at h1;rw[if_pos h4] at h1;omega
     ·exact h4
    have e:(g.step M).inp (g'.step M).i.toNat=(g'.step M).inp (g'.step M).i.toNat:=by
     have h5:(g'.step M).i.toNat<g.ni:=by
      have h6:((g'.step M).ni:Int)=(g.ni:Int):=congrArg (Nat.cast) hn.symm;omega
     exact h.inp _ h5
    rw[e]
   ·rw[if_neg h2,if_neg h2]
  ·rw[if_neg h1,if_neg h1]
 rw[hb,<- uw (g.step M),hs,uw]
theorem we(h:GEq g g')(M:MemS):d8 g M=d8 g' M:=by
 have hs:(g.step M).nm=(g'.step M).nm:=by rw[<- lZ,<- lZ,h.nm]
 unfold d8;rw[EY h,<- C0 (g.step M),<- yh (g.step M),<- ux (g.step M),<- ql (g.step M),<- yj (g.step M),<- C1 (g.step M),<- yf (g.step M),hs,C0,yh,ux,ql,yj,C1,yf]
theorem H3(h:GEq g g')(M:MemS):jf g M=jf g' M:=by
 have hs:(g.step M).nm=(g'.step M).nm:=by rw[<- lZ,<- lZ,h.nm]
 unfold jf;rw[<- ye (g.step M),hs,ye]
theorem C3{g g':Gm}(h:GEq g g'):∀ (n:Nat) (M:MemS),fW g n M=fW g' n M
 |0,_=>rfl
 |n+1,M=>by rw[fW,fW,jg,jg,we h];exact C3 h n _
theorem yl{g g':Gm}(h:GEq g g'):∀ (n:Nat) (M:MemS),effsV g n M=effsV g' n M
 |0,_=>rfl
 |n+1,M=>by rw[effsV,effsV,jg,jg,we h,yl h n]
end
end Go.Proofs.YtjokannbjmndfaaGreatDoor
