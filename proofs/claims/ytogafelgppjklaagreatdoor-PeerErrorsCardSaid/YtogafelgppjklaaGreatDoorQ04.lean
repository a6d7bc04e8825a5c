import Derived.Test.YtogafelgppjklaaGreatDoorQ03
set_option maxHeartbeats 4000000
set_option maxRecDepth 100000
set_option linter.all false
namespace Go.Proofs.YtogafelgppjklaaGreatDoor
open IntKind
open Go.RowKit
section
variable {F T:HL} {M:MemS} {mb:Nat}
theorem HY(t:Stp) (tb:Nat) (k:Nat) (hM:MemH mb M (k+14) T) (hS:SetIn F t.S) :aeo 178 #[vP tb 0] (ap [(tb,.lit (Stp.l t mb) 281 (0,0))] [T]) F (λ u H'=>∃x,H'=ap [(tb,.lit [.iface 85 (vP mb 0),vI t.S.players,vS t.S.bb (t.S.bo*9) t.S.nb t.S.bc,vI t.S.box.x0,vI t.S.box.y0,vI t.S.box.x1,vI t.S.box.y1,.slice t.S.rA t.S.rn t.S.rc,.slice t.S.dA t.S.dn t.S.dc,vI t.S.fog,vI t.S.g.x,vI t.S.g.y,vI t.S.push,vI t.S.drag,vI t.S.rest,vI t.S.rounds,vI t.S.fuel,.slice t.cA t.cn t.cc,vI t.e0,vI t.e1,vI t.e2,vI t.version,vS t.ib t.iR t.ni t.ic,vI t.i,vI t.j,.bool (j0 t),vI t.f0,vI t.f1,vI t.f2,vI t.f3,.bool t.emitted] 281 (0,0))] [x]/\(MemH mb (fX t M) k x)):=by
 have hp:=hS.pl;have hn:=hS.nb;have hr:=hS.room;refine QS Tryz.func178 (mc hS.blk mn)<|OU 2<|aap [] []<|ag [] [0,4,1,5,2,6,3,7] (ow 0 17)<|aae [] 8 (λ X_=>(dq t.i hS.toSetN)) ?_;have Y2:=bT hS.toSetN t.i;refine aem [9]<|Q2 1<|aan (σ:=MemS×HL) (λ ⟨oR,Vf⟩=>⟨[(0,vP tb 0)],[(tb,.lit (Stp.l t mb) 281 (0,0))],[Vf],oR=fF t M/\MemH mb oR (k+13) Vf,0⟩) ?_ ?_
 ·intro Vx;refine OU 6<|aaq (af t.S t.i>=0) 15 (λ h3=>?_) λ h3=>?_
  ·refine ah 15 [.o 0,.nw] [aI ((af t.S t.i)+2)] λ _=>aal (aD ((af t.S t.i)+2) hM (ay 0))<|OU 2<|aaq (M.get ((af t.S t.i)+2)=0) 24 (λ h4=>?_) λ h4=>?_
   ·refine ah 6 [.o 0,.nw] [aI ((af t.S t.i)+3)] λ _=>aal (aD ((af t.S t.i)+3) hM (ay 0))<|OU 4<|aaq (M.get ((af t.S t.i)+3)=0) 33 (λ h5=>?_) λ h5=>?_
    ·refine ah 8 [.o 0,.nw] [aI ((af t.S t.i)+7)] λ _=>aal (aD ((af t.S t.i)+7) hM (ay 0))<|ah 13 [.o 0,.nw] [aI ((af t.S t.i)+7)] λ _=>aam [] [0] (ar ((af t.S t.i)+7) (if 1000<i64.wrap ((M.get ((af t.S t.i)+7))+1) then 1000 else i64.wrap ((M.get ((af t.S t.i)+7))+1)) hM) ?_;rintro _ T6 ZS;refine ae 1 [] λ _=>Vx ((M.set ((af t.S t.i)+7) (if 1000<i64.wrap ((M.get ((af t.S t.i)+7))+1) then 1000 else i64.wrap ((M.get ((af t.S t.i)+7))+1))),T6) [0] [0] ?_
     try dsimp only
     refine⟨?_,ZS.weak (by omega)⟩
     first|(simp only[fF,if_pos h3,if_pos h4,if_pos h5];try rfl;done)|rfl
    ·refine ah 11 [.o 0,.nw] [aI ((af t.S t.i)+7)] λ _=>aam [] [0] (ar ((af t.S t.i)+7) 0 hM) ?_;rintro _ T8 YP;refine ae 1 [] λ _=>Vx ((M.set ((af t.S t.i)+7) 0),T8) [0] [0] ?_
     try dsimp only
     refine⟨?_,YP.weak (by omega)⟩
     first|(simp only[fF,if_pos h3,if_pos h4,if_neg h5];try rfl;done)|rfl
   ·refine ah 22 [.o 0,.nw] [aI ((af t.S t.i)+7)] λ _=>aam [] [0] (ar ((af t.S t.i)+7) 0 hM) ?_;rintro _ W7 We;refine ae 1 [] λ _=>Vx ((M.set ((af t.S t.i)+7) 0),W7) [0] [0] ?_
    try dsimp only
    refine⟨?_,We.weak (by omega)⟩
    first|(simp only[fF,if_pos h3,if_neg h4];try rfl;done)|rfl
  ·refine ae 2 [] λ _=>Vx (M,T) [0] [0] ?_
   try dsimp only
   refine⟨?_,hM.weak (by omega)⟩
   first|(simp only[fF,if_neg h3];try rfl;done)|rfl
 ·rintro⟨oR,Vf⟩ ⟨Xz,Vs⟩;refine OU 3<|aap [] []<|ag [] [0,5,1,6,2,7,3,8,4,9,10,11] (aab 2)<|Q2 1<|aaq (i64.wrap (t.i+1)<(t.S.nb:Int)) 62 (λ H_=>?_) λ H_=>?_
  ·refine OU 2<|aap [11] []<|ag [] [0,4,1,5,2,6,3,7,8,9,10] (aab 2)<|aag 11 (aah [] [] [0] (ar 2 (i64.wrap (t.i+1)) Vs) ?_);rintro _ WC Vt;refine Q2 1<|QV [] [0] [0] (.tuple #[]) (ap [(tb,.lit (Stp.l t mb) 281 (0,0))] [WC]) ⟨WC,by simp only[j0,Stp.l,if_pos H_],?_⟩;have e:(fX t M)=(oR.set 2 (i64.wrap (t.i+1))):=by
    simp only[fX,lq,<- Xz,if_pos H_]
   rw[e];exact Vt.weak (by omega)
  ·refine SO 12 [.o 0]<|aap [12] []<|ag [] [0,4,1,5,2,6,3,7,10,11] (aab 2)<|aae [] 8 (λ X_=>(aD 0 Vs (aY 0)))<|aem [9]<|aag 12 (aah [] [] [0] (ar 0 (i64.wrap ((oR.get 0)+1)) Vs) ?_);rintro _ VN VK;refine Q2 7<|aat (σ:=Nat×HL) (λ ⟨n,T_⟩=>⟨[(0,vP tb 0),(4,vI ((n+1:Nat):Int))],[(tb,.lit [.iface 85 (vP mb 0),vI t.S.players,vS t.S.bb (t.S.bo*9) t.S.nb t.S.bc,vI t.S.box.x0,vI t.S.box.y0,vI t.S.box.x1,vI t.S.box.y1,.slice t.S.rA t.S.rn t.S.rc,.slice t.S.dA t.S.dn t.S.dc,vI t.S.fog,vI t.S.g.x,vI t.S.g.y,vI t.S.push,vI t.S.drag,vI t.S.rest,vI t.S.rounds,vI t.S.fuel,.slice t.cA t.cn t.cc,vI t.e0,vI t.e1,vI t.e2,vI t.version,vS t.ib t.iR t.ni t.ic,vI t.i,vI t.j,.bool true,vI t.f0,vI t.f1,vI t.f2,vI t.f3,.bool t.emitted] 281 (0,0))],[T_],n<=10/\MemH mb (eT (oR.set 0 (i64.wrap ((oR.get 0)+1))) n) (k+10-n) T_,10-n⟩) (0,VN) [0] [0] (⟨by omega,VK.weak (by omega)⟩) ?_;rintro⟨n,T_⟩ ⟨WJ,hM_⟩ XS;refine OU 7<|aaq (((n+1:Nat):Int)<=10) 92 (λ Wy=>?_) λ Wy=>?_
   ·obtain⟨e_,he_⟩:∃e,k+10-n=e+1:=⟨k+9-n,by omega⟩;have aka:MemH mb (eT (oR.set 0 (i64.wrap ((oR.get 0)+1))) n) (e_+1) T_:=he_▸hM_;refine SO 11 [.o 0]<|aam [] [0] (ar ((n+1:Nat):Int) 0 aka) ?_;rintro _ YW ZT;refine ah 8 [.nw] [aI (((n+1:Nat):Int)+1)] λ _=>XS (n+1,YW) [0] [0] ?_
    try dsimp only
    refine⟨⟨by omega,ZT.cast (by rw[eT]) (by omega)⟩,by omega⟩
   ·refine OU 5<|QV [] [0] [0] (.tuple #[]) (ap [(tb,.lit [.iface 85 (vP mb 0),vI t.S.players,vS t.S.bb (t.S.bo*9) t.S.nb t.S.bc,vI t.S.box.x0,vI t.S.box.y0,vI t.S.box.x1,vI t.S.box.y1,.slice t.S.rA t.S.rn t.S.rc,.slice t.S.dA t.S.dn t.S.dc,vI t.S.fog,vI t.S.g.x,vI t.S.g.y,vI t.S.push,vI t.S.drag,vI t.S.rest,vI t.S.rounds,vI t.S.fuel,.slice t.cA t.cn t.cc,vI t.e0,vI t.e1,vI t.e2,vI t.version,vS t.ib t.iR t.ni t.ic,vI t.i,vI t.j,.bool true,vI t.f0,vI t.f1,vI t.f2,vI t.f3,.bool t.emitted] 281 (0,0))] [T_]) ⟨T_,by simp only[j0,Stp.l,if_neg H_,if_neg Wy],?_⟩;have en:n=10:=by omega
    have e:(fX t M)=(eT (oR.set 0 (i64.wrap ((oR.get 0)+1))) n):=by
     rw[en];simp only[fX,lq,<- Xz,if_neg H_,if_neg Wy]
    rw[e];exact hM_.weak (by omega)
structure Gm where
 S:Setup
 cA:Option Addr
 cn:Nat
 cc:Nat
 e0:Int
 e1:Int
 e2:Int
 version:Int
 ib:Nat
 io:Nat
 ni:Nat
 ic:Nat
 iR:Nat
 ins:List Inp
 code:List Ins
abbrev Gm.step(g:Gm)(M:MemS):Stp:=⟨g.S,g.cA,g.cn,g.cc,g.e0,g.e1,g.e2,g.version,g.ib,g.io,g.ni,g.ic,g.iR,g.ins,M.get 2,M.get 3,false,0,0,0,0,false,g.code⟩
theorem Pj(g:Gm)(k:Nat)(hM:MemH mb M (k+20) T)(hS:SetIn F g.S)(hp:M.get 1=0)(hI:InB F g.ib g.iR g.ni λ k=>g.ins.getD (g.io+k) dI)(hir:g.ni<=1000000):aeo 124 #[.iface 85 (vP mb 0),.agg #[vI g.S.players,vS g.S.bb (g.S.bo*9) g.S.nb g.S.bc,vI g.S.box.x0,vI g.S.box.y0,vI g.S.box.x1,vI g.S.box.y1,.slice g.S.rA g.S.rn g.S.rc,.slice g.S.dA g.S.dn g.S.dc,vI g.S.fog,vI g.S.g.x,vI g.S.g.y,vI g.S.push,vI g.S.drag,vI g.S.rest,vI g.S.rounds,vI g.S.fuel],.agg #[.slice g.cA g.cn g.cc,vI g.e0,vI g.e1,vI g.e2],vI g.version,vS g.ib g.iR g.ni g.ic] (ap [] [T]) F (λ u H'=>∃x,H'=ap [] [x]/\(MemH mb (dV (g.step M) M) k x/\u=.tuple #[.bool false,.agg #[vI 0,vI 0,vI 0,vI 0],.bool false])):=by
 refine QS Tryz.func124 mn<|ae 29 (ow 0 8) λ n1=>aal (jE hp hM (ay 0))<|OU 18<|aap [] []<|ag [] [0,1,2,3,4,5,7] (ow 3 16++(ow 2 4))<|aae [] 6 (λ X_=>(aD 2 hM (aY 0)))<|aae [] 8 (λ X_=>(aD 3 hM (aY 0)))<|aem [9]<|aag 10 (aai [] [] λ n2=>?_);refine aem [11]<|aaf<|SO 7 [.o 1]<|aam [0] [0] (Ez (g.step M) (n2+0) (k+12) hM hS.up hI.up hir) ?_;rintro _ T3 UI;refine OU 3<|aap [13] [0,1,3,4]<|ag [0,1,3,4] [0,4,8,1,5,9,2,6,10,3,7,11,12] (ow 0 5++[.ro 0])<|SV 13 [0,1,3,4] (ow 2 4)<|ag [0,1,3,4] [14] []<|aaf<|ae 1 [] λ _=>aav (ow 2 4) [] [0] ⟨T3,rfl,UI.weak (by omega),rfl⟩
theorem Pk(g:Gm)(k:Nat)(hM:MemH mb M (k+20) T)(hS:SetIn F g.S)(hp:M.get 1=1)(hE:¬ M.get 3=0->cU F)(hC:CodeIn F g.code g.cA g.cn):aeo 124 #[.iface 85 (vP mb 0),.agg #[vI g.S.players,vS g.S.bb (g.S.bo*9) g.S.nb g.S.bc,vI g.S.box.x0,vI g.S.box.y0,vI g.S.box.x1,vI g.S.box.y1,.slice g.S.rA g.S.rn g.S.rc,.slice g.S.dA g.S.dn g.S.dc,vI g.S.fog,vI g.S.g.x,vI g.S.g.y,vI g.S.push,vI g.S.drag,vI g.S.rest,vI g.S.rounds,vI g.S.fuel],.agg #[.slice g.cA g.cn g.cc,vI g.e0,vI g.e1,vI g.e2],vI g.version,vS g.ib g.iR g.ni g.ic] (ap [] [T]) F (λ u H'=>∃x,H'=ap [] [x]/\(MemH mb (fO (g.step M) M).M k x/\u=.tuple #[.bool false,.agg (aaa (fO (g.step M) M).e).toArray,.bool ((fO (g.step M) M).em)])):=by
 refine QS Tryz.func124 mn<|ae 29 (ow 0 8) λ n1=>aal (jE hp hM (ay 0))<|OU 18<|aap [] []<|ag [] [0,1,2,3,4,5,7] (ow 3 16++(ow 2 4))<|aae [] 6 (λ X_=>(aD 2 hM (aY 0)))<|aae [] 8 (λ X_=>(aD 3 hM (aY 0)))<|aem [9]<|aag 10 (aai [] [] λ n2=>?_);refine aem [11]<|aaf<|SO 7 [.o 1]<|aam [0] [0] (RA (g.step M) (n2+0) (k+11) hM hS.up (λ h_=>aC (hE h_)) hC.up) ?_;rintro _ T3 UI;refine OU 3<|aap [13] [0,1,3,4]<|ag [0,1,3,4] [0,4,8,1,5,9,2,6,10,3,7,11,12] (ow 0 5++[.ro 0])<|SV 13 [0,1,3,4] (ow 2 4)<|ag [0,1,3,4] [14] []<|aaf<|ae 1 [] λ _=>aav (ow 2 4) [] [0] ⟨T3,rfl,UI.weak (by omega),rfl⟩
theorem Pm(g:Gm)(k:Nat)(hM:MemH mb M (k+20) T)(hS:SetIn F g.S)(hp:M.get 1=2)(hE:¬ M.get 3=0->cU F)(hC:CodeIn F g.code g.cA g.cn):aeo 124 #[.iface 85 (vP mb 0),.agg #[vI g.S.players,vS g.S.bb (g.S.bo*9) g.S.nb g.S.bc,vI g.S.box.x0,vI g.S.box.y0,vI g.S.box.x1,vI g.S.box.y1,.slice g.S.rA g.S.rn g.S.rc,.slice g.S.dA g.S.dn g.S.dc,vI g.S.fog,vI g.S.g.x,vI g.S.g.y,vI g.S.push,vI g.S.drag,vI g.S.rest,vI g.S.rounds,vI g.S.fuel],.agg #[.slice g.cA g.cn g.cc,vI g.e0,vI g.e1,vI g.e2],vI g.version,vS g.ib g.iR g.ni g.ic] (ap [] [T]) F (λ u H'=>∃x,H'=ap [] [x]/\(MemH mb (dC (g.step M) M).M k x/\u=.tuple #[.bool false,.agg (aaa (dC (g.step M) M).e).toArray,.bool ((dC (g.step M) M).em)])):=by
 refine QS Tryz.func124 mn<|ae 29 (ow 0 8) λ n1=>aal (jE hp hM (ay 0))<|OU 18<|aap [] []<|ag [] [0,1,2,3,4,5,7] (ow 3 16++(ow 2 4))<|aae [] 6 (λ X_=>(aD 2 hM (aY 0)))<|aae [] 8 (λ X_=>(aD 3 hM (aY 0)))<|aem [9]<|aag 10 (aai [] [] λ n2=>?_);refine aem [11]<|aaf<|SO 7 [.o 1]<|aam [0] [0] (Pi (g.step M) (n2+0) (k+11) hM hS.up (λ h_=>aC (hE h_)) hC.up) ?_;rintro _ T3 UI;refine OU 3<|aap [13] [0,1,3,4]<|ag [0,1,3,4] [0,4,8,1,5,9,2,6,10,3,7,11,12] (ow 0 5++[.ro 0])<|SV 13 [0,1,3,4] (ow 2 4)<|ag [0,1,3,4] [14] []<|aaf<|ae 1 [] λ _=>aav (ow 2 4) [] [0] ⟨T3,rfl,UI.weak (by omega),rfl⟩
end
section
variable {F T:HL} {M:MemS} {Wh:Int} {mb n:Nat} (g:Gm) (k:Nat)
theorem Pn(hM:MemH mb M (k+20) T)(hS:SetIn F g.S)(hp:M.get 1=3) :aeo 124 #[.iface 85 (vP mb 0),.agg #[vI g.S.players,vS g.S.bb (g.S.bo*9) g.S.nb g.S.bc,vI g.S.box.x0,vI g.S.box.y0,vI g.S.box.x1,vI g.S.box.y1,.slice g.S.rA g.S.rn g.S.rc,.slice g.S.dA g.S.dn g.S.dc,vI g.S.fog,vI g.S.g.x,vI g.S.g.y,vI g.S.push,vI g.S.drag,vI g.S.rest,vI g.S.rounds,vI g.S.fuel],.agg #[.slice g.cA g.cn g.cc,vI g.e0,vI g.e1,vI g.e2],vI g.version,vS g.ib g.iR g.ni g.ic] (ap [] [T]) F (λ u H'=>∃x,H'=ap [] [x]/\(MemH mb (dW (g.step M) M) k x/\u=.tuple #[.bool false,.agg #[vI 0,vI 0,vI 0,vI 0],.bool false])):=by
 refine QS Tryz.func124 mn<|ae 29 (ow 0 8) λ n1=>aal (jE hp hM (ay 0))<|OU 18<|aap [] []<|ag [] [0,1,2,3,4,5,7] (ow 3 16++(ow 2 4))<|aae [] 6 (λ X_=>(aD 2 hM (aY 0)))<|aae [] 8 (λ X_=>(aD 3 hM (aY 0)))<|aem [9]<|aag 10 (aai [] [] λ n2=>?_);refine aem [11]<|aaf<|SO 7 [.o 1]<|aam [0] [0] (EA (g.step M) (n2+0) (k+12) hM hS.up ) ?_;rintro _ T3 UI;refine OU 3<|aap [13] [0,1,3,4]<|ag [0,1,3,4] [0,4,8,1,5,9,2,6,10,3,7,11,12] (ow 0 5++[.ro 0])<|SV 13 [0,1,3,4] (ow 2 4)<|ag [0,1,3,4] [14] []<|aaf<|ae 1 [] λ _=>aav (ow 2 4) [] [0] ⟨T3,rfl,UI.weak (by omega),rfl⟩
theorem Po(hM:MemH mb M (k+20) T)(hS:SetIn F g.S)(hp:M.get 1=4) :aeo 124 #[.iface 85 (vP mb 0),.agg #[vI g.S.players,vS g.S.bb (g.S.bo*9) g.S.nb g.S.bc,vI g.S.box.x0,vI g.S.box.y0,vI g.S.box.x1,vI g.S.box.y1,.slice g.S.rA g.S.rn g.S.rc,.slice g.S.dA g.S.dn g.S.dc,vI g.S.fog,vI g.S.g.x,vI g.S.g.y,vI g.S.push,vI g.S.drag,vI g.S.rest,vI g.S.rounds,vI g.S.fuel],.agg #[.slice g.cA g.cn g.cc,vI g.e0,vI g.e1,vI g.e2],vI g.version,vS g.ib g.iR g.ni g.ic] (ap [] [T]) F (λ u H'=>∃x,H'=ap [] [x]/\(MemH mb (bA (g.step M) M) k x/\u=.tuple #[.bool false,.agg #[vI 0,vI 0,vI 0,vI 0],.bool false])):=by
 refine QS Tryz.func124 mn<|ae 29 (ow 0 8) λ n1=>aal (jE hp hM (ay 0))<|OU 18<|aap [] []<|ag [] [0,1,2,3,4,5,7] (ow 3 16++(ow 2 4))<|aae [] 6 (λ X_=>(aD 2 hM (aY 0)))<|aae [] 8 (λ X_=>(aD 3 hM (aY 0)))<|aem [9]<|aag 10 (aai [] [] λ n2=>?_);refine aem [11]<|aaf<|SO 7 [.o 1]<|aam [0] [0] (wj (g.step M) (n2+0) (k+6) hM hS.up ) ?_;rintro _ T3 UI;refine OU 3<|aap [13] [0,1,3,4]<|ag [0,1,3,4] [0,4,8,1,5,9,2,6,10,3,7,11,12] (ow 0 5++[.ro 0])<|SV 13 [0,1,3,4] (ow 2 4)<|ag [0,1,3,4] [14] []<|aaf<|ae 1 [] λ _=>aav (ow 2 4) [] [0] ⟨T3,rfl,UI.weak (by omega),rfl⟩
theorem Pp(hM:MemH mb M (k+20) T)(hS:SetIn F g.S)(hp:M.get 1=5) :aeo 124 #[.iface 85 (vP mb 0),.agg #[vI g.S.players,vS g.S.bb (g.S.bo*9) g.S.nb g.S.bc,vI g.S.box.x0,vI g.S.box.y0,vI g.S.box.x1,vI g.S.box.y1,.slice g.S.rA g.S.rn g.S.rc,.slice g.S.dA g.S.dn g.S.dc,vI g.S.fog,vI g.S.g.x,vI g.S.g.y,vI g.S.push,vI g.S.drag,vI g.S.rest,vI g.S.rounds,vI g.S.fuel],.agg #[.slice g.cA g.cn g.cc,vI g.e0,vI g.e1,vI g.e2],vI g.version,vS g.ib g.iR g.ni g.ic] (ap [] [T]) F (λ u H'=>∃x,H'=ap [] [x]/\(MemH mb (dJ (g.step M) M) k x/\u=.tuple #[.bool false,.agg #[vI 0,vI 0,vI 0,vI 0],.bool false])):=by
 refine QS Tryz.func124 mn<|ae 29 (ow 0 8) λ n1=>aal (jE hp hM (ay 0))<|OU 18<|aap [] []<|ag [] [0,1,2,3,4,5,7] (ow 3 16++(ow 2 4))<|aae [] 6 (λ X_=>(aD 2 hM (aY 0)))<|aae [] 8 (λ X_=>(aD 3 hM (aY 0)))<|aem [9]<|aag 10 (aai [] [] λ n2=>?_);refine aem [11]<|aaf<|SO 7 [.o 1]<|aam [0] [0] (EK (g.step M) (n2+0) (k+12) hM hS.up ) ?_;rintro _ T3 UI;refine OU 3<|aap [13] [0,1,3,4]<|ag [0,1,3,4] [0,4,8,1,5,9,2,6,10,3,7,11,12] (ow 0 5++[.ro 0])<|SV 13 [0,1,3,4] (ow 2 4)<|ag [0,1,3,4] [14] []<|aaf<|ae 1 [] λ _=>aav (ow 2 4) [] [0] ⟨T3,rfl,UI.weak (by omega),rfl⟩
theorem Pq(hM:MemH mb M (k+20) T)(hS:SetIn F g.S)(hp:M.get 1=6)(hE:¬ M.get 3=0->cU F)(hC:CodeIn F g.code g.cA g.cn):aeo 124 #[.iface 85 (vP mb 0),.agg #[vI g.S.players,vS g.S.bb (g.S.bo*9) g.S.nb g.S.bc,vI g.S.box.x0,vI g.S.box.y0,vI g.S.box.x1,vI g.S.box.y1,.slice g.S.rA g.S.rn g.S.rc,.slice g.S.dA g.S.dn g.S.dc,vI g.S.fog,vI g.S.g.x,vI g.S.g.y,vI g.S.push,vI g.S.drag,vI g.S.rest,vI g.S.rounds,vI g.S.fuel],.agg #[.slice g.cA g.cn g.cc,vI g.e0,vI g.e1,vI g.e2],vI g.version,vS g.ib g.iR g.ni g.ic] (ap [] [T]) F (λ u H'=>∃x,H'=ap [] [x]/\(MemH mb (fP (g.step M) M).M k x/\u=.tuple #[.bool false,.agg (aaa (fP (g.step M) M).e).toArray,.bool ((fP (g.step M) M).em)])):=by
 refine QS Tryz.func124 mn<|ae 29 (ow 0 8) λ n1=>aal (jE hp hM (ay 0))<|OU 18<|aap [] []<|ag [] [0,1,2,3,4,5,7] (ow 3 16++(ow 2 4))<|aae [] 6 (λ X_=>(aD 2 hM (aY 0)))<|aae [] 8 (λ X_=>(aD 3 hM (aY 0)))<|aem [9]<|aag 10 (aai [] [] λ n2=>?_);refine aem [11]<|aaf<|SO 7 [.o 1]<|aam [0] [0] (RB (g.step M) (n2+0) (k+11) hM hS.up (λ h_=>aC (hE h_)) hC.up) ?_;rintro _ T3 UI;refine OU 3<|aap [13] [0,1,3,4]<|ag [0,1,3,4] [0,4,8,1,5,9,2,6,10,3,7,11,12] (ow 0 5++[.ro 0])<|SV 13 [0,1,3,4] (ow 2 4)<|ag [0,1,3,4] [14] []<|aaf<|ae 1 [] λ _=>aav (ow 2 4) [] [0] ⟨T3,rfl,UI.weak (by omega),rfl⟩
theorem Pr(hM:MemH mb M (k+20) T)(hS:SetIn F g.S)(hp:M.get 1=7) :aeo 124 #[.iface 85 (vP mb 0),.agg #[vI g.S.players,vS g.S.bb (g.S.bo*9) g.S.nb g.S.bc,vI g.S.box.x0,vI g.S.box.y0,vI g.S.box.x1,vI g.S.box.y1,.slice g.S.rA g.S.rn g.S.rc,.slice g.S.dA g.S.dn g.S.dc,vI g.S.fog,vI g.S.g.x,vI g.S.g.y,vI g.S.push,vI g.S.drag,vI g.S.rest,vI g.S.rounds,vI g.S.fuel],.agg #[.slice g.cA g.cn g.cc,vI g.e0,vI g.e1,vI g.e2],vI g.version,vS g.ib g.iR g.ni g.ic] (ap [] [T]) F (λ u H'=>∃x,H'=ap [] [x]/\(MemH mb (fX (g.step M) M) k x/\u=.tuple #[.bool (j0 (g.step M)),.agg #[vI 0,vI 0,vI 0,vI 0],.bool false])):=by
 refine QS Tryz.func124 mn<|ae 29 (ow 0 8) λ n1=>aal (jE hp hM (ay 0))<|OU 18<|aap [] []<|ag [] [0,1,2,3,4,5,7] (ow 3 16++(ow 2 4))<|aae [] 6 (λ X_=>(aD 2 hM (aY 0)))<|aae [] 8 (λ X_=>(aD 3 hM (aY 0)))<|aem [9]<|aag 10 (aai [] [] λ n2=>?_);refine aem [11]<|aaf<|SO 7 [.o 1]<|aam [0] [0] (HY (g.step M) (n2+0) (k+6) hM hS.up ) ?_;rintro _ T3 UI;refine OU 3<|aap [13] [0,1,3,4]<|ag [0,1,3,4] [0,4,8,1,5,9,2,6,10,3,7,11,12] (ow 0 5++[.ro 0])<|SV 13 [0,1,3,4] (ow 2 4)<|ag [0,1,3,4] [14] []<|aaf<|ae 1 [] λ _=>aav (ow 2 4) [] [0] ⟨T3,rfl,UI.weak (by omega),rfl⟩
def sc:Enc Eff:=⟨4,λ p k=>match k with|0=>vI p.t|1=>vI p.i|2=>vI p.k|_=>vI p.v,aL⟩
noncomputable def Oj:TypeInfo:=match Tryz.prog.info? 177 with | some i=>i | none=>⟨.bool,"",0,0,false,0,0,none,false,#[]⟩
noncomputable def Ok:Value:=match Oj.zero with|some z=>z|none=>.bool false
theorem HZ:EncOk sc Tryz.prog 177 Oj Ok where
 info:=by kernel_rfl
 zero:=by kernel_rfl
 size:=by kernel_rfl
 zsize:=by kernel_rfl
 zcell:=λ k hk=>by
  have h:∀k<4,Ok.cells[k]?=some (sc.cell sc.dflt k):=by intro k hk;(iterate 4 (rcases k with _|k;· kernel_rfl));omega
  exact h k hk
 one:=λ x k=>by unfold sc;dsimp only;split <;> rfl
 bytes:=aaH (by kernel_rfl)
def eD(g:Gm)(M:MemS):VR:=if M.get 1=0 then ⟨dV (g.step M) M,0,aL,false⟩ else if M.get 1=1 then (fO (g.step M) M) else if M.get 1=2 then (dC (g.step M) M) else if M.get 1=3 then ⟨dW (g.step M) M,0,aL,false⟩ else if M.get 1=4 then ⟨bA (g.step M) M,0,aL,false⟩ else if M.get 1=5 then ⟨dJ (g.step M) M,0,aL,false⟩ else if M.get 1=6 then (fP (g.step M) M) else ⟨fX (g.step M) M,0,aL,false⟩
def js(g:Gm)(M:MemS):Bool:=if M.get 1=7 then j0 (g.step M) else false
abbrev jH(g:Gm)(M:MemS):MemS:=(eD g M).M
abbrev EL(M:MemS):Prop:=0<=M.get 1/\M.get 1<=7
structure GmIn(F:HL)(g:Gm):Prop where
 set:SetIn F g.S
 ins:InB F g.ib g.iR g.ni λ k=>g.ins.getD (g.io+k) dI
 room:g.ni<=1000000
 eff:cU F
 code:CodeIn F g.code g.cA g.cn
structure GmC(F:HL)(g:Gm):Prop where
 set:SetIn F g.S
 ins:InB F g.ib g.iR g.ni λ k=>g.ins.getD (g.io+k) dI
 room:g.ni<=1000000
 code:CodeIn F g.code g.cA g.cn
theorem GmIn.c{g:Gm}(h:GmIn F g):GmC F g:=⟨h.set,h.ins,h.room,h.code⟩
abbrev TO(M:MemS):Prop:=(M.get 1=1\/M.get 1=2\/M.get 1=6)/\¬ M.get 3=0
theorem Bp{g:Gm}(hM:MemH mb M (k+20) T)(hg:GmC F g)(hJ:TO M->cU F)(h0:EL M)(Zo:g.version=Wh):aeo 124 #[.iface 85 (vP mb 0),.agg #[vI g.S.players,vS g.S.bb (g.S.bo*9) g.S.nb g.S.bc,vI g.S.box.x0,vI g.S.box.y0,vI g.S.box.x1,vI g.S.box.y1,.slice g.S.rA g.S.rn g.S.rc,.slice g.S.dA g.S.dn g.S.dc,vI g.S.fog,vI g.S.g.x,vI g.S.g.y,vI g.S.push,vI g.S.drag,vI g.S.rest,vI g.S.rounds,vI g.S.fuel],.agg #[.slice g.cA g.cn g.cc,vI g.e0,vI g.e1,vI g.e2],vI Wh,vS g.ib g.iR g.ni g.ic] (ap [] [T]) F (λ u H'=>∃x,H'=ap [] [x]/\(MemH mb (jH g M) k x/\u=.tuple #[.bool (js g M),.agg (aaa (eD g M).e).toArray,.bool ((eD g M).em)])):=by
 subst Zo
 by_cases h0:M.get 1=0
 ·rw[jH,show eD g M=⟨dV (g.step M) M,0,aL,false⟩ by simp only[eD,if_pos h0],show js g M=false by simp[js,h0]];exact Pj g k hM hg.set h0 hg.ins hg.room
 by_cases h1:M.get 1=1
 ·rw[jH,show eD g M=(fO (g.step M) M) by simp only[eD,if_neg h0,if_pos h1],show js g M=false by simp[js,h1]];exact Pk g k hM hg.set h1 (λ h_=>hJ ⟨by omega,h_⟩) hg.code
 by_cases h2:M.get 1=2
 ·rw[jH,show eD g M=(dC (g.step M) M) by simp only[eD,if_neg h0,if_neg h1,if_pos h2],show js g M=false by simp[js,h2]];exact Pm g k hM hg.set h2 (λ h_=>hJ ⟨by omega,h_⟩) hg.code
 by_cases h3:M.get 1=3
 ·rw[jH,show eD g M=⟨dW (g.step M) M,0,aL,false⟩ by simp only[eD,if_neg h0,if_neg h1,if_neg h2,if_pos h3],show js g M=false by simp[js,h3]];exact Pn g k hM hg.set h3
 by_cases h4:M.get 1=4
 ·rw[jH,show eD g M=⟨bA (g.step M) M,0,aL,false⟩ by simp only[eD,if_neg h0,if_neg h1,if_neg h2,if_neg h3,if_pos h4],show js g M=false by simp[js,h4]];exact Po g k hM hg.set h4
 by_cases h5:M.get 1=5
 ·rw[jH,show eD g M=⟨dJ (g.step M) M,0,aL,false⟩ by simp only[eD,if_neg h0,if_neg h1,if_neg h2,if_neg h3,if_neg h4,if_pos h5],show js g M=false by simp[js,h5]];exact Pp g k hM hg.set h5
 by_cases h6:M.get 1=6
 ·rw[jH,show eD g M=(fP (g.step M) M) by simp only[eD,if_neg h0,if_neg h1,if_neg h2,if_neg h3,if_neg h4,if_neg h5,if_pos h6],show js g M=false by simp[js,h6]];exact Pq g k hM hg.set h6 (λ h_=>hJ ⟨by omega,h_⟩) hg.code
 have h7:M.get 1=7:=by omega
 rw[jH,show eD g M=⟨fX (g.step M) M,0,aL,false⟩ by simp only[eD,if_neg h0,if_neg h1,if_neg h2,if_neg h3,if_neg h4,if_neg h5,if_neg h6],show js g M=j0 (g.step M) by simp[js,h7]];exact Pr g k hM hg.set h7
theorem EM{g:Gm}(hM:MemH mb M (k+20) T)(hg:GmIn F g)(h0:EL M)(Zo:g.version=Wh):aeo 124 #[.iface 85 (vP mb 0),.agg #[vI g.S.players,vS g.S.bb (g.S.bo*9) g.S.nb g.S.bc,vI g.S.box.x0,vI g.S.box.y0,vI g.S.box.x1,vI g.S.box.y1,.slice g.S.rA g.S.rn g.S.rc,.slice g.S.dA g.S.dn g.S.dc,vI g.S.fog,vI g.S.g.x,vI g.S.g.y,vI g.S.push,vI g.S.drag,vI g.S.rest,vI g.S.rounds,vI g.S.fuel],.agg #[.slice g.cA g.cn g.cc,vI g.e0,vI g.e1,vI g.e2],vI Wh,vS g.ib g.iR g.ni g.ic] (ap [] [T]) F (λ u H'=>∃x,H'=ap [] [x]/\(MemH mb (jH g M) k x/\u=.tuple #[.bool (js g M),.agg (aaa (eD g M).e).toArray,.bool ((eD g M).em)])):=Bp k hM hg.c (λ _=>hg.eff) h0 Zo
def gh(g:Gm):Nat->MemS->MemS
 |0,M=>M
 |n+1,M=>gh g n (jH g M)
def d7(g:Gm):Nat->MemS->List Eff
 |0,_=>[]
 |n+1,M=>(if (eD g M).em=true then [(eD g M).e] else [])++d7 g n (jH g M)
def dR(g:Gm):Nat->MemS->Prop
 |0,_=>False
 |n+1,M=>EL M/\((n=0/\js g M=true)\/(js g M=false/\dR g n (jH g M)))
theorem ux{g:Gm}(h:(eD g M).em=true):d7 g (n+1) M=(eD g M).e::d7 g n (jH g M):=by rw[d7,if_pos h];rfl
theorem oW{g:Gm}(h:¬ (eD g M).em=true):d7 g (n+1) M=d7 g n (jH g M):=by rw[d7,if_neg h];rfl
def EN(cs:List Int)(i:Nat):List Int:=cs.take i++List.replicate (cs.length-i) 0
theorem pF(n:Nat):vT [vI 0]=bF (List.replicate n 0):=by
 funext i k;rcases k with _|k
 ·have:(List.replicate n (0:Int)).getD i 0=0:=by
   rw[aaG,ab3];split <;> rfl
  show vI 0=vI _;rw[this]
 ·simp[vT,bF]
theorem H3(cs:List Int):vT [vI 0]=bF (EN cs 0):=by rw[pF cs.length];simp[EN]
theorem Mn(cs:List Int):EN cs cs.length=cs:=by simp[EN]
theorem H4{cs:List Int}{i:Nat}(h:i<cs.length):cF (bF (EN cs i)) i 0 (vI (cs.getD i 0))=bF (EN cs (i+1)):=by
 rw[f9 (by simp[EN];omega)];congr 1;unfold EN;rw[List.set_append_right _ _ (by simp;omega)];have e:cs.length-i=(cs.length-(i+1))+1:=by omega
 rw[e,List.replicate_succ,adM h,aaF];simp[aaL,adY (Nat.le_of_lt h),h]
theorem Mo{q:Nat}{cs:List Int}{k cap:Nat}(hq:(q,.rows 1 cs.length (bF cs) 3 (0,0))∈F)(hc:cs.length<=1000000)(hk:k<=100000000)(hcap:cs.length<=cap):aeo 48 #[vS q 0 cs.length cap] [] F (λ u H'=>∃x:Nat×HL,H'=ap [] [x.2]/\(u=vP x.1 0/\MemH x.1 ⟨cs,[],0⟩ k x.2)):=by
 refine QU Tryz.func48 hq<|ah 24 [.mk cs.length cs.length] [(cs.length:Int)=((cs.length:Nat):Int)/\(cs.length:Int)=((cs.length:Nat):Int)/\cs.length<=cs.length/\8*cs.length<=140737488355328/\1=1/\cs.length<=9223372036854775807] λ n1=>aak 1 (congrArg (λ v_=>(.rows 1 cs.length v_ 3 (0,0):Blk)) (show (vT [vI 0])=(bF (EN cs 0)) from (by rw[H3 cs])))<|aat (σ:=Nat) (λ i=>⟨[(0,vS q 0 cs.length cap),(3,vP (n1+1) 0),(11,vI (cs.length:Int)),(12,vI (i:Int))],[((n1+1),.lit [vS (n1+0) 0 cs.length cs.length,.slice none 0 0,vI 0] 164 (0,0)),((n1+0),.rows 1 cs.length (bF (EN cs i)) 3 (0,0))],[],i<=cs.length,cs.length-i⟩) 0 [0,1] [] (aaJ _) ?_;rintro i Yt OF;refine OU 6<|aaq ((i:Int)<(cs.length:Int)) 13 (λ h4=>?_) λ h4=>?_
 ·refine OU 11<|aap [10] []<|aA [] [0,4,5,6,1,7,2,8,3,9] [.ix i,.rorow 0 i 0,.o 0,.ix i] [(i:Int)=((i:Nat):Int)/\i<cs.length,(0+i*1)=i*1+0/\i<cs.length,(i:Int)=((i:Nat):Int)/\i<cs.length]<|aag 10 (fK [] [.row 1 i 0] [(0+i*1)=i*1+0/\i<cs.length] λ _=>?_);refine aaf<|ah 6 [.nw] [aI ((i:Int)+1)] λ _=>aak 1 (congrArg (λ v_=>(.rows 1 cs.length v_ 3 (0,0):Blk)) (show (cF (bF (EN cs i)) i 0 (vI (cs.getD i 0)))=(bF (EN cs (i+1))) from (by rw[<- H4 (cs:=cs) (i:=i) (by omega)])))<|OF (i+1) [0,1] [] ?_
  try dsimp only
  exact⟨by omega,by omega⟩
 ·refine OU 12<|QV [] [0,1] [] (vP (n1+1) 0) [((n1+1),.lit [vS (n1+0) 0 cs.length cs.length,.slice none 0 0,vI 0] 164 (0,0)),((n1+0),.rows 1 cs.length (bF (EN cs i)) 3 (0,0))] ?_;have ei:i=cs.length:=by omega
  subst ei;rw[Mn];have hmm:=MemH.mk (mb:=(n1+1)) (M:=⟨cs,[],0⟩) (k:=k) (n1+0) none 0 [] (aay _ _) hc (show ([]:List (Int×Int)).length+k<=100000000 by simpa using hk);exact⟨((n1+1),_),rfl,rfl,hmm⟩
def bj(n Vj:Int):Int:=(if n<0 then aR (0-aR (n+1)) else n).tmod Vj
theorem kK(n:Int)(Vj:Int)(h0:Vj≠0):aen 12 #[vI n,vI Vj] F (vI (bj n Vj)):=by
 refine QT Tryz.func12<|OU 12<|aaq (n<0) 6 (λ h1=>?_) λ h1=>?_
 ·refine rH 16 [.gen,.dv] (λ _=>[Vj≠0]) (λ _=>(ac h0 an)) λ _=>QW (vI ((i64.wrap (0-(i64.wrap (n+1)))).tmod Vj)) _ ⟨by unfold bj;simp[*],rfl⟩
 ·refine rH 11 [.dv] (λ _=>[Vj≠0]) (λ _=>(ac h0 an)) λ _=>QW (vI (n.tmod Vj)) _ ⟨by unfold bj;simp[*],rfl⟩
def eV(S:Setup):Int:=i64.wrap ((i64.wrap ((i64.wrap ((i64.wrap ((i64.wrap (S.players+(i64.wrap ((i64.wrap ((i64.wrap (S.players+1))+(S.nb:Int)))*(i64.wrap (S.fuel+3))))))+(i64.wrap (2*(S.nb:Int)))))+3))+(i64.wrap ((i64.wrap ((i64.wrap (S.rounds*(S.nb:Int)))*(i64.wrap ((S.nb:Int)-1)))).tdiv 2))))+(i64.wrap ((S.nb:Int)*(i64.wrap ((S.nb:Int)+1)))))
theorem EO(S:Setup):aen 95 #[(Setup.v S)] F (vI (eV S)):=by
 refine QT Tryz.func95<|ae 54 (aab 4) λ n1=>QW _ _ ⟨rfl,rfl⟩
def uy(n:Int):Int:=bj n 1000
def sd(n:Int):Int:=aR (512*aR (1+(aR ((uy n).tdiv 7)).tmod 5))
def yc(r:Int):List V2:=[⟨aR (0-r),aR (0-r)⟩,⟨r,aR (0-r)⟩,⟨r,r⟩,⟨aR (0-r),r⟩]
def CT(r:Int):List V2:=[⟨aR (0-r),aR (0-r)⟩,⟨r,aR (0-r)⟩,⟨0,r⟩]
def CU(r:Int):List V2:=[⟨aR (-2*r),-300⟩,⟨aR (2*r),-300⟩,⟨aR (2*r),300⟩,⟨aR (-2*r),300⟩]
def cH(n:Int):Int×List V2:=if (uy n).tmod 7=0 then (sd n,[]) else if (uy n).tmod 7=1 then (sd n,[]) else if (uy n).tmod 7=2 then (sd n,[]) else if (uy n).tmod 7=3 then (0,yc (sd n)) else if (uy n).tmod 7=4 then (0,yc (sd n)) else if (uy n).tmod 7=5 then (0,CT (sd n)) else (0,CU (sd n))
def ShH(s:Shp)(T:HL):Prop:=∀F,(∀x∈T,x∈F)->ShIn F s
theorem ShH.circle(r:Int)(A:Option Addr)(cap:Nat):ShH ⟨r,[],A,cap⟩ []:=λ F _=>.circle r A cap
theorem ShH.poly(r:Int)(l:List V2)(b cap:Nat)(h3:3<=l.length)(h4:l.length<=cap)(h5:l.length<=1000000):ShH ⟨r,l,some ⟨b,0,none⟩,cap⟩ [(b,.rows 2 cap (jY l) 32 (0,0))]:=λ F h=>.poly r l b cap (h _ (by simp)) h3 h4 h5
theorem yd(n:Int):aeo 18 #[vI n] [] F (λ u H'=>∃x:Option Addr×Nat×HL,H'=ap [] [x.2.2]/\(u=LT ⟨(cH n).1,(cH n).2,x.1,x.2.1⟩/\ShH ⟨(cH n).1,(cH n).2,x.1,x.2.1⟩ x.2.2)):=by
 refine QT Tryz.func18<|ae 8 [] λ n1=>aal (kK n 1000 (by decide))<|OU 28<|aaq ((uy n).tmod 7=0) 14 (λ h2=>?_) λ h2=>?_
 ·refine ae 11 (aab 2) λ _=>?_;have e:cH n=(sd n,[]):=by simp only[cH,if_pos h2]
  exact aav (aab 2) [] [] (by rw[e];exact⟨(none,0,[]),rfl,rfl,ShH.circle _ _ _⟩)
 ·refine OU 7<|aaq ((uy n).tmod 7=1) 14 (λ h3=>?_) λ h3=>?_
  ·refine ae 11 (aab 2) λ _=>?_;have e:cH n=(sd n,[]):=by simp only[cH,if_neg h2,if_pos h3]
   exact aav (aab 2) [] [] (by rw[e];exact⟨(none,0,[]),rfl,rfl,ShH.circle _ _ _⟩)
  ·refine OU 6<|aaq ((uy n).tmod 7=2) 14 (λ h4=>?_) λ h4=>?_
   ·refine ae 8 (aab 2) λ _=>?_;have e:cH n=(sd n,[]):=by simp only[cH,if_neg h2,if_neg h3,if_pos h4]
    exact aav (aab 2) [] [] (by rw[e];exact⟨(none,0,[]),rfl,rfl,ShH.circle _ _ _⟩)
   ·refine OU 8<|aaq ((uy n).tmod 7=3) 20 (λ h5=>?_) λ h5=>?_
    ·refine ae 27 [.o 1,.o 1] λ n6=>aao 0 (.rows 2 4 (jY (yc (sd n))) 32 (0,0)) ?_;have e:cH n=(0,yc (sd n)):=by simp only[cH,if_neg h2,if_neg h3,if_neg h4,if_pos h5]
     exact aav [.o 1,.o 1] [0] [] (by rw[e];exact⟨(some ⟨(n6+0),0,none⟩,4,_),rfl,rfl,ShH.poly 0 (yc (sd n)) (n6+0) 4 (aaH rfl) (aaH rfl) (aaH rfl)⟩)
    ·refine OU 6<|aaq ((uy n).tmod 7=4) 20 (λ h7=>?_) λ h7=>?_
     ·refine ae 24 [.o 1,.o 1] λ n8=>aao 0 (.rows 2 4 (jY (yc (sd n))) 32 (0,0)) ?_;have e:cH n=(0,yc (sd n)):=by simp only[cH,if_neg h2,if_neg h3,if_neg h4,if_neg h5,if_pos h7]
      exact aav [.o 1,.o 1] [0] [] (by rw[e];exact⟨(some ⟨(n8+0),0,none⟩,4,_),rfl,rfl,ShH.poly 0 (yc (sd n)) (n8+0) 4 (aaH rfl) (aaH rfl) (aaH rfl)⟩)
     ·refine OU 7<|aaq ((uy n).tmod 7=5) 41 (λ h9=>?_) λ h9=>?_
      ·refine ae 19 [.o 1,.o 1] λ Wi=>aao 0 (.rows 2 3 (jY (CT (sd n))) 32 (0,0)) ?_;have e:cH n=(0,CT (sd n)):=by simp only[cH,if_neg h2,if_neg h3,if_neg h4,if_neg h5,if_neg h7,if_pos h9]
       exact aav [.o 1,.o 1] [0] [] (by rw[e];exact⟨(some ⟨(Wi+0),0,none⟩,3,_),rfl,rfl,ShH.poly 0 (CT (sd n)) (Wi+0) 3 (aaH rfl) (aaH rfl) (aaH rfl)⟩)
      ·refine ae 23 [.o 1,.o 1] λ n11=>aao 0 (.rows 2 4 (jY (CU (sd n))) 32 (0,0)) ?_;have e:cH n=(0,CU (sd n)):=by simp only[cH,if_neg h2,if_neg h3,if_neg h4,if_neg h5,if_neg h7,if_neg h9]
       exact aav [.o 1,.o 1] [0] [] (by rw[e];exact⟨(some ⟨(n11+0),0,none⟩,4,_),rfl,rfl,ShH.poly 0 (CU (sd n)) (n11+0) 4 (aaH rfl) (aaH rfl) (aaH rfl)⟩)
end
section
variable {A:Option Addr} {F X:HL} {S:Setup} {T:TypeId} {b n q:Nat} {k:Int} {s:Shp} {xs:List Int} {α:Type} (pa:V2) (N:Nat) (va:V2) (a:Int) (pb:V2) (m:Mot) (vb:V2)
theorem mG(h:SetN S){i:Nat}(hi:i<S.nb):0<=af S i/\af S i+8<=sizeOf S/\sizeOf S<=20000000:=by
 have:=h.pl;have:=h.nb;unfold af sizeOf;rw[if_neg (by omega),if_neg (by omega)];omega
theorem cz(h:SetN S):48<=sizeOf S/\sizeOf S<=20000000:=by
 have:=h.pl;have:=h.nb;unfold sizeOf;omega
def b8(S:Setup):Nat->List Int
 |0=>List.replicate (sizeOf S).toNat 0
 |i+1=>((((((b8 S i).set (af S i).toNat (S.body i).mot.px).set (af S i+1).toNat (S.body i).mot.py).set (af S i+2).toNat (S.body i).mot.vx).set (af S i+3).toNat (S.body i).mot.vy).set (af S i+4).toNat (S.body i).a).set (af S i+5).toNat (S.body i).b
theorem j7(S:Setup):∀i,(b8 S i).length=(sizeOf S).toNat
 |0=>by simp[b8]
 |i+1=>by simp[b8,j7 S i]
theorem uz(h:SetN S){i:Nat}(hi:i<S.nb):cF (cF (cF (cF (cF (cF (bF (b8 S i)) (af S i).toNat 0 (vI (S.body i).mot.px)) (af S i+1).toNat 0 (vI (S.body i).mot.py)) (af S i+2).toNat 0 (vI (S.body i).mot.vx)) (af S i+3).toNat 0 (vI (S.body i).mot.vy)) (af S i+4).toNat 0 (vI (S.body i).a)) (af S i+5).toNat 0 (vI (S.body i).b)=bF (b8 S (i+1)):=by
 have:=mG h hi;rw[f9,f9,f9,f9,f9,f9,b8] <;> (simp only[abE,j7];omega)
theorem EP(hS:SetIn F S):aeo 25 #[Setup.v S] (ap [] []) F (λ u H'=>∃q,H'=ap [(q,.rows 1 (sizeOf S).toNat (bF (b8 S S.nb)) 3 (0,0))] []/\u=vS q 0 (sizeOf S).toNat (sizeOf S).toNat):=by
 have hp:=hS.pl;have hn:=hS.nb;have hr:=hS.room;have hz:=cz hS.toSetN;refine QU Tryz.func25 hS.blk<|ae 9 (ow 0 16) λ n1=>aal (Ey hS.toSetN)<|ah 11 [.mk ((sizeOf S).toNat) ((sizeOf S).toNat)] [sizeOf S=(((sizeOf S).toNat:Nat):Int)/\sizeOf S=(((sizeOf S).toNat:Nat):Int)/\(sizeOf S).toNat<=(sizeOf S).toNat/\8*((sizeOf S).toNat)<=140737488355328/\1=1/\(sizeOf S).toNat<=9223372036854775807] λ n2=>aak 0 (congrArg (λ v_=>(.rows 1 ((sizeOf S).toNat) v_ 3 (0,0):Blk)) (show (vT [vI 0])=(bF (b8 S 0)) from (by rw[pF (sizeOf S).toNat] <;> rfl)))<|aat (σ:=Nat) (λ i=>⟨[(1,vP (n1+0) 0),(3,vS (n2+0) 0 ((sizeOf S).toNat) ((sizeOf S).toNat)),(4,vI (i:Int))],[((n2+0),.rows 1 ((sizeOf S).toNat) (bF (b8 S i)) 3 (0,0)),((n1+0),.lit (Setup.l S) 34 (0,0))],[],i<=S.nb,S.nb-i⟩) 0 [0,1] [] (aaJ _) ?_;rintro i hI3 YA;refine SO 10 [.o 1]<|aaq ((i:Int)<(S.nb:Int)) 14 (λ h5=>?_) λ h5=>?_
 ·have hbi:=mG hS.toSetN (i:=i) (by omega);refine SO 9 (ow 1 16)<|aal (cy (i:Int) hS.toSetN) ?_;have hb6:=bT hS.toSetN (i:Int);refine ah 92 ([.o 1,.ix i,.rorow 0 (S.bo+i) 0,.rorow 0 (S.bo+i) 1,.rorow 0 (S.bo+i) 2,.rorow 0 (S.bo+i) 3,.rorow 0 (S.bo+i) 4,.rorow 0 (S.bo+i) 5,.rorow 0 (S.bo+i) 6,.rorow 0 (S.bo+i) 7,.rorow 0 (S.bo+i) 8]++ow 0 10++[.ix ((af S (i:Int)).toNat),.row 1 ((af S (i:Int)).toNat) 0,.nw,.o 0,.ix (((af S (i:Int))+1).toNat),.row 1 (((af S (i:Int))+1).toNat) 0,.nw,.o 0,.ix (((af S (i:Int))+2).toNat),.row 1 (((af S (i:Int))+2).toNat) 0,.nw,.o 0,.ix (((af S (i:Int))+3).toNat),.row 1 (((af S (i:Int))+3).toNat) 0,.nw,.o 0,.ix (((af S (i:Int))+4).toNat),.row 1 (((af S (i:Int))+4).toNat) 0,.nw,.o 0,.ix (((af S (i:Int))+5).toNat),.row 1 (((af S (i:Int))+5).toNat) 0,.nw]) [aI ((i:Int)+1),(0+(((af S (i:Int))+5).toNat)*1)=(((af S (i:Int))+5).toNat)*1+0/\(((af S (i:Int))+5).toNat)<((sizeOf S).toNat),(af S (i:Int))+5=((((af S (i:Int))+5).toNat:Nat):Int)/\((af S (i:Int))+5).toNat<((sizeOf S).toNat),aI ((af S (i:Int))+5),(0+(((af S (i:Int))+4).toNat)*1)=(((af S (i:Int))+4).toNat)*1+0/\(((af S (i:Int))+4).toNat)<((sizeOf S).toNat),(af S (i:Int))+4=((((af S (i:Int))+4).toNat:Nat):Int)/\((af S (i:Int))+4).toNat<((sizeOf S).toNat),aI ((af S (i:Int))+4),(0+(((af S (i:Int))+3).toNat)*1)=(((af S (i:Int))+3).toNat)*1+0/\(((af S (i:Int))+3).toNat)<((sizeOf S).toNat),(af S (i:Int))+3=((((af S (i:Int))+3).toNat:Nat):Int)/\((af S (i:Int))+3).toNat<((sizeOf S).toNat),aI ((af S (i:Int))+3),(0+(((af S (i:Int))+2).toNat)*1)=(((af S (i:Int))+2).toNat)*1+0/\(((af S (i:Int))+2).toNat)<((sizeOf S).toNat),(af S (i:Int))+2=((((af S (i:Int))+2).toNat:Nat):Int)/\((af S (i:Int))+2).toNat<((sizeOf S).toNat),aI ((af S (i:Int))+2),(0+(((af S (i:Int))+1).toNat)*1)=(((af S (i:Int))+1).toNat)*1+0/\(((af S (i:Int))+1).toNat)<((sizeOf S).toNat),(af S (i:Int))+1=((((af S (i:Int))+1).toNat:Nat):Int)/\((af S (i:Int))+1).toNat<((sizeOf S).toNat),aI ((af S (i:Int))+1),(0+((af S (i:Int)).toNat)*1)=((af S (i:Int)).toNat)*1+0/\((af S (i:Int)).toNat)<((sizeOf S).toNat),af S (i:Int)=(((af S (i:Int)).toNat:Nat):Int)/\(af S (i:Int)).toNat<((sizeOf S).toNat),((S.bo*9+i*9)+8)=(S.bo+i)*9+8/\(S.bo+i)<S.bR,((S.bo*9+i*9)+7)=(S.bo+i)*9+7/\(S.bo+i)<S.bR,((S.bo*9+i*9)+6)=(S.bo+i)*9+6/\(S.bo+i)<S.bR,((S.bo*9+i*9)+5)=(S.bo+i)*9+5/\(S.bo+i)<S.bR,((S.bo*9+i*9)+4)=(S.bo+i)*9+4/\(S.bo+i)<S.bR,((S.bo*9+i*9)+3)=(S.bo+i)*9+3/\(S.bo+i)<S.bR,((S.bo*9+i*9)+2)=(S.bo+i)*9+2/\(S.bo+i)<S.bR,((S.bo*9+i*9)+1)=(S.bo+i)*9+1/\(S.bo+i)<S.bR,(S.bo*9+i*9)=(S.bo+i)*9+0/\(S.bo+i)<S.bR,(i:Int)=((i:Nat):Int)/\i<S.nb] λ n7=>aak 1 (congrArg (λ v_=>(.rows 1 ((sizeOf S).toNat) v_ 3 (0,0):Blk)) (show (cF (cF (cF (cF (cF (cF (bF (b8 S i)) ((af S (i:Int)).toNat) 0 (vI ((S.bods.getD (S.bo+i) dB).mot.px))) (((af S (i:Int))+1).toNat) 0 (vI ((S.bods.getD (S.bo+i) dB).mot.py))) (((af S (i:Int))+2).toNat) 0 (vI ((S.bods.getD (S.bo+i) dB).mot.vx))) (((af S (i:Int))+3).toNat) 0 (vI ((S.bods.getD (S.bo+i) dB).mot.vy))) (((af S (i:Int))+4).toNat) 0 (vI ((S.bods.getD (S.bo+i) dB).a))) (((af S (i:Int))+5).toNat) 0 (vI ((S.bods.getD (S.bo+i) dB).b)))=(bF (b8 S (i+1))) from (by rw[<- uz hS.toSetN (i:=i) (by omega)] <;> kernel_rfl)))<|YA (i+1) [1,2] [] ?_
  try dsimp only
  exact⟨by omega,by omega⟩
 ·refine OU 12<|QV [] [0] [] (vS (n2+0) 0 ((sizeOf S).toNat) ((sizeOf S).toNat)) [((n2+0),.rows 1 ((sizeOf S).toNat) (bF (b8 S i)) 3 (0,0))] ?_;have ei:i=S.nb:=by omega
  subst ei;exact⟨_,rfl,rfl⟩
def Bq:Enc Int:=⟨1,λ p k=>match k with|0=>vI p|_=>vI p,0⟩
noncomputable def Ol:TypeInfo:=match Tryz.prog.info? 3 with | some i=>i | none=>⟨.bool,"",0,0,false,0,0,none,false,#[]⟩
noncomputable def Om:Value:=match Ol.zero with|some z=>z|none=>.bool false
theorem H5:EncOk Bq Tryz.prog 3 Ol Om where
 info:=by kernel_rfl
 zero:=by kernel_rfl
 size:=by kernel_rfl
 zsize:=by kernel_rfl
 zcell:=λ k hk=>by
  have h:∀k<1,Om.cells[k]?=some (Bq.cell Bq.dflt k):=by intro k hk;(iterate 1 (rcases k with _|k;· kernel_rfl));omega
  exact h k hk
 one:=λ x k=>by unfold Bq;dsimp only;split <;> rfl
 bytes:=aaH (by kernel_rfl)
abbrev qK(n:Int):Prop:=-9223372036854775808<=n/\n<=9223372036854775807
theorem ee{n:Int}(hn:qK n)(Vj:Int)(h:0<Vj):0<=bj n Vj/\bj n Vj<Vj:=by
 unfold bj;have hx:0<=(if n<0 then aR (0-aR (n+1)) else n):=by
  split
  ·rw[cV (x:=n+1) (by omega),cV (by omega)];omega
  ·omega
 exact⟨aei _ hx,Int.tmod_lt_of_pos _ h⟩
inductive ArgL(F:HL):Option Addr->Nat->List Int->Prop
 |zero (A:Option Addr):ArgL F A 0 []
 |cells (q o N:Nat) (g:Nat->Nat->Value) (ty:TypeId) (fz:Nat×Nat) (xs:List Int) (hq:(q,.rows 1 N g ty fz)∈F) (ho:o+xs.length<=N) (hx:∀k,k<xs.length->g (o+k) 0=vI (xs.getD k 0)) (hb:∀k,k<xs.length->qK (xs.getD k 0)):ArgL F (some ⟨q,o,none⟩) xs.length xs
theorem ArgL.up(h:ArgL F A n xs):ArgL (X++F) A n xs:=by
 cases h with
 |zero=>exact .zero _
 |cells q o N g ty fz xs hq ho hx hb=>exact .cells q o N g ty fz xs (aaB _ hq) ho hx hb
theorem ArgL.len(h:ArgL F A n xs):xs.length=n:=by
 cases h <;> rfl
theorem ArgL.at(h:ArgL F A n xs){k:Nat}(hk:k<n):∃q o N g ty fz,A=some ⟨q,o,none⟩/\(q,.rows 1 N g ty fz)∈F/\o+k<N/\g (o+k) 0=vI (xs.getD k 0)/\qK (xs.getD k 0):=by
 cases h with
 |zero=>omega
 |cells q o N g ty fz xs hq ho hx hb=>exact⟨q,o,N,g,ty,fz,rfl,hq,by omega,hx k hk,hb k hk⟩
def kv(xs:List Int)(i:Nat):Int:=if i<xs.length then bj (xs.getD i 0) 1000000 else 0
theorem iG(h:ArgL F A n xs)(i:Nat):0<=kv xs i/\kv xs i<1000000:=by
 unfold kv;split
 ·next hi=>
  rw[h.len] at hi;obtain⟨_,_,_,_,_,_,_,_,_,_,hr⟩:=h.at hi;exact ee hr 1000000 (by decide)
 ·omega
def ks(xs:List Int)(n:Nat):List Int:=(List.range n).map (kv xs)
theorem nS(xs:List Int)(n:Nat):(ks xs n).length=n:=by simp[ks]
theorem CV(xs:List Int)(n:Nat):ks xs (n+1)=ks xs n++[kv xs n]:=by simp[ks,List.range_succ]
theorem Ps{i:Nat}(h:i<n):(ks xs n).getD i 0=kv xs i:=by simp[ks,h]
structure Dr where (a b:Int)
def jg:Enc V2:=⟨2,λ p k=>match k with|0=>vI p.x|_=>vI p.y,⟨0,0⟩⟩
noncomputable def On:TypeInfo:=match Tryz.prog.info? 32 with | some i=>i | none=>⟨.bool,"",0,0,false,0,0,none,false,#[]⟩
noncomputable def Oo:Value:=match On.zero with|some z=>z|none=>.bool false
theorem lX:EncOk jg Tryz.prog 32 On Oo where
 info:=by kernel_rfl
 zero:=by kernel_rfl
 size:=by kernel_rfl
 zsize:=by kernel_rfl
 zcell:=λ k hk=>by
  have h:∀k<2,Oo.cells[k]?=some (jg.cell jg.dflt k):=by intro k hk;(iterate 2 (rcases k with _|k;· kernel_rfl));omega
  exact h k hk
 one:=λ x k=>by unfold jg;dsimp only;split <;> rfl
 bytes:=aaH (by kernel_rfl)
def ye:Enc Bx:=⟨4,λ p k=>match k with|0=>vI p.x0|1=>vI p.y0|2=>vI p.x1|_=>vI p.y1,⟨0,0,0,0⟩⟩
noncomputable def RC:TypeInfo:=match Tryz.prog.info? 28 with | some i=>i | none=>⟨.bool,"",0,0,false,0,0,none,false,#[]⟩
noncomputable def RE:Value:=match RC.zero with|some z=>z|none=>.bool false
theorem Oq:EncOk ye Tryz.prog 28 RC RE where
 info:=by kernel_rfl
 zero:=by kernel_rfl
 size:=by kernel_rfl
 zsize:=by kernel_rfl
 zcell:=λ k hk=>by
  have h:∀k<4,RE.cells[k]?=some (ye.cell ye.dflt k):=by intro k hk;(iterate 4 (rcases k with _|k;· kernel_rfl));omega
  exact h k hk
 one:=λ x k=>by unfold ye;dsimp only;split <;> rfl
 bytes:=aaH (by kernel_rfl)
def nT:Enc Dr:=⟨2,λ p k=>match k with|0=>vI p.a|_=>vI p.b,⟨0,0⟩⟩
noncomputable def RF:TypeInfo:=match Tryz.prog.info? 66 with | some i=>i | none=>⟨.bool,"",0,0,false,0,0,none,false,#[]⟩
noncomputable def RG:Value:=match RF.zero with|some z=>z|none=>.bool false
theorem Ot:EncOk nT Tryz.prog 66 RF RG where
 info:=by kernel_rfl
 zero:=by kernel_rfl
 size:=by kernel_rfl
 zsize:=by kernel_rfl
 zcell:=λ k hk=>by
  have h:∀k<2,RG.cells[k]?=some (nT.cell nT.dflt k):=by intro k hk;(iterate 2 (rcases k with _|k;· kernel_rfl));omega
  exact h k hk
 one:=λ x k=>by unfold nT;dsimp only;split <;> rfl
 bytes:=aaH (by kernel_rfl)
structure MapIn(F:HL)(S:Setup)(rs:List Bx)(ds:List Dr):Prop where
 rooms:RowL ye 28 F S.rA S.rn rs
 doors:RowL nT 66 F S.dA S.dn ds
theorem MapIn.up{rs:List Bx}{ds:List Dr}(h:MapIn F S rs ds):MapIn (X++F) S rs ds:=⟨h.rooms.up,h.doors.up⟩
abbrev sf:List Bx:=[⟨-12000,-9000,-1,9000⟩,⟨0,0,12000,9000⟩,⟨0,-9000,12000,-1⟩]
abbrev kL(i:Nat):List Dr:=match i with|0=>[]|1=>[⟨0,1⟩]|_=>[⟨0,2⟩,⟨1,2⟩]
def ClS{α:Type}(e:Enc α)(T:TypeId)(xs:List α)(A':Option Addr)(c':Nat)(Hl:HL):Prop:=∃A0,NewS e T xs A0 A' c' Hl
theorem ClS.rowL{e:Enc α}{xs:List α}{A':Option Addr}{c':Nat}{Hl:HL}(h:ClS e T xs A' c' Hl)(hF:∀x∈Hl,x∈F):RowL e T F A' xs.length xs:=h.elim λ _ h=>h.rowL hF
theorem ClS.nil(e:Enc α)(T:TypeId)(A:Option Addr):ClS e T [] A 0 []:=⟨A,.inl ⟨rfl,rfl,rfl,rfl⟩⟩
theorem ShIn.le(h:ShIn F s):s.poly.length<=1000000:=by
 cases h with
 |circle r A cap=>exact aaJ _
 |poly r l b cap h h3 h4 h5=>exact h5
theorem Mp(h:0<n):0<=a%(n:Int)/\a%(n:Int)<(n:Int):=⟨acy _ (by omega),aca _ (by omega)⟩
theorem yf(r:Int)(A:Option Addr)(cap:Nat)(F:HL):aeo 290 #[.agg #[vI r,.slice A 0 cap]] [] F (λ u H'=>∃x:List V2×Option Addr×Nat×HL,H'=ap [] [x.2.2.2]/\(u=.slice x.2.1 x.1.length x.2.2.1/\SlIs jg 32 x.1 x.2.1 x.2.2.1 x.2.2.2/\x.1.length=0)):=by
 refine QT Tryz.func290<|ae 18 [] λ n1=>aaw 1<|SO 22 [.o 0]<|aau<|aav [] [] [0] ⟨([],none,0,[]),rfl,rfl,aay _ _,rfl⟩
theorem EQ(r:Int){l:List V2}{cap:Nat}(hb:(b,.rows 2 cap (jY l) 32 (0,0))∈F)(h3:3<=l.length)(h4:l.length<=cap)(h5:l.length<=1000000):aeo 290 #[.agg #[vI r,vS b 0 l.length cap]] [] F (λ u H'=>∃x:List V2×Option Addr×Nat×HL,H'=ap [] [x.2.2.2]/\(u=.slice x.2.1 x.1.length x.2.2.1/\SlIs jg 32 x.1 x.2.1 x.2.2.1 x.2.2.2/\x.1.length=l.length)):=by
 refine QU Tryz.func290 hb<|ae 18 [] λ n1=>aau<|aat (σ:=Nat×List V2×Option Addr×Nat×HL) (λ ⟨k_,vs_,A_,c_,E_⟩=>⟨[(1,vP (n1+0) 0),(3,.slice A_ k_ c_),(4,vI (k_:Int))],[((n1+0),.lit [vI r,vS b 0 l.length cap] 70 (0,0))],[E_],k_<=l.length/\vs_.length=k_/\SlIs jg 32 vs_ A_ c_ E_,l.length-k_⟩) (0,[],none,0,[]) [0] [0] (⟨aaJ _,rfl,aay _ _⟩) ?_;rintro⟨k_,vs_,A_,c_,E_⟩ ⟨YJ,hv_,U7⟩ OF;have he_:=Mp ((k_:Int)+1) (n:=l.length) (by omega);refine SO 10 [.o 0]<|aaq ((k_:Int)<(l.length:Int)) 11 (λ h4=>?_) λ h4=>?_
 ·refine ah 17 [.o 0,.ix k_,.rorow 0 k_ 0,.rorow 0 k_ 1,.o 0,.o 0] [((0+k_*2)+1)=k_*2+1/\k_<cap,(0+k_*2)=k_*2+0/\k_<cap,(k_:Int)=((k_:Nat):Int)/\k_<l.length] λ n5=>aap [11] []<|aA [] [0,2,4,1,3,5,6,7,8,9] [.o 1,.nw,.o 1,.nw,.ix ((((k_:Int)+1)%(l.length:Int)).toNat),.rorow 0 ((((k_:Int)+1)%(l.length:Int)).toNat) 0,.rorow 0 ((((k_:Int)+1)%(l.length:Int)).toNat) 1] [((0+((((k_:Int)+1)%(l.length:Int)).toNat)*2)+1)=((((k_:Int)+1)%(l.length:Int)).toNat)*2+1/\((((k_:Int)+1)%(l.length:Int)).toNat)<cap,(0+((((k_:Int)+1)%(l.length:Int)).toNat)*2)=((((k_:Int)+1)%(l.length:Int)).toNat)*2+0/\((((k_:Int)+1)%(l.length:Int)).toNat)<cap,((k_:Int)+1)%(l.length:Int)=(((((k_:Int)+1)%(l.length:Int)).toNat:Nat):Int)/\(((k_:Int)+1)%(l.length:Int)).toNat<l.length,0<=(k_:Int)+1/\(0:Int)<(l.length:Int)/\(k_:Int)+1<=9223372036854775807,aI ((k_:Int)+1)]<|aag 10 (aai [] [] λ n6=>?_);refine SV 11 [] (aab 2)<|aaf<|SO 14 [.o 0,.o 1,.o 1,.o 0]<|SP (mB (⟨i64.wrap (((l.getD ((((k_:Int)+1)%(l.length:Int)).toNat) ⟨0,0⟩).y)-((l.getD k_ ⟨0,0⟩).y)),i64.wrap (((l.getD k_ ⟨0,0⟩).x)-((l.getD ((((k_:Int)+1)%(l.length:Int)).toNat) ⟨0,0⟩).x))⟩:V2)) ?_;rintro _ x7 rfl;refine ae 1 [] λ n8=>ez lX [x7] 0 0 hv_.symm U7 (by simp;omega) ?_;rintro A9 Yu UQ ⟨Xq,acu⟩;refine ah 9 [.nw] [aI ((k_:Int)+1)] λ _=>OF (k_+1,vs_++[x7],A9,Yu,UQ) [3] [0] ?_
  try dsimp only
  exact⟨⟨by omega,by simp;omega,Xq⟩,by omega⟩
 ·refine OU 12<|QV [] [] [0] (.slice A_ k_ c_) (ap [] [E_]) ?_;obtain rfl:k_=l.length:=by omega
  exact⟨(vs_,A_,c_,E_),by simp,by rw[hv_],U7,hv_⟩
theorem wl(r:Int)(A:Option Addr)(cap:Nat)(pos c:V2)(F:HL):aeo 292 #[.agg #[vI r,.slice A 0 cap],.agg #[vI pos.x,vI pos.y],.agg #[vI c.x,vI c.y]] [] F (λ u H'=>∃x:V2,H'=ap [] []/\u=.agg #[vI x.x,vI x.y]):=by
 refine QT Tryz.func292<|ae 27 (aab 2) λ n1=>aaw 1<|SO 22 [.o 4,.o 0,.o 0,.o 1,.o 1]<|QV [.o 1,.o 1] [] [] (.agg #[vI 0,vI 0]) (ap [] []) ⟨⟨_,_⟩,rfl,rfl⟩
theorem Br(r:Int){l:List V2}{cap:Nat}(pos c:V2)(hb:(b,.rows 2 cap (jY l) 32 (0,0))∈F)(h3:3<=l.length)(h4:l.length<=cap)(h5:l.length<=1000000):aeo 292 #[.agg #[vI r,vS b 0 l.length cap],.agg #[vI pos.x,vI pos.y],.agg #[vI c.x,vI c.y]] [] F (λ u H'=>∃x:V2,H'=ap [] []/\u=.agg #[vI x.x,vI x.y]):=by
 refine QU Tryz.func292 hb<|ae 27 (aab 2) λ n1=>aat (σ:=Nat×V2×Int) (λ x_=>⟨[(3,vP (n1+0) 0),(4,vP (n1+1) 0),(5,vP (n1+2) 0),(6,vP (n1+3) 0),(7,vP (n1+4) 0),(8,vI x_.2.2),(9,vI (x_.1:Int))],[((n1+4),.lit [vI x_.2.1.x,vI x_.2.1.y] 32 (0,0)),((n1+3),.lit [vI 0,vI 0] 32 (0,0)),((n1+2),.lit [vI c.x,vI c.y] 32 (0,0)),((n1+1),.lit [vI pos.x,vI pos.y] 32 (0,0)),((n1+0),.lit [vI r,vS b 0 l.length cap] 70 (0,0))],[],x_.1<=l.length,l.length-x_.1⟩) (0,⟨0,0⟩,-1) [0,1,2,3,4] [] (aaJ _) ?_;rintro x_ Yt OF;refine SO 10 [.o 4]<|aaq ((x_.1:Int)<(l.length:Int)) 18 (λ h4=>?_) λ h4=>?_
 ·refine OU 6<|aap [8] []<|aA [] [0,1,3,2,4,5] [.o 3,.o 3,.o 4,.ix x_.1,.rorow 0 x_.1 0,.rorow 0 x_.1 1] [((0+x_.1*2)+1)=x_.1*2+1/\x_.1<cap,(0+x_.1*2)=x_.1*2+0/\x_.1<cap,(x_.1:Int)=((x_.1:Nat):Int)/\x_.1<l.length]<|aae [] 6 (λ X_=>(eM pos (l.getD x_.1 ⟨0,0⟩)))<|aag 7 (aai [] [] λ n5=>?_);refine SV 8 [] (aab 2)<|aaf<|SO 5 [.o 0,.o 0,.o 3,.o 3]<|aal (fo (aF pos (l.getD x_.1 ⟨0,0⟩)) c)<|ae 25 (ow 0 6) λ n6=>aaq (x_.2.2<0) 44 (λ h7=>?_) λ h7=>?_
  ·refine ah 24 [.o 1,.o 1,.o 2,.o 2,.nw] [aI ((x_.1:Int)+1)] λ _=>OF (x_.1+1,⟨(aF pos (l.getD x_.1 ⟨0,0⟩)).x,(aF pos (l.getD x_.1 ⟨0,0⟩)).y⟩,i64.wrap ((i64.wrap (((bQ (aF pos (l.getD x_.1 ⟨0,0⟩)) c).x)*((bQ (aF pos (l.getD x_.1 ⟨0,0⟩)) c).x)))+(i64.wrap (((bQ (aF pos (l.getD x_.1 ⟨0,0⟩)) c).y)*((bQ (aF pos (l.getD x_.1 ⟨0,0⟩)) c).y))))) [2,3,4,5,6] [] ?_
   try dsimp only
   refine⟨by omega,by omega⟩
  ·refine OU 6<|aaq (i64.wrap ((i64.wrap (((bQ (aF pos (l.getD x_.1 ⟨0,0⟩)) c).x)*((bQ (aF pos (l.getD x_.1 ⟨0,0⟩)) c).x)))+(i64.wrap (((bQ (aF pos (l.getD x_.1 ⟨0,0⟩)) c).y)*((bQ (aF pos (l.getD x_.1 ⟨0,0⟩)) c).y))))<x_.2.2) 48 (λ h8=>?_) λ h8=>?_
   ·refine ah 18 [.o 1,.o 1,.o 2,.o 2,.nw] [aI ((x_.1:Int)+1)] λ _=>OF (x_.1+1,⟨(aF pos (l.getD x_.1 ⟨0,0⟩)).x,(aF pos (l.getD x_.1 ⟨0,0⟩)).y⟩,i64.wrap ((i64.wrap (((bQ (aF pos (l.getD x_.1 ⟨0,0⟩)) c).x)*((bQ (aF pos (l.getD x_.1 ⟨0,0⟩)) c).x)))+(i64.wrap (((bQ (aF pos (l.getD x_.1 ⟨0,0⟩)) c).y)*((bQ (aF pos (l.getD x_.1 ⟨0,0⟩)) c).y))))) [2,3,4,5,6] [] ?_
    try dsimp only
    refine⟨by omega,by omega⟩
   ·refine ah 9 [.nw] [aI ((x_.1:Int)+1)] λ _=>OF (x_.1+1,⟨x_.2.1.x,x_.2.1.y⟩,x_.2.2) [2,3,4,5,6] [] ?_
    try dsimp only
    refine⟨by omega,by omega⟩
 ·refine SO 12 [.o 0,.o 0,.o 1,.o 1]<|QV [.o 1,.o 1] [] [] (.agg #[vI x_.2.1.x,vI x_.2.1.y]) (ap [] []) ⟨⟨_,_⟩,rfl,rfl⟩
theorem uB(pos c:V2)(h:ShIn F s):aeo 292 #[LT s,.agg #[vI pos.x,vI pos.y],.agg #[vI c.x,vI c.y]] (ap [] []) F (λ u H'=>∃x:V2,H'=ap [] []/\u=.agg #[vI x.x,vI x.y]):=by
 cases h with
 |circle r A cap=>exact wl r A cap pos c F
 |poly r l b cap h h3 h4 h5=>exact Br r pos c h h3 h4 h5
theorem yg(h:ShIn F s):aeo 290 #[LT s] (ap [] []) F (λ u H'=>∃x:List V2×Option Addr×Nat×HL,H'=ap [] [x.2.2.2]/\(u=.slice x.2.1 x.1.length x.2.2.1/\SlIs jg 32 x.1 x.2.1 x.2.2.1 x.2.2.2/\x.1.length=s.poly.length)):=by
 cases h with
 |circle r A cap=>exact yf r A cap F
 |poly r l b cap h h3 h4 h5=>exact EQ r h h3 h4 h5
theorem ES{a:Shp}{b:Shp}(ha:ShIn F a)(hb:ShIn F b):aeo 253 #[.agg #[vI a.r,.slice a.A a.poly.length a.cap],.agg #[vI pa.x,vI pa.y],.agg #[vI b.r,.slice b.A b.poly.length b.cap],.agg #[vI pb.x,vI pb.y]] [] F (λ u H'=>∃x:List V2×Option Addr×Nat×HL,H'=ap [] [x.2.2.2]/\(u=.slice x.2.1 x.1.length x.2.2.1/\SlIs jg 32 x.1 x.2.1 x.2.2.1 x.2.2.2/\(1<=x.1.length/\x.1.length<=3000000))):=by
 have apE:=ha.le;have afC:=hb.le;refine QT Tryz.func253<|ae 10 [] λ n1=>aap [4] []<|ag [] [0,2] [.o 3,.o 3,.o 1,.o 1]<|aag 1 (Q1 [] (yg (ha.up)) ?_);rintro _ ⟨Yv,A3,c4,T5⟩ ⟨rfl,hs6,hv7⟩;dsimp only at hs6 hv7;refine aag 3 (Q1 [] (yg (hb.up)) ?_);rintro _ ⟨YZ,A9,Yu,UQ⟩ ⟨rfl,Xq,ah_⟩;dsimp only at Xq ah_;refine aag 4 (RDO.appU (c':=Yu) (tx:=68) [] lX Yv YZ 1 rfl hs6 (by omega) (Xq.src lX (by decide) (ay 0)) ?_);rintro A14 c15 YX ⟨Xo,aeR⟩;refine aem [5]<|aaf<|SO 9 [.o 3]<|aaq ((a.poly.length:Int)=0) 19 (λ Wy=>?_) λ Wy=>?_
 ·refine SO 7 [.o 1]<|aaq ((b.poly.length:Int)=0) 24 (λ XO=>?_) λ XO=>?_
  ·refine SO 6 [.o 0,.o 0,.o 2,.o 2]<|aal (fo pb pa)<|SP (mB (bQ pb pa)) ?_;rintro _ x21 rfl;refine ae 1 [] λ n22=>ez lX [x21] 0 0 (aaK).symm Xo (by simp;omega) ?_;rintro A23 c24 T25 ⟨ain,aoC⟩;refine OU 3<|QV [] [] [0] (.slice A23 ((Yv.length+(YZ).length)+([x21]).length) c24) (ap [] [T25]) ⟨(((Yv++YZ)++[x21]),A23,c24,T25),rfl,congrArg (λ n_=>Value.slice A23 n_ c24) (by simp[adk]),ain,by simp;omega,by simp;omega⟩
  ·refine SO 12 [.o 3]<|aas 35 (abk Wy)<|OU 2<|aap [9] []<|ag [] [0,1,2,3,5] ([.o 1,.o 1,.o 0,.o 0]++ow 2 4)<|aag 4 (Q1 [] (uB pb pa (hb.up)) ?_);rintro _ x28 rfl;refine aae [] 6 (λ X_=>(fo x28 pa))<|aag 7 (Q1 [] (mB (bQ x28 pa)) ?_);rintro _ x29 rfl;refine aag 8 (aai [] [] λ n30=>?_);refine aag 9 (iK [] lX [x29] 0 0 (aaK).symm Xo (by simp;omega) ?_);rintro A31 c32 T33 ⟨Zt,acq⟩;refine aem [10]<|Q2 1<|QV [] [] [0] (.slice A31 ((Yv.length+(YZ).length)+([x29]).length) c32) (ap [] [T33]) ⟨(((Yv++YZ)++[x29]),A31,c32,T33),rfl,congrArg (λ n_=>Value.slice A31 n_ c32) (by simp[adk]),Zt,by simp;omega,by simp;omega⟩
 ·refine SO 19 [.o 3]<|aas 35 (abh Wy)<|SO 12 [.o 1]<|aaq ((b.poly.length:Int)=0) 49 (λ h36=>?_) λ h36=>?_
  ·refine OU 2<|aap [9] []<|ag [] [0,1,2,3,5] ([.o 3,.o 3,.o 2,.o 2]++aab 4)<|aag 4 (Q1 [] (uB pa pb (ha.up)) ?_);rintro _ x37 rfl;refine aae [] 6 (λ X_=>(fo x37 pb))<|aag 7 (Q1 [] (mB (bQ x37 pb)) ?_);rintro _ x38 rfl;refine aag 8 (aai [] [] λ n39=>?_);refine aag 9 (iK [] lX [x38] 0 0 (aaK).symm Xo (by simp;omega) ?_);rintro A40 c41 T42 ⟨aij,aoz⟩;refine aem [10]<|Q2 1<|QV [] [] [0] (.slice A40 ((Yv.length+(YZ).length)+([x38]).length) c41) (ap [] [T42]) ⟨(((Yv++YZ)++[x38]),A40,c41,T42),rfl,congrArg (λ n_=>Value.slice A40 n_ c41) (by simp[adk]),aij,by simp;omega,by simp;omega⟩
  ·refine OU 9<|QV [] [] [0] (.slice A14 (Yv.length+(YZ).length) c15) (ap [] [YX]) ⟨((Yv++YZ),A14,c15,YX),rfl,congrArg (λ n_=>Value.slice A14 n_ c15) (by simp[adk]),Xo,by simp;omega,by simp;omega⟩
theorem mH(a:Shp)(pa:V2)(b:Shp)(pb:V2)(ha:ShIn F a)(hb:ShIn F b):aeo 187 #[.agg #[vI a.r,.slice a.A a.poly.length a.cap],.agg #[vI pa.x,vI pa.y],.agg #[vI b.r,.slice b.A b.poly.length b.cap],.agg #[vI pb.x,vI pb.y]] [] F (λ u H'=>∃x:Con×Bool,H'=ap [] []/\u=.tuple #[.agg #[vI x.1.nx,vI x.1.ny,vI x.1.d],.bool x.2]):=by
 refine QT Tryz.func187<|ae 12 [] λ n1=>aap [] []<|ag [] [0,1,3,4] [.o 4,.o 4,.o 3,.o 3,.o 2,.o 2,.o 1,.o 1]<|aae [] 2 (λ X_=>(qr pa (ha.up.up)))<|aae [] 5 (λ X_=>(qr pb (hb.up.up)))<|aae [] 6 (λ X_=>(HI (lW a pa) (lW b pb)))<|aem [7]<|Q2 1<|aar (HH (lW a pa) (lW b pb)) 25 (λ h2=>?_) λ h2=>?_
 ·refine ae 16 (aab 3++[.o 5,.o 5,.o 4,.o 4,.o 3,.o 3,.o 2,.o 2]) λ n3=>SP (ES pa pb (ha.up) (hb.up)) ?_;rintro _ ⟨vs4,A5,c6,T7⟩ ⟨rfl,hs8,Wy,akB⟩;dsimp only at hs8 Wy akB;obtain⟨b11,Of,f13,rfl,rfl,apF,aqa,-⟩:=hs8.open (by omega);generalize vs4.length=n_ at *;refine RN.ot 0 (x:=(b11,.rows 2 (Of+c6) (ak jg f13) 32 (0,0)))<|OU 10<|aat (σ:=Nat×Con) (λ x_=>⟨[(4,vP (n1+0) 0),(5,vP (n1+1) 0),(6,vP (n1+2) 0),(7,vP (n1+3) 0),(8,vP (n1+4) 0),(10,vP (n3+0) 0),(11,vS b11 (Of*2) n_ c6),(12,vI (x_.1:Int))],[(b11,.rows 2 (Of+c6) (ak jg f13) 32 (0,0)),((n3+0),.lit [vI x_.2.nx,vI x_.2.ny,vI x_.2.d] 291 (0,0)),((n1+4),.lit [vI 0,vI 0,vI 0] 291 (0,0)),((n1+3),.lit [vI pb.x,vI pb.y] 32 (0,0)),((n1+2),.lit [vI b.r,.slice b.A b.poly.length b.cap] 70 (0,0)),((n1+1),.lit [vI pa.x,vI pa.y] 32 (0,0)),((n1+0),.lit [vI a.r,.slice a.A a.poly.length a.cap] 70 (0,0))],[],x_.1<=n_,n_-x_.1⟩) (0,⟨0,0,0⟩) [0,1,2,3,4,5,6] [] (aaJ _) ?_;rintro x_ aqO YB;refine OU 9<|aaq ((x_.1:Int)<(n_:Int)) 36 (λ Xf=>?_) λ Xf=>?_
  ·refine OU 6<|aap [] []<|aA [] [0,1,2,3,4,5] [.o 6,.o 6,.o 5,.o 5,.ix x_.1,.row 0 (Of+x_.1) 0,.row 0 (Of+x_.1) 1] [((Of*2+x_.1*2)+1)=(Of+x_.1)*2+1/\(Of+x_.1)<(Of+c6),(Of*2+x_.1*2)=(Of+x_.1)*2+0/\(Of+x_.1)<(Of+c6),(x_.1:Int)=((x_.1:Nat):Int)/\x_.1<n_]<|aag 6 (Q1 [] (ut pa (f13.getD (Of+x_.1) ⟨0,0⟩) (ha.up)) ?_);rintro _ XB rfl;refine aem [7,8,9,10,11]<|Q2 2<|aap [] []<|aA [] [0,1,2,3,4,5] [.o 4,.o 4,.o 3,.o 3,.ix x_.1,.row 0 (Of+x_.1) 0,.row 0 (Of+x_.1) 1] [((Of*2+x_.1*2)+1)=(Of+x_.1)*2+1/\(Of+x_.1)<(Of+c6),(Of*2+x_.1*2)=(Of+x_.1)*2+0/\(Of+x_.1)<(Of+c6),(x_.1:Int)=((x_.1:Nat):Int)/\x_.1<n_]<|aag 6 (Q1 [] (ut pb (f13.getD (Of+x_.1) ⟨0,0⟩) (hb.up)) ?_);rintro _ XA rfl;refine aem [7,8,9,10,11]<|Q2 20<|aaq (i64.wrap ((if XA.2<XB.2 then XA.2 else XB.2)-(if XA.1>XB.1 then XA.1 else XB.1))<=0) 67 (λ Xy=>?_) λ Xy=>?_
   ·refine SO 8 (ow 2 3)<|QV (ow 2 3) [] [] (.tuple #[.agg #[vI 0,vI 0,vI 0],.bool false]) (ap [] []) ⟨(⟨_,_,_⟩,_),rfl,rfl⟩
   ·refine OU 8<|aaq ((x_.1:Int)=0) 71 (λ h22=>?_) λ h22=>?_
    ·refine ah 24 [.ix x_.1,.row 0 (Of+x_.1) 0,.row 0 (Of+x_.1) 1,.o 1,.o 1,.o 1,.nw] [aI ((x_.1:Int)+1),((Of*2+x_.1*2)+1)=(Of+x_.1)*2+1/\(Of+x_.1)<(Of+c6),(Of*2+x_.1*2)=(Of+x_.1)*2+0/\(Of+x_.1)<(Of+c6),(x_.1:Int)=((x_.1:Nat):Int)/\x_.1<n_] λ _=>YB (x_.1+1,⟨(f13.getD (Of+x_.1) ⟨0,0⟩).x,(f13.getD (Of+x_.1) ⟨0,0⟩).y,i64.wrap ((if XA.2<XB.2 then XA.2 else XB.2)-(if XA.1>XB.1 then XA.1 else XB.1))⟩) [0,1,2,3,4,5,6] [] ?_
     try dsimp only
     refine⟨by omega,by omega⟩
    ·refine SO 7 [.o 1]<|aaq (i64.wrap ((if XA.2<XB.2 then XA.2 else XB.2)-(if XA.1>XB.1 then XA.1 else XB.1))<x_.2.d) 76 (λ h23=>?_) λ h23=>?_
     ·refine ah 17 [.ix x_.1,.row 0 (Of+x_.1) 0,.row 0 (Of+x_.1) 1,.o 1,.o 1,.o 1,.nw] [aI ((x_.1:Int)+1),((Of*2+x_.1*2)+1)=(Of+x_.1)*2+1/\(Of+x_.1)<(Of+c6),(Of*2+x_.1*2)=(Of+x_.1)*2+0/\(Of+x_.1)<(Of+c6),(x_.1:Int)=((x_.1:Nat):Int)/\x_.1<n_] λ _=>YB (x_.1+1,⟨(f13.getD (Of+x_.1) ⟨0,0⟩).x,(f13.getD (Of+x_.1) ⟨0,0⟩).y,i64.wrap ((if XA.2<XB.2 then XA.2 else XB.2)-(if XA.1>XB.1 then XA.1 else XB.1))⟩) [0,1,2,3,4,5,6] [] ?_
      try dsimp only
      refine⟨by omega,by omega⟩
     ·refine ah 9 [.nw] [aI ((x_.1:Int)+1)] λ _=>YB (x_.1+1,⟨x_.2.nx,x_.2.ny,x_.2.d⟩) [0,1,2,3,4,5,6] [] ?_
      try dsimp only
      refine⟨by omega,by omega⟩
  ·refine OU 8<|aap [] []<|ag [] [0,1,3,4] [.o 3,.o 3,.o 5,.o 5,.o 1,.o 1]<|aae [] 2 (λ X_=>(fo pb pa))<|aae [] 5 (λ X_=>(lO (bQ pb pa) (⟨x_.2.nx,x_.2.ny⟩:V2)))<|aem [6]<|Q2 1<|aaq (f8 (bQ pb pa) (⟨x_.2.nx,x_.2.ny⟩:V2)<0) 89 (λ h24=>?_) λ h24=>?_
   ·refine SO 4 [.o 1,.o 1]<|aal (Hm (⟨x_.2.nx,x_.2.ny⟩:V2))<|SO 11 (ow 1 5++(ow 2 3))<|QV (ow 2 3) [] [] (.tuple #[.agg #[vI ((tN (⟨x_.2.nx,x_.2.ny⟩:V2)).x),vI ((tN (⟨x_.2.nx,x_.2.ny⟩:V2)).y),vI x_.2.d],.bool true]) (ap [] []) ⟨(⟨_,_,_⟩,_),rfl,rfl⟩
   ·refine SO 10 (ow 1 3++ow 2 3)<|QV (ow 2 3) [] [] (.tuple #[.agg #[vI x_.2.nx,vI x_.2.ny,vI x_.2.d],.bool true]) (ap [] []) ⟨(⟨_,_,_⟩,_),rfl,rfl⟩
 ·refine SO 8 (aab 3)<|QV (aab 3) [] [] (.tuple #[.agg #[vI 0,vI 0,vI 0],.bool false]) (ap [] []) ⟨(⟨_,_,_⟩,_),rfl,rfl⟩
theorem CW(p:V2)(v:V2)(k:Int):aen 294 #[.agg #[vI p.x,vI p.y],.agg #[vI v.x,vI v.y],vI k] F (.agg #[vI ((il p v k).x),vI ((il p v k).y)]):=by
 refine QT Tryz.func294<|ae 8 [] λ n1=>aap [5] []<|ag [] [0,1,2] [.o 2,.o 2,.o 1,.o 1]<|aae [] 3 (λ X_=>(oP v k 8))<|aae [] 4 (λ X_=>(eM p (cK v k 8)))<|SV 5 [] (aab 2)<|aaf<|ae 1 [] λ _=>aav (aab 2) [] [] ⟨rfl,rfl⟩
theorem H6{a:Shp}{b:Shp}(k:Int)(ha:ShIn F a)(hb:ShIn F b):aeo 260 #[.agg #[vI a.r,.slice a.A a.poly.length a.cap],.agg #[vI pa.x,vI pa.y],.agg #[vI va.x,vI va.y],.agg #[vI b.r,.slice b.A b.poly.length b.cap],.agg #[vI pb.x,vI pb.y],.agg #[vI vb.x,vI vb.y],vI k] [] F (λ u H'=>∃x:Bool,H'=ap [] []/\u=.bool x):=by
 refine QT Tryz.func260<|ae 12 [] λ n1=>aap [15] []<|ag [] [0,1,2,3,5,6,7,8] [.o 5,.o 5,.o 4,.o 4,.o 3,.o 3,.o 2,.o 2,.o 1,.o 1,.o 0,.o 0]<|aae [] 4 (λ X_=>(CW pa va k))<|aae [] 9 (λ X_=>(CW pb vb k))<|dg 10 14 ?_ ?_
 ·refine Q1 [] (mH a (il pa va k) b (il pb vb k) (ha.up) (hb.up)) ?_;rintro _ x2 rfl;refine aem [11,12,13]<|aag 14 (aai [] [] λ n3=>?_);refine SV 15 [] (aab 3)<|aem [16]<|aaf<|ae 7 [] λ _=>QW (.bool x2.2) _ ⟨_,rfl,rfl⟩
 ·refine aai [] [] λ n4=>aag 10 (Q1 [] (mH a (il pa va k) b (il pb vb k) (ha.up) (hb.up)) ?_);rintro _ x5 rfl;refine aem [11,12,13]<|SV 15 [] (aab 3)<|aem [16]<|aaf<|ae 7 [] λ _=>QW (.bool x5.2) _ ⟨_,rfl,rfl⟩
theorem H7(a:Shp)(pa va:V2)(b:Shp)(pb vb:V2)(ha:ShIn F a)(hb:ShIn F b):aeo 189 #[.agg #[vI a.r,.slice a.A a.poly.length a.cap],.agg #[vI pa.x,vI pa.y],.agg #[vI va.x,vI va.y],.agg #[vI b.r,.slice b.A b.poly.length b.cap],.agg #[vI pb.x,vI pb.y],.agg #[vI vb.x,vI vb.y]] [] F (λ u H'=>∃x:Int,H'=ap [] []/\u=vI x):=by
 refine QT Tryz.func189<|ae 18 [] λ n1=>aat (σ:=Nat) (λ n_=>⟨[(6,vP (n1+0) 0),(7,vP (n1+1) 0),(8,vP (n1+2) 0),(9,vP (n1+3) 0),(10,vP (n1+4) 0),(11,vP (n1+5) 0),(13,vI (n_:Int))],[((n1+5),.lit [vI vb.x,vI vb.y] 32 (0,0)),((n1+4),.lit [vI pb.x,vI pb.y] 32 (0,0)),((n1+3),.lit [vI b.r,.slice b.A b.poly.length b.cap] 70 (0,0)),((n1+2),.lit [vI va.x,vI va.y] 32 (0,0)),((n1+1),.lit [vI pa.x,vI pa.y] 32 (0,0)),((n1+0),.lit [vI a.r,.slice a.A a.poly.length a.cap] 70 (0,0))],[],n_<=9,9-n_⟩) 0 [0,1,2,3,4,5] [] (aaJ _) ?_;rintro n_ Yt OF;refine OU 7<|aaq ((n_:Int)<=8) 16 (λ h4=>?_) λ h4=>?_
 ·refine SO 14 [.o 5,.o 5,.o 4,.o 4,.o 3,.o 3,.o 2,.o 2,.o 1,.o 1,.o 0,.o 0]<|SP (H6 pa va pb vb (n_:Int) (ha.up) (hb.up)) ?_;rintro _ x5 rfl;refine OU 8<|cP (x5) 28 (λ h6=>?_) λ h6=>?_
  ·refine OU 5<|aaq ((n_:Int)=0) 31 (λ h7=>?_) λ h7=>?_
   ·refine OU 6<|QW (vI 1024) (ap [] []) ⟨_,rfl,rfl⟩
   ·refine OU 8<|aas 32 h6<|ah 9 [.nw,.nw] [aI (((n_:Int)-1)*128),aI ((n_:Int)-1)] λ _=>QW (vI (((n_:Int)-1)*128)) (ap [] []) ⟨_,rfl,rfl⟩
  ·refine OU 13<|aas 32 (acp.2 h6)<|ah 9 [.nw] [aI ((n_:Int)+1)] λ _=>OF (n_+1) [0,1,2,3,4,5] [] ?_
   try dsimp only
   refine⟨by omega,by omega⟩
 ·refine OU 11<|QW (vI 1024) (ap [] []) ⟨_,rfl,rfl⟩
def wm(m:Mot):Mot:=⟨aK m.px (-1048576) 1048576,aK m.py (-1048576) 1048576,aK m.vx (-16384) 16384,aK m.vy (-16384) 16384,m.inv⟩
theorem oX:aen 259 #[.agg #[vI m.px,vI m.py,vI m.vx,vI m.vy,vI m.inv]] F (.agg #[vI ((wm m).px),vI ((wm m).py),vI ((wm m).vx),vI ((wm m).vy),vI ((wm m).inv)]):=by
 refine QT Tryz.func259<|ae 7 [] λ n1=>aap [21] []<|ag [] [0,4,9,13,18,1,5,10,14,19,2,6,11,15] (ow 1 5)<|aae [] 3 (λ X_=>(cG m.px (-1048576) 1048576))<|aae [] 7 (λ X_=>(cG m.py (-1048576) 1048576))<|aem [8]<|aae [] 12 (λ X_=>(cG m.vx (-16384) 16384))<|aae [] 16 (λ X_=>(cG m.vy (-16384) 16384))<|aem [17,20]<|SV 21 [] (ow 0 5)<|aaf<|ae 1 [] λ _=>aav (ow 0 5) [] [] ⟨rfl,rfl⟩
theorem yh(a b:Mot)(c:Con)(rest:Int):aeo 188 #[.agg #[vI a.px,vI a.py,vI a.vx,vI a.vy,vI a.inv],.agg #[vI b.px,vI b.py,vI b.vx,vI b.vy,vI b.inv],.agg #[vI c.nx,vI c.ny,vI c.d],vI rest] [] F (λ u H'=>∃x:Mot×Mot,H'=ap [] []/\u=.tuple #[.agg #[vI x.1.px,vI x.1.py,vI x.1.vx,vI x.1.vy,vI x.1.inv],.agg #[vI x.2.px,vI x.2.py,vI x.2.vx,vI x.2.vy,vI x.2.inv]]):=by
 refine QT Tryz.func188<|ae 26 [.o 4,.o 3] λ n1=>aaq (i64.wrap (a.inv+b.inv)=0) 19 (λ h2=>?_) λ h2=>?_
 ·refine OU 2<|aap [2,3] [2,3,4]<|ag [2,3,4] [0,1] (ow 4 5++[.ro 1,.ro 1,.ro 1,.ro 1,.ro 1])<|SV 2 [2,3,4] (ow 1 5)<|SV 3 [2,3,4] (ow 0 5)<|Q2 1<|QV (ow 1 5++ow 0 5) [] [] (.tuple #[.agg #[vI a.px,vI a.py,vI a.vx,vI a.vy,vI a.inv],.agg #[vI b.px,vI b.py,vI b.vx,vI b.vy,vI b.inv]]) (ap [] []) ⟨(⟨_,_,_,_,_⟩,⟨_,_,_,_,_⟩),rfl,rfl⟩
 ·refine OU 4<|aap [] []<|ag [] [0,2,5,1,3,6] [.o 3,.o 3,.o 4,.o 4,.o 2,.o 2]<|aae [] 4 (λ X_=>(fo (⟨b.vx,b.vy⟩:V2) (⟨a.vx,a.vy⟩:V2))) ?_;generalize (bQ (⟨b.vx,b.vy⟩:V2) (⟨a.vx,a.vy⟩:V2))=z3;refine aae [] 7 (λ X_=>(lO z3 (⟨c.nx,c.ny⟩:V2))) ?_;generalize (f8 z3 (⟨c.nx,c.ny⟩:V2))=z4;refine aem [8]<|Q2 8<|aaq (z4<0) 31 (λ h5=>?_) λ h5=>?_
  ·refine OU 8<|aal (fd (i64.wrap (0-z4)) (i64.wrap (1024+rest)) (i64.wrap (a.inv+b.inv))) ?_;generalize (az (i64.wrap (0-z4)) (i64.wrap (1024+rest)) (i64.wrap (a.inv+b.inv)))=z6;refine OU 4<|aap [11] []<|ag [] [0,2,4,5,1,3,6] [.o 4,.o 4,.o 2,.o 2,.o 4]<|aae [] 7 (λ X_=>(jZ z6 a.inv)) ?_;generalize (eZ z6 a.inv)=z7;refine aae [] 8 (λ X_=>(jc (⟨c.nx,c.ny⟩:V2) z7)) ?_;generalize (au (⟨c.nx,c.ny⟩:V2) z7)=z8;refine aae [] 9 (λ X_=>(fo (⟨a.vx,a.vy⟩:V2) z8)) ?_;generalize (bQ (⟨a.vx,a.vy⟩:V2) z8)=z9;refine aem [10]<|SV 11 [] [.o 4,.o 4]<|Q2 1<|aap [11] []<|ag [] [0,2,4,5,1,3,6] [.o 3,.o 3,.o 2,.o 2,.o 3]<|aae [] 7 (λ X_=>(jZ z6 b.inv)) ?_;generalize (eZ z6 b.inv)=z10;refine aae [] 8 (λ X_=>(jc (⟨c.nx,c.ny⟩:V2) z10)) ?_;generalize (au (⟨c.nx,c.ny⟩:V2) z10)=z11;refine aae [] 9 (λ X_=>(eM (⟨b.vx,b.vy⟩:V2) z11)) ?_;generalize (aF (⟨b.vx,b.vy⟩:V2) z11)=z12;refine aem [10]<|SV 11 [] [.o 3,.o 3]<|Q2 2<|aap [13] []<|ag [] [0,2,4,6,8,1,3,5,7] ([.o 4,.o 4]++ow 2 3++[.o 4])<|aae [] 9 (λ X_=>(fd c.d a.inv (i64.wrap (a.inv+b.inv)))) ?_;generalize (az c.d a.inv (i64.wrap (a.inv+b.inv)))=z13;refine aae [] 10 (λ X_=>(jc (⟨c.nx,c.ny⟩:V2) z13)) ?_;generalize (au (⟨c.nx,c.ny⟩:V2) z13)=z14;refine aae [] 11 (λ X_=>(fo (⟨a.px,a.py⟩:V2) z14)) ?_;generalize (bQ (⟨a.px,a.py⟩:V2) z14)=z15;refine aem [12]<|SV 13 [] [.o 4,.o 4]<|Q2 2<|aap [13] []<|ag [] [0,2,4,6,8,1,3,5,7] ([.o 3,.o 3]++ow 2 3++[.o 3])<|aae [] 9 (λ X_=>(fd c.d b.inv (i64.wrap (a.inv+b.inv)))) ?_;generalize (az c.d b.inv (i64.wrap (a.inv+b.inv)))=z16;refine aae [] 10 (λ X_=>(jc (⟨c.nx,c.ny⟩:V2) z16)) ?_;generalize (au (⟨c.nx,c.ny⟩:V2) z16)=z17;refine aae [] 11 (λ X_=>(eM (⟨b.px,b.py⟩:V2) z17)) ?_;generalize (aF (⟨b.px,b.py⟩:V2) z17)=W8;refine aem [12]<|SV 13 [] [.o 3,.o 3]<|Q2 2<|aap [4,5] []<|ag [] [0,2] (ow 4 5++ow 3 5)<|aae [] 1 (λ X_=>(oX (⟨z15.x,z15.y,z9.x,z9.y,a.inv⟩:Mot))) ?_;generalize (wm (⟨z15.x,z15.y,z9.x,z9.y,a.inv⟩:Mot))=z19;refine aae [] 3 (λ X_=>(oX (⟨W8.x,W8.y,z12.x,z12.y,b.inv⟩:Mot))) ?_;generalize (wm (⟨W8.x,W8.y,z12.x,z12.y,b.inv⟩:Mot))=z20;refine SV 4 [] (ow 1 5)<|SV 5 [] (ow 0 5)<|Q2 1<|QV (ow 1 5++ow 0 5) [] [] (.tuple #[.agg #[vI z19.px,vI z19.py,vI z19.vx,vI z19.vy,vI z19.inv],.agg #[vI z20.px,vI z20.py,vI z20.vx,vI z20.vy,vI z20.inv]]) (ap [] []) ⟨(⟨_,_,_,_,_⟩,⟨_,_,_,_,_⟩),rfl,rfl⟩
  ·refine OU 4<|aap [13] []<|ag [] [0,2,4,6,8,1,3,5,7] ([.o 4,.o 4]++ow 2 3++[.o 4])<|aae [] 9 (λ X_=>(fd c.d a.inv (i64.wrap (a.inv+b.inv)))) ?_;generalize (az c.d a.inv (i64.wrap (a.inv+b.inv)))=z21;refine aae [] 10 (λ X_=>(jc (⟨c.nx,c.ny⟩:V2) z21)) ?_;generalize (au (⟨c.nx,c.ny⟩:V2) z21)=z22;refine aae [] 11 (λ X_=>(fo (⟨a.px,a.py⟩:V2) z22)) ?_;generalize (bQ (⟨a.px,a.py⟩:V2) z22)=z23;refine aem [12]<|SV 13 [] [.o 4,.o 4]<|Q2 2<|aap [13] []<|ag [] [0,2,4,6,8,1,3,5,7] ([.o 3,.o 3]++ow 2 3++[.o 3])<|aae [] 9 (λ X_=>(fd c.d b.inv (i64.wrap (a.inv+b.inv)))) ?_;generalize (az c.d b.inv (i64.wrap (a.inv+b.inv)))=z24;refine aae [] 10 (λ X_=>(jc (⟨c.nx,c.ny⟩:V2) z24)) ?_;generalize (au (⟨c.nx,c.ny⟩:V2) z24)=z25;refine aae [] 11 (λ X_=>(eM (⟨b.px,b.py⟩:V2) z25)) ?_;generalize (aF (⟨b.px,b.py⟩:V2) z25)=z26;refine aem [12]<|SV 13 [] [.o 3,.o 3]<|Q2 2<|aap [4,5] []<|ag [] [0,2] (ow 4 5++ow 3 5)<|aae [] 1 (λ X_=>(oX (⟨z23.x,z23.y,a.vx,a.vy,a.inv⟩:Mot))) ?_;generalize (wm (⟨z23.x,z23.y,a.vx,a.vy,a.inv⟩:Mot))=z27;refine aae [] 3 (λ X_=>(oX (⟨z26.x,z26.y,b.vx,b.vy,b.inv⟩:Mot))) ?_;generalize (wm (⟨z26.x,z26.y,b.vx,b.vy,b.inv⟩:Mot))=z28;refine SV 4 [] (ow 1 5)<|SV 5 [] (ow 0 5)<|Q2 1<|QV (ow 1 5++ow 0 5) [] [] (.tuple #[.agg #[vI z27.px,vI z27.py,vI z27.vx,vI z27.vy,vI z27.inv],.agg #[vI z28.px,vI z28.py,vI z28.vx,vI z28.vy,vI z28.inv]]) (ap [] []) ⟨(⟨_,_,_,_,_⟩,⟨_,_,_,_,_⟩),rfl,rfl⟩
def bD:Enc Int:=⟨1,λ p k=>match k with|0=>vI p|_=>default,0⟩
noncomputable def RH:TypeInfo:=match Tryz.prog.info? 3 with | some i=>i | none=>⟨.bool,"",0,0,false,0,0,none,false,#[]⟩
noncomputable def RI:Value:=match RH.zero with|some z=>z|none=>.bool false
theorem lr:EncOk bD Tryz.prog 3 RH RI where
 info:=by kernel_rfl
 zero:=by kernel_rfl
 size:=by kernel_rfl
 zsize:=by kernel_rfl
 zcell:=λ k hk=>by
  have h:∀k<1,RI.cells[k]?=some (bD.cell bD.dflt k):=by intro k hk;(iterate 1 (rcases k with _|k;· kernel_rfl));omega
  exact h k hk
 one:=λ x k=>by unfold bD;dsimp only;split <;> rfl
 bytes:=aaH (by kernel_rfl)
def al(l:List Int)(i:Nat)(v:Int):List Int:=(List.range (max l.length (i+1))).map λ j=>if j=i then v else l.getD j 0
theorem oY(l:List Int)(i j:Nat)(v:Int):(al l i v).getD j 0=if j=i then v else l.getD j 0:=by
 unfold al;rw[aaG,abf]
 by_cases h:j<max l.length (i+1)
 ·rw[acG h];rfl
 ·rw[vo (by simp only[adN];omega),if_neg (by omega),aaG,vo (by omega)];rfl
theorem H8(l:List Int)(i:Nat)(v:Int):cF (ak bD l) i 0 (vI v)=ak bD (al l i v):=by
 funext i' k';unfold cF ak;rcases k' with _|k'
 ·show (if i'=i/\(0:Nat)=0 then vI v else vI (l.getD i' 0))=vI ((al l i v).getD i' 0);rw[oY];by_cases h:i'=i <;> simp[h]
 ·simp[bD]
theorem ep(l:List Int)(i:Nat)(v:Int):(Blk.rows 1 N (cF (ak bD l) i 0 (vI v)) 3 (0,0))=.rows 1 N (ak bD (al l i v)) 3 (0,0):=by rw[H8]
def Cx(l:List Int)(p i j:Int):Prop:=l.getD 1 0=p/\l.getD 2 0=i/\l.getD 3 0=j
theorem Cx.rfl{l:List Int}:Cx l (l.getD 1 0) (l.getD 2 0) (l.getD 3 0):=⟨_root_.rfl,_root_.rfl,_root_.rfl⟩
section
variable {l:List Int} {p i j:Int}
theorem Cx.up(h:Cx l p i j){a:Nat}(ha:a=0\/3<a){v:Int}:Cx (al l a v) p i j:=by
 unfold Cx at *;rw[oY,oY,oY,if_neg (by omega),if_neg (by omega),if_neg (by omega)];exact h
theorem Cx.s1(h:Cx l p i j){v:Int}:Cx (al l 1 v) v i j:=by unfold Cx at *;refine⟨?_,?_,?_⟩ <;> rw[oY] <;> simp only[h,if_true] <;> first|rfl|exact if_neg (by decide) |>.trans (by simp only[h])
theorem Cx.s2(h:Cx l p i j){v:Int}:Cx (al l 2 v) p v j:=by unfold Cx at *;refine⟨?_,?_,?_⟩ <;> rw[oY] <;> simp only[h,if_true] <;> first|rfl|exact if_neg (by decide) |>.trans (by simp only[h])
theorem Cx.s3(h:Cx l p i j){v:Int}:Cx (al l 3 v) p i v:=by unfold Cx at *;refine⟨?_,?_,?_⟩ <;> rw[oY] <;> simp only[h,if_true] <;> first|rfl|exact if_neg (by decide) |>.trans (by simp only[h])
end
def cJ(S:Setup)(p i j:Int):Prop :=
 (p=0->0<=i/\i<S.players)/\(p=1->0<=i/\i<=S.players)/\(p=3->0<=i/\i<S.nb)/\(p=4->(S.nb:Int)<2\/(0<=i/\i<j/\j<S.nb))/\(p=5->0<=i/\i<S.nb/\0<=j)/\(p=6->0<=i/\i<=S.nb)/\(p<0\/7<=p->0<=i/\i<S.nb)
def RefL(S:Setup)(l:List Int):Prop:=∃p i j,Cx l p i j/\cJ S p i j
theorem RefL.ok{l:List Int}(h:RefL S l):cJ S (l.getD 1 0) (l.getD 2 0) (l.getD 3 0):=by
 obtain⟨p,i,j,⟨rfl,rfl,rfl⟩,h⟩:=h;exact h
def pG(l:List Int)(ph:Int):List Int:=al (al (al l 1 ph) 2 0) 3 0
theorem Cx.ent{l:List Int}{p i j:Int}(h:Cx l p i j){ph:Int}:Cx (pG l ph) ph 0 0:=h.s1.s2.s3
def lG(l:List Int)(a:Int)(m:Mot):List Int:=al (al (al (al l a.toNat m.px) (a+1).toNat m.py) (a+2).toNat m.vx) (a+3).toNat m.vy
theorem pH{l:List Int}{p i j:Int}(h:Cx l p i j){a:Int}(ha:48<=a){m:Mot}:Cx (lG l a m) p i j:=(((h.up (by omega)).up (by omega)).up (by omega)).up (by omega)
theorem du(h:SetN S)(h0:0<=k)(h1:k<S.nb):48<=af S k/\af S k+8<=sizeOf S:=by
 have:=h.pl;have:=h.nb;unfold af sizeOf;rw[if_neg (by omega),if_neg (by omega)];omega
theorem pI(h:SetN S)(h0:0<=af S k):(0<=k/\k<S.nb)/\48<=af S k/\af S k+8<=sizeOf S:=by
 have h2:=(bT h k).2;have h3:0<=k/\k<S.nb:=by omega
 exact⟨h3,du h h3.1 h3.2⟩
theorem lY(h:SetN S)(h0:0<=k)(h1:k<S.players):48<=ai S k/\ai S k+4<=sizeOf S:=by
 have:=h.pl;have:=h.nb;unfold ai sizeOf;rw[if_neg (by omega),if_neg (by omega)];omega
theorem qu(l:List Int)(n:Nat)(k:Nat)(hk:k<n):l.getD (0+k) 0=((List.range n).map λ i=>l.getD i 0).getD k 0:=by
 simp[acG,hk,aaG]
theorem fY{N:Nat}{l:List Int}(hq:(q,.rows 1 N (ak bD l) 3 (0,0))∈F)(hN:n<=N):SrcIn Tryz.prog bD F (some ⟨q,0,none⟩) n ((List.range n).map λ i=>l.getD i 0) :=
 (RowL.rows (e:=bD) q 0 N l (0,0) n _ hq (by omega) (by simp) (qu l n)).src lr (by decide)
theorem fg{c:Nat}{T:HL}{l:List Int}(hs:SlIs bD 3 ([]++(List.range n).map λ i=>l.getD i 0) A c T)(hz:aX A)(h0:0<n):∃b l',A=some ⟨b,0,none⟩/\T=[(b,.rows 1 c (ak bD l') 3 (0,0))]/\n<=c/\∀k,k<n->l'.getD k 0=l.getD k 0:=by
 obtain⟨b,rest,rfl,rfl,h⟩:=hs.open0 hz (by decide) (by simpa using h0);refine⟨b,_,rfl,rfl,by simpa using h,λ k hk=>?_⟩;rw[abz,aaG,aaQ (by simpa using hk),<- aaG];exact(qu l n k hk).symm.trans (by rw[abp])
theorem fQ{e:Enc α}:SlIs e T [] (some ⟨b,0,none⟩) 0 [(b,.rows e.w 0 (ak e []) T (0,0))]:=.inr ⟨b,0,[],by simp,rfl,rfl,aaI _,rfl⟩
theorem H9 (n:Nat) {N:Nat} (c:Nat){l:List Int}(hq:(q,.rows 1 N (ak bD l) 3 (0,0))∈F)(U2:0<n)(hN:n<=N)(VE:n<=100000000):aeo 125 #[vS q 0 n c] [] F (λ u H'=>∃x:Nat×Nat×List Int,H'=ap [(x.1,.rows 1 x.2.1 (ak bD x.2.2) 3 (0,0))] []/\(u=vS x.1 0 n x.2.1/\n<=x.2.1/\∀k,k<n->x.2.2.getD k 0=l.getD k 0)):=by
 refine QU Tryz.func125 hq<|OU 14<|aau<|aaj (c':=c) (tx:=22) lr ([]:List Int) ((List.range n).map λ i=>l.getD i 0) 0 rfl (aay _ _) (by simp;omega) ((fY hq hN).up) ?_;rintro A1 c2 T3 ⟨hs4,hz5⟩;refine OU 3<|QV [] [] [0] (.slice A1 (0+(((List.range n).map λ i=>l.getD i 0)).length) c2) (ap [] [T3]) ?_;obtain⟨b_,l_,rfl,rfl,h1_,UJ⟩:=fg hs4 (hz5 trivial) U2;exact⟨(b_,c2,l_),rfl,congrArg (λ m_=>Value.slice (some ⟨b_,0,none⟩) m_ c2) (by simp),h1_,UJ⟩
theorem jh(q n N:Nat)(l:List Int)(ph:Int)(hN:n<=N)(h4:4<=n):aeo 129 #[vS q 0 n N,vI ph] (ap [(q,.rows 1 N (ak bD l) 3 (0,0))] []) F (λ u H'=>∃x:Unit,H'=ap [(q,.rows 1 N (ak bD (pG l ph)) 3 (0,0))] []/\u=.tuple #[]):=by
 refine QS Tryz.func129 mn<|ah 9 [.ix 1,.row 0 1 0] [(0+1*1)=1*1+0/\1<N,1=((1:Nat):Int)/\1<n] λ _=>aak 0 (ep N l 1 ph)<|ah 6 [.ix 2,.row 0 2 0] [(0+2*1)=2*1+0/\2<N,2=((2:Nat):Int)/\2<n] λ _=>aak 0 (ep N (al l 1 ph) 2 0)<|ah 5 [.ix 3,.row 0 3 0] [(0+3*1)=3*1+0/\3<N,3=((3:Nat):Int)/\3<n] λ _=>aak 0 (ep N (al (al l 1 ph) 2 0) 3 0)<|aav [] [0] [] (v:=.tuple #[]) ⟨(),rfl,rfl⟩
theorem j8(q n N:Nat)(l:List Int)(a:Int)(m:Mot)(hN:n<=N)(h0:0<=a)(h1:a+4<=n)(VE:n<=100000000):aeo 186 #[vS q 0 n N,vI a,.agg #[vI m.px,vI m.py,vI m.vx,vI m.vy,vI m.inv]] (ap [(q,.rows 1 N (ak bD l) 3 (0,0))] []) F (λ u H'=>∃x:Unit,H'=ap [(q,.rows 1 N (ak bD (lG l a m)) 3 (0,0))] []/\u=.tuple #[]):=by
 refine QS Tryz.func186 mn<|ah 17 [.o 0,.ix ((a).toNat),.row 1 ((a).toNat) 0] [(0+((a).toNat)*1)=((a).toNat)*1+0/\((a).toNat)<N,a=(((a).toNat:Nat):Int)/\(a).toNat<n] λ n1=>aak 1 (ep N l ((a).toNat) m.px)<|ah 12 [.nw,.o 0,.ix ((a+1).toNat),.row 1 ((a+1).toNat) 0] [(0+((a+1).toNat)*1)=((a+1).toNat)*1+0/\((a+1).toNat)<N,a+1=(((a+1).toNat:Nat):Int)/\(a+1).toNat<n,aI (a+1)] λ _=>aak 1 (ep N (al l ((a).toNat) m.px) ((a+1).toNat) m.py)<|ah 11 [.nw,.o 0,.ix ((a+2).toNat),.row 1 ((a+2).toNat) 0] [(0+((a+2).toNat)*1)=((a+2).toNat)*1+0/\((a+2).toNat)<N,a+2=(((a+2).toNat:Nat):Int)/\(a+2).toNat<n,aI (a+2)] λ _=>aak 1 (ep N (al (al l ((a).toNat) m.px) ((a+1).toNat) m.py) ((a+2).toNat) m.vx)<|ah 10 [.nw,.o 0,.ix ((a+3).toNat),.row 1 ((a+3).toNat) 0] [(0+((a+3).toNat)*1)=((a+3).toNat)*1+0/\((a+3).toNat)<N,a+3=(((a+3).toNat:Nat):Int)/\(a+3).toNat<n,aI (a+3)] λ _=>aak 1 (ep N (al (al (al l ((a).toNat) m.px) ((a+1).toNat) m.py) ((a+2).toNat) m.vx) ((a+3).toNat) m.vy)<|aav [] [1] [] (v:=.tuple #[]) ⟨(),rfl,rfl⟩
def aac:=@Cx.rfl
def aad:=@Cx.up
end
section
variable {F:HL} {N a n:Nat} {S:Setup} {l':List Int} (q:Nat) (k:Int)
def KpL(l l':List Int):Prop:=∀k,k<=5->l'.getD k 0=l.getD k 0
theorem KpL.rfl{l:List Int}:KpL l l:=λ _ _=>_root_.rfl
theorem KpL.up{l:List Int}(h:KpL l l'){v:Int}(ha:5<a):KpL l (al l' a v):=λ k hk=>by rw[oY,if_neg (by omega)];exact h k hk
theorem KpL.cp{l:List Int}(h:∀k,k<n->l'.getD k 0=l.getD k 0)(hn:5<n):KpL l l':=λ k hk=>h k (by omega)
theorem KpL.trans{l l'':List Int}(h:KpL l l')(h':KpL l' l''):KpL l l'':=λ k hk=>(h' k hk).trans (h k hk)
def InsB(F:HL)(b a m:Nat)(f:Nat->Ins):Prop:=∀w,xq w F->∀k,k<m->w.rangeAt b (a+k*2) [vI (f k).op,vI (f k).n]
theorem InsB.up{X:HL}{b m:Nat}{f:Nat->Ins}(h:InsB F b a m f):InsB (X++F) b a m f:=λ w hw=>h w λ x hx=>hw x (aaB _ hx)
def eJ(op:Int):Int:=if op=1 then 0 else if op=2 then 0 else if op=6 then 0 else if op=7 then 0 else if op=8 then 0 else if op=18 then 0 else if op=21 then 0 else if op=3 then 1 else if op=4 then 1 else if op=13 then 1 else if op=17 then 1 else if op=19 then 1 else if op=5 then 2 else if op=9 then 2 else if op=10 then 2 else if op=11 then 2 else if op=12 then 2 else if op=14 then 2 else if op=15 then 2 else if op=16 then 2 else if op=20 then 2 else -1
def ET(n:Int):Int:=aK n (-2147483647) 2147483647
structure RfR where
 q:Nat
 N:Nat
 l:List Int
 en:Bool
 e:Eff
 em:Bool
section
variable {n:Nat} {u:Value} {H':HL} {l:List Int}
theorem Pt(N:Nat)(en:Bool)(e:Eff)(em:Bool)(hH:H'=ap [(q,.rows 1 N (ak bD l') 3 (0,0))] [])(hu:u=.tuple #[vS q 0 n N,.bool en,.agg #[vI e.t,vI e.i,vI e.k,vI e.v],.bool em])(hN:n<=N)(hQ:KpL l l'):∃x:RfR,H'=ap [(x.q,.rows 1 x.N (ak bD x.l) 3 (0,0))] []/\(u=.tuple #[vS x.q 0 n x.N,.bool x.en,.agg #[vI x.e.t,vI x.e.i,vI x.e.k,vI x.e.v],.bool x.em]/\n<=x.N/\KpL l x.l):=⟨⟨q,N,l',en,e,em⟩,hH,hu,hN,hQ⟩
theorem S0(N:Nat)(hH:H'=ap [(q,.rows 1 N (ak bD l') 3 (0,0))] [])(hu:u=vS q 0 n N)(hN:n<=N)(hQ:KpL l l'):∃x:RfR,H'=ap [(x.q,.rows 1 x.N (ak bD x.l) 3 (0,0))] []/\(u=vS x.q 0 n x.N/\n<=x.N/\KpL l x.l):=⟨⟨q,N,l',false,⟨0,0,0,0⟩,false⟩,hH,hu,hN,hQ⟩
theorem QL{q0 N0:Nat}(N:Nat)(en:Bool)(hH:H'=ap [(q,.rows 1 N (ak bD l') 3 (0,0))] [])(hu:u=.tuple #[vS q 0 n N,.bool en])(hN:n<=N)(hQ:KpL l l')(hx:en=false->q=q0/\N=N0):∃x:RfR,H'=ap [(x.q,.rows 1 x.N (ak bD x.l) 3 (0,0))] []/\(u=.tuple #[vS x.q 0 n x.N,.bool x.en]/\n<=x.N/\KpL l x.l/\(x.en=false->x.q=q0/\x.N=N0)):=⟨⟨q,N,l',en,⟨0,0,0,0⟩,false⟩,hH,hu,hN,hQ,hx⟩
end
theorem lZ{q:Nat}{l:List Int}(hS:SetIn F S)(hq:(q,.rows 1 N (ak bD l) 3 (0,0))∈F)(hn:n=(sizeOf S).toNat)(hN:n<=N):aeo 182 #[(Setup.v S),vS q 0 n N,vI k] [] F (λ u H'=>∃x:Mot,H'=ap [] []/\u=.agg #[vI x.px,vI x.py,vI x.vx,vI x.vy,vI x.inv]):=by
 have hp:=hS.pl;have WJ:=hS.nb;have Vg:=hS.room;have Va:=cz hS.toSetN;refine rI Tryz.func182 (mc hS.blk (mc hq mn)) [] []<|ae 10 (ow 1 16) λ n1=>aal (cy k hS.toSetN) ?_;have Ye:=bT hS.toSetN k;refine OU 9<|aaq (af S k<0) 13 (λ h3=>?_) λ h3=>?_
 ·refine SO 15 (ow 0 5)<|QV (ow 0 5) [] [] (.agg #[vI 0,vI 0,vI 0,vI 0,vI 0]) (ap [] []) ?_
  first|exact⟨⟨_,_,_,_,_⟩,rfl,rfl⟩|exact⟨⟨0,0,0,0,0⟩,rfl,rfl⟩
 ·have hr4:=pI hS.toSetN (k:=k) (by omega);refine ah 8 [.nw] [aI ((af S k)+8)] λ _=>aaq ((af S k)+8>(n:Int)) 19 (λ h5=>?_) λ h5=>?_
  ·refine SO 7 (ow 0 5)<|QV (ow 0 5) [] [] (.agg #[vI 0,vI 0,vI 0,vI 0,vI 0]) (ap [] []) ?_
   first|exact⟨⟨_,_,_,_,_⟩,rfl,rfl⟩|exact⟨⟨0,0,0,0,0⟩,rfl,rfl⟩
  ·refine OU 4<|aap [29] []<|aA [] [0,1,4,5,10,11,15,16,21,23,2,6,12,17,22,3,7,13,18,24,8,14,19,25,9,20,26,27,28] [.ix ((af S k).toNat),.nw,.nw,.nw,.o 1,.rorow 1 ((af S k).toNat) 0,.ix (((af S k)+1).toNat),.ix (((af S k)+2).toNat),.ix (((af S k)+3).toNat),.ix ((k).toNat),.rorow 1 (((af S k)+1).toNat) 0,.rorow 1 (((af S k)+2).toNat) 0,.rorow 1 (((af S k)+3).toNat) 0,.rorow 0 (S.bo+((k).toNat)) 6] [((S.bo*9+((k).toNat)*9)+6)=(S.bo+((k).toNat))*9+6/\(S.bo+((k).toNat))<S.bR,(0+(((af S k)+3).toNat)*1)=(((af S k)+3).toNat)*1+0/\(((af S k)+3).toNat)<N,(0+(((af S k)+2).toNat)*1)=(((af S k)+2).toNat)*1+0/\(((af S k)+2).toNat)<N,(0+(((af S k)+1).toNat)*1)=(((af S k)+1).toNat)*1+0/\(((af S k)+1).toNat)<N,k=(((k).toNat:Nat):Int)/\(k).toNat<S.nb,(af S k)+3=((((af S k)+3).toNat:Nat):Int)/\((af S k)+3).toNat<n,(af S k)+2=((((af S k)+2).toNat:Nat):Int)/\((af S k)+2).toNat<n,(af S k)+1=((((af S k)+1).toNat:Nat):Int)/\((af S k)+1).toNat<n,(0+((af S k).toNat)*1)=((af S k).toNat)*1+0/\((af S k).toNat)<N,aI ((af S k)+3),aI ((af S k)+2),aI ((af S k)+1),af S k=(((af S k).toNat:Nat):Int)/\(af S k).toNat<n]<|SV 29 [] (ow 0 5)<|Q2 1<|QV (ow 0 5) [] [] (.agg #[vI (l.getD ((af S k).toNat) 0),vI (l.getD (((af S k)+1).toNat) 0),vI (l.getD (((af S k)+2).toNat) 0),vI (l.getD (((af S k)+3).toNat) 0),vI ((S.bods.getD (S.bo+((k).toNat)) dB).mot.inv)]) (ap [] []) ?_
   first|exact⟨⟨_,_,_,_,_⟩,rfl,rfl⟩|exact⟨⟨0,0,0,0,0⟩,rfl,rfl⟩
theorem EU{q:Nat}{l:List Int}(j:Int)(hS:SetIn F S)(hq:(q,.rows 1 N (ak bD l) 3 (0,0))∈F)(hn:n=(sizeOf S).toNat)(hN:n<=N)(hj:0<=j/\j<=7):aeo 246 #[vS q 0 n N,(Setup.v S),vI k,vI j] [] F (λ u H'=>∃x:Int,H'=ap [] []/\u=vI x):=by
 have hp:=hS.pl;have WJ:=hS.nb;have Vg:=hS.room;have Va:=cz hS.toSetN;refine QU Tryz.func246 hq<|ae 10 (ow 0 16) λ n1=>aal (cy k hS.toSetN) ?_;have Ye:=bT hS.toSetN k;refine OU 10<|aaq (af S k<0) 14 (λ h3=>?_) λ h3=>?_
 ·refine OU 6<|QW (vI 0) (ap [] []) ⟨_,rfl,rfl⟩
 ·have hr4:=pI hS.toSetN (k:=k) (by omega);refine ah 14 [.nw,.ix (((af S k)+j).toNat),.rorow 0 (((af S k)+j).toNat) 0] [(0+(((af S k)+j).toNat)*1)=(((af S k)+j).toNat)*1+0/\(((af S k)+j).toNat)<N,(af S k)+j=((((af S k)+j).toNat:Nat):Int)/\((af S k)+j).toNat<n,aI ((af S k)+j)] λ _=>QW (vI (l.getD (((af S k)+j).toNat) 0)) (ap [] []) ⟨_,rfl,rfl⟩
theorem l7(n:Int):aen 288 #[vI n] F (vI (ET n)):=by
 refine QT Tryz.func288<|OU 8<|aal (cG n (-2147483647) 2147483647)<|ae 3 [] λ _=>QW _ _ ⟨rfl,rfl⟩
theorem mJ(b:Bool):aeo 289 #[.bool b] [] F (λ u H'=>∃x:Int,H'=ap [] []/\u=vI x):=by
 refine QT Tryz.func289<|OU 11<|cP (b) 3 (λ h1=>?_) λ h1=>?_
 ·refine ae 6 [] λ _=>QW (vI 1) _ ⟨_,rfl,rfl⟩
 ·refine ae 8 [] λ _=>QW (vI 0) _ ⟨_,rfl,rfl⟩
theorem Ib(op a b:Int):aeo 249 #[vI op,vI a,vI b] [] F (λ u H'=>∃x:Int,H'=ap [] []/\u=vI x):=by
 refine QT Tryz.func249<|OU 18<|aaq (op=9) 8 (λ h1=>?_) λ h1=>?_
 ·refine OU 6<|aal (l7 (i64.wrap (a+b)))<|OU 3<|QW (vI (ET (i64.wrap (a+b)))) (ap [] []) ⟨_,rfl,rfl⟩
 ·refine OU 7<|aaq (op=10) 14 (λ h2=>?_) λ h2=>?_
  ·refine OU 6<|aal (l7 (i64.wrap (a-b)))<|OU 3<|QW (vI (ET (i64.wrap (a-b)))) (ap [] []) ⟨_,rfl,rfl⟩
  ·refine OU 7<|aaq (op=11) 20 (λ h3=>?_) λ h3=>?_
   ·refine OU 6<|aal (l7 (i64.wrap (a*b)))<|OU 3<|QW (vI (ET (i64.wrap (a*b)))) (ap [] []) ⟨_,rfl,rfl⟩
   ·refine OU 7<|aaq (op=12) 26 (λ h4=>?_) λ h4=>?_
    ·refine OU 8<|aaq (b=0) 29 (λ h5=>?_) λ h5=>?_
     ·refine OU 6<|QW (vI 0) (ap [] []) ⟨_,rfl,rfl⟩
     ·refine ah 8 [.dv] [b≠0] λ _=>aal (l7 (i64.wrap (a.tdiv b)))<|OU 3<|QW (vI (ET (i64.wrap (a.tdiv b)))) (ap [] []) ⟨_,rfl,rfl⟩
    ·refine OU 7<|aaq (op=13) 34 (λ h6=>?_) λ h6=>?_
     ·refine OU 5<|aal (l7 (i64.wrap (0-a)))<|OU 3<|QW (vI (ET (i64.wrap (0-a)))) (ap [] []) ⟨_,rfl,rfl⟩
     ·refine OU 7<|aaq (op=14) 39 (λ h7=>?_) λ h7=>?_
      ·refine OU 6<|SP (mJ (decide (a<b))) ?_;rintro _ x8 rfl;refine OU 3<|QW (vI x8) (ap [] []) ⟨_,rfl,rfl⟩
      ·refine OU 7<|aaq (op=15) 45 (λ h9=>?_) λ h9=>?_
       ·refine OU 6<|SP (mJ (decide (a<=b))) ?_;rintro _ x10 rfl;refine OU 3<|QW (vI x10) (ap [] []) ⟨_,rfl,rfl⟩
       ·refine OU 7<|aaq (op=16) 51 (λ IN=>?_) λ IN=>?_
        ·refine OU 6<|SP (mJ (decide (a=b))) ?_;rintro _ Z3 rfl;refine OU 3<|QW (vI Z3) (ap [] []) ⟨_,rfl,rfl⟩
        ·refine OU 8<|SP (mJ (decide (a=0))) ?_;rintro _ x13 rfl;refine OU 3<|QW (vI x13) (ap [] []) ⟨_,rfl,rfl⟩
theorem uC(op:Int):aeo 250 #[vI op] [] F (λ u H'=>∃x:Int,H'=ap [] []/\u=vI x):=by
 refine QT Tryz.func250<|OU 19<|aaq (op=3) 4 (λ h1=>?_) λ h1=>?_
 ·refine ae 9 [] λ _=>QW (vI 0) _ ⟨_,rfl,rfl⟩
 ·refine OU 7<|aaq (op=5) 4 (λ h2=>?_) λ h2=>?_
  ·refine ae 9 [] λ _=>QW (vI 0) _ ⟨_,rfl,rfl⟩
  ·refine OU 7<|aaq (op=18) 4 (λ h3=>?_) λ h3=>?_
   ·refine ae 9 [] λ _=>QW (vI 0) _ ⟨_,rfl,rfl⟩
   ·refine OU 7<|aaq (op=19) 4 (λ h4=>?_) λ h4=>?_
    ·refine ae 9 [] λ _=>QW (vI 0) _ ⟨_,rfl,rfl⟩
    ·refine OU 7<|aaq (op=20) 4 (λ h5=>?_) λ h5=>?_
     ·refine ae 9 [] λ _=>QW (vI 0) _ ⟨_,rfl,rfl⟩
     ·refine OU 6<|aaq (op=21) 4 (λ h6=>?_) λ h6=>?_
      ·refine ae 6 [] λ _=>QW (vI 0) _ ⟨_,rfl,rfl⟩
      ·refine ae 9 [] λ _=>QW (vI 1) _ ⟨_,rfl,rfl⟩
theorem uD(op:Int):aen 245 #[vI op] F (vI (eJ op)):=by
 refine QT Tryz.func245<|OU 19<|aaq (op=1) 4 (λ h1=>?_) λ h1=>?_
 ·refine OU 9<|QW (vI 0) [] ⟨?_,rfl⟩;simp only[eJ,if_pos h1]
 ·refine OU 7<|aaq (op=2) 4 (λ h2=>?_) λ h2=>?_
  ·refine OU 9<|QW (vI 0) [] ⟨?_,rfl⟩;simp only[eJ,if_neg h1,if_pos h2]
  ·refine OU 7<|aaq (op=6) 4 (λ h3=>?_) λ h3=>?_
   ·refine OU 9<|QW (vI 0) [] ⟨?_,rfl⟩;simp only[eJ,if_neg h1,if_neg h2,if_pos h3]
   ·refine OU 7<|aaq (op=7) 4 (λ h4=>?_) λ h4=>?_
    ·refine OU 9<|QW (vI 0) [] ⟨?_,rfl⟩;simp only[eJ,if_neg h1,if_neg h2,if_neg h3,if_pos h4]
    ·refine OU 7<|aaq (op=8) 4 (λ h5=>?_) λ h5=>?_
     ·refine OU 9<|QW (vI 0) [] ⟨?_,rfl⟩;simp only[eJ,if_neg h1,if_neg h2,if_neg h3,if_neg h4,if_pos h5]
     ·refine OU 7<|aaq (op=18) 4 (λ h6=>?_) λ h6=>?_
      ·refine OU 9<|QW (vI 0) [] ⟨?_,rfl⟩;simp only[eJ,if_neg h1,if_neg h2,if_neg h3,if_neg h4,if_neg h5,if_pos h6]
      ·refine OU 6<|aaq (op=21) 4 (λ h7=>?_) λ h7=>?_
       ·refine OU 6<|QW (vI 0) [] ⟨?_,rfl⟩;simp only[eJ,if_neg h1,if_neg h2,if_neg h3,if_neg h4,if_neg h5,if_neg h6,if_pos h7]
       ·refine OU 8<|aaq (op=3) 12 (λ h8=>?_) λ h8=>?_
        ·refine OU 9<|QW (vI 1) [] ⟨?_,rfl⟩;simp only[eJ,if_neg h1,if_neg h2,if_neg h3,if_neg h4,if_neg h5,if_neg h6,if_neg h7,if_pos h8]
        ·refine OU 7<|aaq (op=4) 12 (λ h9=>?_) λ h9=>?_
         ·refine OU 9<|QW (vI 1) [] ⟨?_,rfl⟩;simp only[eJ,if_neg h1,if_neg h2,if_neg h3,if_neg h4,if_neg h5,if_neg h6,if_neg h7,if_neg h8,if_pos h9]
         ·refine OU 7<|aaq (op=13) 12 (λ No=>?_) λ No=>?_
          ·refine OU 9<|QW (vI 1) [] ⟨?_,rfl⟩;simp only[eJ,if_neg h1,if_neg h2,if_neg h3,if_neg h4,if_neg h5,if_neg h6,if_neg h7,if_neg h8,if_neg h9,if_pos No]
          ·refine OU 7<|aaq (op=17) 12 (λ IN=>?_) λ IN=>?_
           ·refine OU 9<|QW (vI 1) [] ⟨?_,rfl⟩;simp only[eJ,if_neg h1,if_neg h2,if_neg h3,if_neg h4,if_neg h5,if_neg h6,if_neg h7,if_neg h8,if_neg h9,if_neg No,if_pos IN]
           ·refine OU 6<|aaq (op=19) 12 (λ H_=>?_) λ H_=>?_
            ·refine OU 6<|QW (vI 1) [] ⟨?_,rfl⟩;simp only[eJ,if_neg h1,if_neg h2,if_neg h3,if_neg h4,if_neg h5,if_neg h6,if_neg h7,if_neg h8,if_neg h9,if_neg No,if_neg IN,if_pos H_]
            ·refine OU 8<|aaq (op=5) 18 (λ U8=>?_) λ U8=>?_
             ·refine OU 9<|QW (vI 2) [] ⟨?_,rfl⟩;simp only[eJ,if_neg h1,if_neg h2,if_neg h3,if_neg h4,if_neg h5,if_neg h6,if_neg h7,if_neg h8,if_neg h9,if_neg No,if_neg IN,if_neg H_,if_pos U8]
             ·refine OU 7<|aaq (op=9) 18 (λ Vu=>?_) λ Vu=>?_
              ·refine OU 9<|QW (vI 2) [] ⟨?_,rfl⟩;simp only[eJ,if_neg h1,if_neg h2,if_neg h3,if_neg h4,if_neg h5,if_neg h6,if_neg h7,if_neg h8,if_neg h9,if_neg No,if_neg IN,if_neg H_,if_neg U8,if_pos Vu]
              ·refine OU 7<|aaq (op=10) 18 (λ Wg=>?_) λ Wg=>?_
               ·refine OU 9<|QW (vI 2) [] ⟨?_,rfl⟩;simp only[eJ,if_neg h1,if_neg h2,if_neg h3,if_neg h4,if_neg h5,if_neg h6,if_neg h7,if_neg h8,if_neg h9,if_neg No,if_neg IN,if_neg H_,if_neg U8,if_neg Vu,if_pos Wg]
               ·refine OU 7<|aaq (op=11) 18 (λ U4=>?_) λ U4=>?_
                ·refine OU 9<|QW (vI 2) [] ⟨?_,rfl⟩;simp only[eJ,if_neg h1,if_neg h2,if_neg h3,if_neg h4,if_neg h5,if_neg h6,if_neg h7,if_neg h8,if_neg h9,if_neg No,if_neg IN,if_neg H_,if_neg U8,if_neg Vu,if_neg Wg,if_pos U4]
                ·refine OU 7<|aaq (op=12) 18 (λ YS=>?_) λ YS=>?_
                 ·refine OU 9<|QW (vI 2) [] ⟨?_,rfl⟩;simp only[eJ,if_neg h1,if_neg h2,if_neg h3,if_neg h4,if_neg h5,if_neg h6,if_neg h7,if_neg h8,if_neg h9,if_neg No,if_neg IN,if_neg H_,if_neg U8,if_neg Vu,if_neg Wg,if_neg U4,if_pos YS]
                 ·refine OU 7<|aaq (op=14) 18 (λ Xf=>?_) λ Xf=>?_
                  ·refine OU 9<|QW (vI 2) [] ⟨?_,rfl⟩;simp only[eJ,if_neg h1,if_neg h2,if_neg h3,if_neg h4,if_neg h5,if_neg h6,if_neg h7,if_neg h8,if_neg h9,if_neg No,if_neg IN,if_neg H_,if_neg U8,if_neg Vu,if_neg Wg,if_neg U4,if_neg YS,if_pos Xf]
                  ·refine OU 7<|aaq (op=15) 18 (λ Wy=>?_) λ Wy=>?_
                   ·refine OU 9<|QW (vI 2) [] ⟨?_,rfl⟩;simp only[eJ,if_neg h1,if_neg h2,if_neg h3,if_neg h4,if_neg h5,if_neg h6,if_neg h7,if_neg h8,if_neg h9,if_neg No,if_neg IN,if_neg H_,if_neg U8,if_neg Vu,if_neg Wg,if_neg U4,if_neg YS,if_neg Xf,if_pos Wy]
                   ·refine OU 7<|aaq (op=16) 18 (λ XO=>?_) λ XO=>?_
                    ·refine OU 9<|QW (vI 2) [] ⟨?_,rfl⟩;simp only[eJ,if_neg h1,if_neg h2,if_neg h3,if_neg h4,if_neg h5,if_neg h6,if_neg h7,if_neg h8,if_neg h9,if_neg No,if_neg IN,if_neg H_,if_neg U8,if_neg Vu,if_neg Wg,if_neg U4,if_neg YS,if_neg Xf,if_neg Wy,if_pos XO]
                    ·refine OU 6<|aaq (op=20) 18 (λ Xy=>?_) λ Xy=>?_
                     ·refine OU 6<|QW (vI 2) [] ⟨?_,rfl⟩;simp only[eJ,if_neg h1,if_neg h2,if_neg h3,if_neg h4,if_neg h5,if_neg h6,if_neg h7,if_neg h8,if_neg h9,if_neg No,if_neg IN,if_neg H_,if_neg U8,if_neg Vu,if_neg Wg,if_neg U4,if_neg YS,if_neg Xf,if_neg Wy,if_neg XO,if_pos Xy]
                     ·refine OU 9<|QW (vI (-1)) [] ⟨?_,rfl⟩;simp only[eJ,if_neg h1,if_neg h2,if_neg h3,if_neg h4,if_neg h5,if_neg h6,if_neg h7,if_neg h8,if_neg h9,if_neg No,if_neg IN,if_neg H_,if_neg U8,if_neg Vu,if_neg Wg,if_neg U4,if_neg YS,if_neg Xf,if_neg Wy,if_neg XO,if_neg Xy]
theorem Pu(l:List Int)(cb ca m cc:Nat)(e0 e1 e2:Int)(code:Nat->Ins)(se ot fu:Int)(F:HL)(h48:48<=n)(hN:n<=N)(VE:n<=100000000):aeo 180 #[vS q 0 n N,.agg #[vS cb ca m cc,vI e0,vI e1,vI e2],vI 0,vI se,vI ot,vI fu] (ap [(q,.rows 1 N (ak bD l) 3 (0,0))] []) F (λ u H'=>∃x:RfR,H'=ap [(x.q,.rows 1 x.N (ak bD x.l) 3 (0,0))] []/\(u=.tuple #[vS x.q 0 n x.N,.bool x.en]/\n<=x.N/\KpL l x.l/\(x.en=false->x.q=q/\x.N=N))):=by
 refine QS Tryz.func180 mn<|ae 31 [.o 0] λ n1=>aaq (e0<0) 26 (λ h2=>?_) λ h2=>?_
 ·refine ae 8 [] λ _=>aav [] [1] [] (QL q N false rfl rfl (by omega) KpL.rfl (λ _=>⟨rfl,rfl⟩))
 ·refine ae 7 [] λ n3=>aao 0 (.rows 1 0 (ak bD []) 3 (0,0))<|rQ 0<|aaj (c':=N) (tx:=22) lr ([]:List Int) ((List.range n).map λ i=>l.getD i 0) 0 rfl (fQ (b:=(n3+0))) (by simp;omega) (fY (N:=N) (l:=l) (q:=q) (aw 1) (by omega)) ?_;rintro A4 c5 T6 ⟨Z8,hz8⟩;refine aM 30 (congrArg (λ v_=>(.slice A4 v_ c5:Value)) (show 0+((List.range n).map λ i=>l.getD i 0).length=n by simp)) ?_;obtain⟨b9,V3,rfl,rfl,agj,ZE⟩:=fg Z8 (hz8 rfl) (by omega);refine RN.ot 0 (x:=(b9,.rows 1 c5 (ak bD V3) 3 (0,0)))<|ah 15 [.o 1,.ix 6,.row 0 6 0] [(0+6*1)=6*1+0/\6<c5,6=((6:Nat):Int)/\6<n] λ _=>aak 0 (ep c5 V3 6 e0)<|ah 7 [.ix 7,.row 0 7 0] [(0+7*1)=7*1+0/\7<c5,7=((7:Nat):Int)/\7<n] λ _=>aak 0 (ep c5 (al V3 6 e0) 7 0)<|ah 8 [.ix 8,.row 0 8 0] [(0+8*1)=8*1+0/\8<c5,8=((8:Nat):Int)/\8<n] λ _=>aak 0 (ep c5 (al (al V3 6 e0) 7 0) 8 fu)<|ah 8 [.ix 9,.row 0 9 0] [(0+9*1)=9*1+0/\9<c5,9=((9:Nat):Int)/\9<n] λ _=>aak 0 (ep c5 (al (al (al V3 6 e0) 7 0) 8 fu) 9 se)<|ah 8 [.ix 10,.row 0 10 0] [(0+10*1)=10*1+0/\10<c5,10=((10:Nat):Int)/\10<n] λ _=>aak 0 (ep c5 (al (al (al (al V3 6 e0) 7 0) 8 fu) 9 se) 10 ot)<|ae 6 [] λ _=>aav [] [0] [] (QL b9 c5 (l':=al (al (al (al (al V3 6 e0) 7 0) 8 fu) 9 se) 10 ot) true rfl rfl (by omega) (KpL.up (KpL.up (KpL.up (KpL.up (KpL.up (KpL.cp ZE (by omega)) (by decide)) (by decide)) (by decide)) (by decide)) (by decide)) (λ h_=>by cases h_))
theorem Pv(l:List Int)(cb ca m cc:Nat)(e0 e1 e2:Int)(code:Nat->Ins)(se ot fu:Int)(F:HL)(h48:48<=n)(hN:n<=N)(VE:n<=100000000):aeo 180 #[vS q 0 n N,.agg #[vS cb ca m cc,vI e0,vI e1,vI e2],vI 1,vI se,vI ot,vI fu] (ap [(q,.rows 1 N (ak bD l) 3 (0,0))] []) F (λ u H'=>∃x:RfR,H'=ap [(x.q,.rows 1 x.N (ak bD x.l) 3 (0,0))] []/\(u=.tuple #[vS x.q 0 n x.N,.bool x.en]/\n<=x.N/\KpL l x.l/\(x.en=false->x.q=q/\x.N=N))):=by
 refine QS Tryz.func180 mn<|ae 31 [.o 0] λ n1=>aaq (e1<0) 26 (λ h2=>?_) λ h2=>?_
 ·refine ae 8 [] λ _=>aav [] [1] [] (QL q N false rfl rfl (by omega) KpL.rfl (λ _=>⟨rfl,rfl⟩))
 ·refine ae 7 [] λ n3=>aao 0 (.rows 1 0 (ak bD []) 3 (0,0))<|rQ 0<|aaj (c':=N) (tx:=22) lr ([]:List Int) ((List.range n).map λ i=>l.getD i 0) 0 rfl (fQ (b:=(n3+0))) (by simp;omega) (fY (N:=N) (l:=l) (q:=q) (aw 1) (by omega)) ?_;rintro A4 c5 T6 ⟨Z8,hz8⟩;refine aM 30 (congrArg (λ v_=>(.slice A4 v_ c5:Value)) (show 0+((List.range n).map λ i=>l.getD i 0).length=n by simp)) ?_;obtain⟨b9,V3,rfl,rfl,agj,ZE⟩:=fg Z8 (hz8 rfl) (by omega);refine RN.ot 0 (x:=(b9,.rows 1 c5 (ak bD V3) 3 (0,0)))<|ah 15 [.o 1,.ix 6,.row 0 6 0] [(0+6*1)=6*1+0/\6<c5,6=((6:Nat):Int)/\6<n] λ _=>aak 0 (ep c5 V3 6 e1)<|ah 7 [.ix 7,.row 0 7 0] [(0+7*1)=7*1+0/\7<c5,7=((7:Nat):Int)/\7<n] λ _=>aak 0 (ep c5 (al V3 6 e1) 7 0)<|ah 8 [.ix 8,.row 0 8 0] [(0+8*1)=8*1+0/\8<c5,8=((8:Nat):Int)/\8<n] λ _=>aak 0 (ep c5 (al (al V3 6 e1) 7 0) 8 fu)<|ah 8 [.ix 9,.row 0 9 0] [(0+9*1)=9*1+0/\9<c5,9=((9:Nat):Int)/\9<n] λ _=>aak 0 (ep c5 (al (al (al V3 6 e1) 7 0) 8 fu) 9 se)<|ah 8 [.ix 10,.row 0 10 0] [(0+10*1)=10*1+0/\10<c5,10=((10:Nat):Int)/\10<n] λ _=>aak 0 (ep c5 (al (al (al (al V3 6 e1) 7 0) 8 fu) 9 se) 10 ot)<|ae 6 [] λ _=>aav [] [0] [] (QL b9 c5 (l':=al (al (al (al (al V3 6 e1) 7 0) 8 fu) 9 se) 10 ot) true rfl rfl (by omega) (KpL.up (KpL.up (KpL.up (KpL.up (KpL.up (KpL.cp ZE (by omega)) (by decide)) (by decide)) (by decide)) (by decide)) (by decide)) (λ h_=>by cases h_))
theorem Pw(l:List Int)(cb ca m cc:Nat)(e0 e1 e2:Int)(code:Nat->Ins)(se ot fu:Int)(F:HL)(h48:48<=n)(hN:n<=N)(VE:n<=100000000):aeo 180 #[vS q 0 n N,.agg #[vS cb ca m cc,vI e0,vI e1,vI e2],vI 2,vI se,vI ot,vI fu] (ap [(q,.rows 1 N (ak bD l) 3 (0,0))] []) F (λ u H'=>∃x:RfR,H'=ap [(x.q,.rows 1 x.N (ak bD x.l) 3 (0,0))] []/\(u=.tuple #[vS x.q 0 n x.N,.bool x.en]/\n<=x.N/\KpL l x.l/\(x.en=false->x.q=q/\x.N=N))):=by
 refine QS Tryz.func180 mn<|ae 31 [.o 0] λ n1=>aaq (e2<0) 26 (λ h2=>?_) λ h2=>?_
 ·refine ae 8 [] λ _=>aav [] [1] [] (QL q N false rfl rfl (by omega) KpL.rfl (λ _=>⟨rfl,rfl⟩))
 ·refine ae 7 [] λ n3=>aao 0 (.rows 1 0 (ak bD []) 3 (0,0))<|rQ 0<|aaj (c':=N) (tx:=22) lr ([]:List Int) ((List.range n).map λ i=>l.getD i 0) 0 rfl (fQ (b:=(n3+0))) (by simp;omega) (fY (N:=N) (l:=l) (q:=q) (aw 1) (by omega)) ?_;rintro A4 c5 T6 ⟨Z8,hz8⟩;refine aM 30 (congrArg (λ v_=>(.slice A4 v_ c5:Value)) (show 0+((List.range n).map λ i=>l.getD i 0).length=n by simp)) ?_;obtain⟨b9,V3,rfl,rfl,agj,ZE⟩:=fg Z8 (hz8 rfl) (by omega);refine RN.ot 0 (x:=(b9,.rows 1 c5 (ak bD V3) 3 (0,0)))<|ah 15 [.o 1,.ix 6,.row 0 6 0] [(0+6*1)=6*1+0/\6<c5,6=((6:Nat):Int)/\6<n] λ _=>aak 0 (ep c5 V3 6 e2)<|ah 7 [.ix 7,.row 0 7 0] [(0+7*1)=7*1+0/\7<c5,7=((7:Nat):Int)/\7<n] λ _=>aak 0 (ep c5 (al V3 6 e2) 7 0)<|ah 8 [.ix 8,.row 0 8 0] [(0+8*1)=8*1+0/\8<c5,8=((8:Nat):Int)/\8<n] λ _=>aak 0 (ep c5 (al (al V3 6 e2) 7 0) 8 fu)<|ah 8 [.ix 9,.row 0 9 0] [(0+9*1)=9*1+0/\9<c5,9=((9:Nat):Int)/\9<n] λ _=>aak 0 (ep c5 (al (al (al V3 6 e2) 7 0) 8 fu) 9 se)<|ah 8 [.ix 10,.row 0 10 0] [(0+10*1)=10*1+0/\10<c5,10=((10:Nat):Int)/\10<n] λ _=>aak 0 (ep c5 (al (al (al (al V3 6 e2) 7 0) 8 fu) 9 se) 10 ot)<|ae 6 [] λ _=>aav [] [0] [] (QL b9 c5 (l':=al (al (al (al (al V3 6 e2) 7 0) 8 fu) 9 se) 10 ot) true rfl rfl (by omega) (KpL.up (KpL.up (KpL.up (KpL.up (KpL.up (KpL.cp ZE (by omega)) (by decide)) (by decide)) (by decide)) (by decide)) (by decide)) (λ h_=>by cases h_))
theorem Ic(n N:Nat)(l:List Int)(cb ca m cc:Nat)(e0 e1 e2:Int)(code:Nat->Ins){h:Int} (se ot fu:Int)(h48:48<=n)(hN:n<=N)(VE:n<=100000000)(hh:h=0\/h=1\/h=2):aeo 180 #[vS q 0 n N,.agg #[vS cb ca m cc,vI e0,vI e1,vI e2],vI h,vI se,vI ot,vI fu] (ap [(q,.rows 1 N (ak bD l) 3 (0,0))] []) F (λ u H'=>∃x:RfR,H'=ap [(x.q,.rows 1 x.N (ak bD x.l) 3 (0,0))] []/\(u=.tuple #[vS x.q 0 n x.N,.bool x.en]/\n<=x.N/\KpL l x.l/\(x.en=false->x.q=q/\x.N=N))):=by
 rcases hh with rfl|rfl|rfl
 ·exact Pu q l cb ca m cc e0 e1 e2 code se ot fu F h48 hN VE
 ·exact Pv q l cb ca m cc e0 e1 e2 code se ot fu F h48 hN VE
 ·exact Pw q l cb ca m cc e0 e1 e2 code se ot fu F h48 hN VE
def Ie:Enc Int:=⟨1,λ p k=>match k with|0=>.int .u64 p|_=>default,0⟩
noncomputable def Ou:TypeInfo:=match Tryz.prog.info? 326 with | some i=>i | none=>⟨.bool,"",0,0,false,0,0,none,false,#[]⟩
noncomputable def Ov:Value:=match Ou.zero with|some z=>z|none=>.bool false
theorem Px:EncOk Ie Tryz.prog 326 Ou Ov where
 info:=by kernel_rfl
 zero:=by kernel_rfl
 size:=by kernel_rfl
 zsize:=by kernel_rfl
 zcell:=λ k hk=>by
  have h:∀k<1,Ov.cells[k]?=some (Ie.cell Ie.dflt k):=by intro k hk;(iterate 1 (rcases k with _|k;· kernel_rfl));omega
  exact h k hk
 one:=λ x k=>by unfold Ie;dsimp only;split <;> rfl
 bytes:=aaH (by kernel_rfl)
theorem gV(s w:Int):aeo 287 #[.int .u64 s,.int .u64 w] [] F (λ u H'=>∃x:Int,H'=ap [] []/\u=.int .u64 x):=by
 refine QT Tryz.func287<|OU 23<|QW (.int .u64 (u64.wrap ((BitVec.ofInt 64 (u64.wrap ((u64.wrap ((BitVec.ofInt 64 s ^^^ BitVec.ofInt 64 w).toNat:Int))*11400714819323198485)) ^^^ BitVec.ofInt 64 (u64.wrap ((u64.wrap ((u64.wrap ((BitVec.ofInt 64 s ^^^ BitVec.ofInt 64 w).toNat:Int))*11400714819323198485)).tdiv 4294967296))).toNat:Int))) (ap [] []) ⟨_,rfl,rfl⟩
theorem Bt{q cap:Nat}(hq:(q,.rows 1 cap (rR ⟨#[101,102,102,101,99,116]⟩) 5 (cap,cap+1))∈F)(hc:6<=cap):aeo 286 #[vS q 0 6 cap] (ap [] []) F (λ u H'=>∃x:Nat×Nat×List Int,H'=ap [(x.1,.rows 1 x.2.1 (ak Ie ([127970251794021]++x.2.2)) 326 (0,0))] []/\(u=vS x.1 0 1 x.2.1/\1<=x.2.1)):=by
 refine QU Tryz.func286 hq<|OU 17<|aaw 2<|OU 32<|aaw 7<|ah 206 [.rorow 0 5 0,.rorow 0 4 0,.rorow 0 3 0,.rorow 0 2 0,.rorow 0 1 0,.rorow 0 0 0] [0=0*1+0/\0<cap,1=1*1+0/\1<cap,2=2*1+0/\2<cap,3=3*1+0/\3<cap,4=4*1+0/\4<cap,5=5*1+0/\5<cap] λ _=>aM 5 (congrArg (λ v_=>(.int .u64 v_:Value)) (show (u64.wrap ((u64.wrap (256*(u64.wrap ((u64.wrap (256*(u64.wrap ((u64.wrap (256*(u64.wrap ((u64.wrap (256*(u64.wrap ((u64.wrap (256*(u64.wrap (0+(u64.wrap (qm ⟨#[101,102,102,101,99,116]⟩ 5))))))+(u64.wrap (qm ⟨#[101,102,102,101,99,116]⟩ 4))))))+(u64.wrap (qm ⟨#[101,102,102,101,99,116]⟩ 3))))))+(u64.wrap (qm ⟨#[101,102,102,101,99,116]⟩ 2))))))+(u64.wrap (qm ⟨#[101,102,102,101,99,116]⟩ 1))))))+(u64.wrap (qm ⟨#[101,102,102,101,99,116]⟩ 0))):Int)=127970251794021 by kernel_rfl))<|ae 4 [] λ n1=>aau<|ez Px (l:=([]:List Int)) [127970251794021] 0 0 rfl (aay _ _) (by decide) ?_;rintro A2 c3 T4 ⟨XE,hz6⟩;refine OU 31<|QV [] [] [0] (.slice A2 1 c3) (ap [] [T4]) ?_;obtain⟨b_,r_,rfl,rfl,Yq⟩:=XE.open0 (hz6 trivial) (by decide) (by decide);exact⟨(b_,c3,r_),rfl,rfl,Yq⟩
theorem Ig{a b c d:Int}{r:Nat}(hr:(r,.lit [vI a,vI b,vI c,vI d] 3 (0,0))∈F):aeo 248 #[.string ⟨#[101,102,102,101,99,116]⟩,vS r 0 4 4] [] F (λ u H'=>∃x:Int,H'=ap [] []/\u=.int .u64 x):=by
 refine QU Tryz.func248 hr<|OU 13<|O0 (st:=⟨#[101,102,102,101,99,116]⟩) (e:=5) λ b1 c2 hc3=>?_
 replace hc3:6<=c2:=hc3
 refine RN.ot 0 (x:=(b1,.rows 1 c2 (rR ⟨#[101,102,102,101,99,116]⟩) 5 (c2,c2+1)))<|SP (Bt (q:=b1) (aw 0) hc3) ?_;rintro _ ⟨b4,c5,r6⟩ ⟨rfl,hc7⟩;dsimp only at hc7;refine OU 10<|aaw 2<|ah 20 [.row 0 0 0] [0=0*1+0/\0<c5] λ _=>SP (gV 0 127970251794021) ?_;rintro _ x8 rfl;refine OU 31<|SP (gV x8 6) ?_;rintro _ x9 rfl;refine OU 9<|SP (gV x9 4) ?_;rintro _ x10 rfl;refine OU 10<|aaw 5<|SO 21 [.ro 0]<|SP (gV x10 (u64.wrap a)) ?_;rintro _ x11 rfl;refine SO 31 [.ro 0]<|SP (gV x11 (u64.wrap b)) ?_;rintro _ Z3 rfl;refine SO 31 [.ro 0]<|SP (gV Z3 (u64.wrap c)) ?_;rintro _ x13 rfl;refine SO 31 [.ro 0]<|SP (gV x13 (u64.wrap d)) ?_;rintro _ x14 rfl;refine OU 28<|SP (gV x14 0) ?_;rintro _ x15 rfl;refine ae 3 [] λ _=>QW (.int .u64 x15) _ ⟨_,rfl,rfl⟩
end
section
variable {F H':HL} {S:Setup} {cb m n:Nat} {u:Value} (q N:Nat)
theorem Ii{q:Nat} (n:Nat) {N:Nat}{l:List Int}{ca:Nat} (cc:Nat)(e0 e1 e2:Int){code:Nat->Ins}(hq:(q,.rows 1 N (ak bD l) 3 (0,0))∈F)(h48:48<=n)(hN:n<=N)(hC:InsB F cb ca m code):aeo 244 #[vS q 0 n N,.agg #[vS cb ca m cc,vI e0,vI e1,vI e2]] [] F (λ u H'=>∃x:Bool,H'=ap [] []/\(u=.bool x/\(x=true->(0<=l.getD 6 0/\l.getD 6 0<m)/\(0<=eJ (code (l.getD 6 0).toNat).op/\eJ (code (l.getD 6 0).toNat).op<=l.getD 7 0/\l.getD 7 0<=16)/\((code (l.getD 6 0).toNat).op=2\/(code (l.getD 6 0).toNat).op=3->0<=(code (l.getD 6 0).toNat).n/\(code (l.getD 6 0).toNat).n<=15)/\((code (l.getD 6 0).toNat).op=4\/(code (l.getD 6 0).toNat).op=5->0<=(code (l.getD 6 0).toNat).n/\(code (l.getD 6 0).toNat).n<=7)))):=by
 refine QU Tryz.func244 hq<|ae 8 [] λ n1=>aan (σ:=Bool) (λ bb2=>⟨[(0,vS q 0 n N),(3,vP (n1+0) 0),(25,.bool bb2)],[((n1+0),.lit [vS cb ca m cc,vI e0,vI e1,vI e2] 111 (0,0))],[],bb2=false->0<=l.getD 6 0/\l.getD 6 0<m,0⟩) ?_ ?_
 ·intro OF;refine aap [] []<|aA [] [0,1,2,3,4] [.ix 8,.rorow 0 8 0] [(0+8*1)=8*1+0/\8<N,8=((8:Nat):Int)/\8<n]<|RD.em (l.getD 8 0<1) 11 (λ h4=>?_) λ h4=>?_
  ·refine aem [5,6,7,8,9,10,11,14,12,15,13,16,17,18]<|aaf<|OF true [0] [] ?_
   try dsimp only
   intro h_;cases h_
  ·refine aA [] [5,6,7,8,9,10] [.ix 6,.rorow 0 6 0] [(0+6*1)=6*1+0/\6<N,6=((6:Nat):Int)/\6<n]<|RD.em (l.getD 6 0<0) 17 (λ h5=>?_) λ h5=>?_
   ·refine aem [11,14,12,15,13,16,17,18]<|aaf<|OF true [0] [] ?_
    try dsimp only
    intro h_;cases h_
   ·refine aA [] [11,14,12,15,13,16,17,18] [.ix 6,.o 0,.rorow 0 6 0] [(0+6*1)=6*1+0/\6<N,6=((6:Nat):Int)/\6<n]<|aaf<|OF (decide (l.getD 6 0>=(m:Int))) [0] [] ?_
    try dsimp only
    intro h_;simp only[decide_eq_false_iff_not,ac6] at h_;exact⟨by omega,by omega⟩
 ·rintro bb2 adg;refine OU 1<|cP (bb2) 25 (λ h6=>?_) λ h6=>?_
  ·refine ae 6 [] λ _=>QW (.bool false) _ ⟨false,rfl,rfl,λ h_=>by cases h_⟩
  ·have hq7:=adg (acp.2 h6);refine OU 4<|aap [8] []<|aA [] [0,2,1,3,4,5] [.o 0,.ix 6,.rorow 0 6 0,.ix ((l.getD 6 0).toNat)] [l.getD 6 0=(((l.getD 6 0).toNat:Nat):Int)/\(l.getD 6 0).toNat<m,(0+6*1)=6*1+0/\6<N,6=((6:Nat):Int)/\6<n]<|Bd 6 [vI (code ((l.getD 6 0).toNat)).op,vI (code ((l.getD 6 0).toNat)).n] (λ w_ h_=>hC w_ h_ ((l.getD 6 0).toNat) (by omega)) ?_ [];refine aag 7 (aai [] [] λ n8=>?_);refine SV 8 [] (aab 2)<|aaf<|SO 5 [.o 0]<|aal (uD ((code ((l.getD 6 0).toNat)).op))<|OU 5<|aan (σ:=Bool) (λ bb9=>⟨[(5,vP (n8+0) 0),(62,.bool bb9)],[((n8+0),.lit [vI ((code ((l.getD 6 0).toNat)).op),vI ((code ((l.getD 6 0).toNat)).n)] 212 (0,0)),((n1+0),.lit [vS cb ca m cc,vI e0,vI e1,vI e2] 111 (0,0))],[],bb9=false->0<=eJ (code (l.getD 6 0).toNat).op/\eJ (code (l.getD 6 0).toNat).op<=l.getD 7 0/\l.getD 7 0<=16,0⟩) ?_ ?_
   ·intro YC;refine aap [] []<|aem [0,1,2]<|RD.em (eJ ((code ((l.getD 6 0).toNat)).op)<0) 38 (λ IN=>?_) λ IN=>?_
    ·refine aem [3,6,4,5,7,8,9,10,11,12,13,14,15,16,19,21,17,22,18,23,20,24,25,26]<|aaf<|YC true [0,1] [] ?_
     try dsimp only
     intro h_;cases h_
    ·refine aA [] [3,6,4,5,7,8,9] [.ix 7,.rorow 0 7 0] [(0+7*1)=7*1+0/\7<N,7=((7:Nat):Int)/\7<n]<|RD.em (l.getD 7 0<eJ ((code ((l.getD 6 0).toNat)).op)) 45 (λ H_=>?_) λ H_=>?_
     ·refine aem [10,11,12,13,14,15,16,19,21,17,22,18,23,20,24,25,26]<|aaf<|YC true [0,1] [] ?_
      try dsimp only
      intro h_;cases h_
     ·refine aA [] [10,11,12,13,14,15] [.ix 7,.rorow 0 7 0] [(0+7*1)=7*1+0/\7<N,7=((7:Nat):Int)/\7<n]<|RD.em (l.getD 7 0>16) 51 (λ U8=>?_) λ U8=>?_
      ·refine aem [16,19,21,17,22,18,23,20,24,25,26]<|aaf<|YC true [0,1] [] ?_
       try dsimp only
       intro h_;cases h_
      ·refine aA [] [16,19,21,17,22,18,20] [.ix 7,.o 0,.rorow 0 7 0] [(0+7*1)=7*1+0/\7<N,7=((7:Nat):Int)/\7<n]<|aag 23 (Q1 [] (uC ((code ((l.getD 6 0).toNat)).op)) ?_);rintro _ x14 rfl;refine aem [24,25,26]<|aaf<|YC (decide (i64.wrap ((i64.wrap ((l.getD 7 0)-(eJ ((code ((l.getD 6 0).toNat)).op))))+x14)>16)) [0,1] [] ?_
       try dsimp only
       intro h_;simp only[decide_eq_false_iff_not,ac6] at h_;exact⟨by omega,by omega,by omega⟩
   ·rintro bb9 ajI;refine OU 1<|cP (bb9) 62 (λ Wg=>?_) λ Wg=>?_
    ·refine ae 6 [] λ _=>QW (.bool false) _ ⟨false,rfl,rfl,λ h_=>by cases h_⟩
    ·have apk:=ajI (acp.2 Wg);refine OU 5<|aan (σ:=Bool) (λ abD=>⟨[(5,vP (n8+0) 0),(80,.bool abD)],[((n8+0),.lit [vI ((code ((l.getD 6 0).toNat)).op),vI ((code ((l.getD 6 0).toNat)).n)] 212 (0,0)),((n1+0),.lit [vS cb ca m cc,vI e0,vI e1,vI e2] 111 (0,0))],[],abD=false->((code (l.getD 6 0).toNat).op=2\/(code (l.getD 6 0).toNat).op=3->0<=(code (l.getD 6 0).toNat).n/\(code (l.getD 6 0).toNat).n<=15),0⟩) ?_ ?_
     ·intro XS;refine SO 5 [.o 0]<|aaq ((code ((l.getD 6 0).toNat)).op=2) 66 (λ Wy=>?_) λ Wy=>?_
      ·refine SO 9 [.o 0]<|aaq ((code ((l.getD 6 0).toNat)).n<0) 75 (λ XO=>?_) λ XO=>?_
       ·refine ae 6 [] λ _=>XS true [0,1] [] ?_
        try dsimp only
        intro h_;cases h_
       ·refine ae 6 [.o 0] λ _=>XS (decide ((code ((l.getD 6 0).toNat)).n>15)) [0,1] [] ?_
        try dsimp only
        intro h_;simp only[decide_eq_false_iff_not,ac6] at h_;exact(λ UJ=>by omega)
      ·refine SO 5 [.o 0]<|aaq ((code ((l.getD 6 0).toNat)).op=3) 71 (λ Xy=>?_) λ Xy=>?_
       ·refine SO 4 [.o 0]<|aaq ((code ((l.getD 6 0).toNat)).n<0) 75 (λ h22=>?_) λ h22=>?_
        ·refine ae 6 [] λ _=>XS true [0,1] [] ?_
         try dsimp only
         intro h_;cases h_
        ·refine ae 6 [.o 0] λ _=>XS (decide ((code ((l.getD 6 0).toNat)).n>15)) [0,1] [] ?_
         try dsimp only
         intro h_;simp only[decide_eq_false_iff_not,ac6] at h_;exact(λ UJ=>by omega)
       ·refine ae 10 [] λ _=>XS false [0,1] [] ?_
        try dsimp only
        intro h_;exact(λ UJ=>by omega)
     ·rintro abD af7;refine OU 1<|cP (abD) 80 (λ h23=>?_) λ h23=>?_
      ·refine ae 6 [] λ _=>QW (.bool false) _ ⟨false,rfl,rfl,λ h_=>by cases h_⟩
      ·have apj:=af7 (acp.2 h23);refine SO 9 [.o 0]<|aar ((code ((l.getD 6 0).toNat)).op=4) 84 (λ h25=>?_) λ h25=>?_
       ·refine SO 9 [.o 0]<|aaq ((code ((l.getD 6 0).toNat)).n>=0) 93 (λ h26=>?_) λ h26=>?_
        ·refine SO 8 [.o 0]<|QW (.bool (decide ((code ((l.getD 6 0).toNat)).n<=7))) (ap [] []) ⟨decide ((code ((l.getD 6 0).toNat)).n<=7),rfl,rfl,λ h_=>?_⟩;simp only[decide_eq_true_eq,Bool.not_eq_true'] at h_;exact⟨by omega,by omega,by omega,by omega⟩
        ·refine ae 8 [] λ _=>QW (.bool false) _ ⟨false,rfl,rfl,λ h_=>by cases h_⟩
       ·refine SO 5 [.o 0]<|aar ((code ((l.getD 6 0).toNat)).op=5) 89 (λ h27=>?_) λ h27=>?_
        ·refine SO 4 [.o 0]<|aaq ((code ((l.getD 6 0).toNat)).n>=0) 93 (λ h28=>?_) λ h28=>?_
         ·refine SO 8 [.o 0]<|QW (.bool (decide ((code ((l.getD 6 0).toNat)).n<=7))) (ap [] []) ⟨decide ((code ((l.getD 6 0).toNat)).n<=7),rfl,rfl,λ h_=>?_⟩;simp only[decide_eq_true_eq,Bool.not_eq_true'] at h_;exact⟨by omega,by omega,by omega,by omega⟩
         ·refine ae 8 [] λ _=>QW (.bool false) _ ⟨false,rfl,rfl,λ h_=>by cases h_⟩
        ·refine OU 12<|QW (.bool true) (ap [] []) ⟨true,rfl,rfl,λ h_=>?_⟩;exact⟨by omega,by omega,by omega,by omega⟩
theorem Bu(l:List Int)(k j v:Int)(hS:SetIn F S)(hn:n=(sizeOf S).toNat)(hN:n<=N)(hj:0<=j/\j<=7):aeo 247 #[vS q 0 n N,(Setup.v S),vI k,vI j,vI v] (ap [(q,.rows 1 N (ak bD l) 3 (0,0))] []) F (λ u H'=>∃x:RfR,H'=ap [(x.q,.rows 1 x.N (ak bD x.l) 3 (0,0))] []/\(u=vS x.q 0 n x.N/\n<=x.N/\KpL l x.l)):=by
 have hp:=hS.pl;have WJ:=hS.nb;have Vg:=hS.room;have Va:=cz hS.toSetN;refine QS Tryz.func247 mn<|ae 10 (ow 0 16) λ n1=>aal (cy k hS.toSetN) ?_;have Ye:=bT hS.toSetN k;refine OU 10<|aaq (af S k<0) 17 (λ h3=>?_) λ h3=>?_
 ·refine ae 7 [] λ _=>aav [] [1] [] (v:=vS q 0 n N) (S0 q N rfl rfl (by omega) KpL.rfl)
 ·have hr4:=pI hS.toSetN (k:=k) (by omega);refine OU 10<|aaq (j<2) 20 (λ h5=>?_) λ h5=>?_
  ·refine OU 3<|aal (cG v (-1048576) 1048576)<|ae 7 [] λ n6=>aao 0 (.rows 1 0 (ak bD []) 3 (0,0))<|rQ 0<|aaj (c':=N) (tx:=22) lr ([]:List Int) ((List.range n).map λ i=>l.getD i 0) 0 rfl (fQ (b:=(n6+0))) (by simp;omega) (fY (N:=N) (l:=l) (q:=q) (aw 1) (by omega)) ?_;rintro A7 c8 T9 ⟨acE,acv⟩;refine aM 29 (congrArg (λ v_=>(.slice A7 v_ c8:Value)) (show 0+((List.range n).map λ i=>l.getD i 0).length=n by simp)) ?_;obtain⟨WM,S_,rfl,rfl,aj8,abc⟩:=fg acE (acv rfl) (by omega);refine RN.ot 0 (x:=(WM,.rows 1 c8 (ak bD S_) 3 (0,0)))<|ah 15 [.nw,.ix (((af S k)+j).toNat),.row 0 (((af S k)+j).toNat) 0] [(0+(((af S k)+j).toNat)*1)=(((af S k)+j).toNat)*1+0/\(((af S k)+j).toNat)<c8,(af S k)+j=((((af S k)+j).toNat:Nat):Int)/\((af S k)+j).toNat<n,aI ((af S k)+j)] λ _=>aak 0 (ep c8 S_ (((af S k)+j).toNat) (aK v (-1048576) 1048576))<|ae 5 [] λ _=>aav [] [0] [] (v:=vS WM 0 n c8) (S0 WM c8 (l':=al S_ (((af S k)+j).toNat) (aK v (-1048576) 1048576)) rfl rfl (by omega) (KpL.up (KpL.cp abc (by omega)) (by omega)))
  ·refine OU 7<|aaq (j<4) 24 (λ U4=>?_) λ U4=>?_
   ·refine OU 3<|aal (cG v (-16384) 16384)<|ae 7 [] λ n17=>aao 0 (.rows 1 0 (ak bD []) 3 (0,0))<|rQ 0<|aaj (c':=N) (tx:=22) lr ([]:List Int) ((List.range n).map λ i=>l.getD i 0) 0 rfl (fQ (b:=(n17+0))) (by simp;omega) (fY (N:=N) (l:=l) (q:=q) (aw 1) (by omega)) ?_;rintro A18 c19 YW ⟨aiq,ahY⟩;refine aM 29 (congrArg (λ v_=>(.slice A18 v_ c19:Value)) (show 0+((List.range n).map λ i=>l.getD i 0).length=n by simp)) ?_;obtain⟨b23,l24,rfl,rfl,aqI,ai4⟩:=fg aiq (ahY rfl) (by omega);refine RN.ot 0 (x:=(b23,.rows 1 c19 (ak bD l24) 3 (0,0)))<|ah 15 [.nw,.ix (((af S k)+j).toNat),.row 0 (((af S k)+j).toNat) 0] [(0+(((af S k)+j).toNat)*1)=(((af S k)+j).toNat)*1+0/\(((af S k)+j).toNat)<c19,(af S k)+j=((((af S k)+j).toNat:Nat):Int)/\((af S k)+j).toNat<n,aI ((af S k)+j)] λ _=>aak 0 (ep c19 l24 (((af S k)+j).toNat) (aK v (-16384) 16384))<|ae 5 [] λ _=>aav [] [0] [] (v:=vS b23 0 n c19) (S0 b23 c19 (l':=al l24 (((af S k)+j).toNat) (aK v (-16384) 16384)) rfl rfl (by omega) (KpL.up (KpL.cp ai4 (by omega)) (by omega)))
   ·refine ae 7 [] λ n27=>aao 0 (.rows 1 0 (ak bD []) 3 (0,0))<|rQ 0<|aaj (c':=N) (tx:=22) lr ([]:List Int) ((List.range n).map λ i=>l.getD i 0) 0 rfl (fQ (b:=(n27+0))) (by simp;omega) (fY (N:=N) (l:=l) (q:=q) (aw 1) (by omega)) ?_;rintro A28 c29 T30 ⟨ail,ahW⟩;refine aM 29 (congrArg (λ v_=>(.slice A28 v_ c29:Value)) (show 0+((List.range n).map λ i=>l.getD i 0).length=n by simp)) ?_;obtain⟨b33,l34,rfl,rfl,agi,ai3⟩:=fg ail (ahW rfl) (by omega);refine RN.ot 0 (x:=(b33,.rows 1 c29 (ak bD l34) 3 (0,0)))<|ah 15 [.nw,.ix (((af S k)+j).toNat),.row 0 (((af S k)+j).toNat) 0] [(0+(((af S k)+j).toNat)*1)=(((af S k)+j).toNat)*1+0/\(((af S k)+j).toNat)<c29,(af S k)+j=((((af S k)+j).toNat:Nat):Int)/\((af S k)+j).toNat<n,aI ((af S k)+j)] λ _=>aak 0 (ep c29 l34 (((af S k)+j).toNat) v)<|ae 5 [] λ _=>aav [] [0] [] (v:=vS b33 0 n c29) (S0 b33 c29 (l':=al l34 (((af S k)+j).toNat) v) rfl rfl (by omega) (KpL.up (KpL.cp ai3 (by omega)) (by omega)))
theorem EV(l:List Int){ca:Nat} (cc:Nat)(e0 e1 e2:Int){code:Nat->Ins}(hS:SetIn F S)(hn:n=(sizeOf S).toNat)(hN:n<=N)(hC:InsB F cb ca m code):aeo 181 #[vS q 0 n N,(Setup.v S),.agg #[vS cb ca m cc,vI e0,vI e1,vI e2]] (ap [(q,.rows 1 N (ak bD l) 3 (0,0))] []) F (λ u H'=>∃x:RfR,H'=ap [(x.q,.rows 1 x.N (ak bD x.l) 3 (0,0))] []/\(u=.tuple #[vS x.q 0 n x.N,.bool x.en,.agg #[vI x.e.t,vI x.e.i,vI x.e.k,vI x.e.v],.bool x.em]/\n<=x.N/\KpL l x.l)):=by
 have hp:=hS.pl;have WJ:=hS.nb;have Vg:=hS.room;have Va:=cz hS.toSetN;refine QS Tryz.func181 mn<|ae 15 (ow 1 4) λ n1=>SP (Ii (q:=q) n (N:=N) (l:=l) cc e0 e1 e2 (aw 3) (by omega) (by omega) hC.up) ?_;rintro _ x2 ⟨rfl,hv3⟩;refine OU 3<|oK (x2) 21 (λ h4=>?_) λ h4=>?_
 ·obtain⟨ao1,ao0,aoY,aoX⟩:=hv3 h4;refine OU 4<|aap [8] []<|aA [] [0,2,1,3,4,5] [.o 1,.ix 6,.row 3 6 0,.ix ((l.getD 6 0).toNat)] [l.getD 6 0=(((l.getD 6 0).toNat:Nat):Int)/\(l.getD 6 0).toNat<m,(0+6*1)=6*1+0/\6<N,6=((6:Nat):Int)/\6<n]<|Bd 6 [vI (code ((l.getD 6 0).toNat)).op,vI (code ((l.getD 6 0).toNat)).n] (λ w_ h_=>hC w_ h_ ((l.getD 6 0).toNat) (by omega)) ?_ [];refine aag 7 (aai [] [] λ n5=>?_);refine SV 8 [] (aab 2)<|aaf<|ae 5 [] λ n6=>aao 0 (.rows 1 0 (ak bD []) 3 (0,0))<|rQ 0<|aaj (c':=N) (tx:=22) lr ([]:List Int) ((List.range n).map λ i=>l.getD i 0) 0 rfl (fQ (b:=(n6+0))) (by simp;omega) (fY (N:=N) (l:=l) (q:=q) (aw 4) (by omega)) ?_;rintro A7 c8 T9 ⟨acE,acv⟩;refine aM 33 (congrArg (λ v_=>(.slice A7 v_ c8:Value)) (show 0+((List.range n).map λ i=>l.getD i 0).length=n by simp)) ?_;obtain⟨WM,S_,rfl,rfl,aj8,abc⟩:=fg acE (acv rfl) (by omega);refine RN.ot 0 (x:=(WM,.rows 1 c8 (ak bD S_) 3 (0,0)))<|ah 15 [.ix 8,.row 0 8 0,.ix 8,.row 0 8 0] [(0+8*1)=8*1+0/\8<c8,8=((8:Nat):Int)/\8<n,(0+8*1)=8*1+0/\8<c8,8=((8:Nat):Int)/\8<n] λ _=>aak 0 (ep c8 S_ 8 (i64.wrap ((S_.getD 8 0)-1)))<|ah 11 [.ix 6,.row 0 6 0,.ix 6,.row 0 6 0] [(0+6*1)=6*1+0/\6<c8,6=((6:Nat):Int)/\6<n,(0+6*1)=6*1+0/\6<c8,6=((6:Nat):Int)/\6<n] λ _=>aak 0 (ep c8 (al S_ 8 (i64.wrap ((S_.getD 8 0)-1))) 6 (i64.wrap (((al S_ 8 (i64.wrap ((S_.getD 8 0)-1))).getD 6 0)+1)))<|SO 3 [.o 1]<|aal (uD ((code ((l.getD 6 0).toNat)).op))<|ae 4 [] λ _=>?_;have e7_:(al (al S_ 8 (i64.wrap ((S_.getD 8 0)-1))) 6 (i64.wrap (((al S_ 8 (i64.wrap ((S_.getD 8 0)-1))).getD 6 0)+1))).getD 7 0=l.getD 7 0:=by rw[oY,if_neg (by decide),oY,if_neg (by decide)];exact abc 7 (by omega)
  refine ah 12 [.ix 7,.row 0 7 0,.nw,.ix 7,.row 0 7 0] [(0+7*1)=7*1+0/\7<c8,7=((7:Nat):Int)/\7<n,aI (((al (al S_ 8 (i64.wrap ((S_.getD 8 0)-1))) 6 (i64.wrap (((al S_ 8 (i64.wrap ((S_.getD 8 0)-1))).getD 6 0)+1))).getD 7 0)-(eJ ((code ((l.getD 6 0).toNat)).op))),(0+7*1)=7*1+0/\7<c8,7=((7:Nat):Int)/\7<n] λ _=>aak 0 (ep c8 (al (al S_ 8 (i64.wrap ((S_.getD 8 0)-1))) 6 (i64.wrap (((al S_ 8 (i64.wrap ((S_.getD 8 0)-1))).getD 6 0)+1))) 7 (((al (al S_ 8 (i64.wrap ((S_.getD 8 0)-1))) 6 (i64.wrap (((al S_ 8 (i64.wrap ((S_.getD 8 0)-1))).getD 6 0)+1))).getD 7 0)-(eJ ((code ((l.getD 6 0).toNat)).op))))<|aan (σ:=List Int×Int) (λ ⟨UK,UG⟩=>⟨[(4,vP (n1+0) 0),(8,vP (n1+2) 0),(10,vP (n5+0) 0),(11,vS WM 0 n c8),(12,vI (eJ ((code ((l.getD 6 0).toNat)).op))),(13,vI UG)],[(WM,.rows 1 c8 (ak bD UK) 3 (0,0)),((n5+0),.lit [vI ((code ((l.getD 6 0).toNat)).op),vI ((code ((l.getD 6 0).toNat)).n)] 212 (0,0)),((n1+2),.lit [vI 0,vI 0,vI 0,vI 0] 177 (0,0)),((n1+1),.lit [vS cb ca m cc,vI e0,vI e1,vI e2] 111 (0,0)),((n1+0),.lit (Setup.l S) 34 (0,0)),(q,.rows 1 N (ak bD l) 3 (0,0))],[],KpL l UK/\0<=UG/\UG<=16,0⟩) ?_ ?_
  ·intro aaO;refine ah 6 [.ix 7,.row 0 7 0] [(0+7*1)=7*1+0/\7<c8,7=((7:Nat):Int)/\7<n] λ _=>aaO ((al (al (al S_ 8 (i64.wrap ((S_.getD 8 0)-1))) 6 (i64.wrap (((al S_ 8 (i64.wrap ((S_.getD 8 0)-1))).getD 6 0)+1))) 7 (((al (al S_ 8 (i64.wrap ((S_.getD 8 0)-1))) 6 (i64.wrap (((al S_ 8 (i64.wrap ((S_.getD 8 0)-1))).getD 6 0)+1))).getD 7 0)-(eJ ((code ((l.getD 6 0).toNat)).op)))),(al (al (al S_ 8 (i64.wrap ((S_.getD 8 0)-1))) 6 (i64.wrap (((al S_ 8 (i64.wrap ((S_.getD 8 0)-1))).getD 6 0)+1))) 7 (((al (al S_ 8 (i64.wrap ((S_.getD 8 0)-1))) 6 (i64.wrap (((al S_ 8 (i64.wrap ((S_.getD 8 0)-1))).getD 6 0)+1))).getD 7 0)-(eJ ((code ((l.getD 6 0).toNat)).op)))).getD 7 0) [0,1,2,3,4,5] [] ?_
   try dsimp only
   exact⟨(KpL.up (KpL.up (KpL.up (KpL.cp abc (by omega)) (by decide)) (by decide)) (by decide)),by rw[oY,if_pos rfl];omega,by rw[oY,if_pos rfl];omega⟩
  ·rintro⟨UK,UG⟩ ⟨Vb,aqv,aqp⟩;refine OU 12<|aan (σ:=Int) (λ a_=>⟨[(4,vP (n1+0) 0),(8,vP (n1+2) 0),(10,vP (n5+0) 0),(11,vS WM 0 n c8),(12,vI (eJ ((code ((l.getD 6 0).toNat)).op))),(13,vI UG),(14,vI a_),(15,vI 0)],[(WM,.rows 1 c8 (ak bD UK) 3 (0,0)),((n5+0),.lit [vI ((code ((l.getD 6 0).toNat)).op),vI ((code ((l.getD 6 0).toNat)).n)] 212 (0,0)),((n1+2),.lit [vI 0,vI 0,vI 0,vI 0] 177 (0,0)),((n1+1),.lit [vS cb ca m cc,vI e0,vI e1,vI e2] 111 (0,0)),((n1+0),.lit (Setup.l S) 34 (0,0)),(q,.rows 1 N (ak bD l) 3 (0,0))],[],True,0⟩) ?_ ?_
   ·intro YB;refine OU 6<|aaq (eJ ((code ((l.getD 6 0).toNat)).op)>0) 60 (λ Xf=>?_) λ Xf=>?_
    ·refine ah 9 [.nw,.ix ((16+UG).toNat),.row 0 ((16+UG).toNat) 0] [(0+((16+UG).toNat)*1)=((16+UG).toNat)*1+0/\((16+UG).toNat)<c8,16+UG=(((16+UG).toNat:Nat):Int)/\(16+UG).toNat<n,aI (16+UG)] λ _=>YB (UK.getD ((16+UG).toNat) 0) [0,1,2,3,4,5] [] ?_
     try dsimp only
     all_goals trivial
    ·refine ae 2 [] λ _=>YB 0 [0,1,2,3,4,5] [] ?_
     try dsimp only
     all_goals trivial
   ·rintro a_ _;refine OU 2<|aan (σ:=Int) (λ b_=>⟨[(4,vP (n1+0) 0),(8,vP (n1+2) 0),(10,vP (n5+0) 0),(11,vS WM 0 n c8),(13,vI UG),(14,vI a_),(15,vI b_)],[(WM,.rows 1 c8 (ak bD UK) 3 (0,0)),((n5+0),.lit [vI ((code ((l.getD 6 0).toNat)).op),vI ((code ((l.getD 6 0).toNat)).n)] 212 (0,0)),((n1+2),.lit [vI 0,vI 0,vI 0,vI 0] 177 (0,0)),((n1+1),.lit [vS cb ca m cc,vI e0,vI e1,vI e2] 111 (0,0)),((n1+0),.lit (Setup.l S) 34 (0,0)),(q,.rows 1 N (ak bD l) 3 (0,0))],[],True,0⟩) ?_ ?_
    ·intro aeE;refine OU 6<|aaq (eJ ((code ((l.getD 6 0).toNat)).op)>1) 67 (λ XO=>?_) λ XO=>?_
     ·refine ah 10 [.nw,.nw,.ix (((16+UG)+1).toNat),.row 0 (((16+UG)+1).toNat) 0] [(0+(((16+UG)+1).toNat)*1)=(((16+UG)+1).toNat)*1+0/\(((16+UG)+1).toNat)<c8,(16+UG)+1=((((16+UG)+1).toNat:Nat):Int)/\((16+UG)+1).toNat<n,aI ((16+UG)+1),aI (16+UG)] λ _=>aeE (UK.getD (((16+UG)+1).toNat) 0) [0,1,2,3,4,5] [] ?_
      try dsimp only
      all_goals trivial
     ·refine ae 2 [] λ _=>aeE 0 [0,1,2,3,4,5] [] ?_
      try dsimp only
      all_goals trivial
    ·rintro b_ _;refine SO 14 [.o 1]<|aan (σ:=List Int×Int) (λ ⟨lw_,vv_⟩=>⟨[(8,vP (n1+2) 0),(10,vP (n5+0) 0),(11,vS WM 0 n c8),(13,vI UG),(16,vI vv_)],[(WM,.rows 1 c8 (ak bD lw_) 3 (0,0)),((n5+0),.lit [vI ((code ((l.getD 6 0).toNat)).op),vI ((code ((l.getD 6 0).toNat)).n)] 212 (0,0)),((n1+2),.lit [vI 0,vI 0,vI 0,vI 0] 177 (0,0)),((n1+1),.lit [vS cb ca m cc,vI e0,vI e1,vI e2] 111 (0,0)),((n1+0),.lit (Setup.l S) 34 (0,0)),(q,.rows 1 N (ak bD l) 3 (0,0))],[],KpL l lw_,0⟩) ?_ ?_
     ·intro V1;refine OU 6<|aaq ((code ((l.getD 6 0).toNat)).op=1) 81 (λ h22=>?_) λ h22=>?_
      ·refine ae 6 [.o 1] λ _=>V1 (UK,(code ((l.getD 6 0).toNat)).n) [0,1,2,3,4,5] [] ?_
       try dsimp only
       exact Vb
      ·refine OU 7<|aaq ((code ((l.getD 6 0).toNat)).op=2) 85 (λ h23=>?_) λ h23=>?_
       ·refine ah 10 [.o 1,.nw,.ix ((32+((code ((l.getD 6 0).toNat)).n)).toNat),.row 0 ((32+((code ((l.getD 6 0).toNat)).n)).toNat) 0] [(0+((32+((code ((l.getD 6 0).toNat)).n)).toNat)*1)=((32+((code ((l.getD 6 0).toNat)).n)).toNat)*1+0/\((32+((code ((l.getD 6 0).toNat)).n)).toNat)<c8,32+((code ((l.getD 6 0).toNat)).n)=(((32+((code ((l.getD 6 0).toNat)).n)).toNat:Nat):Int)/\(32+((code ((l.getD 6 0).toNat)).n)).toNat<n,aI (32+((code ((l.getD 6 0).toNat)).n))] λ _=>V1 (UK,UK.getD ((32+((code ((l.getD 6 0).toNat)).n)).toNat) 0) [0,1,2,3,4,5] [] ?_
        try dsimp only
        exact Vb
       ·refine OU 7<|aaq ((code ((l.getD 6 0).toNat)).op=6) 93 (λ h24=>?_) λ h24=>?_
        ·refine ah 7 [.ix 9,.row 0 9 0] [(0+9*1)=9*1+0/\9<c8,9=((9:Nat):Int)/\9<n] λ _=>V1 (UK,UK.getD 9 0) [0,1,2,3,4,5] [] ?_
         try dsimp only
         exact Vb
        ·refine OU 7<|aaq ((code ((l.getD 6 0).toNat)).op=7) 98 (λ h25=>?_) λ h25=>?_
         ·refine ah 7 [.ix 10,.row 0 10 0] [(0+10*1)=10*1+0/\10<c8,10=((10:Nat):Int)/\10<n] λ _=>V1 (UK,UK.getD 10 0) [0,1,2,3,4,5] [] ?_
          try dsimp only
          exact Vb
         ·refine OU 7<|aaq ((code ((l.getD 6 0).toNat)).op=8) 103 (λ h26=>?_) λ h26=>?_
          ·refine ah 7 [.ix 0,.row 0 0 0] [(0+0*1)=0*1+0/\0<c8,0=((0:Nat):Int)/\0<n] λ _=>V1 (UK,UK.getD 0 0) [0,1,2,3,4,5] [] ?_
           try dsimp only
           exact Vb
          ·refine OU 7<|aaq ((code ((l.getD 6 0).toNat)).op=4) 108 (λ h27=>?_) λ h27=>?_
           ·refine SO 7 (ow 4 16++[.o 1])<|SP (EU (q:=WM) (N:=c8) (l:=UK) a_ ((code ((l.getD 6 0).toNat)).n) hS.up (aw 0) hn (by omega) (by omega)) ?_;rintro _ x28 rfl;refine ae 2 [] λ _=>V1 (UK,x28) [0,1,2,3,4,5] [] ?_
            try dsimp only
            exact Vb
           ·refine OU 7<|aaq ((code ((l.getD 6 0).toNat)).op=3) 116 (λ h29=>?_) λ h29=>?_
            ·refine ah 10 [.o 1,.nw,.ix ((32+((code ((l.getD 6 0).toNat)).n)).toNat),.row 0 ((32+((code ((l.getD 6 0).toNat)).n)).toNat) 0] [(0+((32+((code ((l.getD 6 0).toNat)).n)).toNat)*1)=((32+((code ((l.getD 6 0).toNat)).n)).toNat)*1+0/\((32+((code ((l.getD 6 0).toNat)).n)).toNat)<c8,32+((code ((l.getD 6 0).toNat)).n)=(((32+((code ((l.getD 6 0).toNat)).n)).toNat:Nat):Int)/\(32+((code ((l.getD 6 0).toNat)).n)).toNat<n,aI (32+((code ((l.getD 6 0).toNat)).n))] λ _=>aak 0 (ep c8 UK ((32+((code ((l.getD 6 0).toNat)).n)).toNat) a_)<|V1 ((al UK ((32+((code ((l.getD 6 0).toNat)).n)).toNat) a_),0) [0,1,2,3,4,5] [] ?_
             try dsimp only
             exact(KpL.up Vb (by omega))
            ·refine OU 7<|aaq ((code ((l.getD 6 0).toNat)).op=5) 124 (λ h30=>?_) λ h30=>?_
             ·refine SO 9 (ow 4 16++[.o 1])<|aam [0] [] (Bu WM c8 UK a_ ((code ((l.getD 6 0).toNat)).n) b_ hS.up hn (by omega) (by omega)) ?_;rintro _ r31 ⟨rfl,aqH,ai5⟩;refine ae 7 (ow 2 4) λ _=>aav (ow 2 4) [0] [] (Pt r31.q r31.N (l':=r31.l) false aL false rfl rfl (by omega) (KpL.trans Vb ai5))
             ·refine OU 7<|aaq ((code ((l.getD 6 0).toNat)).op=18) 134 (λ h34=>?_) λ h34=>?_
              ·refine ah 8 [.o 1,.ix 6,.row 0 6 0] [(0+6*1)=6*1+0/\6<c8,6=((6:Nat):Int)/\6<n] λ _=>aak 0 (ep c8 UK 6 ((code ((l.getD 6 0).toNat)).n))<|V1 ((al UK 6 ((code ((l.getD 6 0).toNat)).n)),0) [0,1,2,3,4,5] [] ?_
               try dsimp only
               exact(KpL.up Vb (by decide))
              ·refine OU 7<|aaq ((code ((l.getD 6 0).toNat)).op=19) 140 (λ h35=>?_) λ h35=>?_
               ·refine OU 7<|aaq (a_=0) 143 (λ h36=>?_) λ h36=>?_
                ·refine ah 8 [.o 1,.ix 6,.row 0 6 0] [(0+6*1)=6*1+0/\6<c8,6=((6:Nat):Int)/\6<n] λ _=>aak 0 (ep c8 UK 6 ((code ((l.getD 6 0).toNat)).n))<|V1 ((al UK 6 ((code ((l.getD 6 0).toNat)).n)),0) [0,1,2,3,4,5] [] ?_
                 try dsimp only
                 exact(KpL.up Vb (by decide))
                ·refine ae 2 [] λ _=>V1 (UK,0) [0,1,2,3,4,5] [] ?_
                 try dsimp only
                 exact Vb
               ·refine OU 7<|aaq ((code ((l.getD 6 0).toNat)).op=21) 148 (λ h37=>?_) λ h37=>?_
                ·refine ae 11 (ow 2 4) λ _=>aav (ow 2 4) [0] [] (Pt WM c8 true aL false rfl rfl (by omega) Vb)
                ·refine OU 7<|aaq ((code ((l.getD 6 0).toNat)).op=20) 152 (λ h38=>?_) λ h38=>?_
                 ·refine ah 10 [.ix 11,.row 0 11 0] [(0+11*1)=11*1+0/\11<c8,11=((11:Nat):Int)/\11<n] λ _=>aaq (UK.getD 11 0>=40) 157 (λ h39=>?_) λ h39=>?_
                  ·refine ae 11 (ow 2 4) λ _=>aav (ow 2 4) [0] [] (Pt WM c8 false aL false rfl rfl (by omega) Vb)
                  ·refine OU 4<|aap [10] []<|aA [] [0,3,6,7,1,4,2,5,8] [.ix 0,.ix 11,.row 0 0 0,.row 0 11 0] [(0+11*1)=11*1+0/\11<c8,(0+0*1)=0*1+0/\0<c8,11=((11:Nat):Int)/\11<n,0=((0:Nat):Int)/\0<n]<|aag 9 (aai [] [] λ n40=>?_);refine SV 10 [] (aab 4)<|Q2 2<|aap [14] []<|aA [] [0,1,4,7,8,2,5,3,6] [.ix 12,.ix 0,.row 1 12 0,.row 1 0 0] [(0+0*1)=0*1+0/\0<c8,(0+12*1)=12*1+0/\12<c8,0=((0:Nat):Int)/\0<n,12=((12:Nat):Int)/\12<n]<|aag 9 (aai [] [] λ n41=>?_);refine aag 10 (Q1 [] (Ig (a:=UK.getD 12 0) (b:=UK.getD 0 0) (c:=a_) (d:=b_) (r:=n41+0) (aw 0)) ?_);rintro _ x42 rfl;refine aA [] [11,12,13] [.ix 12] [12=((12:Nat):Int)/\12<n]<|aag 14 (fK [] [.row 2 12 0] [(0+12*1)=12*1+0/\12<c8] λ _=>?_);refine Q2 2<|aak 2 (ep c8 UK 12 (i64.wrap (u64.wrap (x42.tdiv 2))))<|ah 11 [.ix 11,.row 2 11 0,.ix 11,.row 2 11 0] [(0+11*1)=11*1+0/\11<c8,11=((11:Nat):Int)/\11<n,(0+11*1)=11*1+0/\11<c8,11=((11:Nat):Int)/\11<n] λ _=>aak 2 (ep c8 (al UK 12 (i64.wrap (u64.wrap (x42.tdiv 2)))) 11 (i64.wrap (((al UK 12 (i64.wrap (u64.wrap (x42.tdiv 2)))).getD 11 0)+1)))<|aap [4] [0,1,2,3,5,6,7]<|ag [0,1,2,3,5,6,7] [0,1,2,3] (ow 1 4)<|SV 4 [0,1,2,3,5,6,7] (ow 4 4)<|ag [0,1,2,3,5,6,7] [5] []<|aaf<|ae 1 [] λ _=>aav (ow 4 4) [2] [] (Pt WM c8 (l':=al (al UK 12 (i64.wrap (u64.wrap (x42.tdiv 2)))) 11 (i64.wrap (((al UK 12 (i64.wrap (u64.wrap (x42.tdiv 2)))).getD 11 0)+1))) false ⟨UK.getD 0 0,UK.getD 11 0,a_,b_⟩ true rfl rfl (by omega) (KpL.up (KpL.up Vb (by decide)) (by decide)))
                 ·refine SO 6 [.o 1]<|SP (Ib ((code ((l.getD 6 0).toNat)).op) a_ b_) ?_;rintro _ x43 rfl;refine ae 2 [] λ _=>V1 (UK,x43) [0,1,2,3,4,5] [] ?_
                  try dsimp only
                  exact Vb
     ·rintro⟨lw_,vv_⟩ afE;refine SO 7 [.o 1]<|SP (uC ((code ((l.getD 6 0).toNat)).op)) ?_;rintro _ x44 rfl;refine OU 3<|aaq (x44=1) 194 (λ h45=>?_) λ h45=>?_
      ·refine ah 11 [.nw,.ix ((16+UG).toNat),.row 0 ((16+UG).toNat) 0] [(0+((16+UG).toNat)*1)=((16+UG).toNat)*1+0/\((16+UG).toNat)<c8,16+UG=(((16+UG).toNat:Nat):Int)/\(16+UG).toNat<n,aI (16+UG)] λ _=>aak 0 (ep c8 lw_ ((16+UG).toNat) vv_)<|ah 9 [.nw,.ix 7,.row 0 7 0] [(0+7*1)=7*1+0/\7<c8,7=((7:Nat):Int)/\7<n,aI (UG+1)] λ _=>aak 0 (ep c8 (al lw_ ((16+UG).toNat) vv_) 7 (UG+1))<|ae 9 (ow 2 4) λ _=>aav (ow 2 4) [0] [] (Pt WM c8 (l':=al (al lw_ ((16+UG).toNat) vv_) 7 (UG+1)) false aL false rfl rfl (by omega) (KpL.up (KpL.up afE (by omega)) (by decide)))
      ·refine ae 13 (ow 2 4) λ _=>aav (ow 2 4) [0] [] (Pt WM c8 false aL false rfl rfl (by omega) afE)
 ·refine ae 11 (aab 4) λ _=>aav (aab 4) [3] [] (Pt q N true aL false rfl rfl (by omega) KpL.rfl)
def KpR(l l':List Int):Prop:=∀k,k<=5->k≠3->l'.getD k 0=l.getD k 0
section
variable {l l':List Int}
theorem KpL.r(h:KpL l l'):KpR l l':=λ k hk _=>h k hk
theorem KpR.s3(h:KpL l l'){v:Int}:KpR l (al l' 3 v):=λ k hk h3=>by rw[oY,if_neg h3];exact h k hk
theorem S4{l':List Int}(en:Bool)(e:Eff)(em:Bool)(hH:H'=ap [(q,.rows 1 N (ak bD l') 3 (0,0))] [])(hu:u=.tuple #[.agg #[vS q 0 n N,.bool false,vI e.t,vI e.i,vI e.k,vI e.v,.bool em],.bool en])(hN:n<=N)(hQ:KpR l l'):∃x:RfR,H'=ap [(x.q,.rows 1 x.N (ak bD x.l) 3 (0,0))] []/\(u=.tuple #[.agg #[vS x.q 0 n x.N,.bool false,vI x.e.t,vI x.e.i,vI x.e.k,vI x.e.v,.bool x.em],.bool x.en]/\n<=x.N/\KpR l x.l):=⟨⟨q,N,l',en,e,em⟩,hH,hu,hN,hQ⟩
theorem qx(l':List Int)(en:Bool)(e:Eff)(em:Bool)(hH:H'=ap [(q,.rows 1 N (ak bD l') 3 (0,0))] [])(hu:u=.agg #[vS q 0 n N,.bool en,vI e.t,vI e.i,vI e.k,vI e.v,.bool em])(hN:n<=N)(hQ:RefL S l'):∃x:RfR,H'=ap [(x.q,.rows 1 x.N (ak bD x.l) 3 (0,0))] []/\(u=.agg #[vS x.q 0 n x.N,.bool x.en,vI x.e.t,vI x.e.i,vI x.e.k,vI x.e.v,.bool x.em]/\n<=x.N/\RefL S x.l):=⟨⟨q,N,l',en,e,em⟩,hH,hu,hN,hQ⟩
theorem KpR.cx(h:KpR l l'):Cx l' (l.getD 1 0) (l.getD 2 0) (l'.getD 3 0):=⟨h 1 (by decide) (by decide),h 2 (by decide) (by decide),rfl⟩
end
theorem si(l:List Int){ca:Nat} (cc:Nat)(e0 e1 e2:Int){code:Nat->Ins}(h se ot:Int)(hS:SetIn F S)(hn:n=(sizeOf S).toNat)(hN:n<=N)(hC:InsB F cb ca m code)(hh:h=0\/h=1\/h=2):aeo 128 #[vS q 0 n N,(Setup.v S),.agg #[vS cb ca m cc,vI e0,vI e1,vI e2],vI h,vI se,vI ot] (ap [(q,.rows 1 N (ak bD l) 3 (0,0))] []) F (λ u H'=>∃x:RfR,H'=ap [(x.q,.rows 1 x.N (ak bD x.l) 3 (0,0))] []/\(u=.tuple #[.agg #[vS x.q 0 n x.N,.bool false,vI x.e.t,vI x.e.i,vI x.e.k,vI x.e.v,.bool x.em],.bool x.en]/\n<=x.N/\KpR l x.l)):=by
 have hp:=hS.pl;have WJ:=hS.nb;have Vg:=hS.room;have Va:=cz hS.toSetN;refine QS Tryz.func128 mn<|ah 17 [.ix 3,.row 3 3 0] [(0+3*1)=3*1+0/\3<N,3=((3:Nat):Int)/\3<n] λ n1=>aaq (l.getD 3 0=0) 23 (λ h2=>?_) λ h2=>?_
 ·refine SO 10 (ow 1 4++[.o 2])<|aam [3] [] (Ic q n N l cb ca m cc e0 e1 e2 code se ot S.fuel (by omega) (by omega) (by omega) hh) ?_;rintro _ r3 ⟨rfl,hN4,hk5,hs6⟩;refine OU 14<|oK (r3.en) 36 (λ h7=>?_) λ h7=>?_
  ·refine ah 11 [.ix 3,.row 0 3 0] [(0+3*1)=3*1+0/\3<r3.N,3=((3:Nat):Int)/\3<n] λ _=>aak 0 (ep r3.N r3.l 3 1)<|ae 7 (ow 1 7) λ _=>aav (ow 1 7) [0] [] (S4 r3.q r3.N (l':=al r3.l 3 1) false aL false rfl rfl (by omega) (KpR.s3 hk5))
  ·refine aM 0 (congrArg (λ (v_:Nat×Nat)=>vS v_.1 0 n v_.2) (show ((q,N):Nat×Nat)=(r3.q,r3.N) by rw[(hs6 (by simpa using h7)).1,(hs6 (by simpa using h7)).2]))<|ae 9 (ow 1 7) λ _=>aav (ow 1 7) [0] [] (S4 r3.q r3.N (l':=r3.l) true aL false rfl rfl (by omega) (KpL.r hk5))
 ·refine SO 8 (ow 2 16++(ow 1 4))<|aam [3] [] (EV q N l cc e0 e1 e2 hS.up hn (by omega) hC.up) ?_;rintro _ r8 ⟨rfl,hN9,Xu⟩;refine ae 18 (aab 4) λ n11=>cP (r8.en) 52 (λ H_=>?_) λ H_=>?_
  ·refine ah 8 [.ix 3,.row 1 3 0] [(0+3*1)=3*1+0/\3<r8.N,3=((3:Nat):Int)/\3<n] λ _=>aak 1 (ep r8.N r8.l 3 0)<|ae 10 ((aab 4)++ow 2 7) λ _=>aav (ow 2 7) [1] [] (S4 r8.q r8.N (l':=al r8.l 3 0) r8.en ⟨r8.e.t,r8.e.i,r8.e.k,r8.e.v⟩ r8.em rfl rfl (by omega) (KpR.s3 Xu))
  ·refine ae 14 ((aab 4)++ow 2 7) λ _=>aav (ow 2 7) [1] [] (S4 r8.q r8.N (l':=r8.l) r8.en ⟨r8.e.t,r8.e.i,r8.e.k,r8.e.v⟩ r8.em rfl rfl (by omega) (KpL.r Xu))
end
section
variable {F:HL} {S:Setup} {cb n:Nat} (q N:Nat)
theorem Ij(l:List Int)(Wh:Int){ib R ni:Nat} (ic:Nat){xs:List Inp}(hS:SetIn F S)(hn:n=(sizeOf S).toNat)(hN:n<=N)(Wb:1<=S.nb/\1<=S.players)(hI:(ib,.rows 3 R (ak bS xs) 24 (0,0))∈F)(UL:S.players=(ni:Int))(hnR:ni<=R)(X5:l.getD 1 0=0)(hi:0<=l.getD 2 0/\l.getD 2 0<S.players):aeo 126 #[vS q 0 n N,(Setup.v S),vI Wh,vS ib 0 ni ic] (ap [(q,.rows 1 N (ak bD l) 3 (0,0))] []) F (λ u H'=>∃x:RfR,H'=ap [(x.q,.rows 1 x.N (ak bD x.l) 3 (0,0))] []/\(u=.agg #[vS x.q 0 n x.N,.bool x.en,vI x.e.t,vI x.e.i,vI x.e.k,vI x.e.v,.bool x.em]/\n<=x.N/\RefL S x.l)):=by
 have hp:=hS.pl;have WJ:=hS.nb;have Vg:=hS.room;have Va:=cz hS.toSetN;refine QS Tryz.func126 (mc hI mn)<|ah 15 [.ix 2,.row 2 2 0] [(0+2*1)=2*1+0/\2<N,2=((2:Nat):Int)/\2<n] λ n1=>aan (σ:=List Int) (λ Z6=>⟨[(0,vS q 0 n N),(3,vS ib 0 ni ic),(5,vP (n1+0) 0),(8,vP (n1+1) 0),(9,vI (l.getD 2 0))],[((n1+1),.lit [.slice none 0 0,.bool false,vI 0,vI 0,vI 0,vI 0,.bool false] 181 (0,0)),((n1+0),.lit (Setup.l S) 34 (0,0)),(q,.rows 1 N (ak bD Z6) 3 (0,0))],[],Cx Z6 (l.getD 1 0) (l.getD 2 0) (l.getD 3 0),0⟩) ?_ ?_
 ·intro YA;refine OU 6<|aaq (l.getD 2 0=0) 15 (λ h5=>?_) λ h5=>?_
  ·refine ah 9 [.ix 13,.row 2 13 0] [(0+13*1)=13*1+0/\13<N,13=((13:Nat):Int)/\13<n] λ _=>aak 2 (ep N l 13 Wh)<|ah 5 [.ix 11,.row 2 11 0] [(0+11*1)=11*1+0/\11<N,11=((11:Nat):Int)/\11<n] λ _=>aak 2 (ep N (al l 13 Wh) 11 0)<|YA (al (al l 13 Wh) 11 0) [0,1,2] [] ?_
   try dsimp only
   exact(aad (aad aac (by decide)) (by decide))
  ·refine ae 2 [] λ _=>YA l [0,1,2] [] ?_
   try dsimp only
   exact aac
 ·rintro Z6 hc3;refine SO 5 (ow 1 16)<|aal (lR (l.getD 2 0) hS.toSetN) ?_;have hb6:=lY hS.toSetN (k:=l.getD 2 0) (by omega) (by omega);refine ah 17 [.ix ((l.getD 2 0).toNat),.rorow 0 ((l.getD 2 0).toNat) 0,.ix ((ai S (l.getD 2 0)).toNat),.row 2 ((ai S (l.getD 2 0)).toNat) 0] [(0+((ai S (l.getD 2 0)).toNat)*1)=((ai S (l.getD 2 0)).toNat)*1+0/\((ai S (l.getD 2 0)).toNat)<N,ai S (l.getD 2 0)=(((ai S (l.getD 2 0)).toNat:Nat):Int)/\(ai S (l.getD 2 0)).toNat<n,(0+((l.getD 2 0).toNat)*3)=((l.getD 2 0).toNat)*3+0/\((l.getD 2 0).toNat)<R,l.getD 2 0=(((l.getD 2 0).toNat:Nat):Int)/\(l.getD 2 0).toNat<ni] λ _=>aak 2 (ep N Z6 ((ai S (l.getD 2 0)).toNat) ((xs.getD ((l.getD 2 0).toNat) dI).dx))<|ah 14 [.nw,.ix ((l.getD 2 0).toNat),.rorow 0 ((l.getD 2 0).toNat) 1,.ix (((ai S (l.getD 2 0))+1).toNat),.row 2 (((ai S (l.getD 2 0))+1).toNat) 0] [(0+(((ai S (l.getD 2 0))+1).toNat)*1)=(((ai S (l.getD 2 0))+1).toNat)*1+0/\(((ai S (l.getD 2 0))+1).toNat)<N,(ai S (l.getD 2 0))+1=((((ai S (l.getD 2 0))+1).toNat:Nat):Int)/\((ai S (l.getD 2 0))+1).toNat<n,((0+((l.getD 2 0).toNat)*3)+1)=((l.getD 2 0).toNat)*3+1/\((l.getD 2 0).toNat)<R,l.getD 2 0=(((l.getD 2 0).toNat:Nat):Int)/\(l.getD 2 0).toNat<ni,aI ((ai S (l.getD 2 0))+1)] λ _=>aak 2 (ep N (al Z6 ((ai S (l.getD 2 0)).toNat) ((xs.getD ((l.getD 2 0).toNat) dI).dx)) (((ai S (l.getD 2 0))+1).toNat) ((xs.getD ((l.getD 2 0).toNat) dI).dy))<|ah 14 [.nw,.ix ((l.getD 2 0).toNat),.rorow 0 ((l.getD 2 0).toNat) 2,.ix (((ai S (l.getD 2 0))+2).toNat),.row 2 (((ai S (l.getD 2 0))+2).toNat) 0] [(0+(((ai S (l.getD 2 0))+2).toNat)*1)=(((ai S (l.getD 2 0))+2).toNat)*1+0/\(((ai S (l.getD 2 0))+2).toNat)<N,(ai S (l.getD 2 0))+2=((((ai S (l.getD 2 0))+2).toNat:Nat):Int)/\((ai S (l.getD 2 0))+2).toNat<n,((0+((l.getD 2 0).toNat)*3)+2)=((l.getD 2 0).toNat)*3+2/\((l.getD 2 0).toNat)<R,l.getD 2 0=(((l.getD 2 0).toNat:Nat):Int)/\(l.getD 2 0).toNat<ni,aI ((ai S (l.getD 2 0))+2)] λ _=>aak 2 (ep N (al (al Z6 ((ai S (l.getD 2 0)).toNat) ((xs.getD ((l.getD 2 0).toNat) dI).dx)) (((ai S (l.getD 2 0))+1).toNat) ((xs.getD ((l.getD 2 0).toNat) dI).dy)) (((ai S (l.getD 2 0))+2).toNat) ((xs.getD ((l.getD 2 0).toNat) dI).act))<|ah 10 [.nw,.ix 2,.row 2 2 0] [(0+2*1)=2*1+0/\2<N,2=((2:Nat):Int)/\2<n,aI ((l.getD 2 0)+1)] λ _=>aak 2 (ep N (al (al (al Z6 ((ai S (l.getD 2 0)).toNat) ((xs.getD ((l.getD 2 0).toNat) dI).dx)) (((ai S (l.getD 2 0))+1).toNat) ((xs.getD ((l.getD 2 0).toNat) dI).dy)) (((ai S (l.getD 2 0))+2).toNat) ((xs.getD ((l.getD 2 0).toNat) dI).act)) 2 ((l.getD 2 0)+1))<|ah 8 [.nw,.o 1] [aI ((l.getD 2 0)+1)] λ _=>aaq ((l.getD 2 0)+1=S.players) 58 (λ h7=>?_) λ h7=>?_
  ·refine OU 3<|aam [2] [] (jh q n N (al (al (al (al Z6 ((ai S (l.getD 2 0)).toNat) ((xs.getD ((l.getD 2 0).toNat) dI).dx)) (((ai S (l.getD 2 0))+1).toNat) ((xs.getD ((l.getD 2 0).toNat) dI).dy)) (((ai S (l.getD 2 0))+2).toNat) ((xs.getD ((l.getD 2 0).toNat) dI).act)) 2 ((l.getD 2 0)+1)) 1 (by omega) (by omega)) ?_;rintro _ ⟨⟩ rfl;refine ae 9 (ow 1 7) λ _=>aav (ow 1 7) [0] [] (qx q N (pG (al (al (al (al Z6 ((ai S (l.getD 2 0)).toNat) ((xs.getD ((l.getD 2 0).toNat) dI).dx)) (((ai S (l.getD 2 0))+1).toNat) ((xs.getD ((l.getD 2 0).toNat) dI).dy)) (((ai S (l.getD 2 0))+2).toNat) ((xs.getD ((l.getD 2 0).toNat) dI).act)) 2 ((l.getD 2 0)+1)) 1) false aL false rfl rfl (by omega) ⟨1,0,0,(Cx.ent (Cx.s2 (aad (aad (aad hc3 (by omega)) (by omega)) (by omega)))),by unfold cJ;omega⟩)
  ·refine ae 10 (ow 0 7) λ _=>aav (ow 0 7) [2] [] (qx q N (al (al (al (al Z6 ((ai S (l.getD 2 0)).toNat) ((xs.getD ((l.getD 2 0).toNat) dI).dx)) (((ai S (l.getD 2 0))+1).toNat) ((xs.getD ((l.getD 2 0).toNat) dI).dy)) (((ai S (l.getD 2 0))+2).toNat) ((xs.getD ((l.getD 2 0).toNat) dI).act)) 2 ((l.getD 2 0)+1)) false aL false rfl rfl (by omega) ⟨(l.getD 1 0),((l.getD 2 0)+1),(l.getD 3 0),(Cx.s2 (aad (aad (aad hc3 (by omega)) (by omega)) (by omega))),by unfold cJ;omega⟩)
theorem Ik(l:List Int){ca m:Nat} (cc:Nat)(e0 e1 e2:Int){code:Nat->Ins}(hS:SetIn F S)(hn:n=(sizeOf S).toNat)(hN:n<=N)(Wb:1<=S.nb/\1<=S.players)(hC:InsB F cb ca m code)(X5:l.getD 1 0=1)(hi:0<=l.getD 2 0/\l.getD 2 0<=S.players):aeo 127 #[vS q 0 n N,(Setup.v S),.agg #[vS cb ca m cc,vI e0,vI e1,vI e2]] (ap [(q,.rows 1 N (ak bD l) 3 (0,0))] []) F (λ u H'=>∃x:RfR,H'=ap [(x.q,.rows 1 x.N (ak bD x.l) 3 (0,0))] []/\(u=.agg #[vS x.q 0 n x.N,.bool x.en,vI x.e.t,vI x.e.i,vI x.e.k,vI x.e.v,.bool x.em]/\n<=x.N/\RefL S x.l)):=by
 have hp:=hS.pl;have WJ:=hS.nb;have Vg:=hS.room;have Va:=cz hS.toSetN;refine QS Tryz.func127 mn<|ah 24 [.ix 2,.row 3 2 0,.o 2] [(0+2*1)=2*1+0/\2<N,2=((2:Nat):Int)/\2<n] λ n1=>aaq (l.getD 2 0=S.players) 17 (λ h2=>?_) λ h2=>?_
 ·refine OU 4<|aam [3] [] (jh q n N l 2 (by omega) (by omega)) ?_;rintro _ ⟨⟩ rfl;refine ae 9 (ow 1 7) λ _=>aav (ow 1 7) [0] [] (qx q N (pG l 2) false aL false rfl rfl (by omega) ⟨2,0,0,(Cx.ent aac),by unfold cJ;omega⟩)
 ·refine SO 8 (ow 2 16)<|aal (lR (l.getD 2 0) hS.toSetN) ?_;have hb3:=lY hS.toSetN (k:=l.getD 2 0) (by omega) (by omega);refine ah 8 [.nw,.ix (((ai S (l.getD 2 0))+2).toNat),.row 3 (((ai S (l.getD 2 0))+2).toNat) 0] [(0+(((ai S (l.getD 2 0))+2).toNat)*1)=(((ai S (l.getD 2 0))+2).toNat)*1+0/\(((ai S (l.getD 2 0))+2).toNat)<N,(ai S (l.getD 2 0))+2=((((ai S (l.getD 2 0))+2).toNat:Nat):Int)/\((ai S (l.getD 2 0))+2).toNat<n,aI ((ai S (l.getD 2 0))+2)] λ _=>aan (σ:=Bool) (λ bb4=>⟨[(0,vS q 0 n N),(4,vP (n1+0) 0),(5,vP (n1+1) 0),(6,vP (n1+2) 0),(7,vI (l.getD 2 0)),(8,vI (l.getD (((ai S (l.getD 2 0))+2).toNat) 0)),(36,.bool bb4)],[((n1+2),.lit [.slice none 0 0,.bool false,vI 0,vI 0,vI 0,vI 0,.bool false] 181 (0,0)),((n1+1),.lit [vS cb ca m cc,vI e0,vI e1,vI e2] 111 (0,0)),((n1+0),.lit (Setup.l S) 34 (0,0)),(q,.rows 1 N (ak bD l) 3 (0,0))],[],True,0⟩) ?_ ?_
  ·intro W9;refine ah 6 [.ix 3,.row 3 3 0] [(0+3*1)=3*1+0/\3<N,3=((3:Nat):Int)/\3<n] λ _=>aaq (l.getD 3 0=0) 33 (λ h6=>?_) λ h6=>?_
   ·refine ae 4 [] λ _=>W9 (decide (l.getD (((ai S (l.getD 2 0))+2).toNat) 0=0)) [0,1,2,3] [] ?_
    try dsimp only
    all_goals trivial
   ·refine ae 4 [] λ _=>W9 false [0,1,2,3] [] ?_
    try dsimp only
    all_goals trivial
  ·rintro bb4 _;refine OU 1<|cP (bb4) 36 (λ h7=>?_) λ h7=>?_
   ·refine ah 11 [.nw,.ix 2,.row 3 2 0] [(0+2*1)=2*1+0/\2<N,2=((2:Nat):Int)/\2<n,aI ((l.getD 2 0)+1)] λ _=>aak 3 (ep N l 2 ((l.getD 2 0)+1))<|ae 6 (ow 0 7) λ _=>aav (ow 0 7) [3] [] (qx q N (al l 2 ((l.getD 2 0)+1)) false aL false rfl rfl (by omega) ⟨(l.getD 1 0),((l.getD 2 0)+1),(l.getD 3 0),(Cx.s2 aac),by unfold cJ;omega⟩)
   ·refine SO 10 (ow 2 16++(ow 1 4))<|aam [3] [] (si q N l cc e0 e1 e2 0 (l.getD 2 0) (l.getD (((ai S (l.getD 2 0))+2).toNat) 0) hS.up hn (by omega) hC.up (.inl rfl)) ?_;rintro _ r8 ⟨rfl,hN9,Xu⟩;refine ae 14 (ow 0 7) λ n11=>cP (r8.en) 52 (λ H_=>?_) λ H_=>?_
    ·refine ah 11 [.o 0,.nw,.ix 2,.row 1 2 0] [(0+2*1)=2*1+0/\2<r8.N,2=((2:Nat):Int)/\2<n,aI ((l.getD 2 0)+1)] λ _=>aak 1 (ep r8.N r8.l 2 ((l.getD 2 0)+1))<|ae 5 (ow 0 7++ow 2 7) λ _=>aav (ow 2 7) [1] [] (qx r8.q r8.N (al r8.l 2 ((l.getD 2 0)+1)) false ⟨r8.e.t,r8.e.i,r8.e.k,r8.e.v⟩ r8.em rfl rfl (by omega) ⟨(l.getD 1 0),((l.getD 2 0)+1),(r8.l.getD 3 0),(Cx.s2 (KpR.cx Xu)),by unfold cJ;omega⟩)
    ·refine ae 9 (ow 0 7++ow 2 7) λ _=>aav (ow 2 7) [1] [] (qx r8.q r8.N r8.l false ⟨r8.e.t,r8.e.i,r8.e.k,r8.e.v⟩ r8.em rfl rfl (by omega) ⟨(l.getD 1 0),(l.getD 2 0),(r8.l.getD 3 0),(KpR.cx Xu),by unfold cJ;omega⟩)
theorem Il(l:List Int) (hS:SetIn F S) (hn:n=(sizeOf S).toNat) (hN:n<=N) (Wb:1<=S.nb/\1<=S.players) (X5:l.getD 1 0=3) (hi:0<=l.getD 2 0/\l.getD 2 0<S.nb):aeo 130 #[vS q 0 n N,(Setup.v S)] (ap [(q,.rows 1 N (ak bD l) 3 (0,0))] []) F (λ u H'=>∃x:RfR,H'=ap [(x.q,.rows 1 x.N (ak bD x.l) 3 (0,0))] []/\(u=.agg #[vS x.q 0 n x.N,.bool x.en,vI x.e.t,vI x.e.i,vI x.e.k,vI x.e.v,.bool x.em]/\n<=x.N/\RefL S x.l)):=by
 have hp:=hS.pl;have WJ:=hS.nb;have Vg:=hS.room;have Va:=cz hS.toSetN;refine QS Tryz.func130 mn<|ah 18 ([.ix 2,.row 2 2 0]++ow 1 16) [(0+2*1)=2*1+0/\2<N,2=((2:Nat):Int)/\2<n] λ n1=>aal (cy (l.getD 2 0) hS.toSetN) ?_;have Ye:=du hS.toSetN (k:=l.getD 2 0) (by omega) (by omega);refine ah 13 [.nw,.ix (((af S (l.getD 2 0))+6).toNat),.row 2 (((af S (l.getD 2 0))+6).toNat) 0] [(0+(((af S (l.getD 2 0))+6).toNat)*1)=(((af S (l.getD 2 0))+6).toNat)*1+0/\(((af S (l.getD 2 0))+6).toNat)<N,(af S (l.getD 2 0))+6=((((af S (l.getD 2 0))+6).toNat:Nat):Int)/\((af S (l.getD 2 0))+6).toNat<n,aI ((af S (l.getD 2 0))+6)] λ _=>aak 2 (ep N l (((af S (l.getD 2 0))+6).toNat) 0)<|SO 4 (ow 1 16)<|SP (lZ (q:=q) (l:=al l (((af S (l.getD 2 0))+6).toNat) 0) (l.getD 2 0) hS.up (aw 2) hn hN) ?_;rintro _ x3 rfl;refine ae 5 (ow 0 5) λ n4=>aan (σ:=List Int) (λ XT=>⟨[(0,vS q 0 n N),(3,vP (n1+0) 0),(4,vP (n1+1) 0),(5,vI (l.getD 2 0))],[((n1+1),.lit [.slice none 0 0,.bool false,vI 0,vI 0,vI 0,vI 0,.bool false] 181 (0,0)),((n1+0),.lit (Setup.l S) 34 (0,0)),(q,.rows 1 N (ak bD XT) 3 (0,0))],[],Cx XT (l.getD 1 0) (l.getD 2 0) (l.getD 3 0),0⟩) ?_ ?_
 ·intro XR;refine SO 7 [.o 0]<|aaq (x3.inv>0) 26 (λ h8=>?_) λ h8=>?_
  ·refine SO 7 [.o 0,.o 0,.o 2,.o 2]<|aal (eM (⟨x3.vx,x3.vy⟩:V2) S.g) ?_;generalize (aF (⟨x3.vx,x3.vy⟩:V2) S.g)=z9;refine ae 5 (aab 2) λ Wi=>aan (σ:=V2) (λ Zh=>⟨[(0,vS q 0 n N),(3,vP (n1+0) 0),(4,vP (n1+1) 0),(5,vI (l.getD 2 0)),(6,vI (af S (l.getD 2 0))),(7,vP (n4+0) 0),(8,vP (Wi+0) 0)],[((Wi+0),.lit [vI Zh.x,vI Zh.y] 32 (0,0)),((n4+0),.lit [vI x3.px,vI x3.py,vI x3.vx,vI x3.vy,vI x3.inv] 73 (0,0)),((n1+1),.lit [.slice none 0 0,.bool false,vI 0,vI 0,vI 0,vI 0,.bool false] 181 (0,0)),((n1+0),.lit (Setup.l S) 34 (0,0)),(q,.rows 1 N (ak bD (al l (((af S (l.getD 2 0))+6).toNat) 0)) 3 (0,0))],[],True,0⟩) ?_ ?_
   ·intro aeF;refine SO 8 [.o 3]<|aaq (l.getD 2 0<S.players) 35 (λ U8=>?_) λ U8=>?_
    ·refine SO 5 (ow 3 16)<|aal (lR (l.getD 2 0) hS.toSetN) ?_;have aqt:=lY hS.toSetN (k:=l.getD 2 0) (by omega) (by omega);refine OU 3<|aap [18] []<|aA [] [0,1,2,5,8,9,13,3,6,10,14,4,11,7,12,15,16] [.o 0,.o 0,.ix ((ai S (l.getD 2 0)).toNat),.o 3,.nw,.o 3,.row 4 ((ai S (l.getD 2 0)).toNat) 0,.ix (((ai S (l.getD 2 0))+1).toNat),.row 4 (((ai S (l.getD 2 0))+1).toNat) 0] [(0+(((ai S (l.getD 2 0))+1).toNat)*1)=(((ai S (l.getD 2 0))+1).toNat)*1+0/\(((ai S (l.getD 2 0))+1).toNat)<N,(ai S (l.getD 2 0))+1=((((ai S (l.getD 2 0))+1).toNat:Nat):Int)/\((ai S (l.getD 2 0))+1).toNat<n,(0+((ai S (l.getD 2 0)).toNat)*1)=((ai S (l.getD 2 0)).toNat)*1+0/\((ai S (l.getD 2 0)).toNat)<N,aI ((ai S (l.getD 2 0))+1),ai S (l.getD 2 0)=(((ai S (l.getD 2 0)).toNat:Nat):Int)/\(ai S (l.getD 2 0)).toNat<n]<|aae [] 17 (λ X_=>(eM z9 (⟨i64.wrap (((al l (((af S (l.getD 2 0))+6).toNat) 0).getD ((ai S (l.getD 2 0)).toNat) 0)*S.push),i64.wrap (((al l (((af S (l.getD 2 0))+6).toNat) 0).getD (((ai S (l.getD 2 0))+1).toNat) 0)*S.push)⟩:V2))) ?_;generalize (aF z9 (⟨i64.wrap (((al l (((af S (l.getD 2 0))+6).toNat) 0).getD ((ai S (l.getD 2 0)).toNat) 0)*S.push),i64.wrap (((al l (((af S (l.getD 2 0))+6).toNat) 0).getD (((ai S (l.getD 2 0))+1).toNat) 0)*S.push)⟩:V2))=z15;refine SV 18 [] (aab 2)<|aaf<|aeF (⟨z15.x,z15.y⟩) [0,1,2,3,4] [] ?_
     try dsimp only
     all_goals trivial
    ·refine ae 2 [] λ _=>aeF (⟨z9.x,z9.y⟩) [0,1,2,3,4] [] ?_
     try dsimp only
     all_goals trivial
   ·rintro Zh _;refine SO 7 [.o 0,.o 0,.o 3]<|aal (jc Zh (i64.wrap (1024-S.drag))) ?_;generalize (au Zh (i64.wrap (1024-S.drag)))=z16;refine SO 4 (aab 2)<|aap [8] []<|ag [] [0,3,1,4] (aab 2)<|aae [] 2 (λ X_=>(cG z16.x (-16384) 16384)) ?_;generalize (aK z16.x (-16384) 16384)=z17;refine aae [] 5 (λ X_=>(cG z16.y (-16384) 16384)) ?_;generalize (aK z16.y (-16384) 16384)=W8;refine aem [6,7]<|SV 8 [] [.o 1,.o 1]<|aaf<|SO 5 (ow 1 5)<|aam [4] [] (j8 q n N (al l (((af S (l.getD 2 0))+6).toNat) 0) (af S (l.getD 2 0)) (⟨x3.px,x3.py,z17,W8,x3.inv⟩:Mot) (by omega) (by omega) (by omega) (by omega)) ?_;rintro _ ⟨⟩ rfl;refine ae 1 [] λ _=>XR (lG (al l (((af S (l.getD 2 0))+6).toNat) 0) (af S (l.getD 2 0)) (⟨x3.px,x3.py,z17,W8,x3.inv⟩:Mot)) [3,4,0] [] ?_
    try dsimp only
    exact(pH (aad aac (by omega)) (by omega))
  ·refine ae 2 [] λ _=>XR (al l (((af S (l.getD 2 0))+6).toNat) 0) [1,2,3] [] ?_
   try dsimp only
   exact(aad aac (by omega))
 ·rintro XT hc6;refine ah 12 [.nw,.ix 2,.row 2 2 0] [(0+2*1)=2*1+0/\2<N,2=((2:Nat):Int)/\2<n,aI ((l.getD 2 0)+1)] λ _=>aak 2 (ep N XT 2 ((l.getD 2 0)+1))<|ah 9 [.nw,.o 1] [aI ((l.getD 2 0)+1)] λ _=>aaq ((l.getD 2 0)+1=(S.nb:Int)) 83 (λ Wy=>?_) λ Wy=>?_
  ·refine OU 4<|aam [2] [] (jh q n N (al XT 2 ((l.getD 2 0)+1)) 4 (by omega) (by omega)) ?_;rintro _ ⟨⟩ rfl;refine ah 9 [.ix 3,.row 0 3 0] [(0+3*1)=3*1+0/\3<N,3=((3:Nat):Int)/\3<n] λ _=>aak 0 (ep N (pG (al XT 2 ((l.getD 2 0)+1)) 4) 3 1)<|ah 7 [.ix 4,.row 0 4 0] [(0+4*1)=4*1+0/\4<N,4=((4:Nat):Int)/\4<n] λ _=>aak 0 (ep N (al (pG (al XT 2 ((l.getD 2 0)+1)) 4) 3 1) 4 0)<|ae 6 (ow 1 7) λ _=>aav (ow 1 7) [0] [] (qx q N (al (al (pG (al XT 2 ((l.getD 2 0)+1)) 4) 3 1) 4 0) false aL false rfl rfl (by omega) ⟨4,0,1,(aad (Cx.s3 (Cx.ent (Cx.s2 hc6))) (by decide)),by unfold cJ;omega⟩)
  ·refine ae 10 (ow 0 7) λ _=>aav (ow 0 7) [2] [] (qx q N (al XT 2 ((l.getD 2 0)+1)) false aL false rfl rfl (by omega) ⟨(l.getD 1 0),((l.getD 2 0)+1),(l.getD 3 0),(Cx.s2 hc6),by unfold cJ;omega⟩)
theorem Im(l:List Int) (hS:SetIn F S) (hn:n=(sizeOf S).toNat) (hN:n<=N) (Wb:1<=S.nb/\1<=S.players) (X5:l.getD 1 0=4) (hi:(S.nb:Int)<2\/(0<=l.getD 2 0/\l.getD 2 0<l.getD 3 0/\l.getD 3 0<S.nb)):aeo 131 #[vS q 0 n N,(Setup.v S)] (ap [(q,.rows 1 N (ak bD l) 3 (0,0))] []) F (λ u H'=>∃x:RfR,H'=ap [(x.q,.rows 1 x.N (ak bD x.l) 3 (0,0))] []/\(u=.agg #[vS x.q 0 n x.N,.bool x.en,vI x.e.t,vI x.e.i,vI x.e.k,vI x.e.v,.bool x.em]/\n<=x.N/\RefL S x.l)):=by
 have hp:=hS.pl;have WJ:=hS.nb;have Vg:=hS.room;have Va:=cz hS.toSetN;refine QS Tryz.func131 (mc hS.blk mn)<|ae 16 [.o 1] λ n1=>aan (σ:=Bool) (λ bb2=>⟨[(0,vS q 0 n N),(3,vP (n1+0) 0),(4,vP (n1+1) 0),(5,vI (S.nb:Int)),(26,.bool bb2)],[((n1+1),.lit [.slice none 0 0,.bool false,vI 0,vI 0,vI 0,vI 0,.bool false] 181 (0,0)),((n1+0),.lit (Setup.l S) 34 (0,0)),(q,.rows 1 N (ak bD l) 3 (0,0))],[],bb2=false->¬ ((S.nb:Int)<2),0⟩) ?_ ?_
 ·intro OF;refine aap [] []<|aem [0,1,2]<|RD.em ((S.nb:Int)<2) 19 (λ h4=>?_) λ h4=>?_
  ·refine aem [3,6,4,7,5,8,9]<|aaf<|OF true [0,1,2] [] ?_
   try dsimp only
   intro h_;cases h_
  ·refine aA [] [3,6,4,7,5,8,9] [.ix 4,.o 1,.row 2 4 0] [(0+4*1)=4*1+0/\4<N,4=((4:Nat):Int)/\4<n]<|aaf<|OF (decide (l.getD 4 0=S.rounds)) [0,1,2] [] ?_
   try dsimp only
   intro h_;simp only[decide_eq_false_iff_not,ac6] at h_;exact(by omega)
 ·rintro bb2 adg;refine OU 1<|cP (bb2) 26 (λ h5=>?_) λ h5=>?_
  ·refine OU 4<|aam [2] [] (jh q n N l 5 (by omega) (by omega)) ?_;rintro _ ⟨⟩ rfl;refine ah 10 [.ix 5,.row 0 5 0] [(0+5*1)=5*1+0/\5<N,5=((5:Nat):Int)/\5<n] λ _=>aak 0 (ep N (pG l 5) 5 1024)<|ae 6 (ow 1 7) λ _=>aav (ow 1 7) [0] [] (qx q N (al (pG l 5) 5 1024) false aL false rfl rfl (by omega) ⟨5,0,0,(aad (Cx.ent aac) (by decide)),by unfold cJ;omega⟩)
  ·have hq6:=adg (acp.2 h5);refine ah 24 ([.ix 2,.row 2 2 0,.ix 3,.row 2 3 0]++ow 1 16) [(0+3*1)=3*1+0/\3<N,3=((3:Nat):Int)/\3<n,(0+2*1)=2*1+0/\2<N,2=((2:Nat):Int)/\2<n] λ _=>SP (lZ (q:=q) (l:=l) (l.getD 2 0) hS.up (aw 2) hn hN) ?_;rintro _ x7 rfl;refine ae 9 (ow 0 5++ow 2 16) λ n8=>SP (lZ (q:=q) (l:=l) (l.getD 3 0) hS.up (aw 3) hn hN) ?_;rintro _ x9 rfl;refine ae 5 (ow 0 5) λ Wi=>aap [21] []<|aA [] [0,2,6,8,10,14,1,7,9,15,3,11,4,12,5,13] [.o 3,.o 1,.o 1,.o 3,.o 0,.o 0,.ix ((l.getD 2 0).toNat),.ix ((l.getD 3 0).toNat),.rorow 0 (S.bo+((l.getD 2 0).toNat)) 0,.rorow 0 (S.bo+((l.getD 2 0).toNat)) 1,.rorow 0 (S.bo+((l.getD 3 0).toNat)) 0,.rorow 0 (S.bo+((l.getD 3 0).toNat)) 1] [((S.bo*9+((l.getD 3 0).toNat)*9)+1)=(S.bo+((l.getD 3 0).toNat))*9+1/\(S.bo+((l.getD 3 0).toNat))<S.bR,(S.bo*9+((l.getD 3 0).toNat)*9)=(S.bo+((l.getD 3 0).toNat))*9+0/\(S.bo+((l.getD 3 0).toNat))<S.bR,((S.bo*9+((l.getD 2 0).toNat)*9)+1)=(S.bo+((l.getD 2 0).toNat))*9+1/\(S.bo+((l.getD 2 0).toNat))<S.bR,(S.bo*9+((l.getD 2 0).toNat)*9)=(S.bo+((l.getD 2 0).toNat))*9+0/\(S.bo+((l.getD 2 0).toNat))<S.bR,l.getD 3 0=(((l.getD 3 0).toNat:Nat):Int)/\(l.getD 3 0).toNat<S.nb,l.getD 2 0=(((l.getD 2 0).toNat:Nat):Int)/\(l.getD 2 0).toNat<S.nb]<|dg 16 20 ?_ ?_
   ·refine Q1 [] (mH (S.bods.getD (S.bo+((l.getD 2 0).toNat)) dB).sh (⟨x7.px,x7.py⟩:V2) (S.bods.getD (S.bo+((l.getD 3 0).toNat)) dB).sh (⟨x9.px,x9.py⟩:V2) ((hS.shp _ (by omega)).up) ((hS.shp _ (by omega)).up)) ?_;rintro _ x11 rfl;refine aem [17,18,19]<|aag 20 (aai [] [] λ n12=>?_);refine SV 21 [] (aab 3)<|aem [22]<|Q2 2<|aan (σ:=List Int) (λ K_=>⟨[(0,vS q 0 n N),(4,vP (n1+1) 0),(5,vI (S.nb:Int)),(6,vI (l.getD 2 0)),(7,vI (l.getD 3 0))],[((n1+1),.lit [.slice none 0 0,.bool false,vI 0,vI 0,vI 0,vI 0,.bool false] 181 (0,0)),(q,.rows 1 N (ak bD K_) 3 (0,0))],[],Cx K_ (l.getD 1 0) (l.getD 2 0) (l.getD 3 0),0⟩) ?_ ?_
    ·intro Xj;refine OU 5<|cP (x11.2) 67 (λ U4=>?_) λ U4=>?_
     ·refine SO 8 (ow 2 5++ow 1 5++(aab 3++[.o 4]))<|SP (yh x7 x9 x11.1 S.rest) ?_;rintro _ x17 rfl;refine ae 10 (ow 1 5++ow 0 5) λ n18=>aap [5] []<|ag [] [0,1,2,4] (ow 6 16++ow 1 5)<|aae [] 3 (λ X_=>(cy (l.getD 2 0) hS.toSetN)) ?_;have aqq:=du hS.toSetN (k:=l.getD 2 0) (by omega) (by omega);refine aag 5 (aah [] [7] [] (j8 q n N l (af S (l.getD 2 0)) x17.1 (by omega) (by omega) (by omega) (by omega)) ?_);rintro _ ⟨⟩ rfl;refine Q2 2<|aap [5] []<|ag [] [0,1,2,4] (ow 7 16++ow 1 5)<|aae [] 3 (λ X_=>(cy (l.getD 3 0) hS.toSetN)) ?_;have aqn:=du hS.toSetN (k:=l.getD 3 0) (by omega) (by omega);refine aag 5 (aah [] [0] [] (j8 q n N (lG l (af S (l.getD 2 0)) x17.1) (af S (l.getD 3 0)) x17.2 (by omega) (by omega) (by omega) (by omega)) ?_);rintro _ ⟨⟩ rfl;refine aaf<|SO 6 (ow 7 16)<|aal (cy (l.getD 2 0) hS.toSetN) ?_;have aqm:=du hS.toSetN (k:=l.getD 2 0) (by omega) (by omega);refine ah 7 [.nw,.nw,.ix (((af S (l.getD 2 0))+6).toNat),.row 0 (((af S (l.getD 2 0))+6).toNat) 0] [(0+(((af S (l.getD 2 0))+6).toNat)*1)=(((af S (l.getD 2 0))+6).toNat)*1+0/\(((af S (l.getD 2 0))+6).toNat)<N,(af S (l.getD 2 0))+6=((((af S (l.getD 2 0))+6).toNat:Nat):Int)/\((af S (l.getD 2 0))+6).toNat<n,aI ((l.getD 3 0)+1),aI ((af S (l.getD 2 0))+6)] λ _=>aak 0 (ep N (lG (lG l (af S (l.getD 2 0)) x17.1) (af S (l.getD 3 0)) x17.2) (((af S (l.getD 2 0))+6).toNat) ((l.getD 3 0)+1))<|SO 4 (ow 7 16)<|aal (cy (l.getD 3 0) hS.toSetN) ?_;have aql:=du hS.toSetN (k:=l.getD 3 0) (by omega) (by omega);refine ah 6 [.nw,.nw,.ix (((af S (l.getD 3 0))+6).toNat),.row 0 (((af S (l.getD 3 0))+6).toNat) 0] [(0+(((af S (l.getD 3 0))+6).toNat)*1)=(((af S (l.getD 3 0))+6).toNat)*1+0/\(((af S (l.getD 3 0))+6).toNat)<N,(af S (l.getD 3 0))+6=((((af S (l.getD 3 0))+6).toNat:Nat):Int)/\((af S (l.getD 3 0))+6).toNat<n,aI ((l.getD 2 0)+1),aI ((af S (l.getD 3 0))+6)] λ _=>aak 0 (ep N (al (lG (lG l (af S (l.getD 2 0)) x17.1) (af S (l.getD 3 0)) x17.2) (((af S (l.getD 2 0))+6).toNat) ((l.getD 3 0)+1)) (((af S (l.getD 3 0))+6).toNat) ((l.getD 2 0)+1))<|Xj (al (al (lG (lG l (af S (l.getD 2 0)) x17.1) (af S (l.getD 3 0)) x17.2) (((af S (l.getD 2 0))+6).toNat) ((l.getD 3 0)+1)) (((af S (l.getD 3 0))+6).toNat) ((l.getD 2 0)+1)) [6,0] [] ?_
      try dsimp only
      exact(aad (aad (pH (pH aac (by omega)) (by omega)) (by omega)) (by omega))
     ·refine ae 2 [] λ _=>Xj l [3,5] [] ?_
      try dsimp only
      exact aac
    ·rintro K_ YN;refine ah 10 [.nw] [aI ((l.getD 3 0)+1)] λ _=>aaq ((l.getD 3 0)+1<(S.nb:Int)) 108 (λ h23=>?_) λ h23=>?_
     ·refine ah 10 [.nw,.ix 3,.row 1 3 0] [(0+3*1)=3*1+0/\3<N,3=((3:Nat):Int)/\3<n,aI ((l.getD 3 0)+1)] λ _=>aak 1 (ep N K_ 3 ((l.getD 3 0)+1))<|ae 6 (ow 0 7) λ _=>aav (ow 0 7) [1] [] (qx q N (al K_ 3 ((l.getD 3 0)+1)) false aL false rfl rfl (by omega) ⟨(l.getD 1 0),(l.getD 2 0),((l.getD 3 0)+1),(Cx.s3 YN),by unfold cJ;omega⟩)
     ·refine ah 9 [.nw] [aI ((l.getD 2 0)+2)] λ _=>aaq ((l.getD 2 0)+2<(S.nb:Int)) 116 (λ h24=>?_) λ h24=>?_
      ·refine ah 10 [.nw,.ix 2,.row 1 2 0] [(0+2*1)=2*1+0/\2<N,2=((2:Nat):Int)/\2<n,aI ((l.getD 2 0)+1)] λ _=>aak 1 (ep N K_ 2 ((l.getD 2 0)+1))<|ah 9 [.nw,.ix 3,.row 1 3 0] [(0+3*1)=3*1+0/\3<N,3=((3:Nat):Int)/\3<n,aI ((l.getD 2 0)+2)] λ _=>aak 1 (ep N (al K_ 2 ((l.getD 2 0)+1)) 3 ((l.getD 2 0)+2))<|ae 6 (ow 0 7) λ _=>aav (ow 0 7) [1] [] (qx q N (al (al K_ 2 ((l.getD 2 0)+1)) 3 ((l.getD 2 0)+2)) false aL false rfl rfl (by omega) ⟨(l.getD 1 0),((l.getD 2 0)+1),((l.getD 2 0)+2),(Cx.s3 (Cx.s2 YN)),by unfold cJ;omega⟩)
      ·refine ah 9 [.ix 2,.row 1 2 0] [(0+2*1)=2*1+0/\2<N,2=((2:Nat):Int)/\2<n] λ _=>aak 1 (ep N K_ 2 0)<|ah 6 [.ix 3,.row 1 3 0] [(0+3*1)=3*1+0/\3<N,3=((3:Nat):Int)/\3<n] λ _=>aak 1 (ep N (al K_ 2 0) 3 1)<|ah 11 [.ix 4,.row 1 4 0,.ix 4,.row 1 4 0] [(0+4*1)=4*1+0/\4<N,4=((4:Nat):Int)/\4<n,(0+4*1)=4*1+0/\4<N,4=((4:Nat):Int)/\4<n] λ _=>aak 1 (ep N (al (al K_ 2 0) 3 1) 4 (i64.wrap (((al (al K_ 2 0) 3 1).getD 4 0)+1)))<|ae 6 (ow 0 7) λ _=>aav (ow 0 7) [1] [] (qx q N (al (al (al K_ 2 0) 3 1) 4 (i64.wrap (((al (al K_ 2 0) 3 1).getD 4 0)+1))) false aL false rfl rfl (by omega) ⟨(l.getD 1 0),0,1,(aad (Cx.s3 (Cx.s2 YN)) (by decide)),by unfold cJ;omega⟩)
   ·refine aai [] [] λ Z5=>aag 16 (Q1 [] (mH (S.bods.getD (S.bo+((l.getD 2 0).toNat)) dB).sh (⟨x7.px,x7.py⟩:V2) (S.bods.getD (S.bo+((l.getD 3 0).toNat)) dB).sh (⟨x9.px,x9.py⟩:V2) ((hS.shp _ (by omega)).up) ((hS.shp _ (by omega)).up)) ?_);rintro _ x26 rfl;refine aem [17,18,19]<|SV 21 [] (aab 3)<|aem [22]<|Q2 2<|aan (σ:=List Int) (λ Vk=>⟨[(0,vS q 0 n N),(4,vP (n1+1) 0),(5,vI (S.nb:Int)),(6,vI (l.getD 2 0)),(7,vI (l.getD 3 0))],[((n1+1),.lit [.slice none 0 0,.bool false,vI 0,vI 0,vI 0,vI 0,.bool false] 181 (0,0)),(q,.rows 1 N (ak bD Vk) 3 (0,0))],[],Cx Vk (l.getD 1 0) (l.getD 2 0) (l.getD 3 0),0⟩) ?_ ?_
    ·intro aeC;refine OU 5<|cP (x26.2) 67 (λ h30=>?_) λ h30=>?_
     ·refine SO 8 (ow 2 5++ow 1 5++(aab 3++[.o 4]))<|SP (yh x7 x9 x26.1 S.rest) ?_;rintro _ x31 rfl;refine ae 10 (ow 1 5++ow 0 5) λ n32=>aap [5] []<|ag [] [0,1,2,4] (ow 6 16++ow 1 5)<|aae [] 3 (λ X_=>(cy (l.getD 2 0) hS.toSetN)) ?_;have aqk:=du hS.toSetN (k:=l.getD 2 0) (by omega) (by omega);refine aag 5 (aah [] [7] [] (j8 q n N l (af S (l.getD 2 0)) x31.1 (by omega) (by omega) (by omega) (by omega)) ?_);rintro _ ⟨⟩ rfl;refine Q2 2<|aap [5] []<|ag [] [0,1,2,4] (ow 7 16++ow 1 5)<|aae [] 3 (λ X_=>(cy (l.getD 3 0) hS.toSetN)) ?_;have aqj:=du hS.toSetN (k:=l.getD 3 0) (by omega) (by omega);refine aag 5 (aah [] [0] [] (j8 q n N (lG l (af S (l.getD 2 0)) x31.1) (af S (l.getD 3 0)) x31.2 (by omega) (by omega) (by omega) (by omega)) ?_);rintro _ ⟨⟩ rfl;refine aaf<|SO 6 (ow 7 16)<|aal (cy (l.getD 2 0) hS.toSetN) ?_;have YO:=du hS.toSetN (k:=l.getD 2 0) (by omega) (by omega);refine ah 7 [.nw,.nw,.ix (((af S (l.getD 2 0))+6).toNat),.row 0 (((af S (l.getD 2 0))+6).toNat) 0] [(0+(((af S (l.getD 2 0))+6).toNat)*1)=(((af S (l.getD 2 0))+6).toNat)*1+0/\(((af S (l.getD 2 0))+6).toNat)<N,(af S (l.getD 2 0))+6=((((af S (l.getD 2 0))+6).toNat:Nat):Int)/\((af S (l.getD 2 0))+6).toNat<n,aI ((l.getD 3 0)+1),aI ((af S (l.getD 2 0))+6)] λ _=>aak 0 (ep N (lG (lG l (af S (l.getD 2 0)) x31.1) (af S (l.getD 3 0)) x31.2) (((af S (l.getD 2 0))+6).toNat) ((l.getD 3 0)+1))<|SO 4 (ow 7 16)<|aal (cy (l.getD 3 0) hS.toSetN) ?_;have aqi:=du hS.toSetN (k:=l.getD 3 0) (by omega) (by omega);refine ah 6 [.nw,.nw,.ix (((af S (l.getD 3 0))+6).toNat),.row 0 (((af S (l.getD 3 0))+6).toNat) 0] [(0+(((af S (l.getD 3 0))+6).toNat)*1)=(((af S (l.getD 3 0))+6).toNat)*1+0/\(((af S (l.getD 3 0))+6).toNat)<N,(af S (l.getD 3 0))+6=((((af S (l.getD 3 0))+6).toNat:Nat):Int)/\((af S (l.getD 3 0))+6).toNat<n,aI ((l.getD 2 0)+1),aI ((af S (l.getD 3 0))+6)] λ _=>aak 0 (ep N (al (lG (lG l (af S (l.getD 2 0)) x31.1) (af S (l.getD 3 0)) x31.2) (((af S (l.getD 2 0))+6).toNat) ((l.getD 3 0)+1)) (((af S (l.getD 3 0))+6).toNat) ((l.getD 2 0)+1))<|aeC (al (al (lG (lG l (af S (l.getD 2 0)) x31.1) (af S (l.getD 3 0)) x31.2) (((af S (l.getD 2 0))+6).toNat) ((l.getD 3 0)+1)) (((af S (l.getD 3 0))+6).toNat) ((l.getD 2 0)+1)) [6,0] [] ?_
      try dsimp only
      exact(aad (aad (pH (pH aac (by omega)) (by omega)) (by omega)) (by omega))
     ·refine ae 2 [] λ _=>aeC l [3,5] [] ?_
      try dsimp only
      exact aac
    ·rintro Vk adb;refine ah 10 [.nw] [aI ((l.getD 3 0)+1)] λ _=>aaq ((l.getD 3 0)+1<(S.nb:Int)) 108 (λ h37=>?_) λ h37=>?_
     ·refine ah 10 [.nw,.ix 3,.row 1 3 0] [(0+3*1)=3*1+0/\3<N,3=((3:Nat):Int)/\3<n,aI ((l.getD 3 0)+1)] λ _=>aak 1 (ep N Vk 3 ((l.getD 3 0)+1))<|ae 6 (ow 0 7) λ _=>aav (ow 0 7) [1] [] (qx q N (al Vk 3 ((l.getD 3 0)+1)) false aL false rfl rfl (by omega) ⟨(l.getD 1 0),(l.getD 2 0),((l.getD 3 0)+1),(Cx.s3 adb),by unfold cJ;omega⟩)
     ·refine ah 9 [.nw] [aI ((l.getD 2 0)+2)] λ _=>aaq ((l.getD 2 0)+2<(S.nb:Int)) 116 (λ h38=>?_) λ h38=>?_
      ·refine ah 10 [.nw,.ix 2,.row 1 2 0] [(0+2*1)=2*1+0/\2<N,2=((2:Nat):Int)/\2<n,aI ((l.getD 2 0)+1)] λ _=>aak 1 (ep N Vk 2 ((l.getD 2 0)+1))<|ah 9 [.nw,.ix 3,.row 1 3 0] [(0+3*1)=3*1+0/\3<N,3=((3:Nat):Int)/\3<n,aI ((l.getD 2 0)+2)] λ _=>aak 1 (ep N (al Vk 2 ((l.getD 2 0)+1)) 3 ((l.getD 2 0)+2))<|ae 6 (ow 0 7) λ _=>aav (ow 0 7) [1] [] (qx q N (al (al Vk 2 ((l.getD 2 0)+1)) 3 ((l.getD 2 0)+2)) false aL false rfl rfl (by omega) ⟨(l.getD 1 0),((l.getD 2 0)+1),((l.getD 2 0)+2),(Cx.s3 (Cx.s2 adb)),by unfold cJ;omega⟩)
      ·refine ah 9 [.ix 2,.row 1 2 0] [(0+2*1)=2*1+0/\2<N,2=((2:Nat):Int)/\2<n] λ _=>aak 1 (ep N Vk 2 0)<|ah 6 [.ix 3,.row 1 3 0] [(0+3*1)=3*1+0/\3<N,3=((3:Nat):Int)/\3<n] λ _=>aak 1 (ep N (al Vk 2 0) 3 1)<|ah 11 [.ix 4,.row 1 4 0,.ix 4,.row 1 4 0] [(0+4*1)=4*1+0/\4<N,4=((4:Nat):Int)/\4<n,(0+4*1)=4*1+0/\4<N,4=((4:Nat):Int)/\4<n] λ _=>aak 1 (ep N (al (al Vk 2 0) 3 1) 4 (i64.wrap (((al (al Vk 2 0) 3 1).getD 4 0)+1)))<|ae 6 (ow 0 7) λ _=>aav (ow 0 7) [1] [] (qx q N (al (al (al Vk 2 0) 3 1) 4 (i64.wrap (((al (al Vk 2 0) 3 1).getD 4 0)+1))) false aL false rfl rfl (by omega) ⟨(l.getD 1 0),0,1,(aad (Cx.s3 (Cx.s2 adb)) (by decide)),by unfold cJ;omega⟩)
theorem Io(l:List Int) (hS:SetIn F S) (hn:n=(sizeOf S).toNat) (hN:n<=N) (Wb:1<=S.nb/\1<=S.players) (X5:l.getD 1 0=5) (hi:0<=l.getD 2 0/\l.getD 2 0<S.nb/\0<=l.getD 3 0):aeo 132 #[vS q 0 n N,(Setup.v S)] (ap [(q,.rows 1 N (ak bD l) 3 (0,0))] []) F (λ u H'=>∃x:RfR,H'=ap [(x.q,.rows 1 x.N (ak bD x.l) 3 (0,0))] []/\(u=.agg #[vS x.q 0 n x.N,.bool x.en,vI x.e.t,vI x.e.i,vI x.e.k,vI x.e.v,.bool x.em]/\n<=x.N/\RefL S x.l)):=by
 have hp:=hS.pl;have WJ:=hS.nb;have Vg:=hS.room;have Va:=cz hS.toSetN;refine QS Tryz.func132 (mc hS.blk mn)<|ah 35 ([.ix 2,.row 2 2 0,.ix 3,.row 2 3 0]++ow 1 17) [(0+3*1)=3*1+0/\3<N,3=((3:Nat):Int)/\3<n,(0+2*1)=2*1+0/\2<N,2=((2:Nat):Int)/\2<n] λ n1=>SP (lZ (q:=q) (l:=l) (l.getD 2 0) hS.up (aw 2) hn hN) ?_;rintro _ x2 rfl;refine ae 12 (ow 0 5) λ n3=>aaq (l.getD 3 0<(S.nb:Int)) 26 (λ h4=>?_) λ h4=>?_
 ·refine OU 2<|aan (σ:=List Int) (λ XT=>⟨[(0,vS q 0 n N),(4,vP (n1+1) 0),(6,vI (l.getD 3 0))],[((n1+1),.lit [.slice none 0 0,.bool false,vI 0,vI 0,vI 0,vI 0,.bool false] 181 (0,0)),(q,.rows 1 N (ak bD XT) 3 (0,0))],[],Cx XT (l.getD 1 0) (l.getD 2 0) (l.getD 3 0),0⟩) ?_ ?_
  ·intro XR;refine OU 6<|aar (l.getD 3 0=l.getD 2 0) 30 (λ h8=>?_) λ h8=>?_
   ·refine ae 8 [] λ _=>XR l [1,3] [] ?_
    try dsimp only
    exact aac
   ·refine SO 6 [.o 0]<|aaq (x2.inv>0) 34 (λ h9=>?_) λ h9=>?_
    ·refine SO 6 (ow 2 16)<|SP (lZ (q:=q) (l:=l) (l.getD 3 0) hS.up (aw 3) hn hN) ?_;rintro _ x10 rfl;refine ae 5 (ow 0 5) λ n11=>aap [] []<|aA [] [0,2,6,8,10,12,16,18,1,7,9,11,17,3,13,4,14,5,15] [.o 3,.o 1,.o 1,.o 1,.o 1,.o 3,.o 0,.o 0,.ix ((l.getD 2 0).toNat),.ix ((l.getD 3 0).toNat),.rorow 0 (S.bo+((l.getD 2 0).toNat)) 0,.rorow 0 (S.bo+((l.getD 2 0).toNat)) 1,.rorow 0 (S.bo+((l.getD 3 0).toNat)) 0,.rorow 0 (S.bo+((l.getD 3 0).toNat)) 1] [((S.bo*9+((l.getD 3 0).toNat)*9)+1)=(S.bo+((l.getD 3 0).toNat))*9+1/\(S.bo+((l.getD 3 0).toNat))<S.bR,(S.bo*9+((l.getD 3 0).toNat)*9)=(S.bo+((l.getD 3 0).toNat))*9+0/\(S.bo+((l.getD 3 0).toNat))<S.bR,((S.bo*9+((l.getD 2 0).toNat)*9)+1)=(S.bo+((l.getD 2 0).toNat))*9+1/\(S.bo+((l.getD 2 0).toNat))<S.bR,(S.bo*9+((l.getD 2 0).toNat)*9)=(S.bo+((l.getD 2 0).toNat))*9+0/\(S.bo+((l.getD 2 0).toNat))<S.bR,l.getD 3 0=(((l.getD 3 0).toNat:Nat):Int)/\(l.getD 3 0).toNat<S.nb,l.getD 2 0=(((l.getD 2 0).toNat:Nat):Int)/\(l.getD 2 0).toNat<S.nb]<|aag 19 (Q1 [] (H7 (S.bods.getD (S.bo+((l.getD 2 0).toNat)) dB).sh (⟨x2.px,x2.py⟩:V2) (⟨x2.vx,x2.vy⟩:V2) (S.bods.getD (S.bo+((l.getD 3 0).toNat)) dB).sh (⟨x10.px,x10.py⟩:V2) (⟨0,0⟩:V2) ((hS.shp _ (by omega)).up) ((hS.shp _ (by omega)).up)) ?_);rintro _ Z3 rfl;refine aem [20]<|aaf<|ah 11 [.ix 5,.row 4 5 0,.ix 5,.row 4 5 0] [(0+5*1)=5*1+0/\5<N,5=((5:Nat):Int)/\5<n,(0+5*1)=5*1+0/\5<N,5=((5:Nat):Int)/\5<n] λ _=>aak 4 (ep N l 5 (if Z3<l.getD 5 0 then Z3 else l.getD 5 0))<|XR (al l 5 (if Z3<l.getD 5 0 then Z3 else l.getD 5 0)) [2,4] [] ?_
     try dsimp only
     exact(aad aac (by decide))
    ·refine ae 2 [] λ _=>XR l [1,3] [] ?_
     try dsimp only
     exact aac
  ·rintro XT hc6;refine ah 11 [.nw,.ix 3,.row 1 3 0] [(0+3*1)=3*1+0/\3<N,3=((3:Nat):Int)/\3<n,aI ((l.getD 3 0)+1)] λ _=>aak 1 (ep N XT 3 ((l.getD 3 0)+1))<|ae 6 (ow 0 7) λ _=>aav (ow 0 7) [1] [] (qx q N (al XT 3 ((l.getD 3 0)+1)) false aL false rfl rfl (by omega) ⟨(l.getD 1 0),(l.getD 2 0),((l.getD 3 0)+1),(Cx.s3 hc6),by unfold cJ;omega⟩)
 ·refine OU 4<|aan (σ:=List Int) (λ K_=>⟨[(0,vS q 0 n N),(4,vP (n1+1) 0),(5,vI (l.getD 2 0)),(7,vI (S.nb:Int))],[((n1+1),.lit [.slice none 0 0,.bool false,vI 0,vI 0,vI 0,vI 0,.bool false] 181 (0,0)),(q,.rows 1 N (ak bD K_) 3 (0,0))],[],Cx K_ (l.getD 1 0) (l.getD 2 0) (l.getD 3 0),0⟩) ?_ ?_
  ·intro Xj;refine SO 7 [.o 0]<|aaq (x2.inv>0) 74 (λ U4=>?_) λ U4=>?_
   ·refine OU 2<|aap [12] []<|aA [] [0,2,4,1,3,5,6,7,8] [.o 0,.o 0,.o 0,.o 0,.ix 5,.row 3 5 0] [(0+5*1)=5*1+0/\5<N,5=((5:Nat):Int)/\5<n]<|aae [] 9 (λ X_=>(oP (⟨x2.vx,x2.vy⟩:V2) (if i64.wrap ((l.getD 5 0)+128)<1024 then i64.wrap ((l.getD 5 0)+128) else 1024) 1024)) ?_;generalize (cK (⟨x2.vx,x2.vy⟩:V2) (if i64.wrap ((l.getD 5 0)+128)<1024 then i64.wrap ((l.getD 5 0)+128) else 1024) 1024)=z17;refine aae [] 10 (λ X_=>(eM (⟨x2.px,x2.py⟩:V2) z17)) ?_;generalize (aF (⟨x2.px,x2.py⟩:V2) z17)=W8;refine aem [11]<|SV 12 [] (aab 2)<|Q2 2<|aan (σ:=Mot) (λ C_=>⟨[(0,vS q 0 n N),(3,vP (n1+0) 0),(4,vP (n1+1) 0),(5,vI (l.getD 2 0)),(7,vI (S.nb:Int)),(8,vP (n3+0) 0)],[((n3+0),.lit [vI C_.px,vI C_.py,vI C_.vx,vI C_.vy,vI C_.inv] 73 (0,0)),((n1+1),.lit [.slice none 0 0,.bool false,vI 0,vI 0,vI 0,vI 0,.bool false] 181 (0,0)),((n1+0),.lit (Setup.l S) 34 (0,0)),(q,.rows 1 N (ak bD l) 3 (0,0))],[],True,0⟩) ?_ ?_
    ·intro acj;refine SO 10 [.o 0,.o 2]<|aaq (W8.x<S.box.x0) 94 (λ Xy=>?_) λ Xy=>?_
     ·refine SO 22 [.o 0,.o 2,.o 2]<|aal (cG W8.x S.box.x0 S.box.x1) ?_;generalize (aK W8.x S.box.x0 S.box.x1)=z22;refine SO 11 [.o 0,.o 0,.o 2]<|aal (jZ x2.vx S.rest) ?_;generalize (eZ x2.vx S.rest)=z23;refine ae 5 [.o 0] λ _=>acj (⟨z22,W8.y,i64.wrap (0-z23),x2.vy,x2.inv⟩) [0,1,2,3] [] ?_
      try dsimp only
      all_goals trivial
     ·refine SO 10 [.o 0,.o 2]<|aaq (W8.x>S.box.x1) 102 (λ h24=>?_) λ h24=>?_
      ·refine SO 12 [.o 0,.o 2,.o 2]<|aal (cG W8.x S.box.x0 S.box.x1) ?_;generalize (aK W8.x S.box.x0 S.box.x1)=z25;refine SO 11 [.o 0,.o 0,.o 2]<|aal (jZ x2.vx S.rest) ?_;generalize (eZ x2.vx S.rest)=z26;refine ae 5 [.o 0] λ _=>acj (⟨z25,W8.y,i64.wrap (0-z26),x2.vy,x2.inv⟩) [0,1,2,3] [] ?_
       try dsimp only
       all_goals trivial
      ·refine ae 2 [] λ _=>acj (⟨W8.x,W8.y,x2.vx,x2.vy,x2.inv⟩) [0,1,2,3] [] ?_
       try dsimp only
       all_goals trivial
    ·rintro C_ _;refine OU 2<|aan (σ:=Mot) (λ Xk=>⟨[(0,vS q 0 n N),(3,vP (n1+0) 0),(4,vP (n1+1) 0),(5,vI (l.getD 2 0)),(7,vI (S.nb:Int)),(8,vP (n3+0) 0)],[((n3+0),.lit [vI Xk.px,vI Xk.py,vI Xk.vx,vI Xk.vy,vI Xk.inv] 73 (0,0)),((n1+1),.lit [.slice none 0 0,.bool false,vI 0,vI 0,vI 0,vI 0,.bool false] 181 (0,0)),((n1+0),.lit (Setup.l S) 34 (0,0)),(q,.rows 1 N (ak bD l) 3 (0,0))],[],True,0⟩) ?_ ?_
     ·intro aci;refine SO 10 [.o 0,.o 2]<|aaq (C_.py<S.box.y0) 131 (λ h29=>?_) λ h29=>?_
      ·refine SO 22 [.o 0,.o 2,.o 2]<|aal (cG C_.py S.box.y0 S.box.y1) ?_;generalize (aK C_.py S.box.y0 S.box.y1)=z30;refine SO 11 [.o 0,.o 0,.o 2]<|aal (jZ C_.vy S.rest) ?_;generalize (eZ C_.vy S.rest)=z31;refine ae 5 [.o 0] λ _=>aci (⟨C_.px,z30,C_.vx,i64.wrap (0-z31),C_.inv⟩) [0,1,2,3] [] ?_
       try dsimp only
       all_goals trivial
      ·refine SO 10 [.o 0,.o 2]<|aaq (C_.py>S.box.y1) 139 (λ h32=>?_) λ h32=>?_
       ·refine SO 12 [.o 0,.o 2,.o 2]<|aal (cG C_.py S.box.y0 S.box.y1) ?_;generalize (aK C_.py S.box.y0 S.box.y1)=z33;refine SO 11 [.o 0,.o 0,.o 2]<|aal (jZ C_.vy S.rest) ?_;generalize (eZ C_.vy S.rest)=z34;refine ae 5 [.o 0] λ _=>aci (⟨C_.px,z33,C_.vx,i64.wrap (0-z34),C_.inv⟩) [0,1,2,3] [] ?_
        try dsimp only
        all_goals trivial
       ·refine ae 2 [] λ _=>aci (⟨C_.px,C_.py,C_.vx,C_.vy,C_.inv⟩) [0,1,2,3] [] ?_
        try dsimp only
        all_goals trivial
     ·rintro Xk _;refine OU 1<|aap [5] []<|ag [] [0,1,2,4] (ow 2 16++ow 0 5)<|aae [] 3 (λ X_=>(cy (l.getD 2 0) hS.toSetN)) ?_;have YO:=du hS.toSetN (k:=l.getD 2 0) (by omega) (by omega);refine aag 5 (aah [] [3] [] (j8 q n N l (af S (l.getD 2 0)) Xk (by omega) (by omega) (by omega) (by omega)) ?_);rintro _ ⟨⟩ rfl;refine aaf<|Xj (lG l (af S (l.getD 2 0)) Xk) [2,0] [] ?_
      try dsimp only
      exact(pH aac (by omega))
   ·refine ae 2 [] λ _=>Xj l [1,3] [] ?_
    try dsimp only
    exact aac
  ·rintro K_ YN;refine ah 11 [.nw,.ix 2,.row 1 2 0] [(0+2*1)=2*1+0/\2<N,2=((2:Nat):Int)/\2<n,aI ((l.getD 2 0)+1)] λ _=>aak 1 (ep N K_ 2 ((l.getD 2 0)+1))<|ah 7 [.ix 3,.row 1 3 0] [(0+3*1)=3*1+0/\3<N,3=((3:Nat):Int)/\3<n] λ _=>aak 1 (ep N (al K_ 2 ((l.getD 2 0)+1)) 3 0)<|ah 8 [.ix 5,.row 1 5 0] [(0+5*1)=5*1+0/\5<N,5=((5:Nat):Int)/\5<n] λ _=>aak 1 (ep N (al (al K_ 2 ((l.getD 2 0)+1)) 3 0) 5 1024)<|ah 7 [.nw] [aI ((l.getD 2 0)+1)] λ _=>aaq ((l.getD 2 0)+1=(S.nb:Int)) 178 (λ h36=>?_) λ h36=>?_
   ·refine OU 4<|aam [1] [] (jh q n N (al (al (al K_ 2 ((l.getD 2 0)+1)) 3 0) 5 1024) 6 (by omega) (by omega)) ?_;rintro _ ⟨⟩ rfl;refine ah 9 [.ix 5,.row 0 5 0] [(0+5*1)=5*1+0/\5<N,5=((5:Nat):Int)/\5<n] λ _=>aak 0 (ep N (pG (al (al (al K_ 2 ((l.getD 2 0)+1)) 3 0) 5 1024) 6) 5 0)<|ae 6 (ow 1 7) λ _=>aav (ow 1 7) [0] [] (qx q N (al (pG (al (al (al K_ 2 ((l.getD 2 0)+1)) 3 0) 5 1024) 6) 5 0) false aL false rfl rfl (by omega) ⟨6,0,0,(aad (Cx.ent (aad (Cx.s3 (Cx.s2 YN)) (by decide))) (by decide)),by unfold cJ;omega⟩)
   ·refine ae 10 (ow 0 7) λ _=>aav (ow 0 7) [1] [] (qx q N (al (al (al K_ 2 ((l.getD 2 0)+1)) 3 0) 5 1024) false aL false rfl rfl (by omega) ⟨(l.getD 1 0),((l.getD 2 0)+1),0,(aad (Cx.s3 (Cx.s2 YN)) (by decide)),by unfold cJ;omega⟩)
theorem Ip(l:List Int){ca m:Nat} (cc:Nat)(e0 e1 e2:Int){code:Nat->Ins}(hS:SetIn F S)(hn:n=(sizeOf S).toNat)(hN:n<=N)(Wb:1<=S.nb/\1<=S.players)(hC:InsB F cb ca m code)(X5:l.getD 1 0=6)(hi:0<=l.getD 2 0/\l.getD 2 0<=S.nb):aeo 133 #[vS q 0 n N,(Setup.v S),.agg #[vS cb ca m cc,vI e0,vI e1,vI e2]] (ap [(q,.rows 1 N (ak bD l) 3 (0,0))] []) F (λ u H'=>∃x:RfR,H'=ap [(x.q,.rows 1 x.N (ak bD x.l) 3 (0,0))] []/\(u=.agg #[vS x.q 0 n x.N,.bool x.en,vI x.e.t,vI x.e.i,vI x.e.k,vI x.e.v,.bool x.em]/\n<=x.N/\RefL S x.l)):=by
 have hp:=hS.pl;have WJ:=hS.nb;have Vg:=hS.room;have Va:=cz hS.toSetN;refine QS Tryz.func133 mn<|ah 25 [.ix 2,.row 3 2 0,.o 2] [(0+2*1)=2*1+0/\2<N,2=((2:Nat):Int)/\2<n] λ n1=>aaq (l.getD 2 0=(S.nb:Int)) 18 (λ h2=>?_) λ h2=>?_
 ·refine OU 4<|aam [3] [] (jh q n N l 7 (by omega) (by omega)) ?_;rintro _ ⟨⟩ rfl;refine ae 9 (ow 1 7) λ _=>aav (ow 1 7) [0] [] (qx q N (pG l 7) false aL false rfl rfl (by omega) ⟨7,0,0,(Cx.ent aac),by unfold cJ;omega⟩)
 ·refine SO 8 (ow 2 16)<|aal (cy (l.getD 2 0) hS.toSetN) ?_;have hb3:=du hS.toSetN (k:=l.getD 2 0) (by omega) (by omega);refine ah 8 [.nw,.ix (((af S (l.getD 2 0))+6).toNat),.row 3 (((af S (l.getD 2 0))+6).toNat) 0] [(0+(((af S (l.getD 2 0))+6).toNat)*1)=(((af S (l.getD 2 0))+6).toNat)*1+0/\(((af S (l.getD 2 0))+6).toNat)<N,(af S (l.getD 2 0))+6=((((af S (l.getD 2 0))+6).toNat:Nat):Int)/\((af S (l.getD 2 0))+6).toNat<n,aI ((af S (l.getD 2 0))+6)] λ _=>aan (σ:=Bool) (λ bb4=>⟨[(0,vS q 0 n N),(4,vP (n1+0) 0),(5,vP (n1+1) 0),(6,vP (n1+2) 0),(7,vI (l.getD 2 0)),(8,vI (l.getD (((af S (l.getD 2 0))+6).toNat) 0)),(37,.bool bb4)],[((n1+2),.lit [.slice none 0 0,.bool false,vI 0,vI 0,vI 0,vI 0,.bool false] 181 (0,0)),((n1+1),.lit [vS cb ca m cc,vI e0,vI e1,vI e2] 111 (0,0)),((n1+0),.lit (Setup.l S) 34 (0,0)),(q,.rows 1 N (ak bD l) 3 (0,0))],[],True,0⟩) ?_ ?_
  ·intro W9;refine ah 6 [.ix 3,.row 3 3 0] [(0+3*1)=3*1+0/\3<N,3=((3:Nat):Int)/\3<n] λ _=>aaq (l.getD 3 0=0) 34 (λ h6=>?_) λ h6=>?_
   ·refine ae 4 [] λ _=>W9 (decide (l.getD (((af S (l.getD 2 0))+6).toNat) 0=0)) [0,1,2,3] [] ?_
    try dsimp only
    all_goals trivial
   ·refine ae 4 [] λ _=>W9 false [0,1,2,3] [] ?_
    try dsimp only
    all_goals trivial
  ·rintro bb4 _;refine OU 1<|cP (bb4) 37 (λ h7=>?_) λ h7=>?_
   ·refine ah 11 [.nw,.ix 2,.row 3 2 0] [(0+2*1)=2*1+0/\2<N,2=((2:Nat):Int)/\2<n,aI ((l.getD 2 0)+1)] λ _=>aak 3 (ep N l 2 ((l.getD 2 0)+1))<|ae 6 (ow 0 7) λ _=>aav (ow 0 7) [3] [] (qx q N (al l 2 ((l.getD 2 0)+1)) false aL false rfl rfl (by omega) ⟨(l.getD 1 0),((l.getD 2 0)+1),(l.getD 3 0),(Cx.s2 aac),by unfold cJ;omega⟩)
   ·refine SO 11 (ow 2 16++(ow 1 4))<|aam [3] [] (si q N l cc e0 e1 e2 2 (l.getD 2 0) (i64.wrap ((l.getD (((af S (l.getD 2 0))+6).toNat) 0)-1)) hS.up hn (by omega) hC.up (.inr (.inr rfl))) ?_;rintro _ r8 ⟨rfl,hN9,Xu⟩;refine ae 14 (ow 0 7) λ n11=>cP (r8.en) 54 (λ H_=>?_) λ H_=>?_
    ·refine ah 11 [.o 0,.nw,.ix 2,.row 1 2 0] [(0+2*1)=2*1+0/\2<r8.N,2=((2:Nat):Int)/\2<n,aI ((l.getD 2 0)+1)] λ _=>aak 1 (ep r8.N r8.l 2 ((l.getD 2 0)+1))<|ae 5 (ow 0 7++ow 2 7) λ _=>aav (ow 2 7) [1] [] (qx r8.q r8.N (al r8.l 2 ((l.getD 2 0)+1)) false ⟨r8.e.t,r8.e.i,r8.e.k,r8.e.v⟩ r8.em rfl rfl (by omega) ⟨(l.getD 1 0),((l.getD 2 0)+1),(r8.l.getD 3 0),(Cx.s2 (KpR.cx Xu)),by unfold cJ;omega⟩)
    ·refine ae 9 (ow 0 7++ow 2 7) λ _=>aav (ow 2 7) [1] [] (qx r8.q r8.N r8.l false ⟨r8.e.t,r8.e.i,r8.e.k,r8.e.v⟩ r8.em rfl rfl (by omega) ⟨(l.getD 1 0),(l.getD 2 0),(r8.l.getD 3 0),(KpR.cx Xu),by unfold cJ;omega⟩)
theorem EW(l:List Int) (hS:SetIn F S) (hn:n=(sizeOf S).toNat) (hN:n<=N) (Wb:1<=S.nb/\1<=S.players) (X5:l.getD 1 0<0\/7<=l.getD 1 0) (hi:0<=l.getD 2 0/\l.getD 2 0<S.nb):aeo 134 #[vS q 0 n N,(Setup.v S)] (ap [(q,.rows 1 N (ak bD l) 3 (0,0))] []) F (λ u H'=>∃x:RfR,H'=ap [(x.q,.rows 1 x.N (ak bD x.l) 3 (0,0))] []/\(u=.agg #[vS x.q 0 n x.N,.bool x.en,vI x.e.t,vI x.e.i,vI x.e.k,vI x.e.v,.bool x.em]/\n<=x.N/\RefL S x.l)):=by
 have hp:=hS.pl;have WJ:=hS.nb;have Vg:=hS.room;have Va:=cz hS.toSetN;refine QS Tryz.func134 mn<|ah 18 ([.ix 2,.row 2 2 0]++ow 1 16) [(0+2*1)=2*1+0/\2<N,2=((2:Nat):Int)/\2<n] λ n1=>aal (cy (l.getD 2 0) hS.toSetN) ?_;have Ye:=du hS.toSetN (k:=l.getD 2 0) (by omega) (by omega);refine OU 4<|aan (σ:=List Int) (λ lc3=>⟨[(0,vS q 0 n N),(3,vP (n1+0) 0),(4,vP (n1+1) 0),(5,vI (l.getD 2 0))],[((n1+1),.lit [.slice none 0 0,.bool false,vI 0,vI 0,vI 0,vI 0,.bool false] 181 (0,0)),((n1+0),.lit (Setup.l S) 34 (0,0)),(q,.rows 1 N (ak bD lc3) 3 (0,0))],[],Cx lc3 (l.getD 1 0) (l.getD 2 0) (l.getD 3 0),0⟩) ?_ ?_
 ·intro W9;refine ah 9 [.nw,.ix (((af S (l.getD 2 0))+2).toNat),.row 2 (((af S (l.getD 2 0))+2).toNat) 0] [(0+(((af S (l.getD 2 0))+2).toNat)*1)=(((af S (l.getD 2 0))+2).toNat)*1+0/\(((af S (l.getD 2 0))+2).toNat)<N,(af S (l.getD 2 0))+2=((((af S (l.getD 2 0))+2).toNat:Nat):Int)/\((af S (l.getD 2 0))+2).toNat<n,aI ((af S (l.getD 2 0))+2)] λ _=>aaq (l.getD (((af S (l.getD 2 0))+2).toNat) 0=0) 20 (λ h6=>?_) λ h6=>?_
  ·refine ah 9 [.nw,.ix (((af S (l.getD 2 0))+3).toNat),.row 2 (((af S (l.getD 2 0))+3).toNat) 0] [(0+(((af S (l.getD 2 0))+3).toNat)*1)=(((af S (l.getD 2 0))+3).toNat)*1+0/\(((af S (l.getD 2 0))+3).toNat)<N,(af S (l.getD 2 0))+3=((((af S (l.getD 2 0))+3).toNat:Nat):Int)/\((af S (l.getD 2 0))+3).toNat<n,aI ((af S (l.getD 2 0))+3)] λ _=>aaq (l.getD (((af S (l.getD 2 0))+3).toNat) 0=0) 27 (λ h7=>?_) λ h7=>?_
   ·refine ah 15 [.nw,.nw,.ix (((af S (l.getD 2 0))+7).toNat),.row 2 (((af S (l.getD 2 0))+7).toNat) 0,.ix (((af S (l.getD 2 0))+7).toNat),.row 2 (((af S (l.getD 2 0))+7).toNat) 0] [(0+(((af S (l.getD 2 0))+7).toNat)*1)=(((af S (l.getD 2 0))+7).toNat)*1+0/\(((af S (l.getD 2 0))+7).toNat)<N,(af S (l.getD 2 0))+7=((((af S (l.getD 2 0))+7).toNat:Nat):Int)/\((af S (l.getD 2 0))+7).toNat<n,(0+(((af S (l.getD 2 0))+7).toNat)*1)=(((af S (l.getD 2 0))+7).toNat)*1+0/\(((af S (l.getD 2 0))+7).toNat)<N,(af S (l.getD 2 0))+7=((((af S (l.getD 2 0))+7).toNat:Nat):Int)/\((af S (l.getD 2 0))+7).toNat<n,aI ((af S (l.getD 2 0))+7),aI ((af S (l.getD 2 0))+7)] λ _=>aak 2 (ep N l (((af S (l.getD 2 0))+7).toNat) (if 1000<i64.wrap ((l.getD (((af S (l.getD 2 0))+7).toNat) 0)+1) then 1000 else i64.wrap ((l.getD (((af S (l.getD 2 0))+7).toNat) 0)+1)))<|W9 (al l (((af S (l.getD 2 0))+7).toNat) (if 1000<i64.wrap ((l.getD (((af S (l.getD 2 0))+7).toNat) 0)+1) then 1000 else i64.wrap ((l.getD (((af S (l.getD 2 0))+7).toNat) 0)+1))) [0,1,2] [] ?_
    try dsimp only
    exact(aad aac (by omega))
   ·refine ah 8 [.nw,.ix (((af S (l.getD 2 0))+7).toNat),.row 2 (((af S (l.getD 2 0))+7).toNat) 0] [(0+(((af S (l.getD 2 0))+7).toNat)*1)=(((af S (l.getD 2 0))+7).toNat)*1+0/\(((af S (l.getD 2 0))+7).toNat)<N,(af S (l.getD 2 0))+7=((((af S (l.getD 2 0))+7).toNat:Nat):Int)/\((af S (l.getD 2 0))+7).toNat<n,aI ((af S (l.getD 2 0))+7)] λ _=>aak 2 (ep N l (((af S (l.getD 2 0))+7).toNat) 0)<|W9 (al l (((af S (l.getD 2 0))+7).toNat) 0) [0,1,2] [] ?_
    try dsimp only
    exact(aad aac (by omega))
  ·refine ah 17 [.nw,.ix (((af S (l.getD 2 0))+7).toNat),.row 2 (((af S (l.getD 2 0))+7).toNat) 0] [(0+(((af S (l.getD 2 0))+7).toNat)*1)=(((af S (l.getD 2 0))+7).toNat)*1+0/\(((af S (l.getD 2 0))+7).toNat)<N,(af S (l.getD 2 0))+7=((((af S (l.getD 2 0))+7).toNat:Nat):Int)/\((af S (l.getD 2 0))+7).toNat<n,aI ((af S (l.getD 2 0))+7)] λ _=>aak 2 (ep N l (((af S (l.getD 2 0))+7).toNat) 0)<|W9 (al l (((af S (l.getD 2 0))+7).toNat) 0) [0,1,2] [] ?_
   try dsimp only
   exact(aad aac (by omega))
 ·rintro lc3 hc4;refine ah 12 [.nw,.ix 2,.row 2 2 0] [(0+2*1)=2*1+0/\2<N,2=((2:Nat):Int)/\2<n,aI ((l.getD 2 0)+1)] λ _=>aak 2 (ep N lc3 2 ((l.getD 2 0)+1))<|ah 9 [.nw,.o 1] [aI ((l.getD 2 0)+1)] λ _=>aaq ((l.getD 2 0)+1<(S.nb:Int)) 52 (λ h8=>?_) λ h8=>?_
  ·refine ae 8 (ow 0 7) λ _=>aav (ow 0 7) [2] [] (qx q N (al lc3 2 ((l.getD 2 0)+1)) false aL false rfl rfl (by omega) ⟨(l.getD 1 0),((l.getD 2 0)+1),(l.getD 3 0),(Cx.s2 hc4),by unfold cJ;omega⟩)
  ·refine ah 16 [.ix 0,.row 2 0 0,.ix 0,.row 2 0 0] [(0+0*1)=0*1+0/\0<N,0=((0:Nat):Int)/\0<n,(0+0*1)=0*1+0/\0<N,0=((0:Nat):Int)/\0<n] λ _=>aak 2 (ep N (al lc3 2 ((l.getD 2 0)+1)) 0 (i64.wrap (((al lc3 2 ((l.getD 2 0)+1)).getD 0 0)+1)))<|OU 5<|aat (σ:=Nat×List Int) (λ ⟨WO,lz_⟩=>⟨[(0,vS q 0 n N),(4,vP (n1+1) 0),(7,vI (WO:Int))],[((n1+1),.lit [.slice none 0 0,.bool false,vI 0,vI 0,vI 0,vI 0,.bool false] 181 (0,0)),((n1+0),.lit (Setup.l S) 34 (0,0)),(q,.rows 1 N (ak bD lz_) 3 (0,0))],[],1<=WO/\WO<=11/\∀a_:Nat,1<=a_->a_<WO->lz_.getD a_ 0=0,11-WO⟩) (1,(al (al lc3 2 ((l.getD 2 0)+1)) 0 (i64.wrap (((al lc3 2 ((l.getD 2 0)+1)).getD 0 0)+1)))) [0,1,2] [] (⟨by decide,by decide,λ a_ h1_ UJ=>by omega⟩) ?_;rintro⟨WO,lz_⟩ ⟨ai6,afG,Va⟩ YC;refine OU 7<|aaq ((WO:Int)<=10) 62 (λ IN=>?_) λ IN=>?_
   ·refine ah 13 [.ix WO,.row 2 WO 0] [(0+WO*1)=WO*1+0/\WO<N,(WO:Int)=((WO:Nat):Int)/\WO<n] λ _=>aak 2 (ep N lz_ WO 0)<|ah 5 [.nw] [aI ((WO:Int)+1)] λ _=>YC (WO+1,(al lz_ WO 0)) [0,1,2] [] ?_
    try dsimp only
    refine⟨⟨by omega,by omega,λ a_ h1_ UJ=>?_⟩,by omega⟩;rw[oY];split
    ·rfl
    ·exact Va a_ h1_ (by omega)
   ·refine ae 13 (ow 0 7) λ _=>aav (ow 0 7) [2] [] (qx q N lz_ true aL false rfl rfl (by omega) ⟨0,0,0,⟨Va 1 (by omega) (by omega),Va 2 (by omega) (by omega),Va 3 (by omega) (by omega)⟩,by unfold cJ;omega⟩)
end
end Go.Proofs.YtogafelgppjklaaGreatDoor
