import Derived.Test.YtgdcbiiopbpgaaaGreatDoorY04
import Derived.Test.YtgdcbiiopbpgaaaGreatDoorY03
set_option maxHeartbeats 4000000
set_option maxRecDepth 100000
set_option linter.unusedSimpArgs false
set_option linter.unusedVariables false
namespace Go.Proofs.YtgdcbiiopbpgaaaGreatDoor
open IntKind
open Go.RowKit
def VR.z(r:VR):VR:=⟨r.M,0,r.e,r.em⟩
abbrev Stp.f(t:Stp):Eff:=⟨t.f0,t.f1,t.f2,t.f3⟩
def Stp.upd(t:Stp)(r:VR):Stp:={ t with f0:=r.e.t,f1:=r.e.i,f2:=r.e.k,f3:=r.e.v,emitted:=r.em }
def eR(e:Int)(t:Stp)(self other:Int)(M:MemS):VR:=if t.j=0 then (if e<0 then ⟨aM e t.S.fuel self other M,0,t.f,t.emitted⟩ else ⟨(aM e t.S.fuel self other M).set 3 1,0,t.f,t.emitted⟩) else ⟨(ak t.S t.code t.cn M).M,0,(ak t.S t.code t.cn M).e,(ak t.S t.code t.cn M).em⟩
def du(e:Int)(t:Stp)(self other:Int)(M:MemS):Bool:=if t.j=0 then decide (e<0) else bx t.code t.cn M
abbrev b8(t:Stp)(a b:Int)(M:MemS):VR:=eR t.e0 t a b M
abbrev di(t:Stp)(a b:Int)(M:MemS):VR:=eR t.e1 t a b M
abbrev b9(t:Stp)(a b:Int)(M:MemS):VR:=eR t.e2 t a b M
abbrev jM(t:Stp)(a b:Int)(M:MemS):Bool:=du t.e0 t a b M
abbrev jY(t:Stp)(a b:Int)(M:MemS):Bool:=du t.e1 t a b M
abbrev jN(t:Stp)(a b:Int)(M:MemS):Bool:=du t.e2 t a b M
def dH(r:VR)(over:Bool)(t:Stp)(Sb:Bool)(M:MemS):VR:=if t.j=0 then (if Sb=true then (if over=true then ⟨r.M.set 2 (bg (t.i+1)),0,r.e,r.em⟩ else ⟨r.M,0,r.e,r.em⟩) else ⟨M.set 2 (bg (t.i+1)),0,t.f,t.emitted⟩) else (if over=true then ⟨(r.M.set 3 0).set 2 (bg (t.i+1)),0,r.e,r.em⟩ else ⟨r.M,0,r.e,r.em⟩)
abbrev cS(t:Stp)(b:Int)(c:Bool)(M:MemS):VR:=dH (b8 t t.i b M) (jM t t.i b M) t c M
abbrev cT(t:Stp)(b:Int)(c:Bool)(M:MemS):VR:=dH (b9 t t.i b M) (jN t t.i b M) t c M
def fi(t:Stp)(M:MemS):VR:=if ah t.S t.i<0 then ⟨aL t 2 0 M,0,t.f,t.emitted⟩ else (cS t (M.get (ah t.S t.i+2)) (!decide (M.get (ah t.S t.i+2)=0)) M).z
def cY(t:Stp)(M:MemS):VR:=if jY t 0 0 M=true then ⟨aL t 3 0 (di t 0 0 M).M,0,(di t 0 0 M).e,(di t 0 0 M).em⟩ else ⟨(di t 0 0 M).M,0,(di t 0 0 M).e,(di t 0 0 M).em⟩
def fj(t:Stp)(M:MemS):VR:=if af t.S t.i<0 then ⟨aL t 7 0 M,0,t.f,t.emitted⟩ else (cT t (bg (M.get (af t.S t.i+6)-1)) (!decide (M.get (af t.S t.i+6)=0)) M).z
theorem FD(t:Stp)(a:Int)(b:Int)(tb mb:Nat)(M:MemS)(k:Nat)(T F:HL)(hM:MemH mb M (k+6) T)(hS:SetIn F t.S)(hE:dh F)(hC:CodeIn F t.code t.cA t.cn) :Sp Tryz.prog 186 #[vP tb 0,vI 0,vI a,vI b] (ap [(tb,.lit (Stp.l t mb) 275 (0,0))] [T]) F (λ u H'=>∃x,H'=ap [(tb,.lit ((Stp.lp t mb)++[vI ((b8 t a b M).e.t),vI ((b8 t a b M).e.i),vI ((b8 t a b M).e.k),vI ((b8 t a b M).e.v),.bool ((b8 t a b M).em)]) 275 (0,0))] [x] /\ (MemH mb (b8 t a b M).M k x /\ u=.bool (jM t a b M))):=by
 have hp:=hS.pl
 have hn:=hS.nb
 have hr:=hS.room
 refine Sp.run Tryz.func186 rfl (mc hS.blk mn) (A:=[(tb,.lit (Stp.l t mb) 275 (0,0))]) (Ts:=[T]) rfl λ w0=>?_
 refine ae 15 [.own 0] λ _=>RN.em (t.j=0) 16 (λ h1=>?_) λ h1=>?_
 ·refine ae 3 [] λ _=>RN.draw [16] []<|ag [] [0,4,8,9,10,11,1,5,12,2,6,13,3,7,14,15] (ow 0 6)<|RD.one 16 (RDO.ct [] [] [0] (Fy mb M (k+1) T t.cA t.cn t.cc t.e0 t.e1 t.e2 a b t.S.fuel _ hM) ?_)
  rintro _ T2 ⟨Sl,rfl⟩
  refine ag [] [17] []<|RD.fin<|ae 1 [] λ _=>?_
  rcases Decidable.em (t.e0<0) with h4|h4
  ·refine cH 34 (nf (nt (decide_eq_true h4)))<|ae 6 [] λ _=>RN.ret [] [0] [0] (v:=.bool true) (H':=(ap [(tb,.lit (Stp.l t mb) 275 (0,0))] [T2])) ?_
   have e:(b8 t a b M)=⟨(aM t.e0 t.S.fuel a b M),0,⟨t.f0,t.f1,t.f2,t.f3⟩,t.emitted⟩:=by
    first|(simp only[b8,eR,if_pos h1,if_pos h4];try rfl;done)|rfl
   have er:(jM t a b M)=true:=by
    first|(simp only[jM,du,if_pos h1,if_pos h4];done)|(simp only[jM,du,if_pos h1,if_pos h4];simp[*];done)|(simp only[jM,du,if_pos h1,if_pos h4];rfl)
   refine⟨T2,by rw[e] <;> rfl,?_,by rw[er]⟩
   rw[e]
   exact Sl.weak (by omega)
  ·refine cH 34 (nt (nf (decide_eq_false h4)))<|ae 9 [.own 0] λ _=>RN.ct [] [0] (aj 3 1 Sl) ?_
   rintro _ T5 RL
   refine ae 7 [] λ _=>RN.ret [] [0] [0] (v:=.bool false) (H':=(ap [(tb,.lit (Stp.l t mb) 275 (0,0))] [T5])) ?_
   have e:(b8 t a b M)=⟨((aM t.e0 t.S.fuel a b M).set 3 1),0,⟨t.f0,t.f1,t.f2,t.f3⟩,t.emitted⟩:=by
    first|(simp only[b8,eR,if_pos h1,if_neg h4];try rfl;done)|rfl
   have er:(jM t a b M)=false:=by
    first|(simp only[jM,du,if_pos h1,if_neg h4];done)|(simp only[jM,du,if_pos h1,if_neg h4];simp[*];done)|(simp only[jM,du,if_pos h1,if_neg h4];rfl)
   refine⟨T5,by rw[e] <;> rfl,?_,by rw[er]⟩
   rw[e]
   exact RL.weak (by omega)
 ·refine ae 4 [] λ _=>RN.draw [12,19] []<|ag [] [0,4,8,1,5,9,2,6,10,3,7,11] (ow 0 21)<|fQ 12 17 ?_ ?_
  ·refine RDO.ct [] [] [0] (iG mb M k T t.S t.code t.cA t.cn t.cc t.e0 t.e1 t.e2 _ hM hS.toSetN (aq hE) hC.up) ?_
   rintro _ T7 ⟨Sw,rfl⟩
   refine ag [] [13,14,15,16] []<|RD.one 17 (RDO.ev [] [] λ n9=>?_)
   refine ag [] [18] []<|RD.one 19 (RDO.ev [] [.own 0,.own 0,.own 0,.own 0] λ _=>?_)
   refine ag [] [20] []<|RD.fin<|ae 21 ([.own 0,.own 0,.own 0,.own 0]++ow 1 5) λ _=>RN.ret [] [1] [0] (v:=.bool (bx t.code t.cn M)) (H':=(ap [(tb,.lit ((Stp.lp t mb)++[vI ((ak t.S t.code t.cn M).e.t),vI ((ak t.S t.code t.cn M).e.i),vI ((ak t.S t.code t.cn M).e.k),vI ((ak t.S t.code t.cn M).e.v),.bool ((ak t.S t.code t.cn M).em)]) 275 (0,0))] [T7])) ?_
   have e:(b8 t a b M)=⟨(ak t.S t.code t.cn M).M,0,⟨(ak t.S t.code t.cn M).e.t,(ak t.S t.code t.cn M).e.i,(ak t.S t.code t.cn M).e.k,(ak t.S t.code t.cn M).e.v⟩,(ak t.S t.code t.cn M).em⟩:=by
    first|(simp only[b8,eR,if_neg h1];try rfl;done)|rfl
   have er:(jM t a b M)=bx t.code t.cn M:=by
    first|(simp only[jM,du,if_neg h1];done)|(simp only[jM,du,if_neg h1];simp[*];done)|(simp only[jM,du,if_neg h1];rfl)
   refine⟨T7,by rw[e] <;> rfl,?_,by rw[er]⟩
   rw[e]
   exact Sw.weak (by omega)
  ·refine RDO.ev [] [] λ Sg=>RD.one 12 (RDO.ct [] [] [0] (iG mb M k T t.S t.code t.cA t.cn t.cc t.e0 t.e1 t.e2 _ hM hS.toSetN (aq hE) hC.up) ?_)
   rintro _ Of ⟨Q6,rfl⟩
   refine ag [] [13,14,15,16,18] []<|RD.one 19 (RDO.ev [] [.own 0,.own 0,.own 0,.own 0] λ _=>?_)
   refine ag [] [20] []<|RD.fin<|ae 21 ([.own 0,.own 0,.own 0,.own 0]++ow 1 5) λ _=>RN.ret [] [1] [0] (v:=.bool (bx t.code t.cn M)) (H':=(ap [(tb,.lit ((Stp.lp t mb)++[vI ((ak t.S t.code t.cn M).e.t),vI ((ak t.S t.code t.cn M).e.i),vI ((ak t.S t.code t.cn M).e.k),vI ((ak t.S t.code t.cn M).e.v),.bool ((ak t.S t.code t.cn M).em)]) 275 (0,0))] [Of])) ?_
   have e:(b8 t a b M)=⟨(ak t.S t.code t.cn M).M,0,⟨(ak t.S t.code t.cn M).e.t,(ak t.S t.code t.cn M).e.i,(ak t.S t.code t.cn M).e.k,(ak t.S t.code t.cn M).e.v⟩,(ak t.S t.code t.cn M).em⟩:=by
    first|(simp only[b8,eR,if_neg h1];try rfl;done)|rfl
   have er:(jM t a b M)=bx t.code t.cn M:=by
    first|(simp only[jM,du,if_neg h1];done)|(simp only[jM,du,if_neg h1];simp[*];done)|(simp only[jM,du,if_neg h1];rfl)
   refine⟨Of,by rw[e] <;> rfl,?_,by rw[er]⟩
   rw[e]
   exact Q6.weak (by omega)
theorem MA(t:Stp)(a:Int)(b:Int)(tb mb:Nat)(M:MemS)(k:Nat)(T F:HL)(hM:MemH mb M (k+6) T)(hS:SetIn F t.S)(hE:dh F)(hC:CodeIn F t.code t.cA t.cn) :Sp Tryz.prog 186 #[vP tb 0,vI 1,vI a,vI b] (ap [(tb,.lit (Stp.l t mb) 275 (0,0))] [T]) F (λ u H'=>∃x,H'=ap [(tb,.lit ((Stp.lp t mb)++[vI ((di t a b M).e.t),vI ((di t a b M).e.i),vI ((di t a b M).e.k),vI ((di t a b M).e.v),.bool ((di t a b M).em)]) 275 (0,0))] [x] /\ (MemH mb (di t a b M).M k x /\ u=.bool (jY t a b M))):=by
 have hp:=hS.pl
 have hn:=hS.nb
 have hr:=hS.room
 refine Sp.run Tryz.func186 rfl (mc hS.blk mn) (A:=[(tb,.lit (Stp.l t mb) 275 (0,0))]) (Ts:=[T]) rfl λ w0=>?_
 refine ae 15 [.own 0] λ _=>RN.em (t.j=0) 16 (λ h1=>?_) λ h1=>?_
 ·refine ae 3 [] λ _=>RN.draw [16] []<|ag [] [0,4,8,9,10,11,1,5,12,2,6,13,3,7,14,15] (ow 0 6)<|RD.one 16 (RDO.ct [] [] [0] (Fz mb M (k+1) T t.cA t.cn t.cc t.e0 t.e1 t.e2 a b t.S.fuel _ hM) ?_)
  rintro _ T2 ⟨Sl,rfl⟩
  refine ag [] [17] []<|RD.fin<|ae 1 [] λ _=>?_
  rcases Decidable.em (t.e1<0) with h4|h4
  ·refine cH 34 (nf (nt (decide_eq_true h4)))<|ae 6 [] λ _=>RN.ret [] [0] [0] (v:=.bool true) (H':=(ap [(tb,.lit (Stp.l t mb) 275 (0,0))] [T2])) ?_
   have e:(di t a b M)=⟨(aM t.e1 t.S.fuel a b M),0,⟨t.f0,t.f1,t.f2,t.f3⟩,t.emitted⟩:=by
    first|(simp only[di,eR,if_pos h1,if_pos h4];try rfl;done)|rfl
   have er:(jY t a b M)=true:=by
    first|(simp only[jY,du,if_pos h1,if_pos h4];done)|(simp only[jY,du,if_pos h1,if_pos h4];simp[*];done)|(simp only[jY,du,if_pos h1,if_pos h4];rfl)
   refine⟨T2,by rw[e] <;> rfl,?_,by rw[er]⟩
   rw[e]
   exact Sl.weak (by omega)
  ·refine cH 34 (nt (nf (decide_eq_false h4)))<|ae 9 [.own 0] λ _=>RN.ct [] [0] (aj 3 1 Sl) ?_
   rintro _ T5 RL
   refine ae 7 [] λ _=>RN.ret [] [0] [0] (v:=.bool false) (H':=(ap [(tb,.lit (Stp.l t mb) 275 (0,0))] [T5])) ?_
   have e:(di t a b M)=⟨((aM t.e1 t.S.fuel a b M).set 3 1),0,⟨t.f0,t.f1,t.f2,t.f3⟩,t.emitted⟩:=by
    first|(simp only[di,eR,if_pos h1,if_neg h4];try rfl;done)|rfl
   have er:(jY t a b M)=false:=by
    first|(simp only[jY,du,if_pos h1,if_neg h4];done)|(simp only[jY,du,if_pos h1,if_neg h4];simp[*];done)|(simp only[jY,du,if_pos h1,if_neg h4];rfl)
   refine⟨T5,by rw[e] <;> rfl,?_,by rw[er]⟩
   rw[e]
   exact RL.weak (by omega)
 ·refine ae 4 [] λ _=>RN.draw [12,19] []<|ag [] [0,4,8,1,5,9,2,6,10,3,7,11] (ow 0 21)<|fQ 12 17 ?_ ?_
  ·refine RDO.ct [] [] [0] (iG mb M k T t.S t.code t.cA t.cn t.cc t.e0 t.e1 t.e2 _ hM hS.toSetN (aq hE) hC.up) ?_
   rintro _ T7 ⟨Sw,rfl⟩
   refine ag [] [13,14,15,16] []<|RD.one 17 (RDO.ev [] [] λ n9=>?_)
   refine ag [] [18] []<|RD.one 19 (RDO.ev [] [.own 0,.own 0,.own 0,.own 0] λ _=>?_)
   refine ag [] [20] []<|RD.fin<|ae 21 ([.own 0,.own 0,.own 0,.own 0]++ow 1 5) λ _=>RN.ret [] [1] [0] (v:=.bool (bx t.code t.cn M)) (H':=(ap [(tb,.lit ((Stp.lp t mb)++[vI ((ak t.S t.code t.cn M).e.t),vI ((ak t.S t.code t.cn M).e.i),vI ((ak t.S t.code t.cn M).e.k),vI ((ak t.S t.code t.cn M).e.v),.bool ((ak t.S t.code t.cn M).em)]) 275 (0,0))] [T7])) ?_
   have e:(di t a b M)=⟨(ak t.S t.code t.cn M).M,0,⟨(ak t.S t.code t.cn M).e.t,(ak t.S t.code t.cn M).e.i,(ak t.S t.code t.cn M).e.k,(ak t.S t.code t.cn M).e.v⟩,(ak t.S t.code t.cn M).em⟩:=by
    first|(simp only[di,eR,if_neg h1];try rfl;done)|rfl
   have er:(jY t a b M)=bx t.code t.cn M:=by
    first|(simp only[jY,du,if_neg h1];done)|(simp only[jY,du,if_neg h1];simp[*];done)|(simp only[jY,du,if_neg h1];rfl)
   refine⟨T7,by rw[e] <;> rfl,?_,by rw[er]⟩
   rw[e]
   exact Sw.weak (by omega)
  ·refine RDO.ev [] [] λ Sg=>RD.one 12 (RDO.ct [] [] [0] (iG mb M k T t.S t.code t.cA t.cn t.cc t.e0 t.e1 t.e2 _ hM hS.toSetN (aq hE) hC.up) ?_)
   rintro _ Of ⟨Q6,rfl⟩
   refine ag [] [13,14,15,16,18] []<|RD.one 19 (RDO.ev [] [.own 0,.own 0,.own 0,.own 0] λ _=>?_)
   refine ag [] [20] []<|RD.fin<|ae 21 ([.own 0,.own 0,.own 0,.own 0]++ow 1 5) λ _=>RN.ret [] [1] [0] (v:=.bool (bx t.code t.cn M)) (H':=(ap [(tb,.lit ((Stp.lp t mb)++[vI ((ak t.S t.code t.cn M).e.t),vI ((ak t.S t.code t.cn M).e.i),vI ((ak t.S t.code t.cn M).e.k),vI ((ak t.S t.code t.cn M).e.v),.bool ((ak t.S t.code t.cn M).em)]) 275 (0,0))] [Of])) ?_
   have e:(di t a b M)=⟨(ak t.S t.code t.cn M).M,0,⟨(ak t.S t.code t.cn M).e.t,(ak t.S t.code t.cn M).e.i,(ak t.S t.code t.cn M).e.k,(ak t.S t.code t.cn M).e.v⟩,(ak t.S t.code t.cn M).em⟩:=by
    first|(simp only[di,eR,if_neg h1];try rfl;done)|rfl
   have er:(jY t a b M)=bx t.code t.cn M:=by
    first|(simp only[jY,du,if_neg h1];done)|(simp only[jY,du,if_neg h1];simp[*];done)|(simp only[jY,du,if_neg h1];rfl)
   refine⟨Of,by rw[e] <;> rfl,?_,by rw[er]⟩
   rw[e]
   exact Q6.weak (by omega)
theorem FF(t:Stp)(a:Int)(b:Int)(tb mb:Nat)(M:MemS)(k:Nat)(T F:HL)(hM:MemH mb M (k+6) T)(hS:SetIn F t.S)(hE:dh F)(hC:CodeIn F t.code t.cA t.cn) :Sp Tryz.prog 186 #[vP tb 0,vI 2,vI a,vI b] (ap [(tb,.lit (Stp.l t mb) 275 (0,0))] [T]) F (λ u H'=>∃x,H'=ap [(tb,.lit ((Stp.lp t mb)++[vI ((b9 t a b M).e.t),vI ((b9 t a b M).e.i),vI ((b9 t a b M).e.k),vI ((b9 t a b M).e.v),.bool ((b9 t a b M).em)]) 275 (0,0))] [x] /\ (MemH mb (b9 t a b M).M k x /\ u=.bool (jN t a b M))):=by
 have hp:=hS.pl
 have hn:=hS.nb
 have hr:=hS.room
 refine Sp.run Tryz.func186 rfl (mc hS.blk mn) (A:=[(tb,.lit (Stp.l t mb) 275 (0,0))]) (Ts:=[T]) rfl λ w0=>?_
 refine ae 15 [.own 0] λ _=>RN.em (t.j=0) 16 (λ h1=>?_) λ h1=>?_
 ·refine ae 3 [] λ _=>RN.draw [16] []<|ag [] [0,4,8,9,10,11,1,5,12,2,6,13,3,7,14,15] (ow 0 6)<|RD.one 16 (RDO.ct [] [] [0] (FB mb M (k+1) T t.cA t.cn t.cc t.e0 t.e1 t.e2 a b t.S.fuel _ hM) ?_)
  rintro _ T2 ⟨Sl,rfl⟩
  refine ag [] [17] []<|RD.fin<|ae 1 [] λ _=>?_
  rcases Decidable.em (t.e2<0) with h4|h4
  ·refine cH 34 (nf (nt (decide_eq_true h4)))<|ae 6 [] λ _=>RN.ret [] [0] [0] (v:=.bool true) (H':=(ap [(tb,.lit (Stp.l t mb) 275 (0,0))] [T2])) ?_
   have e:(b9 t a b M)=⟨(aM t.e2 t.S.fuel a b M),0,⟨t.f0,t.f1,t.f2,t.f3⟩,t.emitted⟩:=by
    first|(simp only[b9,eR,if_pos h1,if_pos h4];try rfl;done)|rfl
   have er:(jN t a b M)=true:=by
    first|(simp only[jN,du,if_pos h1,if_pos h4];done)|(simp only[jN,du,if_pos h1,if_pos h4];simp[*];done)|(simp only[jN,du,if_pos h1,if_pos h4];rfl)
   refine⟨T2,by rw[e] <;> rfl,?_,by rw[er]⟩
   rw[e]
   exact Sl.weak (by omega)
  ·refine cH 34 (nt (nf (decide_eq_false h4)))<|ae 9 [.own 0] λ _=>RN.ct [] [0] (aj 3 1 Sl) ?_
   rintro _ T5 RL
   refine ae 7 [] λ _=>RN.ret [] [0] [0] (v:=.bool false) (H':=(ap [(tb,.lit (Stp.l t mb) 275 (0,0))] [T5])) ?_
   have e:(b9 t a b M)=⟨((aM t.e2 t.S.fuel a b M).set 3 1),0,⟨t.f0,t.f1,t.f2,t.f3⟩,t.emitted⟩:=by
    first|(simp only[b9,eR,if_pos h1,if_neg h4];try rfl;done)|rfl
   have er:(jN t a b M)=false:=by
    first|(simp only[jN,du,if_pos h1,if_neg h4];done)|(simp only[jN,du,if_pos h1,if_neg h4];simp[*];done)|(simp only[jN,du,if_pos h1,if_neg h4];rfl)
   refine⟨T5,by rw[e] <;> rfl,?_,by rw[er]⟩
   rw[e]
   exact RL.weak (by omega)
 ·refine ae 4 [] λ _=>RN.draw [12,19] []<|ag [] [0,4,8,1,5,9,2,6,10,3,7,11] (ow 0 21)<|fQ 12 17 ?_ ?_
  ·refine RDO.ct [] [] [0] (iG mb M k T t.S t.code t.cA t.cn t.cc t.e0 t.e1 t.e2 _ hM hS.toSetN (aq hE) hC.up) ?_
   rintro _ T7 ⟨Sw,rfl⟩
   refine ag [] [13,14,15,16] []<|RD.one 17 (RDO.ev [] [] λ n9=>?_)
   refine ag [] [18] []<|RD.one 19 (RDO.ev [] [.own 0,.own 0,.own 0,.own 0] λ _=>?_)
   refine ag [] [20] []<|RD.fin<|ae 21 ([.own 0,.own 0,.own 0,.own 0]++ow 1 5) λ _=>RN.ret [] [1] [0] (v:=.bool (bx t.code t.cn M)) (H':=(ap [(tb,.lit ((Stp.lp t mb)++[vI ((ak t.S t.code t.cn M).e.t),vI ((ak t.S t.code t.cn M).e.i),vI ((ak t.S t.code t.cn M).e.k),vI ((ak t.S t.code t.cn M).e.v),.bool ((ak t.S t.code t.cn M).em)]) 275 (0,0))] [T7])) ?_
   have e:(b9 t a b M)=⟨(ak t.S t.code t.cn M).M,0,⟨(ak t.S t.code t.cn M).e.t,(ak t.S t.code t.cn M).e.i,(ak t.S t.code t.cn M).e.k,(ak t.S t.code t.cn M).e.v⟩,(ak t.S t.code t.cn M).em⟩:=by
    first|(simp only[b9,eR,if_neg h1];try rfl;done)|rfl
   have er:(jN t a b M)=bx t.code t.cn M:=by
    first|(simp only[jN,du,if_neg h1];done)|(simp only[jN,du,if_neg h1];simp[*];done)|(simp only[jN,du,if_neg h1];rfl)
   refine⟨T7,by rw[e] <;> rfl,?_,by rw[er]⟩
   rw[e]
   exact Sw.weak (by omega)
  ·refine RDO.ev [] [] λ Sg=>RD.one 12 (RDO.ct [] [] [0] (iG mb M k T t.S t.code t.cA t.cn t.cc t.e0 t.e1 t.e2 _ hM hS.toSetN (aq hE) hC.up) ?_)
   rintro _ Of ⟨Q6,rfl⟩
   refine ag [] [13,14,15,16,18] []<|RD.one 19 (RDO.ev [] [.own 0,.own 0,.own 0,.own 0] λ _=>?_)
   refine ag [] [20] []<|RD.fin<|ae 21 ([.own 0,.own 0,.own 0,.own 0]++ow 1 5) λ _=>RN.ret [] [1] [0] (v:=.bool (bx t.code t.cn M)) (H':=(ap [(tb,.lit ((Stp.lp t mb)++[vI ((ak t.S t.code t.cn M).e.t),vI ((ak t.S t.code t.cn M).e.i),vI ((ak t.S t.code t.cn M).e.k),vI ((ak t.S t.code t.cn M).e.v),.bool ((ak t.S t.code t.cn M).em)]) 275 (0,0))] [Of])) ?_
   have e:(b9 t a b M)=⟨(ak t.S t.code t.cn M).M,0,⟨(ak t.S t.code t.cn M).e.t,(ak t.S t.code t.cn M).e.i,(ak t.S t.code t.cn M).e.k,(ak t.S t.code t.cn M).e.v⟩,(ak t.S t.code t.cn M).em⟩:=by
    first|(simp only[b9,eR,if_neg h1];try rfl;done)|rfl
   have er:(jN t a b M)=bx t.code t.cn M:=by
    first|(simp only[jN,du,if_neg h1];done)|(simp only[jN,du,if_neg h1];simp[*];done)|(simp only[jN,du,if_neg h1];rfl)
   refine⟨Of,by rw[e] <;> rfl,?_,by rw[er]⟩
   rw[e]
   exact Q6.weak (by omega)
theorem JK(t:Stp)(b:Int)(c:Bool)(tb mb:Nat)(M:MemS)(k:Nat)(T F:HL)(hM:MemH mb M (k+8) T)(hS:SetIn F t.S)(hE:dh F)(hC:CodeIn F t.code t.cA t.cn) :Sp Tryz.prog 185 #[vP tb 0,vI 0,vI b,.bool c] (ap [(tb,.lit (Stp.l t mb) 275 (0,0))] [T]) F (λ u H'=>∃x,H'=ap [(tb,.lit ((Stp.lp t mb)++[vI ((cS t b c M).e.t),vI ((cS t b c M).e.i),vI ((cS t b c M).e.k),vI ((cS t b c M).e.v),.bool ((cS t b c M).em)]) 275 (0,0))] [x] /\ (MemH mb (cS t b c M).M k x)):=by
 have hp:=hS.pl
 have hn:=hS.nb
 have hr:=hS.room
 refine Sp.run Tryz.func185 rfl (mc hS.blk mn) (A:=[(tb,.lit (Stp.l t mb) 275 (0,0))]) (Ts:=[T]) rfl λ w0=>?_
 refine ae 8 [.own 0] λ _=>RN.em (t.j=0) 13 (λ h1=>?_) λ h1=>?_
 ·refine ae 5 [] λ _=>tq (c) 16 (λ h2=>?_) λ h2=>?_
  ·refine ae 10 [.own 0] λ _=>RN.ct [0] [0] (FD t t.i b tb mb M (k+2) T _ hM hS.up (aq hE) hC.up) ?_
   rintro _ T3 ⟨L_,rfl⟩
   refine ae 2 [] λ _=>jo (jM t t.i b M) 36 (λ h5=>?_) λ h5=>?_
   ·refine ae 11 [.own 0] λ _=>cH 41 (nt (decide_eq_true h1))<|ae 3 [] λ _=>RN.draw [11] []<|ag [] [0,4,1,5,2,6,3,7,8,9,10] [.own 0,.own 0]<|RD.one 11 (RDO.ct [] [] [0] (aj 2 (i64.wrap (t.i+1)) L_) ?_)
    rintro _ T6 WW
    refine RD.fin<|RN.ret [] [0] [0] (v:=.tuple #[]) (H':=(ap [(tb,.lit ((Stp.lp t mb)++[vI ((b8 t t.i b M).e.t),vI ((b8 t t.i b M).e.i),vI ((b8 t t.i b M).e.k),vI ((b8 t t.i b M).e.v),.bool ((b8 t t.i b M).em)]) 275 (0,0))] [T6])) ?_
    have e:(cS t b c M)=⟨(((b8 t t.i b M).M).set 2 (i64.wrap (t.i+1))),0,⟨(b8 t t.i b M).e.t,(b8 t t.i b M).e.i,(b8 t t.i b M).e.k,(b8 t t.i b M).e.v⟩,(b8 t t.i b M).em⟩:=by
     first|(simp only[cS,dH,if_pos h1,if_pos h2,if_pos h5];try rfl;done)|rfl
    refine⟨T6,by rw[e] <;> rfl,?_⟩
    rw[e]
    exact WW.weak (by omega)
   ·refine ae 2 [] λ _=>RN.ret [] [0] [0] (v:=.tuple #[]) (H':=(ap [(tb,.lit ((Stp.lp t mb)++[vI ((b8 t t.i b M).e.t),vI ((b8 t t.i b M).e.i),vI ((b8 t t.i b M).e.k),vI ((b8 t t.i b M).e.v),.bool ((b8 t t.i b M).em)]) 275 (0,0))] [T3])) ?_
    have e:(cS t b c M)=⟨(b8 t t.i b M).M,0,⟨(b8 t t.i b M).e.t,(b8 t t.i b M).e.i,(b8 t t.i b M).e.k,(b8 t t.i b M).e.v⟩,(b8 t t.i b M).em⟩:=by
     first|(simp only[cS,dH,if_pos h1,if_pos h2,if_neg h5];try rfl;done)|rfl
    refine⟨T3,by rw[e] <;> rfl,?_⟩
    rw[e]
    exact L_.weak (by omega)
  ·refine ae 1 [] λ _=>RN.draw [11] []<|ag [] [0,4,1,5,2,6,3,7,8,9,10] [.own 0,.own 0]<|RD.one 11 (RDO.ct [] [] [0] (aj 2 (i64.wrap (t.i+1)) hM) ?_)
   rintro _ T8 UJ
   refine RD.fin<|RN.ret [] [0] [0] (v:=.tuple #[]) (H':=(ap [(tb,.lit (Stp.l t mb) 275 (0,0))] [T8])) ?_
   have e:(cS t b c M)=⟨(M.set 2 (i64.wrap (t.i+1))),0,⟨t.f0,t.f1,t.f2,t.f3⟩,t.emitted⟩:=by
    first|(simp only[cS,dH,if_pos h1,if_neg h2];try rfl;done)|rfl
   refine⟨T8,by rw[e] <;> rfl,?_⟩
   rw[e]
   exact UJ.weak (by omega)
 ·refine ae 15 [.own 0] λ _=>RN.ct [0] [0] (FD t t.i b tb mb M (k+2) T _ hM hS.up (aq hE) hC.up) ?_
  rintro _ TG ⟨RC,rfl⟩
  refine ae 2 [] λ _=>jo (jM t t.i b M) 36 (λ RE=>?_) λ RE=>?_
  ·refine ae 11 [.own 0] λ _=>cH 41 (nf (decide_eq_false h1))<|ae 6 [.own 0] λ _=>RN.ct [] [0] (aj 3 0 RC) ?_
   rintro _ To So
   refine ae 2 [] λ _=>RN.draw [11] []<|ag [] [0,4,1,5,2,6,3,7,8,9,10] [.own 0,.own 0]<|RD.one 11 (RDO.ct [] [] [0] (aj 2 (i64.wrap (t.i+1)) So) ?_)
   rintro _ Sz Sn
   refine RD.fin<|RN.ret [] [0] [0] (v:=.tuple #[]) (H':=(ap [(tb,.lit ((Stp.lp t mb)++[vI ((b8 t t.i b M).e.t),vI ((b8 t t.i b M).e.i),vI ((b8 t t.i b M).e.k),vI ((b8 t t.i b M).e.v),.bool ((b8 t t.i b M).em)]) 275 (0,0))] [Sz])) ?_
   have e:(cS t b c M)=⟨((((b8 t t.i b M).M).set 3 0).set 2 (i64.wrap (t.i+1))),0,⟨(b8 t t.i b M).e.t,(b8 t t.i b M).e.i,(b8 t t.i b M).e.k,(b8 t t.i b M).e.v⟩,(b8 t t.i b M).em⟩:=by
    first|(simp only[cS,dH,if_neg h1,if_pos RE];try rfl;done)|rfl
   refine⟨Sz,by rw[e] <;> rfl,?_⟩
   rw[e]
   exact Sn.weak (by omega)
  ·refine ae 2 [] λ _=>RN.ret [] [0] [0] (v:=.tuple #[]) (H':=(ap [(tb,.lit ((Stp.lp t mb)++[vI ((b8 t t.i b M).e.t),vI ((b8 t t.i b M).e.i),vI ((b8 t t.i b M).e.k),vI ((b8 t t.i b M).e.v),.bool ((b8 t t.i b M).em)]) 275 (0,0))] [TG])) ?_
   have e:(cS t b c M)=⟨(b8 t t.i b M).M,0,⟨(b8 t t.i b M).e.t,(b8 t t.i b M).e.i,(b8 t t.i b M).e.k,(b8 t t.i b M).e.v⟩,(b8 t t.i b M).em⟩:=by
    first|(simp only[cS,dH,if_neg h1,if_neg RE];try rfl;done)|rfl
   refine⟨TG,by rw[e] <;> rfl,?_⟩
   rw[e]
   exact RC.weak (by omega)
theorem JL(t:Stp)(b:Int)(c:Bool)(tb mb:Nat)(M:MemS)(k:Nat)(T F:HL)(hM:MemH mb M (k+8) T)(hS:SetIn F t.S)(hE:dh F)(hC:CodeIn F t.code t.cA t.cn) :Sp Tryz.prog 185 #[vP tb 0,vI 2,vI b,.bool c] (ap [(tb,.lit (Stp.l t mb) 275 (0,0))] [T]) F (λ u H'=>∃x,H'=ap [(tb,.lit ((Stp.lp t mb)++[vI ((cT t b c M).e.t),vI ((cT t b c M).e.i),vI ((cT t b c M).e.k),vI ((cT t b c M).e.v),.bool ((cT t b c M).em)]) 275 (0,0))] [x] /\ (MemH mb (cT t b c M).M k x)):=by
 have hp:=hS.pl
 have hn:=hS.nb
 have hr:=hS.room
 refine Sp.run Tryz.func185 rfl (mc hS.blk mn) (A:=[(tb,.lit (Stp.l t mb) 275 (0,0))]) (Ts:=[T]) rfl λ w0=>?_
 refine ae 8 [.own 0] λ _=>RN.em (t.j=0) 13 (λ h1=>?_) λ h1=>?_
 ·refine ae 5 [] λ _=>tq (c) 16 (λ h2=>?_) λ h2=>?_
  ·refine ae 10 [.own 0] λ _=>RN.ct [0] [0] (FF t t.i b tb mb M (k+2) T _ hM hS.up (aq hE) hC.up) ?_
   rintro _ T3 ⟨L_,rfl⟩
   refine ae 2 [] λ _=>jo (jN t t.i b M) 36 (λ h5=>?_) λ h5=>?_
   ·refine ae 11 [.own 0] λ _=>cH 41 (nt (decide_eq_true h1))<|ae 3 [] λ _=>RN.draw [11] []<|ag [] [0,4,1,5,2,6,3,7,8,9,10] [.own 0,.own 0]<|RD.one 11 (RDO.ct [] [] [0] (aj 2 (i64.wrap (t.i+1)) L_) ?_)
    rintro _ T6 WW
    refine RD.fin<|RN.ret [] [0] [0] (v:=.tuple #[]) (H':=(ap [(tb,.lit ((Stp.lp t mb)++[vI ((b9 t t.i b M).e.t),vI ((b9 t t.i b M).e.i),vI ((b9 t t.i b M).e.k),vI ((b9 t t.i b M).e.v),.bool ((b9 t t.i b M).em)]) 275 (0,0))] [T6])) ?_
    have e:(cT t b c M)=⟨(((b9 t t.i b M).M).set 2 (i64.wrap (t.i+1))),0,⟨(b9 t t.i b M).e.t,(b9 t t.i b M).e.i,(b9 t t.i b M).e.k,(b9 t t.i b M).e.v⟩,(b9 t t.i b M).em⟩:=by
     first|(simp only[cT,dH,if_pos h1,if_pos h2,if_pos h5];try rfl;done)|rfl
    refine⟨T6,by rw[e] <;> rfl,?_⟩
    rw[e]
    exact WW.weak (by omega)
   ·refine ae 2 [] λ _=>RN.ret [] [0] [0] (v:=.tuple #[]) (H':=(ap [(tb,.lit ((Stp.lp t mb)++[vI ((b9 t t.i b M).e.t),vI ((b9 t t.i b M).e.i),vI ((b9 t t.i b M).e.k),vI ((b9 t t.i b M).e.v),.bool ((b9 t t.i b M).em)]) 275 (0,0))] [T3])) ?_
    have e:(cT t b c M)=⟨(b9 t t.i b M).M,0,⟨(b9 t t.i b M).e.t,(b9 t t.i b M).e.i,(b9 t t.i b M).e.k,(b9 t t.i b M).e.v⟩,(b9 t t.i b M).em⟩:=by
     first|(simp only[cT,dH,if_pos h1,if_pos h2,if_neg h5];try rfl;done)|rfl
    refine⟨T3,by rw[e] <;> rfl,?_⟩
    rw[e]
    exact L_.weak (by omega)
  ·refine ae 1 [] λ _=>RN.draw [11] []<|ag [] [0,4,1,5,2,6,3,7,8,9,10] [.own 0,.own 0]<|RD.one 11 (RDO.ct [] [] [0] (aj 2 (i64.wrap (t.i+1)) hM) ?_)
   rintro _ T8 UJ
   refine RD.fin<|RN.ret [] [0] [0] (v:=.tuple #[]) (H':=(ap [(tb,.lit (Stp.l t mb) 275 (0,0))] [T8])) ?_
   have e:(cT t b c M)=⟨(M.set 2 (i64.wrap (t.i+1))),0,⟨t.f0,t.f1,t.f2,t.f3⟩,t.emitted⟩:=by
    first|(simp only[cT,dH,if_pos h1,if_neg h2];try rfl;done)|rfl
   refine⟨T8,by rw[e] <;> rfl,?_⟩
   rw[e]
   exact UJ.weak (by omega)
 ·refine ae 15 [.own 0] λ _=>RN.ct [0] [0] (FF t t.i b tb mb M (k+2) T _ hM hS.up (aq hE) hC.up) ?_
  rintro _ TG ⟨RC,rfl⟩
  refine ae 2 [] λ _=>jo (jN t t.i b M) 36 (λ RE=>?_) λ RE=>?_
  ·refine ae 11 [.own 0] λ _=>cH 41 (nf (decide_eq_false h1))<|ae 6 [.own 0] λ _=>RN.ct [] [0] (aj 3 0 RC) ?_
   rintro _ To So
   refine ae 2 [] λ _=>RN.draw [11] []<|ag [] [0,4,1,5,2,6,3,7,8,9,10] [.own 0,.own 0]<|RD.one 11 (RDO.ct [] [] [0] (aj 2 (i64.wrap (t.i+1)) So) ?_)
   rintro _ Sz Sn
   refine RD.fin<|RN.ret [] [0] [0] (v:=.tuple #[]) (H':=(ap [(tb,.lit ((Stp.lp t mb)++[vI ((b9 t t.i b M).e.t),vI ((b9 t t.i b M).e.i),vI ((b9 t t.i b M).e.k),vI ((b9 t t.i b M).e.v),.bool ((b9 t t.i b M).em)]) 275 (0,0))] [Sz])) ?_
   have e:(cT t b c M)=⟨((((b9 t t.i b M).M).set 3 0).set 2 (i64.wrap (t.i+1))),0,⟨(b9 t t.i b M).e.t,(b9 t t.i b M).e.i,(b9 t t.i b M).e.k,(b9 t t.i b M).e.v⟩,(b9 t t.i b M).em⟩:=by
    first|(simp only[cT,dH,if_neg h1,if_pos RE];try rfl;done)|rfl
   refine⟨Sz,by rw[e] <;> rfl,?_⟩
   rw[e]
   exact Sn.weak (by omega)
  ·refine ae 2 [] λ _=>RN.ret [] [0] [0] (v:=.tuple #[]) (H':=(ap [(tb,.lit ((Stp.lp t mb)++[vI ((b9 t t.i b M).e.t),vI ((b9 t t.i b M).e.i),vI ((b9 t t.i b M).e.k),vI ((b9 t t.i b M).e.v),.bool ((b9 t t.i b M).em)]) 275 (0,0))] [TG])) ?_
   have e:(cT t b c M)=⟨(b9 t t.i b M).M,0,⟨(b9 t t.i b M).e.t,(b9 t t.i b M).e.i,(b9 t t.i b M).e.k,(b9 t t.i b M).e.v⟩,(b9 t t.i b M).em⟩:=by
    first|(simp only[cT,dH,if_neg h1,if_neg RE];try rfl;done)|rfl
   refine⟨TG,by rw[e] <;> rfl,?_⟩
   rw[e]
   exact RC.weak (by omega)
theorem OA(t:Stp)  (tb mb:Nat) (M:MemS) (k:Nat) (T F:HL) (hM:MemH mb M (k+9) T) (hS:SetIn F t.S) (hE:dh F) (hC:CodeIn F t.code t.cA t.cn) :Sp Tryz.prog 149 #[vP tb 0] (ap [(tb,.lit (Stp.l t mb) 275 (0,0))] [T]) F (λ u H'=>∃x,H'=ap [(tb,.lit ((Stp.lp t mb)++[vI ((fi t M).e.t),vI ((fi t M).e.i),vI ((fi t M).e.k),vI ((fi t M).e.v),.bool ((fi t M).em)]) 275 (0,0))] [x] /\ (MemH mb (fi t M).M k x)):=by
 have hp:=hS.pl
 have hn:=hS.nb
 have hr:=hS.room
 refine Sp.run Tryz.func149 rfl (mc hS.blk mn) (A:=[(tb,.lit (Stp.l t mb) 275 (0,0))]) (Ts:=[T]) rfl λ w0=>?_
 refine ae 1 [] λ _=>RN.draw [] []<|ag [] [0,4,1,5,2,6,3,7] (ow 0 17)<|RD.cp [] 8 (λ X_=>(gG t.S t.i _ hS.toSetN)) ?_
 have UI:=gF hS.toSetN t.i
 refine ag [] [9] []<|RD.fin<|ae 8 [] λ _=>RN.em (ah t.S t.i<0) 14 (λ h2=>?_) λ h2=>?_
 ·refine ae 4 [] λ _=>RN.ct [0] [0] (bL t 2 0 tb mb M (k+6) T _ hM hS.up ) ?_
  rintro _ T3 L_
  refine ae 2 [] λ _=>RN.ret [] [0] [0] (v:=.tuple #[]) (H':=(ap [(tb,.lit (Stp.l t mb) 275 (0,0))] [T3])) ?_
  have e:(fi t M)=⟨(aL t 2 0 M),0,⟨t.f0,t.f1,t.f2,t.f3⟩,t.emitted⟩:=by
   first|(simp only[fi,VR.z,if_pos h2];try rfl;done)|rfl
  refine⟨T3,by rw[e] <;> rfl,?_⟩
  rw[e]
  exact L_.weak (by omega)
 ·refine ai 11 [.own 0,.nw] [aU ((ah t.S t.i)+2)] λ _=>RN.cp (aw ((ah t.S t.i)+2) hM (ar 0))<|ae 8 [] λ _=>RN.ct [0] [0] (JK t (M.get ((ah t.S t.i)+2)) (!(decide (M.get ((ah t.S t.i)+2)=0))) tb mb M (k+1) T _ hM hS.up (aq hE) hC.up) ?_
  rintro _ T5 RL
  refine ae 1 [] λ _=>RN.ret [] [0] [0] (v:=.tuple #[]) (H':=(ap [(tb,.lit ((Stp.lp t mb)++[vI ((cS t (M.get ((ah t.S t.i)+2)) (!(decide (M.get ((ah t.S t.i)+2)=0))) M).e.t),vI ((cS t (M.get ((ah t.S t.i)+2)) (!(decide (M.get ((ah t.S t.i)+2)=0))) M).e.i),vI ((cS t (M.get ((ah t.S t.i)+2)) (!(decide (M.get ((ah t.S t.i)+2)=0))) M).e.k),vI ((cS t (M.get ((ah t.S t.i)+2)) (!(decide (M.get ((ah t.S t.i)+2)=0))) M).e.v),.bool ((cS t (M.get ((ah t.S t.i)+2)) (!(decide (M.get ((ah t.S t.i)+2)=0))) M).em)]) 275 (0,0))] [T5])) ?_
  have e:(fi t M)=⟨(cS t (M.get ((ah t.S t.i)+2)) (!(decide (M.get ((ah t.S t.i)+2)=0))) M).M,0,⟨(cS t (M.get ((ah t.S t.i)+2)) (!(decide (M.get ((ah t.S t.i)+2)=0))) M).e.t,(cS t (M.get ((ah t.S t.i)+2)) (!(decide (M.get ((ah t.S t.i)+2)=0))) M).e.i,(cS t (M.get ((ah t.S t.i)+2)) (!(decide (M.get ((ah t.S t.i)+2)=0))) M).e.k,(cS t (M.get ((ah t.S t.i)+2)) (!(decide (M.get ((ah t.S t.i)+2)=0))) M).e.v⟩,(cS t (M.get ((ah t.S t.i)+2)) (!(decide (M.get ((ah t.S t.i)+2)=0))) M).em⟩:=by
   first|(simp only[fi,VR.z,if_neg h2];try rfl;done)|rfl
  refine⟨T5,by rw[e] <;> rfl,?_⟩
  rw[e]
  exact RL.weak (by omega)
theorem MB(t:Stp)  (tb mb:Nat) (M:MemS) (k:Nat) (T F:HL) (hM:MemH mb M (k+9) T) (hS:SetIn F t.S) (hE:dh F) (hC:CodeIn F t.code t.cA t.cn) :Sp Tryz.prog 150 #[vP tb 0] (ap [(tb,.lit (Stp.l t mb) 275 (0,0))] [T]) F (λ u H'=>∃x,H'=ap [(tb,.lit ((Stp.lp t mb)++[vI ((cY t M).e.t),vI ((cY t M).e.i),vI ((cY t M).e.k),vI ((cY t M).e.v),.bool ((cY t M).em)]) 275 (0,0))] [x] /\ (MemH mb (cY t M).M k x)):=by
 have hp:=hS.pl
 have hn:=hS.nb
 have hr:=hS.room
 refine Sp.run Tryz.func150 rfl (mc hS.blk mn) (A:=[(tb,.lit (Stp.l t mb) 275 (0,0))]) (Ts:=[T]) rfl λ w0=>?_
 refine ae 3 [] λ _=>RN.ct [0] [0] (MA t 0 0 tb mb M (k+3) T _ hM hS.up (aq hE) hC.up) ?_
 rintro _ T1 ⟨Wm,rfl⟩
 refine ae 2 [] λ _=>jo (jY t 0 0 M) 3 (λ h3=>?_) λ h3=>?_
 ·refine ae 3 [] λ _=>RN.ct [0] [0] (bL (t.upd (di t 0 0 M)) 3 0 tb mb ((di t 0 0 M).M) k T1 _ Wm hS.up ) ?_
  rintro _ T4 SX
  refine ae 1 [] λ _=>RN.ret [] [0] [0] (v:=.tuple #[]) (H':=(ap [(tb,.lit ((Stp.lp t mb)++[vI ((di t 0 0 M).e.t),vI ((di t 0 0 M).e.i),vI ((di t 0 0 M).e.k),vI ((di t 0 0 M).e.v),.bool ((di t 0 0 M).em)]) 275 (0,0))] [T4])) ?_
  have e:(cY t M)=⟨(aL (t.upd (di t 0 0 M)) 3 0 ((di t 0 0 M).M)),0,⟨(di t 0 0 M).e.t,(di t 0 0 M).e.i,(di t 0 0 M).e.k,(di t 0 0 M).e.v⟩,(di t 0 0 M).em⟩:=by
   first|(simp only[cY,VR.z,if_pos h3];try rfl;done)|rfl
  refine⟨T4,by rw[e] <;> rfl,?_⟩
  rw[e]
  exact SX.weak (by omega)
 ·refine ae 2 [] λ _=>RN.ret [] [0] [0] (v:=.tuple #[]) (H':=(ap [(tb,.lit ((Stp.lp t mb)++[vI ((di t 0 0 M).e.t),vI ((di t 0 0 M).e.i),vI ((di t 0 0 M).e.k),vI ((di t 0 0 M).e.v),.bool ((di t 0 0 M).em)]) 275 (0,0))] [T1])) ?_
  have e:(cY t M)=⟨(di t 0 0 M).M,0,⟨(di t 0 0 M).e.t,(di t 0 0 M).e.i,(di t 0 0 M).e.k,(di t 0 0 M).e.v⟩,(di t 0 0 M).em⟩:=by
   first|(simp only[cY,VR.z,if_neg h3];try rfl;done)|rfl
  refine⟨T1,by rw[e] <;> rfl,?_⟩
  rw[e]
  exact Wm.weak (by omega)
theorem OB(t:Stp)  (tb mb:Nat) (M:MemS) (k:Nat) (T F:HL) (hM:MemH mb M (k+9) T) (hS:SetIn F t.S) (hE:dh F) (hC:CodeIn F t.code t.cA t.cn) :Sp Tryz.prog 154 #[vP tb 0] (ap [(tb,.lit (Stp.l t mb) 275 (0,0))] [T]) F (λ u H'=>∃x,H'=ap [(tb,.lit ((Stp.lp t mb)++[vI ((fj t M).e.t),vI ((fj t M).e.i),vI ((fj t M).e.k),vI ((fj t M).e.v),.bool ((fj t M).em)]) 275 (0,0))] [x] /\ (MemH mb (fj t M).M k x)):=by
 have hp:=hS.pl
 have hn:=hS.nb
 have hr:=hS.room
 refine Sp.run Tryz.func154 rfl (mc hS.blk mn) (A:=[(tb,.lit (Stp.l t mb) 275 (0,0))]) (Ts:=[T]) rfl λ w0=>?_
 refine ae 1 [] λ _=>RN.draw [] []<|ag [] [0,4,1,5,2,6,3,7] (ow 0 17)<|RD.cp [] 8 (λ X_=>(cO t.S t.i _ hS.toSetN)) ?_
 have UI:=cN hS.toSetN t.i
 refine ag [] [9] []<|RD.fin<|ae 8 [] λ _=>RN.em (af t.S t.i<0) 14 (λ h2=>?_) λ h2=>?_
 ·refine ae 4 [] λ _=>RN.ct [0] [0] (bL t 7 0 tb mb M (k+6) T _ hM hS.up ) ?_
  rintro _ T3 L_
  refine ae 2 [] λ _=>RN.ret [] [0] [0] (v:=.tuple #[]) (H':=(ap [(tb,.lit (Stp.l t mb) 275 (0,0))] [T3])) ?_
  have e:(fj t M)=⟨(aL t 7 0 M),0,⟨t.f0,t.f1,t.f2,t.f3⟩,t.emitted⟩:=by
   first|(simp only[fj,VR.z,if_pos h2];try rfl;done)|rfl
  refine⟨T3,by rw[e] <;> rfl,?_⟩
  rw[e]
  exact L_.weak (by omega)
 ·refine ai 11 [.own 0,.nw] [aU ((af t.S t.i)+6)] λ _=>RN.cp (aw ((af t.S t.i)+6) hM (ar 0))<|ae 9 [] λ _=>RN.ct [0] [0] (JL t (i64.wrap ((M.get ((af t.S t.i)+6))-1)) (!(decide (M.get ((af t.S t.i)+6)=0))) tb mb M (k+1) T _ hM hS.up (aq hE) hC.up) ?_
  rintro _ T5 RL
  refine ae 1 [] λ _=>RN.ret [] [0] [0] (v:=.tuple #[]) (H':=(ap [(tb,.lit ((Stp.lp t mb)++[vI ((cT t (i64.wrap ((M.get ((af t.S t.i)+6))-1)) (!(decide (M.get ((af t.S t.i)+6)=0))) M).e.t),vI ((cT t (i64.wrap ((M.get ((af t.S t.i)+6))-1)) (!(decide (M.get ((af t.S t.i)+6)=0))) M).e.i),vI ((cT t (i64.wrap ((M.get ((af t.S t.i)+6))-1)) (!(decide (M.get ((af t.S t.i)+6)=0))) M).e.k),vI ((cT t (i64.wrap ((M.get ((af t.S t.i)+6))-1)) (!(decide (M.get ((af t.S t.i)+6)=0))) M).e.v),.bool ((cT t (i64.wrap ((M.get ((af t.S t.i)+6))-1)) (!(decide (M.get ((af t.S t.i)+6)=0))) M).em)]) 275 (0,0))] [T5])) ?_
  have e:(fj t M)=⟨(cT t (i64.wrap ((M.get ((af t.S t.i)+6))-1)) (!(decide (M.get ((af t.S t.i)+6)=0))) M).M,0,⟨(cT t (i64.wrap ((M.get ((af t.S t.i)+6))-1)) (!(decide (M.get ((af t.S t.i)+6)=0))) M).e.t,(cT t (i64.wrap ((M.get ((af t.S t.i)+6))-1)) (!(decide (M.get ((af t.S t.i)+6)=0))) M).e.i,(cT t (i64.wrap ((M.get ((af t.S t.i)+6))-1)) (!(decide (M.get ((af t.S t.i)+6)=0))) M).e.k,(cT t (i64.wrap ((M.get ((af t.S t.i)+6))-1)) (!(decide (M.get ((af t.S t.i)+6)=0))) M).e.v⟩,(cT t (i64.wrap ((M.get ((af t.S t.i)+6))-1)) (!(decide (M.get ((af t.S t.i)+6)=0))) M).em⟩:=by
   first|(simp only[fj,VR.z,if_neg h2];try rfl;done)|rfl
  refine⟨T5,by rw[e] <;> rfl,?_⟩
  rw[e]
  exact RL.weak (by omega)
def fy(a:Shp)(pa:V2)(b:Shp)(pb:V2)(xs:List V2):Nat -> Con
 | 0=>⟨0,0,9223372036854775807⟩
 | i+1=>if m0 a pa b pb (xs.getD i ⟨0,0⟩)<(fy a pa b pb xs i).d then ⟨(xs.getD i ⟨0,0⟩).x,(xs.getD i ⟨0,0⟩).y,m0 a pa b pb (xs.getD i ⟨0,0⟩)⟩ else fy a pa b pb xs i
def ju(a:Shp)(pa:V2)(b:Shp)(pb:V2)(xs:List V2):Nat -> Bool
 | 0=>true
 | i+1=>ju a pa b pb xs i && !decide (m0 a pa b pb (xs.getD i ⟨0,0⟩) <= 0)
theorem wy{a:Shp}{pa:V2}{b:Shp}{pb:V2}{xs:List V2}{i:Nat}(h:ju a pa b pb xs i=false):∀k,ju a pa b pb xs (i+k)=false
 | 0=>h
 | k+1=>by rw[<- Nat.add_assoc,ju,wy h k];rfl
def FG(pa pb:V2)(c:Con):Con:=if dg (dC pb pa) ⟨c.nx,c.ny⟩<0 then ⟨(CN ⟨c.nx,c.ny⟩).x,(CN ⟨c.nx,c.ny⟩).y,c.d⟩ else c
def cB(a:Shp)(pa:V2)(b:Shp)(pb:V2):Con × Bool:=if NU (eD a pa) (eD b pb) then (if ju a pa b pb (aH a pa b pb) (aH a pa b pb).length=true then (FG pa pb (fy a pa b pb (aH a pa b pb) (aH a pa b pb).length),true) else (⟨0,0,0⟩,false)) else (⟨0,0,0⟩,false)
theorem JM{xs:List V2}{i:Nat}{x:V2}(h:xs[i]?=some x):xs.getD i ⟨0,0⟩=x:=by rw[List.getD_eq_getElem?_getD,h];rfl
theorem JN(a:Shp)(pa:V2)(b:Shp)(pb:V2)(q1 q2 q3 q4:Nat)(F:HL)(ha:ShIn F a)(hb:ShIn F b)(SF:(q1,.lit [vI a.r,.slice a.A a.poly.length a.cap] 73 (0,0))∈F)(QY:(q2,.lit [vI b.r,.slice b.A b.poly.length b.cap] 73 (0,0))∈F)(SE:(q3,.lit [vI pb.x,vI pb.y] 29 (0,0))∈F)(TO:(q4,.lit [vI pa.x,vI pa.y] 29 (0,0))∈F) :
  It Tryz.prog 257 #[vP q1 0,vP q2 0,vP q3 0,vP q4 0] F Fv (aH a pa b pb):=by
 intro X l J Jx H0 hY h0
 have key:Sp Tryz.prog 257 #[.func (.yield l) #[] #[],vP q1 0,vP q2 0,vP q3 0,vP q4 0] (ap [] [H0]) (X++F) (λ _ H'=>J (aH a pa b pb).length H' \/ Jx H'):=by
  cases ha with
  | circle ra Aa ca =>
   cases hb with
   | circle rb Ab cb=>exact JC pa pb ra rb ca cb Aa Ab q1 q2 q3 q4 l X F J Jx H0 SF QY SE TO hY h0
   | poly rb lb bb cb h h3 h4 h5=>exact JD pa pb ra rb ca cb Aa lb bb q1 q2 q3 q4 l X F J Jx H0 SF QY SE TO h h3 h4 h5 hY h0
  | poly ra la ba ca g g3 g4 g5 =>
   cases hb with
   | circle rb Ab cb=>exact JE pa pb ra rb ca cb la ba Ab q1 q2 q3 q4 l X F J Jx H0 SF QY SE TO g g3 g4 g5 hY h0
   | poly rb lb bb cb h h3 h4 h5=>exact JF pa pb ra rb ca cb la ba lb bb q1 q2 q3 q4 l X F J Jx H0 SF QY SE TO g g3 g4 g5 h h3 h4 h5 hY h0
 rw[bD] at key
 exact key
theorem C2(a:Shp)(pa:V2)(b:Shp)(pb:V2)(F:HL):Sp Tryz.prog 232 #[NT a,.agg #[vI pa.x,vI pa.y],NT b,.agg #[vI pb.x,vI pb.y]] (ap [] []) F (λ u H'=>∃n:Nat,H'=ap [((n+3),.lit [vI pb.x,vI pb.y] 29 (0,0)),((n+2),.lit [vI b.r,.slice b.A b.poly.length b.cap] 73 (0,0)),((n+1),.lit [vI pa.x,vI pa.y] 29 (0,0)),((n+0),.lit [vI a.r,.slice a.A a.poly.length a.cap] 73 (0,0))] [] /\ u=.func (.func 257) #[] #[vP (n+0) 0,vP (n+2) 0,vP (n+3) 0,vP (n+1) 0]):=by
 refine Sp.run Tryz.func232 rfl mn (A:=[]) (Ts:=[]) rfl λ w0=>?_
 refine ae 15 [] λ n1=>RN.ret [] [0,1,2,3] [] (v:=.func (.func 257) #[] #[vP (n1+0) 0,vP (n1+2) 0,vP (n1+3) 0,vP (n1+1) 0]) (H':=[((n1+3),.lit [vI pb.x,vI pb.y] 29 (0,0)),((n1+2),.lit [vI b.r,.slice b.A b.poly.length b.cap] 73 (0,0)),((n1+1),.lit [vI pa.x,vI pa.y] 29 (0,0)),((n1+0),.lit [vI a.r,.slice a.A a.poly.length a.cap] 73 (0,0))]) ?_
 exact⟨_,rfl,rfl⟩
theorem pN(a:Shp)(pa:V2)(b:Shp)(pb:V2)(F:HL)(ha:ShIn F a)(hb:ShIn F b):Sp Tryz.prog 213 #[.agg #[vI a.r,.slice a.A a.poly.length a.cap],.agg #[vI pa.x,vI pa.y],.agg #[vI b.r,.slice b.A b.poly.length b.cap],.agg #[vI pb.x,vI pb.y]] [] F (λ u H'=>u=.tuple #[.agg #[vI (cB a pa b pb).1.nx,vI (cB a pa b pb).1.ny,vI (cB a pa b pb).1.d],.bool (cB a pa b pb).2] /\ H'=[]):=by
 refine Sp.runM Tryz.func213 rfl mn (A:=[]) (Ts:=[]) rfl λ w0=>?_
 refine ae 12 [] λ n1=>RN.draw [] []<|ag [] [0,1,3,4] [.own 5,.own 5,.own 4,.own 4,.own 3,.own 3,.own 2,.own 2]<|RD.cp [] 2 (λ X_=>(qR a pa _ (ha.up.up)))<|RD.cp [] 5 (λ X_=>(qR b pb _ (hb.up.up)))<|RD.cp [] 6 (λ X_=>(Jv (eD a pa) (eD b pb)  _))<|ag [] [7] []<|RD.fin<|ae 1 [] λ _=>RN.en (NU (eD a pa) (eD b pb)) 20 (λ h2=>?_) λ h2=>?_
 ·refine ae 17 [.own 0,.own 0,.own 0,.own 6,.own 6,.own 5,.own 5,.own 4,.own 4,.own 3,.own 3] λ n3=>RN.ct (Hp:=[]) (Tp:=[]) [] [] (C2 a pa b pb _) ?_
  rintro _ m4 rfl
  refine ae 3 [] λ _=>RN.dn 4 (.lit [vI ((fy a pa b pb (aH a pa b pb) 0).nx),vI ((fy a pa b pb (aH a pa b pb) 0).ny),vI ((fy a pa b pb (aH a pa b pb) 0).d)] 312 (0,0))<|RN.range (σ:=Nat) (τ:=Nat × V2 × Nat) (encs:=λ (x_:V2)=>#[.agg #[vI x_.x,vI x_.y]]) (xs:=(aH a pa b pb)) (enters_of Tryz.func257 (by kernel_rfl) rfl) (λ m_=>([((n3+0),.lit [vI ((fy a pa b pb (aH a pa b pb) m_).nx),vI ((fy a pa b pb (aH a pa b pb) m_).ny),vI ((fy a pa b pb (aH a pa b pb) m_).d)] 312 (0,0)),((n1+5),.lit [.bool false] 4 (0,0)),((n1+4),.lit [vI 0,vI 0,vI 0] 312 (0,0))],[])) (λ i_ m_=>m_=i_ /\ ju a pa b pb (aH a pa b pb) m_=true) (λ c_ m_=>c_=Code.ret /\ ju a pa b pb (aH a pa b pb) (aH a pa b pb).length=false) (λ ⟨m_,y_,nb⟩=>⟨[(4,vP (n1+0) 0),(5,vP (n1+1) 0),(6,vP (n1+2) 0),(7,vP (n1+3) 0),(8,vP (n1+4) 0),(9,vP (n1+5) 0),(10,vP (n3+0) 0),(11,vP (nb+0) 0)],[((nb+0),.lit [vI y_.x,vI y_.y] 29 (0,0)),((n3+0),.lit [vI ((fy a pa b pb (aH a pa b pb) m_).nx),vI ((fy a pa b pb (aH a pa b pb) m_).ny),vI ((fy a pa b pb (aH a pa b pb) m_).d)] 312 (0,0)),((n1+5),.lit [.bool false] 4 (0,0)),((n1+4),.lit [vI 0,vI 0,vI 0] 312 (0,0))],[],True,0⟩) (λ i_ x_ ⟨m_,y_,nb⟩=>m_=i_ /\ ju a pa b pb (aH a pa b pb) m_=true /\ y_=x_) 0 (⟨rfl,rfl⟩) [4,5,6] [] (JN a pa b pb (m4+0) (m4+2) (m4+3) (m4+1) _ ha.up hb.up (az 3) (az 1) (az 0) (az 2)) ?_ ?_ ?_ ?_
  ·rintro l_ i_ x_ m_ Y5 w6 hx7 TA X0
   obtain⟨rfl,dO⟩:=TA
   refine ae 4 [.own 0,.own 0] λ n9=>?_
   refine X0 (m_,x_,n9) [0,1,2,3] [] ?_
   try dsimp only
   exact⟨rfl,dO,rfl⟩
  ·rintro l_ i_ x_ ⟨m_,y_,nb⟩ Y10 w11 ZY TA
   obtain⟨rfl,dO,rfl⟩:=TA
   have ex:=JM ZY
   skip
   refine ae 8 [.ro 7,.ro 7,.ro 6,.ro 6,.ro 5,.ro 5,.ro 4,.ro 4,.own 0,.own 0] λ _=>RN.cp (CW a pa b pb y_ _ (ha.up.up.up) (hb.up.up.up))<|ae 10 [] λ _=>RN.em (m0 a pa b pb y_ <= 0) 36 (λ Sq=>?_) λ Sq=>?_
   ·refine ae 8 [.own 3,.own 3,.own 3,.own 2] λ _=>RN.rr m_ [1,2,3] [] ?_
    try dsimp only
    refine⟨rfl,?_⟩
    have hl_:m_<(aH a pa b pb).length:=(List.getElem?_eq_some_iff.1 ZY).1
    have Xc:ju a pa b pb (aH a pa b pb) (m_+1)=false:=by rw[ju,ex,dO,decide_eq_true Sq];rfl
    have Rj:=wy Xc ((aH a pa b pb).length-(m_+1))
    rwa [show m_+1+((aH a pa b pb).length-(m_+1))=(aH a pa b pb).length by omega] at Rj
   ·refine ae 11 [.own 1] λ _=>RN.em (m0 a pa b pb y_<(fy a pa b pb (aH a pa b pb) m_).d) 41 (λ SZ=>?_) λ SZ=>?_
    ·refine ae 8 [.own 0,.own 0,.own 1,.own 1,.own 1] λ _=>?_
     have Vn:ju a pa b pb (aH a pa b pb) (m_+1)=true:=by rw[ju,ex,dO,decide_eq_false Sq];rfl
     have e_:(fy a pa b pb (aH a pa b pb) (m_+1))=(⟨y_.x,y_.y,m0 a pa b pb y_⟩:Con):=by rw[fy,ex,if_pos SZ]
     refine cj 1 (congrArg (λ v_=>(.lit [vI v_.nx,vI v_.ny,vI v_.d] 312 (0,0):Blk)) e_.symm)<|RN.rn (m_+1) [1,2,3] [] ?_
     try dsimp only
     exact⟨rfl,Vn⟩
    ·refine ae 3 [] λ _=>?_
     have Vn:ju a pa b pb (aH a pa b pb) (m_+1)=true:=by rw[ju,ex,dO,decide_eq_false Sq];rfl
     have e_:(fy a pa b pb (aH a pa b pb) (m_+1))=(fy a pa b pb (aH a pa b pb) m_):=by rw[fy,ex,if_neg SZ]
     refine cj 1 (congrArg (λ v_=>(.lit [vI v_.nx,vI v_.ny,vI v_.d] 312 (0,0):Blk)) e_.symm)<|RN.rn (m_+1) [1,2,3] [] ?_
     try dsimp only
     exact⟨rfl,Vn⟩
  ·rintro d15 m_  TA
   obtain⟨rfl,dO⟩:=TA
   refine ae 4 [] λ _=>RN.draw [] []<|ag [] [0,1,3,4] [.own 8,.own 8,.own 10,.own 10,.own 1,.own 1]<|RD.cp [] 2 (λ X_=>(iT pb pa  _))<|RD.cp [] 5 (λ X_=>(nV (dC pb pa) (⟨(fy a pa b pb (aH a pa b pb) (aH a pa b pb).length).nx,(fy a pa b pb (aH a pa b pb) (aH a pa b pb).length).ny⟩:V2)  _))<|ag [] [6] []<|RD.fin<|ae 1 [] λ _=>RN.em (dg (dC pb pa) (⟨(fy a pa b pb (aH a pa b pb) (aH a pa b pb).length).nx,(fy a pa b pb (aH a pa b pb) (aH a pa b pb).length).ny⟩:V2)<0) 51 (λ Ru=>?_) λ Ru=>?_
   ·refine ae 4 [.own 1,.own 1] λ _=>RN.cp (Fk (⟨(fy a pa b pb (aH a pa b pb) (aH a pa b pb).length).nx,(fy a pa b pb (aH a pa b pb) (aH a pa b pb).length).ny⟩:V2)  _)<|ae 11 (ow 1 5++[.own 3,.own 3,.own 3,.own 2]) λ _=>RN.retM [d15] [0] [.own 2,.own 2,.own 2,.own 1] [] [] (v:=.tuple #[.agg #[vI ((CN (⟨(fy a pa b pb (aH a pa b pb) (aH a pa b pb).length).nx,(fy a pa b pb (aH a pa b pb) (aH a pa b pb).length).ny⟩:V2)).x),vI ((CN (⟨(fy a pa b pb (aH a pa b pb) (aH a pa b pb).length).nx,(fy a pa b pb (aH a pa b pb) (aH a pa b pb).length).ny⟩:V2)).y),vI ((fy a pa b pb (aH a pa b pb) (aH a pa b pb).length).d)],.bool true]) (H':=[]) ?_
    exact⟨by simp only[cB,if_pos h2,dO,if_true,FG,if_pos Ru],rfl⟩
   ·refine ae 10 [.own 1,.own 1,.own 1,.own 3,.own 3,.own 3,.own 2] λ _=>RN.retM [d15] [0] [.own 2,.own 2,.own 2,.own 1] [] [] (v:=.tuple #[.agg #[vI ((fy a pa b pb (aH a pa b pb) (aH a pa b pb).length).nx),vI ((fy a pa b pb (aH a pa b pb) (aH a pa b pb).length).ny),vI ((fy a pa b pb (aH a pa b pb) (aH a pa b pb).length).d)],.bool true]) (H':=[]) ?_
    exact⟨by simp only[cB,if_pos h2,dO,if_true,FG,if_neg Ru],rfl⟩
  ·rintro d17 c_ m_ ⟨rfl,Se⟩
   refine RN.retM [d17] [0] [.own 2,.own 2,.own 2,.own 1] [] [] (v:=.tuple #[.agg #[vI 0,vI 0,vI 0],.bool false]) (H':=[]) ?_
   exact⟨by simp only[cB,if_pos h2,Se];rfl,rfl⟩
 ·refine ae 8 [.own 1,.own 1,.own 1,.own 0] λ _=>RN.retM [] [] [.own 1,.own 1,.own 1,.own 0] [] [] (v:=.tuple #[.agg #[vI 0,vI 0,vI 0],.bool false]) (H':=[]) ?_
  exact⟨by simp only[cB,if_neg h2],rfl⟩
def oU(a:V2)(m:Int):V2:=⟨aF a.x (bg (0-m)) m,aF a.y (bg (0-m)) m⟩
def dY(m:Mot)(b:V2):Mot:=⟨m.px,m.py,(dC ⟨m.vx,m.vy⟩ b).x,(dC ⟨m.vx,m.vy⟩ b).y,m.inv⟩
def cM(m:Mot)(b:V2):Mot:=⟨m.px,m.py,(aD ⟨m.vx,m.vy⟩ b).x,(aD ⟨m.vx,m.vy⟩ b).y,m.inv⟩
def fq(m:Mot)(b:V2):Mot:=⟨(aD ⟨m.px,m.py⟩ b).x,(aD ⟨m.px,m.py⟩ b).y,m.vx,m.vy,m.inv⟩
def dj(m:Mot)(b:V2):Mot:=⟨(dC ⟨m.px,m.py⟩ b).x,(dC ⟨m.px,m.py⟩ b).y,m.vx,m.vy,m.inv⟩
def gm(m:Mot):Mot:=⟨(oU ⟨m.px,m.py⟩ 1048576).x,(oU ⟨m.px,m.py⟩ 1048576).y,(oU ⟨m.vx,m.vy⟩ 16384).x,(oU ⟨m.vx,m.vy⟩ 16384).y,m.inv⟩
def rsSp(a b:Mot)(c:Con):Int:=dg (dC ⟨b.vx,b.vy⟩ ⟨a.vx,a.vy⟩) ⟨c.nx,c.ny⟩
def LI(a b:Mot)(c:Con)(rest:Int):Int:=aA (bg (0-rsSp a b c)) (bg (1024+rest)) (bg (a.inv+b.inv))
def Qs(a b:Mot)(c:Con)(rest:Int):Mot:=if rsSp a b c<0 then dY a (al ⟨c.nx,c.ny⟩ (fZ (LI a b c rest) a.inv)) else a
def Qt(a b:Mot)(c:Con)(rest:Int):Mot:=if rsSp a b c<0 then cM b (al ⟨c.nx,c.ny⟩ (fZ (LI a b c rest) b.inv)) else b
def cC(a b:Mot)(c:Con)(rest:Int):Mot × Mot:=if bg (a.inv+b.inv)=0 then (a,b) else (gm (dj (Qs a b c rest) (al ⟨c.nx,c.ny⟩ (aA c.d a.inv (bg (a.inv+b.inv))))),gm (fq (Qt a b c rest) (al ⟨c.nx,c.ny⟩ (aA c.d b.inv (bg (a.inv+b.inv))))))
theorem qW(a:V2)(m:Int)  (F:HL):Sp Tryz.prog 264 #[.agg #[vI a.x,vI a.y],vI m] [] F (λ u H'=>u=.agg #[vI ((oU a m).x),vI ((oU a m).y)] /\ H'=[]):=by
 refine Sp.run Tryz.func264 rfl mn (A:=[]) (Ts:=[]) rfl λ w0=>?_
 refine ae 7 [] λ n1=>RN.draw [13] []<|ag [] [0,2,4,6,8,10,1,3,7,9] [.own 1,.own 1]<|RD.cp [] 5 (λ X_=>(cE a.x (i64.wrap (0-m)) m  _))<|RD.cp [] 11 (λ X_=>(cE a.y (i64.wrap (0-m)) m  _))<|ag [] [12] []<|RD.one 13 (RDO.ev [] [.own 0,.own 0] λ _=>?_)
 refine RD.fin<|ae 1 [] λ _=>?_
 exact RN.ret [.own 0,.own 0] [] [] ⟨rfl,rfl⟩
theorem uW(m:Mot)(b:V2)(q:Nat)(F:HL):Sp Tryz.prog 239 #[vP q 0,.agg #[vI b.x,vI b.y]] [(q,.lit [vI m.px,vI m.py,vI m.vx,vI m.vy,vI m.inv] 339 (0,0))] F (λ u H'=>∃x:Unit,H'=ap [(q,.lit [vI ((dY m b).px),vI ((dY m b).py),vI ((dY m b).vx),vI ((dY m b).vy),vI ((dY m b).inv)] 339 (0,0))] [] /\ True):=by
 refine Sp.run Tryz.func239 rfl mn (A:=[(q,.lit [vI m.px,vI m.py,vI m.vx,vI m.vy,vI m.inv] 339 (0,0))]) (Ts:=[]) rfl λ w0=>?_
 refine ae 5 [] λ n1=>RN.draw [11] []<|ag [] [0,1,6,2,3,4,5] [.own 0,.own 0,.own 1,.own 1]<|RD.cp [] 7 (λ X_=>(iT (⟨m.vx,m.vy⟩:V2) b  _))<|ag [] [8,9,10] []<|RD.one 11 (RDO.ev [] [.own 1,.own 1] λ _=>?_)
 refine RD.fin<|RN.ret [] [1] [] (v:=.tuple #[]) (H':=(ap [(q,.lit [vI m.px,vI m.py,vI ((dC (⟨m.vx,m.vy⟩:V2) b).x),vI ((dC (⟨m.vx,m.vy⟩:V2) b).y),vI m.inv] 339 (0,0))] [])) ?_
 exact⟨(),rfl,trivial⟩
theorem wz(m:Mot)(b:V2)(q:Nat)(F:HL):Sp Tryz.prog 239 #[vP q 0,.agg #[vI b.x,vI b.y]] (ap [(q,.lit [vI m.px,vI m.py,vI m.vx,vI m.vy,vI m.inv] 339 (0,0))] []) F (λ u H'=>∃x:Unit,H'=ap [(q,.lit [vI ((dY m b).px),vI ((dY m b).py),vI ((dY m b).vx),vI ((dY m b).vy),vI ((dY m b).inv)] 339 (0,0))] [] /\ True):=by
 have e:ap [(q,.lit [vI m.px,vI m.py,vI m.vx,vI m.vy,vI m.inv] 339 (0,0))] []=[(q,.lit [vI m.px,vI m.py,vI m.vx,vI m.vy,vI m.inv] 339 (0,0))]:=by simp
 rw[e]
 exact uW m b q F
theorem wA(m:Mot)(b:V2)(q:Nat)(F:HL):Sp Tryz.prog 240 #[vP q 0,.agg #[vI b.x,vI b.y]] [(q,.lit [vI m.px,vI m.py,vI m.vx,vI m.vy,vI m.inv] 339 (0,0))] F (λ u H'=>∃x:Unit,H'=ap [(q,.lit [vI ((cM m b).px),vI ((cM m b).py),vI ((cM m b).vx),vI ((cM m b).vy),vI ((cM m b).inv)] 339 (0,0))] [] /\ True):=by
 refine Sp.run Tryz.func240 rfl mn (A:=[(q,.lit [vI m.px,vI m.py,vI m.vx,vI m.vy,vI m.inv] 339 (0,0))]) (Ts:=[]) rfl λ w0=>?_
 refine ae 5 [] λ n1=>RN.draw [11] []<|ag [] [0,1,6,2,3,4,5] [.own 0,.own 0,.own 1,.own 1]<|RD.cp [] 7 (λ X_=>(eo (⟨m.vx,m.vy⟩:V2) b  _))<|ag [] [8,9,10] []<|RD.one 11 (RDO.ev [] [.own 1,.own 1] λ _=>?_)
 refine RD.fin<|RN.ret [] [1] [] (v:=.tuple #[]) (H':=(ap [(q,.lit [vI m.px,vI m.py,vI ((aD (⟨m.vx,m.vy⟩:V2) b).x),vI ((aD (⟨m.vx,m.vy⟩:V2) b).y),vI m.inv] 339 (0,0))] [])) ?_
 exact⟨(),rfl,trivial⟩
theorem zl(m:Mot)(b:V2)(q:Nat)(F:HL):Sp Tryz.prog 240 #[vP q 0,.agg #[vI b.x,vI b.y]] (ap [(q,.lit [vI m.px,vI m.py,vI m.vx,vI m.vy,vI m.inv] 339 (0,0))] []) F (λ u H'=>∃x:Unit,H'=ap [(q,.lit [vI ((cM m b).px),vI ((cM m b).py),vI ((cM m b).vx),vI ((cM m b).vy),vI ((cM m b).inv)] 339 (0,0))] [] /\ True):=by
 have e:ap [(q,.lit [vI m.px,vI m.py,vI m.vx,vI m.vy,vI m.inv] 339 (0,0))] []=[(q,.lit [vI m.px,vI m.py,vI m.vx,vI m.vy,vI m.inv] 339 (0,0))]:=by simp
 rw[e]
 exact wA m b q F
theorem wB(m:Mot)(b:V2)(q:Nat)(F:HL):Sp Tryz.prog 242 #[vP q 0,.agg #[vI b.x,vI b.y]] [(q,.lit [vI m.px,vI m.py,vI m.vx,vI m.vy,vI m.inv] 339 (0,0))] F (λ u H'=>∃x:Unit,H'=ap [(q,.lit [vI ((fq m b).px),vI ((fq m b).py),vI ((fq m b).vx),vI ((fq m b).vy),vI ((fq m b).inv)] 339 (0,0))] [] /\ True):=by
 refine Sp.run Tryz.func242 rfl mn (A:=[(q,.lit [vI m.px,vI m.py,vI m.vx,vI m.vy,vI m.inv] 339 (0,0))]) (Ts:=[]) rfl λ w0=>?_
 refine ae 5 [] λ n1=>RN.draw [11] []<|ag [] [0,1,6,2,3,4,5] [.own 0,.own 0,.own 1,.own 1]<|RD.cp [] 7 (λ X_=>(eo (⟨m.px,m.py⟩:V2) b  _))<|ag [] [8,9,10] []<|RD.one 11 (RDO.ev [] [.own 1,.own 1] λ _=>?_)
 refine RD.fin<|RN.ret [] [1] [] (v:=.tuple #[]) (H':=(ap [(q,.lit [vI ((aD (⟨m.px,m.py⟩:V2) b).x),vI ((aD (⟨m.px,m.py⟩:V2) b).y),vI m.vx,vI m.vy,vI m.inv] 339 (0,0))] [])) ?_
 exact⟨(),rfl,trivial⟩
theorem zm(m:Mot)(b:V2)(q:Nat)(F:HL):Sp Tryz.prog 242 #[vP q 0,.agg #[vI b.x,vI b.y]] (ap [(q,.lit [vI m.px,vI m.py,vI m.vx,vI m.vy,vI m.inv] 339 (0,0))] []) F (λ u H'=>∃x:Unit,H'=ap [(q,.lit [vI ((fq m b).px),vI ((fq m b).py),vI ((fq m b).vx),vI ((fq m b).vy),vI ((fq m b).inv)] 339 (0,0))] [] /\ True):=by
 have e:ap [(q,.lit [vI m.px,vI m.py,vI m.vx,vI m.vy,vI m.inv] 339 (0,0))] []=[(q,.lit [vI m.px,vI m.py,vI m.vx,vI m.vy,vI m.inv] 339 (0,0))]:=by simp
 rw[e]
 exact wB m b q F
theorem wC(m:Mot)(b:V2)(q:Nat)(F:HL):Sp Tryz.prog 241 #[vP q 0,.agg #[vI b.x,vI b.y]] [(q,.lit [vI m.px,vI m.py,vI m.vx,vI m.vy,vI m.inv] 339 (0,0))] F (λ u H'=>∃x:Unit,H'=ap [(q,.lit [vI ((dj m b).px),vI ((dj m b).py),vI ((dj m b).vx),vI ((dj m b).vy),vI ((dj m b).inv)] 339 (0,0))] [] /\ True):=by
 refine Sp.run Tryz.func241 rfl mn (A:=[(q,.lit [vI m.px,vI m.py,vI m.vx,vI m.vy,vI m.inv] 339 (0,0))]) (Ts:=[]) rfl λ w0=>?_
 refine ae 5 [] λ n1=>RN.draw [11] []<|ag [] [0,1,6,2,3,4,5] [.own 0,.own 0,.own 1,.own 1]<|RD.cp [] 7 (λ X_=>(iT (⟨m.px,m.py⟩:V2) b  _))<|ag [] [8,9,10] []<|RD.one 11 (RDO.ev [] [.own 1,.own 1] λ _=>?_)
 refine RD.fin<|RN.ret [] [1] [] (v:=.tuple #[]) (H':=(ap [(q,.lit [vI ((dC (⟨m.px,m.py⟩:V2) b).x),vI ((dC (⟨m.px,m.py⟩:V2) b).y),vI m.vx,vI m.vy,vI m.inv] 339 (0,0))] [])) ?_
 exact⟨(),rfl,trivial⟩
theorem zn(m:Mot)(b:V2)(q:Nat)(F:HL):Sp Tryz.prog 241 #[vP q 0,.agg #[vI b.x,vI b.y]] (ap [(q,.lit [vI m.px,vI m.py,vI m.vx,vI m.vy,vI m.inv] 339 (0,0))] []) F (λ u H'=>∃x:Unit,H'=ap [(q,.lit [vI ((dj m b).px),vI ((dj m b).py),vI ((dj m b).vx),vI ((dj m b).vy),vI ((dj m b).inv)] 339 (0,0))] [] /\ True):=by
 have e:ap [(q,.lit [vI m.px,vI m.py,vI m.vx,vI m.vy,vI m.inv] 339 (0,0))] []=[(q,.lit [vI m.px,vI m.py,vI m.vx,vI m.vy,vI m.inv] 339 (0,0))]:=by simp
 rw[e]
 exact wC m b q F
theorem jv(m:Mot)(q:Nat)(F:HL)(hq:(q,.lit [vI m.px,vI m.py,vI m.vx,vI m.vy,vI m.inv] 339 (0,0))∈F):Sp Tryz.prog 243 #[vP q 0] [] F (λ u H'=>u=.agg #[vI ((gm m).px),vI ((gm m).py),vI ((gm m).vx),vI ((gm m).vy),vI ((gm m).inv)] /\ H'=[]):=by
 refine Sp.run Tryz.func243 rfl (mc hq mn) (A:=[]) (Ts:=[]) rfl λ w0=>?_
 refine ae 6 [] λ n1=>RN.draw [18] []<|ag [] [0,6,12,1,7,13,2,8,14,3,9,15,4,10,16] [.ro 0,.ro 0,.ro 0,.ro 0,.ro 0]<|RD.cp [] 5 (λ X_=>(qW (⟨m.px,m.py⟩:V2) 1048576  _))<|RD.cp [] 11 (λ X_=>(qW (⟨m.vx,m.vy⟩:V2) 16384  _))<|ag [] [17] []<|RD.one 18 (RDO.ev [] (ow 0 5) λ _=>?_)
 refine RD.fin<|ae 1 [] λ _=>?_
 exact RN.ret (ow 0 5) [] [] ⟨rfl,rfl⟩
theorem uX(m:Mot)(c:Con)(am:Int)(q qc:Nat)(F:HL)(hc:(qc,.lit [vI c.nx,vI c.ny,vI c.d] 312 (0,0))∈F):Sp Tryz.prog 237 #[.func (.func 239) #[vP q 0] #[],vI am,vP qc 0] (ap [(q,.lit [vI m.px,vI m.py,vI m.vx,vI m.vy,vI m.inv] 339 (0,0))] []) F (λ u H'=>∃x:Unit,H'=ap [(q,.lit [vI ((dY m (al ⟨c.nx,c.ny⟩ am)).px),vI ((dY m (al ⟨c.nx,c.ny⟩ am)).py),vI ((dY m (al ⟨c.nx,c.ny⟩ am)).vx),vI ((dY m (al ⟨c.nx,c.ny⟩ am)).vy),vI ((dY m (al ⟨c.nx,c.ny⟩ am)).inv)] 339 (0,0))] [] /\ True):=by
 refine Sp.run Tryz.func237 rfl (mc hc mn) (A:=[(q,.lit [vI m.px,vI m.py,vI m.vx,vI m.vy,vI m.inv] 339 (0,0))]) (Ts:=[]) rfl λ w0=>?_
 refine ae 5 [.ro 0,.ro 0] λ _=>RN.cp (eV (⟨c.nx,c.ny⟩:V2) am  _)<|RN.ct [0] [] (wz m (al (⟨c.nx,c.ny⟩:V2) am) q _) ?_
 rintro _ _ _
 refine ae 1 [] λ _=>RN.ret [] [0] [] (v:=.tuple #[]) (H':=(ap [(q,.lit [vI ((dY m (al (⟨c.nx,c.ny⟩:V2) am)).px),vI ((dY m (al (⟨c.nx,c.ny⟩:V2) am)).py),vI ((dY m (al (⟨c.nx,c.ny⟩:V2) am)).vx),vI ((dY m (al (⟨c.nx,c.ny⟩:V2) am)).vy),vI ((dY m (al (⟨c.nx,c.ny⟩:V2) am)).inv)] 339 (0,0))] [])) ?_
 exact⟨(),rfl,trivial⟩
theorem wD(m:Mot)(c:Con)(am:Int)(q qc:Nat)(F:HL)(hc:(qc,.lit [vI c.nx,vI c.ny,vI c.d] 312 (0,0))∈F):Sp Tryz.prog 237 #[.func (.func 240) #[vP q 0] #[],vI am,vP qc 0] (ap [(q,.lit [vI m.px,vI m.py,vI m.vx,vI m.vy,vI m.inv] 339 (0,0))] []) F (λ u H'=>∃x:Unit,H'=ap [(q,.lit [vI ((cM m (al ⟨c.nx,c.ny⟩ am)).px),vI ((cM m (al ⟨c.nx,c.ny⟩ am)).py),vI ((cM m (al ⟨c.nx,c.ny⟩ am)).vx),vI ((cM m (al ⟨c.nx,c.ny⟩ am)).vy),vI ((cM m (al ⟨c.nx,c.ny⟩ am)).inv)] 339 (0,0))] [] /\ True):=by
 refine Sp.run Tryz.func237 rfl (mc hc mn) (A:=[(q,.lit [vI m.px,vI m.py,vI m.vx,vI m.vy,vI m.inv] 339 (0,0))]) (Ts:=[]) rfl λ w0=>?_
 refine ae 5 [.ro 0,.ro 0] λ _=>RN.cp (eV (⟨c.nx,c.ny⟩:V2) am  _)<|RN.ct [0] [] (zl m (al (⟨c.nx,c.ny⟩:V2) am) q _) ?_
 rintro _ _ _
 refine ae 1 [] λ _=>RN.ret [] [0] [] (v:=.tuple #[]) (H':=(ap [(q,.lit [vI ((cM m (al (⟨c.nx,c.ny⟩:V2) am)).px),vI ((cM m (al (⟨c.nx,c.ny⟩:V2) am)).py),vI ((cM m (al (⟨c.nx,c.ny⟩:V2) am)).vx),vI ((cM m (al (⟨c.nx,c.ny⟩:V2) am)).vy),vI ((cM m (al (⟨c.nx,c.ny⟩:V2) am)).inv)] 339 (0,0))] [])) ?_
 exact⟨(),rfl,trivial⟩
theorem pO(m:Mot)(c:Con)(am:Int)(q qc:Nat)(F:HL)(hc:(qc,.lit [vI c.nx,vI c.ny,vI c.d] 312 (0,0))∈F):Sp Tryz.prog 237 #[.func (.func 242) #[vP q 0] #[],vI am,vP qc 0] (ap [(q,.lit [vI m.px,vI m.py,vI m.vx,vI m.vy,vI m.inv] 339 (0,0))] []) F (λ u H'=>∃x:Unit,H'=ap [(q,.lit [vI ((fq m (al ⟨c.nx,c.ny⟩ am)).px),vI ((fq m (al ⟨c.nx,c.ny⟩ am)).py),vI ((fq m (al ⟨c.nx,c.ny⟩ am)).vx),vI ((fq m (al ⟨c.nx,c.ny⟩ am)).vy),vI ((fq m (al ⟨c.nx,c.ny⟩ am)).inv)] 339 (0,0))] [] /\ True):=by
 refine Sp.run Tryz.func237 rfl (mc hc mn) (A:=[(q,.lit [vI m.px,vI m.py,vI m.vx,vI m.vy,vI m.inv] 339 (0,0))]) (Ts:=[]) rfl λ w0=>?_
 refine ae 5 [.ro 0,.ro 0] λ _=>RN.cp (eV (⟨c.nx,c.ny⟩:V2) am  _)<|RN.ct [0] [] (zm m (al (⟨c.nx,c.ny⟩:V2) am) q _) ?_
 rintro _ _ _
 refine ae 1 [] λ _=>RN.ret [] [0] [] (v:=.tuple #[]) (H':=(ap [(q,.lit [vI ((fq m (al (⟨c.nx,c.ny⟩:V2) am)).px),vI ((fq m (al (⟨c.nx,c.ny⟩:V2) am)).py),vI ((fq m (al (⟨c.nx,c.ny⟩:V2) am)).vx),vI ((fq m (al (⟨c.nx,c.ny⟩:V2) am)).vy),vI ((fq m (al (⟨c.nx,c.ny⟩:V2) am)).inv)] 339 (0,0))] [])) ?_
 exact⟨(),rfl,trivial⟩
theorem pP(m:Mot)(c:Con)(am:Int)(q qc:Nat)(F:HL)(hc:(qc,.lit [vI c.nx,vI c.ny,vI c.d] 312 (0,0))∈F):Sp Tryz.prog 237 #[.func (.func 241) #[vP q 0] #[],vI am,vP qc 0] (ap [(q,.lit [vI m.px,vI m.py,vI m.vx,vI m.vy,vI m.inv] 339 (0,0))] []) F (λ u H'=>∃x:Unit,H'=ap [(q,.lit [vI ((dj m (al ⟨c.nx,c.ny⟩ am)).px),vI ((dj m (al ⟨c.nx,c.ny⟩ am)).py),vI ((dj m (al ⟨c.nx,c.ny⟩ am)).vx),vI ((dj m (al ⟨c.nx,c.ny⟩ am)).vy),vI ((dj m (al ⟨c.nx,c.ny⟩ am)).inv)] 339 (0,0))] [] /\ True):=by
 refine Sp.run Tryz.func237 rfl (mc hc mn) (A:=[(q,.lit [vI m.px,vI m.py,vI m.vx,vI m.vy,vI m.inv] 339 (0,0))]) (Ts:=[]) rfl λ w0=>?_
 refine ae 5 [.ro 0,.ro 0] λ _=>RN.cp (eV (⟨c.nx,c.ny⟩:V2) am  _)<|RN.ct [0] [] (zn m (al (⟨c.nx,c.ny⟩:V2) am) q _) ?_
 rintro _ _ _
 refine ae 1 [] λ _=>RN.ret [] [0] [] (v:=.tuple #[]) (H':=(ap [(q,.lit [vI ((dj m (al (⟨c.nx,c.ny⟩:V2) am)).px),vI ((dj m (al (⟨c.nx,c.ny⟩:V2) am)).py),vI ((dj m (al (⟨c.nx,c.ny⟩:V2) am)).vx),vI ((dj m (al (⟨c.nx,c.ny⟩:V2) am)).vy),vI ((dj m (al (⟨c.nx,c.ny⟩:V2) am)).inv)] 339 (0,0))] [])) ?_
 exact⟨(),rfl,trivial⟩
theorem wE(a b:Mot)(c:Con)(rest:Int)(F:HL):Sp Tryz.prog 214 #[.agg #[vI a.px,vI a.py,vI a.vx,vI a.vy,vI a.inv],.agg #[vI b.px,vI b.py,vI b.vx,vI b.vy,vI b.inv],.agg #[vI c.nx,vI c.ny,vI c.d],vI rest] [] F (λ u H'=>u=.tuple #[.agg #[vI (((cC a b c rest).1).px),vI (((cC a b c rest).1).py),vI (((cC a b c rest).1).vx),vI (((cC a b c rest).1).vy),vI (((cC a b c rest).1).inv)],.agg #[vI (((cC a b c rest).2).px),vI (((cC a b c rest).2).py),vI (((cC a b c rest).2).vx),vI (((cC a b c rest).2).vy),vI (((cC a b c rest).2).inv)]] /\ H'=[]):=by
 refine Sp.run Tryz.func214 rfl mn (A:=[]) (Ts:=[]) rfl λ w0=>?_
 refine ae 26 [.own 4,.own 3] λ n1=>RN.em (i64.wrap (a.inv+b.inv)=0) 22 (λ h2=>?_) λ h2=>?_
 ·refine ae 2 [] λ _=>RN.draw [2,3] [2,3,4]<|ag [2,3,4] [0,1] (ow 4 5++[.ro 1,.ro 1,.ro 1,.ro 1,.ro 1])<|RD.one 2 (RDO.ev [2,3,4] (ow 1 5) λ _=>?_)
  refine RD.one 3 (RDO.ev [2,3,4] (ow 0 5) λ _=>?_)
  refine RD.fin<|ae 1 [] λ _=>RN.ret (ow 1 5++ow 0 5) [] [] (v:=.tuple #[.agg #[vI a.px,vI a.py,vI a.vx,vI a.vy,vI a.inv],.agg #[vI b.px,vI b.py,vI b.vx,vI b.vy,vI b.inv]]) (H':=[]) ?_
  refine⟨?_,rfl⟩
  rw[show cC a b c rest=(a,b) from if_pos (show bg (a.inv+b.inv)=0 from h2)]
 ·refine ae 4 [] λ _=>RN.draw [6,7] [0,1,2,3,4]<|ag [0,1,2,3,4] [0,2,1,3] (ow 4 5++[.ro 3,.ro 3,.ro 3,.ro 3,.ro 3])<|jU (σ:=Nat × Nat) (λ ⟨n5,n6⟩=>⟨[(3,vI rest),(4,vP (n1+0) 0),(5,vP (n1+1) 0),(6,vP (n1+2) 0),(8,vP (n1+3) 0),(9,vP (n1+4) 0),(10,vI (i64.wrap (a.inv+b.inv))),(11,vP (n5+0) 0),(12,vP (n6+0) 0)],[((n6+0),.lit [vI b.px,vI b.py,vI b.vx,vI b.vy,vI b.inv] 339 (0,0)),((n5+0),.lit [vI a.px,vI a.py,vI a.vx,vI a.vy,vI a.inv] 339 (0,0)),((n1+4),.lit [vI 0,vI 0,vI 0,vI 0,vI 0] 76 (0,0)),((n1+3),.lit [vI 0,vI 0,vI 0,vI 0,vI 0] 76 (0,0)),((n1+2),.lit [vI c.nx,vI c.ny,vI c.d] 312 (0,0)),((n1+1),.lit [vI b.px,vI b.py,vI b.vx,vI b.vy,vI b.inv] 76 (0,0)),((n1+0),.lit [vI a.px,vI a.py,vI a.vx,vI a.vy,vI a.inv] 76 (0,0))],[],True,0⟩) ?_ ?_
  ·rintro⟨n5,n6⟩
   refine ae 9 [] λ _=>RN.draw [] []<|ag [] [0,2,5,1,3,6] [.own 5,.own 5,.own 6,.own 6,.own 4,.own 4]<|RD.cp [] 4 (λ X_=>(iT (⟨b.vx,b.vy⟩:V2) (⟨a.vx,a.vy⟩:V2)  _))<|RD.cp [] 7 (λ X_=>(nV (dC (⟨b.vx,b.vy⟩:V2) (⟨a.vx,a.vy⟩:V2)) (⟨c.nx,c.ny⟩:V2)  _))<|ag [] [8] []<|RD.fin<|ae 7 [] λ _=>RN.em (dg (dC (⟨b.vx,b.vy⟩:V2) (⟨a.vx,a.vy⟩:V2)) (⟨c.nx,c.ny⟩:V2)<0) 39 (λ h7=>?_) λ h7=>?_
   ·refine ae 8 [] λ _=>RN.cp (gj (i64.wrap (0-(dg (dC (⟨b.vx,b.vy⟩:V2) (⟨a.vx,a.vy⟩:V2)) (⟨c.nx,c.ny⟩:V2)))) (i64.wrap (1024+rest)) (i64.wrap (a.inv+b.inv))  _)<|ae 10 [.own 6] λ _=>RN.cp (nU (aA (i64.wrap (0-(dg (dC (⟨b.vx,b.vy⟩:V2) (⟨a.vx,a.vy⟩:V2)) (⟨c.nx,c.ny⟩:V2)))) (i64.wrap (1024+rest)) (i64.wrap (a.inv+b.inv))) a.inv  _)<|RN.ct [1] [] (uX a c (fZ (aA (i64.wrap (0-(dg (dC (⟨b.vx,b.vy⟩:V2) (⟨a.vx,a.vy⟩:V2)) (⟨c.nx,c.ny⟩:V2)))) (i64.wrap (1024+rest)) (i64.wrap (a.inv+b.inv))) a.inv) (n5+0) (n1+2) _ (az 3)) ?_
    rintro _ _ _
    refine ae 8 [.own 5] λ _=>RN.cp (nU (aA (i64.wrap (0-(dg (dC (⟨b.vx,b.vy⟩:V2) (⟨a.vx,a.vy⟩:V2)) (⟨c.nx,c.ny⟩:V2)))) (i64.wrap (1024+rest)) (i64.wrap (a.inv+b.inv))) b.inv  _)<|RN.ct [1] [] (wD b c (fZ (aA (i64.wrap (0-(dg (dC (⟨b.vx,b.vy⟩:V2) (⟨a.vx,a.vy⟩:V2)) (⟨c.nx,c.ny⟩:V2)))) (i64.wrap (1024+rest)) (i64.wrap (a.inv+b.inv))) b.inv) (n6+0) (n1+2) _ (az 3)) ?_
    rintro _ _ _
    refine ae 11 [.own 4,.own 6] λ _=>RN.cp (gj c.d a.inv (i64.wrap (a.inv+b.inv))  _)<|RN.ct [1] [] (pP (dY a (al ⟨c.nx,c.ny⟩ (fZ (aA (i64.wrap (0-(dg (dC (⟨b.vx,b.vy⟩:V2) (⟨a.vx,a.vy⟩:V2)) (⟨c.nx,c.ny⟩:V2)))) (i64.wrap (1024+rest)) (i64.wrap (a.inv+b.inv))) a.inv))) c (aA c.d a.inv (i64.wrap (a.inv+b.inv))) (n5+0) (n1+2) _ (az 3)) ?_
    rintro _ _ _
    refine ae 11 [.own 4,.own 5] λ _=>RN.cp (gj c.d b.inv (i64.wrap (a.inv+b.inv))  _)<|RN.ct [1] [] (pO (cM b (al ⟨c.nx,c.ny⟩ (fZ (aA (i64.wrap (0-(dg (dC (⟨b.vx,b.vy⟩:V2) (⟨a.vx,a.vy⟩:V2)) (⟨c.nx,c.ny⟩:V2)))) (i64.wrap (1024+rest)) (i64.wrap (a.inv+b.inv))) b.inv))) c (aA c.d b.inv (i64.wrap (a.inv+b.inv))) (n6+0) (n1+2) _ (az 3)) ?_
    rintro _ _ _
    refine ae 4 [] λ _=>RN.cp (jv (dj (dY a (al ⟨c.nx,c.ny⟩ (fZ (aA (i64.wrap (0-(dg (dC (⟨b.vx,b.vy⟩:V2) (⟨a.vx,a.vy⟩:V2)) (⟨c.nx,c.ny⟩:V2)))) (i64.wrap (1024+rest)) (i64.wrap (a.inv+b.inv))) a.inv))) (al ⟨c.nx,c.ny⟩ (aA c.d a.inv (i64.wrap (a.inv+b.inv))))) (n5+0) _ (az 1))<|RN.cp (jv (fq (cM b (al ⟨c.nx,c.ny⟩ (fZ (aA (i64.wrap (0-(dg (dC (⟨b.vx,b.vy⟩:V2) (⟨a.vx,a.vy⟩:V2)) (⟨c.nx,c.ny⟩:V2)))) (i64.wrap (1024+rest)) (i64.wrap (a.inv+b.inv))) b.inv))) (al ⟨c.nx,c.ny⟩ (aA c.d b.inv (i64.wrap (a.inv+b.inv))))) (n6+0) _ (az 0))<|ae 4 (ow 3 5++ow 2 5) λ _=>RN.ret (ow 3 5++ow 2 5) [] [] (v:=.tuple #[.agg #[vI ((gm (dj (dY a (al ⟨c.nx,c.ny⟩ (fZ (aA (i64.wrap (0-(dg (dC (⟨b.vx,b.vy⟩:V2) (⟨a.vx,a.vy⟩:V2)) (⟨c.nx,c.ny⟩:V2)))) (i64.wrap (1024+rest)) (i64.wrap (a.inv+b.inv))) a.inv))) (al ⟨c.nx,c.ny⟩ (aA c.d a.inv (i64.wrap (a.inv+b.inv)))))).px),vI ((gm (dj (dY a (al ⟨c.nx,c.ny⟩ (fZ (aA (i64.wrap (0-(dg (dC (⟨b.vx,b.vy⟩:V2) (⟨a.vx,a.vy⟩:V2)) (⟨c.nx,c.ny⟩:V2)))) (i64.wrap (1024+rest)) (i64.wrap (a.inv+b.inv))) a.inv))) (al ⟨c.nx,c.ny⟩ (aA c.d a.inv (i64.wrap (a.inv+b.inv)))))).py),vI ((gm (dj (dY a (al ⟨c.nx,c.ny⟩ (fZ (aA (i64.wrap (0-(dg (dC (⟨b.vx,b.vy⟩:V2) (⟨a.vx,a.vy⟩:V2)) (⟨c.nx,c.ny⟩:V2)))) (i64.wrap (1024+rest)) (i64.wrap (a.inv+b.inv))) a.inv))) (al ⟨c.nx,c.ny⟩ (aA c.d a.inv (i64.wrap (a.inv+b.inv)))))).vx),vI ((gm (dj (dY a (al ⟨c.nx,c.ny⟩ (fZ (aA (i64.wrap (0-(dg (dC (⟨b.vx,b.vy⟩:V2) (⟨a.vx,a.vy⟩:V2)) (⟨c.nx,c.ny⟩:V2)))) (i64.wrap (1024+rest)) (i64.wrap (a.inv+b.inv))) a.inv))) (al ⟨c.nx,c.ny⟩ (aA c.d a.inv (i64.wrap (a.inv+b.inv)))))).vy),vI ((gm (dj (dY a (al ⟨c.nx,c.ny⟩ (fZ (aA (i64.wrap (0-(dg (dC (⟨b.vx,b.vy⟩:V2) (⟨a.vx,a.vy⟩:V2)) (⟨c.nx,c.ny⟩:V2)))) (i64.wrap (1024+rest)) (i64.wrap (a.inv+b.inv))) a.inv))) (al ⟨c.nx,c.ny⟩ (aA c.d a.inv (i64.wrap (a.inv+b.inv)))))).inv)],.agg #[vI ((gm (fq (cM b (al ⟨c.nx,c.ny⟩ (fZ (aA (i64.wrap (0-(dg (dC (⟨b.vx,b.vy⟩:V2) (⟨a.vx,a.vy⟩:V2)) (⟨c.nx,c.ny⟩:V2)))) (i64.wrap (1024+rest)) (i64.wrap (a.inv+b.inv))) b.inv))) (al ⟨c.nx,c.ny⟩ (aA c.d b.inv (i64.wrap (a.inv+b.inv)))))).px),vI ((gm (fq (cM b (al ⟨c.nx,c.ny⟩ (fZ (aA (i64.wrap (0-(dg (dC (⟨b.vx,b.vy⟩:V2) (⟨a.vx,a.vy⟩:V2)) (⟨c.nx,c.ny⟩:V2)))) (i64.wrap (1024+rest)) (i64.wrap (a.inv+b.inv))) b.inv))) (al ⟨c.nx,c.ny⟩ (aA c.d b.inv (i64.wrap (a.inv+b.inv)))))).py),vI ((gm (fq (cM b (al ⟨c.nx,c.ny⟩ (fZ (aA (i64.wrap (0-(dg (dC (⟨b.vx,b.vy⟩:V2) (⟨a.vx,a.vy⟩:V2)) (⟨c.nx,c.ny⟩:V2)))) (i64.wrap (1024+rest)) (i64.wrap (a.inv+b.inv))) b.inv))) (al ⟨c.nx,c.ny⟩ (aA c.d b.inv (i64.wrap (a.inv+b.inv)))))).vx),vI ((gm (fq (cM b (al ⟨c.nx,c.ny⟩ (fZ (aA (i64.wrap (0-(dg (dC (⟨b.vx,b.vy⟩:V2) (⟨a.vx,a.vy⟩:V2)) (⟨c.nx,c.ny⟩:V2)))) (i64.wrap (1024+rest)) (i64.wrap (a.inv+b.inv))) b.inv))) (al ⟨c.nx,c.ny⟩ (aA c.d b.inv (i64.wrap (a.inv+b.inv)))))).vy),vI ((gm (fq (cM b (al ⟨c.nx,c.ny⟩ (fZ (aA (i64.wrap (0-(dg (dC (⟨b.vx,b.vy⟩:V2) (⟨a.vx,a.vy⟩:V2)) (⟨c.nx,c.ny⟩:V2)))) (i64.wrap (1024+rest)) (i64.wrap (a.inv+b.inv))) b.inv))) (al ⟨c.nx,c.ny⟩ (aA c.d b.inv (i64.wrap (a.inv+b.inv)))))).inv)]]) (H':=[]) ?_
    refine⟨?_,rfl⟩
    rw[show cC a b c rest=_ from if_neg (show ¬ bg (a.inv+b.inv)=0 from h2)]
    rw[show Qs a b c rest=_ from if_pos (show rsSp a b c<0 from h7),show Qt a b c rest=_ from if_pos (show rsSp a b c<0 from h7)]
    first|rfl|skip
   ·refine ae 12 [.own 4,.own 6] λ _=>RN.cp (gj c.d a.inv (i64.wrap (a.inv+b.inv))  _)<|RN.ct [1] [] (pP a c (aA c.d a.inv (i64.wrap (a.inv+b.inv))) (n5+0) (n1+2) _ (az 3)) ?_
    rintro _ _ _
    refine ae 11 [.own 4,.own 5] λ _=>RN.cp (gj c.d b.inv (i64.wrap (a.inv+b.inv))  _)<|RN.ct [1] [] (pO b c (aA c.d b.inv (i64.wrap (a.inv+b.inv))) (n6+0) (n1+2) _ (az 3)) ?_
    rintro _ _ _
    refine ae 4 [] λ _=>RN.cp (jv (dj a (al ⟨c.nx,c.ny⟩ (aA c.d a.inv (i64.wrap (a.inv+b.inv))))) (n5+0) _ (az 1))<|RN.cp (jv (fq b (al ⟨c.nx,c.ny⟩ (aA c.d b.inv (i64.wrap (a.inv+b.inv))))) (n6+0) _ (az 0))<|ae 4 (ow 3 5++ow 2 5) λ _=>RN.ret (ow 3 5++ow 2 5) [] [] (v:=.tuple #[.agg #[vI ((gm (dj a (al ⟨c.nx,c.ny⟩ (aA c.d a.inv (i64.wrap (a.inv+b.inv)))))).px),vI ((gm (dj a (al ⟨c.nx,c.ny⟩ (aA c.d a.inv (i64.wrap (a.inv+b.inv)))))).py),vI ((gm (dj a (al ⟨c.nx,c.ny⟩ (aA c.d a.inv (i64.wrap (a.inv+b.inv)))))).vx),vI ((gm (dj a (al ⟨c.nx,c.ny⟩ (aA c.d a.inv (i64.wrap (a.inv+b.inv)))))).vy),vI ((gm (dj a (al ⟨c.nx,c.ny⟩ (aA c.d a.inv (i64.wrap (a.inv+b.inv)))))).inv)],.agg #[vI ((gm (fq b (al ⟨c.nx,c.ny⟩ (aA c.d b.inv (i64.wrap (a.inv+b.inv)))))).px),vI ((gm (fq b (al ⟨c.nx,c.ny⟩ (aA c.d b.inv (i64.wrap (a.inv+b.inv)))))).py),vI ((gm (fq b (al ⟨c.nx,c.ny⟩ (aA c.d b.inv (i64.wrap (a.inv+b.inv)))))).vx),vI ((gm (fq b (al ⟨c.nx,c.ny⟩ (aA c.d b.inv (i64.wrap (a.inv+b.inv)))))).vy),vI ((gm (fq b (al ⟨c.nx,c.ny⟩ (aA c.d b.inv (i64.wrap (a.inv+b.inv)))))).inv)]]) (H':=[]) ?_
    refine⟨?_,rfl⟩
    rw[show cC a b c rest=_ from if_neg (show ¬ bg (a.inv+b.inv)=0 from h2)]
    rw[show Qs a b c rest=_ from if_neg (show ¬ rsSp a b c<0 from h7),show Qt a b c rest=_ from if_neg (show ¬ rsSp a b c<0 from h7)]
    first|rfl|skip
  ·intro U5
   refine fQ 4 5 ?_ ?_
   ·refine RDO.ev [] [] λ n9=>RD.one 5 (RDO.ev [] [] λ Sg=>?_)
    refine RD.one 6 (RDO.ev [2,3,4,5,6] (ow 1 5) λ _=>?_)
    refine RD.one 7 (RDO.ev [2,3,4,5,6] (ow 0 5) λ _=>?_)
    exact U5 ⟨n9,Sg⟩ [0,1,2,3,4,5,6] []
   ·refine RDO.ev [] [] λ n11=>RD.one 4 (RDO.ev [] [] λ Xm=>?_)
    refine RD.one 6 (RDO.ev [2,3,4,5,6] (ow 0 5) λ _=>?_)
    refine RD.one 7 (RDO.ev [2,3,4,5,6] (ow 1 5) λ _=>?_)
    exact U5 ⟨Xm,n11⟩ [1,0,2,3,4,5,6] []
def oV(pos Xl:V2)(k:Int):V2:=aD pos (eL Xl k 8)
def qX(a:Shp)(pa va:V2)(b:Shp)(pb vb:V2)(k:Int):Bool:=(cB a (oV pa va k) b (oV pb vb k)).2
def qY(a:Shp)(pa va:V2)(b:Shp)(pb vb:V2):Nat -> Nat -> Int
 | 0,_=>1024
 | n+1,k=>if qX a pa va b pb vb ((k:Int)+1)=true then ((k:Int)*1024) / 8 else qY a pa va b pb vb n (k+1)
def mG(a:Shp)(pa va:V2)(b:Shp)(pb vb:V2):Int:=if qX a pa va b pb vb 0=true then 1024 else qY a pa va b pb vb 8 0
theorem tE(pos:V2)(Xl:V2)(k:Int)  (F:HL):Sp Tryz.prog 245 #[.agg #[vI pos.x,vI pos.y],.agg #[vI Xl.x,vI Xl.y],vI k] [] F (λ u H'=>u=.agg #[vI ((oV pos Xl k).x),vI ((oV pos Xl k).y)] /\ H'=[]):=by
 refine Sp.run Tryz.func245 rfl mn (A:=[]) (Ts:=[]) rfl λ w0=>?_
 refine ae 8 [] λ n1=>RN.draw [5] []<|ag [] [0,1,2] [.own 2,.own 2,.own 1,.own 1]<|RD.cp [] 3 (λ X_=>(lx Xl k 8  _))<|RD.cp [] 4 (λ X_=>(eo pos (eL Xl k 8)  _))<|RD.one 5 (RDO.ev [] [.own 0,.own 0] λ _=>?_)
 refine RD.fin<|ae 1 [] λ _=>?_
 exact RN.ret [.own 0,.own 0] [] [] ⟨rfl,rfl⟩
theorem tF(a:Shp)(pa va:V2)(b:Shp)(pb vb:V2)(k:Int)(q1 q2 q3 q4 q5 q6:Nat)(F:HL)(ha:ShIn F a)(hb:ShIn F b)(SF:(q1,.lit [vI a.r,.slice a.A a.poly.length a.cap] 73 (0,0))∈F)(QY:(q2,.lit [vI pa.x,vI pa.y] 29 (0,0))∈F)(SE:(q3,.lit [vI va.x,vI va.y] 29 (0,0))∈F)(TO:(q4,.lit [vI b.r,.slice b.A b.poly.length b.cap] 73 (0,0))∈F)(hq5:(q5,.lit [vI pb.x,vI pb.y] 29 (0,0))∈F)(hq6:(q6,.lit [vI vb.x,vI vb.y] 29 (0,0))∈F):Sp Tryz.prog 244 #[vI k,vP q1 0,vP q2 0,vP q3 0,vP q4 0,vP q5 0,vP q6 0] [] F (λ u H'=>u=.bool (qX a pa va b pb vb k) /\ H'=[]):=by
 refine Sp.run Tryz.func244 rfl (mc SF (mc QY (mc SE (mc TO (mc hq5 (mc hq6 mn)))))) (A:=[]) (Ts:=[]) rfl λ w0=>?_
 refine ae 6 [] λ _=>RN.draw [15] []<|ag [] [0,1,2,3,5,6,7,8] [.ro 0,.ro 0,.ro 1,.ro 1,.ro 2,.ro 2,.ro 3,.ro 3,.ro 4,.ro 4,.ro 5,.ro 5]<|RD.cp [] 4 (λ X_=>(tE pa va k  _))<|RD.cp [] 9 (λ X_=>(tE pb vb k  _))<|RD.cp [] 10 (λ X_=>(pN a (oV pa va k) b (oV pb vb k) _ (ha.up.up) (hb.up.up)))<|ag [] [11,12,13] []<|RD.one 14 (RDO.ev [] [] λ n2=>?_)
 refine RD.one 15 (RDO.ev [] [.own 0,.own 0,.own 0] λ _=>?_)
 refine ag [] [16] []<|RD.fin<|ae 7 [] λ _=>?_
 exact RN.ret [] [] [] ⟨rfl,rfl⟩
theorem uY(a:Shp)(pa va:V2)(b:Shp)(pb vb:V2)(F:HL)(ha:ShIn F a)(hb:ShIn F b):Sp Tryz.prog 216 #[.agg #[vI a.r,.slice a.A a.poly.length a.cap],.agg #[vI pa.x,vI pa.y],.agg #[vI va.x,vI va.y],.agg #[vI b.r,.slice b.A b.poly.length b.cap],.agg #[vI pb.x,vI pb.y],.agg #[vI vb.x,vI vb.y]] [] F (λ u H'=>u=vI (mG a pa va b pb vb) /\ H'=[]):=by
 refine Sp.run Tryz.func216 rfl mn (A:=[]) (Ts:=[]) rfl λ w0=>?_
 refine ae 21 [] λ n1=>RN.cp (tF a pa va b pb vb 0 (n1+0) (n1+1) (n1+2) (n1+3) (n1+4) (n1+5) _ ha.up hb.up (az 5) (az 4) (az 3) (az 2) (az 1) (az 0))<|ae 2 [] λ _=>jo (qX a pa va b pb vb 0) 17 (λ h2=>?_) λ h2=>?_
 ·refine ae 6 [] λ _=>RN.ret [] [] [] (v:=vI 1024) (H':=[]) ?_
  exact⟨by rw[mG,if_pos h2],rfl⟩
 ·refine ae 10 [] λ _=>RN.loop (σ:=Nat) (λ n=>⟨[(13,.func (.func 244) #[] #[vP (n1+0) 0,vP (n1+1) 0,vP (n1+2) 0,vP (n1+3) 0,vP (n1+4) 0,vP (n1+5) 0]),(18,vI (n:Int))],[((n1+5),.lit [vI vb.x,vI vb.y] 29 (0,0)),((n1+4),.lit [vI pb.x,vI pb.y] 29 (0,0)),((n1+3),.lit [vI b.r,.slice b.A b.poly.length b.cap] 73 (0,0)),((n1+2),.lit [vI va.x,vI va.y] 29 (0,0)),((n1+1),.lit [vI pa.x,vI pa.y] 29 (0,0)),((n1+0),.lit [vI a.r,.slice a.A a.poly.length a.cap] 73 (0,0))],[],n <= 8 /\ qY a pa va b pb vb (8-n) n=qY a pa va b pb vb 8 0,8-n⟩) 0 [0,1,2,3,4,5] [] (⟨Nat.zero_le _,rfl⟩) ?_
  rintro n ⟨Yn,XM⟩ mt4
  refine ae 6 [] λ _=>RN.em ((n:Int)<8) 19 (λ h5=>?_) λ h5=>?_
  ·refine ai 16 [.nw] [aU ((n:Int)+1)] λ _=>RN.cp (tF a pa va b pb vb ((n:Int)+1) (n1+0) (n1+1) (n1+2) (n1+3) (n1+4) (n1+5) _ ha.up hb.up (az 5) (az 4) (az 3) (az 2) (az 1) (az 0))<|ae 2 [] λ _=>jo (qX a pa va b pb vb ((n:Int)+1)) 24 (λ h6=>?_) λ h6=>?_
   ·refine ai 9 [.nw,.nw] [0 <= (n:Int)*1024 /\ (0:Int)<8 /\ (n:Int)*1024 <= 9223372036854775807,aU ((n:Int)*1024)] λ _=>RN.ret [] [] [] (v:=vI (((n:Int)*1024) / 8)) (H':=[]) ?_
    refine⟨?_,rfl⟩
    rw[mG,if_neg h2,<- XM]
    rw[show 8-n=(8-(n+1))+1 by omega,qY,if_pos h6]
   ·refine ai 8 [.nw] [aU ((n:Int)+1)] λ _=>?_
    refine mt4 (n+1) [0,1,2,3,4,5] [] ?_
    try dsimp only
    refine⟨⟨by omega,?_⟩,by omega⟩
    rw[<- XM,show 8-n=(8-(n+1))+1 by omega,qY,if_neg h6]
  ·refine ae 11 [] λ _=>RN.ret [] [] [] (v:=vI 1024) (H':=[]) ?_
   refine⟨?_,rfl⟩
   rw[mG,if_neg h2,<- XM]
   rw[show 8-n=0 by omega,qY]
end Go.Proofs.YtgdcbiiopbpgaaaGreatDoor
