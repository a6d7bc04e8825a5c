import Derived.Test.YtgdcbiiopbpgaaaGreatDoorR04
import Derived.Test.YtgdcbiiopbpgaaaGreatDoorR03
set_option maxHeartbeats 4000000
set_option maxRecDepth 100000
set_option linter.unusedSimpArgs false
set_option linter.unusedVariables false
namespace Go.Proofs.YtgdcbiiopbpgaaaGreatDoor
open IntKind
open Go.RowKit
def VR.z(r:VR):VR:=⟨r.M,0,r.e,r.em⟩
abbrev Stp.f(t:Stp):Eff:=⟨t.f0,t.f1,t.f2,t.f3⟩
def Stp.upd(t:Stp)(r:VR):Stp:={ t with f0:=r.e.t,f1:=r.e.i,f2:=r.e.k,f3:=r.e.v,emitted:=r.em }
def eS(e:Int)(t:Stp)(self other:Int)(M:MemS):VR:=if t.j=0 then (if e<0 then ⟨aM e t.S.fuel self other M,0,t.f,t.emitted⟩ else ⟨(aM e t.S.fuel self other M).set 3 1,0,t.f,t.emitted⟩) else ⟨(ak t.S t.code t.cn M).M,0,(ak t.S t.code t.cn M).e,(ak t.S t.code t.cn M).em⟩
def dt(e:Int)(t:Stp)(self other:Int)(M:MemS):Bool:=if t.j=0 then decide (e<0) else bq t.code t.cn M
abbrev b7(t:Stp)(a b:Int)(M:MemS):VR:=eS t.e0 t a b M
abbrev db(t:Stp)(a b:Int)(M:MemS):VR:=eS t.e1 t a b M
abbrev b8(t:Stp)(a b:Int)(M:MemS):VR:=eS t.e2 t a b M
abbrev jI(t:Stp)(a b:Int)(M:MemS):Bool:=dt t.e0 t a b M
abbrev jT(t:Stp)(a b:Int)(M:MemS):Bool:=dt t.e1 t a b M
abbrev jJ(t:Stp)(a b:Int)(M:MemS):Bool:=dt t.e2 t a b M
def dH(r:VR)(over:Bool)(t:Stp)(RY:Bool)(M:MemS):VR:=if t.j=0 then (if RY=true then (if over=true then ⟨r.M.set 2 (aZ (t.i+1)),0,r.e,r.em⟩ else ⟨r.M,0,r.e,r.em⟩) else ⟨M.set 2 (aZ (t.i+1)),0,t.f,t.emitted⟩) else (if over=true then ⟨(r.M.set 3 0).set 2 (aZ (t.i+1)),0,r.e,r.em⟩ else ⟨r.M,0,r.e,r.em⟩)
abbrev cP(t:Stp)(b:Int)(c:Bool)(M:MemS):VR:=dH (b7 t t.i b M) (jI t t.i b M) t c M
abbrev cQ(t:Stp)(b:Int)(c:Bool)(M:MemS):VR:=dH (b8 t t.i b M) (jJ t t.i b M) t c M
def fj(t:Stp)(M:MemS):VR:=if ah t.S t.i<0 then ⟨aL t 2 0 M,0,t.f,t.emitted⟩ else (cP t (M.get (ah t.S t.i+2)) (!decide (M.get (ah t.S t.i+2)=0)) M).z
def cY(t:Stp)(M:MemS):VR:=if jT t 0 0 M=true then ⟨aL t 3 0 (db t 0 0 M).M,0,(db t 0 0 M).e,(db t 0 0 M).em⟩ else ⟨(db t 0 0 M).M,0,(db t 0 0 M).e,(db t 0 0 M).em⟩
def fl(t:Stp)(M:MemS):VR:=if af t.S t.i<0 then ⟨aL t 7 0 M,0,t.f,t.emitted⟩ else (cQ t (aZ (M.get (af t.S t.i+6)-1)) (!decide (M.get (af t.S t.i+6)=0)) M).z
theorem Fk(t:Stp)(a:Int)(b:Int)(tb mb:Nat)(M:MemS)(k:Nat)(T F:HL)(hM:MemH mb M (k+6) T)(hS:SetIn F t.S)(hE:cX F)(hC:CodeIn F t.code t.cA t.cn) :Sp Tryz.prog 186 #[vP tb 0,vI 0,vI a,vI b] (ap [(tb,.lit (Stp.l t mb) 275 (0,0))] [T]) F (λ u H'=>∃x,H'=ap [(tb,.lit ((Stp.lp t mb)++[vI ((b7 t a b M).e.t),vI ((b7 t a b M).e.i),vI ((b7 t a b M).e.k),vI ((b7 t a b M).e.v),.bool ((b7 t a b M).em)]) 275 (0,0))] [x] /\ (MemH mb (b7 t a b M).M k x /\ u=.bool (jI t a b M))):=by
 have hp:=hS.pl
 have hn:=hS.nb
 have hr:=hS.room
 refine Sp.run Tryz.func186 rfl (mc hS.blk mn) (A:=[(tb,.lit (Stp.l t mb) 275 (0,0))]) (Ts:=[T]) rfl λ w0=>?_
 refine ae 15 [.own 0] λ _=>RN.em (t.j=0) 16 (λ h1=>?_) λ h1=>?_
 ·refine ae 3 [] λ _=>RN.draw [16] []<|ag [] [0,4,8,9,10,11,1,5,12,2,6,13,3,7,14,15] (ow 0 6)<|RD.one 16 (RDO.ct [] [] [0] (Fg mb M (k+1) T t.cA t.cn t.cc t.e0 t.e1 t.e2 a b t.S.fuel _ hM) ?_)
  rintro _ T2 ⟨R8,rfl⟩
  refine ag [] [17] []<|RD.fin<|ae 1 [] λ _=>?_
  rcases Decidable.em (t.e0<0) with h4|h4
  ·refine cF 34 (nf (nt (decide_eq_true h4)))<|ae 6 [] λ _=>RN.ret [] [0] [0] (v:=.bool true) (H':=(ap [(tb,.lit (Stp.l t mb) 275 (0,0))] [T2])) ?_
   have e:(b7 t a b M)=⟨(aM t.e0 t.S.fuel a b M),0,⟨t.f0,t.f1,t.f2,t.f3⟩,t.emitted⟩:=by
    first|(simp only[b7,eS,if_pos h1,if_pos h4];try rfl;done)|rfl
   have er:(jI t a b M)=true:=by
    first|(simp only[jI,dt,if_pos h1,if_pos h4];done)|(simp only[jI,dt,if_pos h1,if_pos h4];simp[*];done)|(simp only[jI,dt,if_pos h1,if_pos h4];rfl)
   refine⟨T2,by rw[e] <;> rfl,?_,by rw[er]⟩
   rw[e]
   exact R8.weak (by omega)
  ·refine cF 34 (nt (nf (decide_eq_false h4)))<|ae 9 [.own 0] λ _=>RN.ct [] [0] (aj 3 1 R8) ?_
   rintro _ T5 Ry
   refine ae 7 [] λ _=>RN.ret [] [0] [0] (v:=.bool false) (H':=(ap [(tb,.lit (Stp.l t mb) 275 (0,0))] [T5])) ?_
   have e:(b7 t a b M)=⟨((aM t.e0 t.S.fuel a b M).set 3 1),0,⟨t.f0,t.f1,t.f2,t.f3⟩,t.emitted⟩:=by
    first|(simp only[b7,eS,if_pos h1,if_neg h4];try rfl;done)|rfl
   have er:(jI t a b M)=false:=by
    first|(simp only[jI,dt,if_pos h1,if_neg h4];done)|(simp only[jI,dt,if_pos h1,if_neg h4];simp[*];done)|(simp only[jI,dt,if_pos h1,if_neg h4];rfl)
   refine⟨T5,by rw[e] <;> rfl,?_,by rw[er]⟩
   rw[e]
   exact Ry.weak (by omega)
 ·refine ae 4 [] λ _=>RN.draw [12,19] []<|ag [] [0,4,8,1,5,9,2,6,10,3,7,11] (ow 0 21)<|fQ 12 17 ?_ ?_
  ·refine RDO.ct [] [] [0] (iA mb M k T t.S t.code t.cA t.cn t.cc t.e0 t.e1 t.e2 _ hM hS.toSetN (ar hE) hC.up) ?_
   rintro _ T7 ⟨Sh,rfl⟩
   refine ag [] [13,14,15,16] []<|RD.one 17 (RDO.ev [] [] λ n9=>?_)
   refine ag [] [18] []<|RD.one 19 (RDO.ev [] [.own 0,.own 0,.own 0,.own 0] λ _=>?_)
   refine ag [] [20] []<|RD.fin<|ae 21 ([.own 0,.own 0,.own 0,.own 0]++ow 1 5) λ _=>RN.ret [] [1] [0] (v:=.bool (bq t.code t.cn M)) (H':=(ap [(tb,.lit ((Stp.lp t mb)++[vI ((ak t.S t.code t.cn M).e.t),vI ((ak t.S t.code t.cn M).e.i),vI ((ak t.S t.code t.cn M).e.k),vI ((ak t.S t.code t.cn M).e.v),.bool ((ak t.S t.code t.cn M).em)]) 275 (0,0))] [T7])) ?_
   have e:(b7 t a b M)=⟨(ak t.S t.code t.cn M).M,0,⟨(ak t.S t.code t.cn M).e.t,(ak t.S t.code t.cn M).e.i,(ak t.S t.code t.cn M).e.k,(ak t.S t.code t.cn M).e.v⟩,(ak t.S t.code t.cn M).em⟩:=by
    first|(simp only[b7,eS,if_neg h1];try rfl;done)|rfl
   have er:(jI t a b M)=bq t.code t.cn M:=by
    first|(simp only[jI,dt,if_neg h1];done)|(simp only[jI,dt,if_neg h1];simp[*];done)|(simp only[jI,dt,if_neg h1];rfl)
   refine⟨T7,by rw[e] <;> rfl,?_,by rw[er]⟩
   rw[e]
   exact Sh.weak (by omega)
  ·refine RDO.ev [] [] λ R3=>RD.one 12 (RDO.ct [] [] [0] (iA mb M k T t.S t.code t.cA t.cn t.cc t.e0 t.e1 t.e2 _ hM hS.toSetN (ar hE) hC.up) ?_)
   rintro _ No ⟨QO,rfl⟩
   refine ag [] [13,14,15,16,18] []<|RD.one 19 (RDO.ev [] [.own 0,.own 0,.own 0,.own 0] λ _=>?_)
   refine ag [] [20] []<|RD.fin<|ae 21 ([.own 0,.own 0,.own 0,.own 0]++ow 1 5) λ _=>RN.ret [] [1] [0] (v:=.bool (bq t.code t.cn M)) (H':=(ap [(tb,.lit ((Stp.lp t mb)++[vI ((ak t.S t.code t.cn M).e.t),vI ((ak t.S t.code t.cn M).e.i),vI ((ak t.S t.code t.cn M).e.k),vI ((ak t.S t.code t.cn M).e.v),.bool ((ak t.S t.code t.cn M).em)]) 275 (0,0))] [No])) ?_
   have e:(b7 t a b M)=⟨(ak t.S t.code t.cn M).M,0,⟨(ak t.S t.code t.cn M).e.t,(ak t.S t.code t.cn M).e.i,(ak t.S t.code t.cn M).e.k,(ak t.S t.code t.cn M).e.v⟩,(ak t.S t.code t.cn M).em⟩:=by
    first|(simp only[b7,eS,if_neg h1];try rfl;done)|rfl
   have er:(jI t a b M)=bq t.code t.cn M:=by
    first|(simp only[jI,dt,if_neg h1];done)|(simp only[jI,dt,if_neg h1];simp[*];done)|(simp only[jI,dt,if_neg h1];rfl)
   refine⟨No,by rw[e] <;> rfl,?_,by rw[er]⟩
   rw[e]
   exact QO.weak (by omega)
theorem Mh(t:Stp)(a:Int)(b:Int)(tb mb:Nat)(M:MemS)(k:Nat)(T F:HL)(hM:MemH mb M (k+6) T)(hS:SetIn F t.S)(hE:cX F)(hC:CodeIn F t.code t.cA t.cn) :Sp Tryz.prog 186 #[vP tb 0,vI 1,vI a,vI b] (ap [(tb,.lit (Stp.l t mb) 275 (0,0))] [T]) F (λ u H'=>∃x,H'=ap [(tb,.lit ((Stp.lp t mb)++[vI ((db t a b M).e.t),vI ((db t a b M).e.i),vI ((db t a b M).e.k),vI ((db t a b M).e.v),.bool ((db t a b M).em)]) 275 (0,0))] [x] /\ (MemH mb (db t a b M).M k x /\ u=.bool (jT t a b M))):=by
 have hp:=hS.pl
 have hn:=hS.nb
 have hr:=hS.room
 refine Sp.run Tryz.func186 rfl (mc hS.blk mn) (A:=[(tb,.lit (Stp.l t mb) 275 (0,0))]) (Ts:=[T]) rfl λ w0=>?_
 refine ae 15 [.own 0] λ _=>RN.em (t.j=0) 16 (λ h1=>?_) λ h1=>?_
 ·refine ae 3 [] λ _=>RN.draw [16] []<|ag [] [0,4,8,9,10,11,1,5,12,2,6,13,3,7,14,15] (ow 0 6)<|RD.one 16 (RDO.ct [] [] [0] (Fh mb M (k+1) T t.cA t.cn t.cc t.e0 t.e1 t.e2 a b t.S.fuel _ hM) ?_)
  rintro _ T2 ⟨R8,rfl⟩
  refine ag [] [17] []<|RD.fin<|ae 1 [] λ _=>?_
  rcases Decidable.em (t.e1<0) with h4|h4
  ·refine cF 34 (nf (nt (decide_eq_true h4)))<|ae 6 [] λ _=>RN.ret [] [0] [0] (v:=.bool true) (H':=(ap [(tb,.lit (Stp.l t mb) 275 (0,0))] [T2])) ?_
   have e:(db t a b M)=⟨(aM t.e1 t.S.fuel a b M),0,⟨t.f0,t.f1,t.f2,t.f3⟩,t.emitted⟩:=by
    first|(simp only[db,eS,if_pos h1,if_pos h4];try rfl;done)|rfl
   have er:(jT t a b M)=true:=by
    first|(simp only[jT,dt,if_pos h1,if_pos h4];done)|(simp only[jT,dt,if_pos h1,if_pos h4];simp[*];done)|(simp only[jT,dt,if_pos h1,if_pos h4];rfl)
   refine⟨T2,by rw[e] <;> rfl,?_,by rw[er]⟩
   rw[e]
   exact R8.weak (by omega)
  ·refine cF 34 (nt (nf (decide_eq_false h4)))<|ae 9 [.own 0] λ _=>RN.ct [] [0] (aj 3 1 R8) ?_
   rintro _ T5 Ry
   refine ae 7 [] λ _=>RN.ret [] [0] [0] (v:=.bool false) (H':=(ap [(tb,.lit (Stp.l t mb) 275 (0,0))] [T5])) ?_
   have e:(db t a b M)=⟨((aM t.e1 t.S.fuel a b M).set 3 1),0,⟨t.f0,t.f1,t.f2,t.f3⟩,t.emitted⟩:=by
    first|(simp only[db,eS,if_pos h1,if_neg h4];try rfl;done)|rfl
   have er:(jT t a b M)=false:=by
    first|(simp only[jT,dt,if_pos h1,if_neg h4];done)|(simp only[jT,dt,if_pos h1,if_neg h4];simp[*];done)|(simp only[jT,dt,if_pos h1,if_neg h4];rfl)
   refine⟨T5,by rw[e] <;> rfl,?_,by rw[er]⟩
   rw[e]
   exact Ry.weak (by omega)
 ·refine ae 4 [] λ _=>RN.draw [12,19] []<|ag [] [0,4,8,1,5,9,2,6,10,3,7,11] (ow 0 21)<|fQ 12 17 ?_ ?_
  ·refine RDO.ct [] [] [0] (iA mb M k T t.S t.code t.cA t.cn t.cc t.e0 t.e1 t.e2 _ hM hS.toSetN (ar hE) hC.up) ?_
   rintro _ T7 ⟨Sh,rfl⟩
   refine ag [] [13,14,15,16] []<|RD.one 17 (RDO.ev [] [] λ n9=>?_)
   refine ag [] [18] []<|RD.one 19 (RDO.ev [] [.own 0,.own 0,.own 0,.own 0] λ _=>?_)
   refine ag [] [20] []<|RD.fin<|ae 21 ([.own 0,.own 0,.own 0,.own 0]++ow 1 5) λ _=>RN.ret [] [1] [0] (v:=.bool (bq t.code t.cn M)) (H':=(ap [(tb,.lit ((Stp.lp t mb)++[vI ((ak t.S t.code t.cn M).e.t),vI ((ak t.S t.code t.cn M).e.i),vI ((ak t.S t.code t.cn M).e.k),vI ((ak t.S t.code t.cn M).e.v),.bool ((ak t.S t.code t.cn M).em)]) 275 (0,0))] [T7])) ?_
   have e:(db t a b M)=⟨(ak t.S t.code t.cn M).M,0,⟨(ak t.S t.code t.cn M).e.t,(ak t.S t.code t.cn M).e.i,(ak t.S t.code t.cn M).e.k,(ak t.S t.code t.cn M).e.v⟩,(ak t.S t.code t.cn M).em⟩:=by
    first|(simp only[db,eS,if_neg h1];try rfl;done)|rfl
   have er:(jT t a b M)=bq t.code t.cn M:=by
    first|(simp only[jT,dt,if_neg h1];done)|(simp only[jT,dt,if_neg h1];simp[*];done)|(simp only[jT,dt,if_neg h1];rfl)
   refine⟨T7,by rw[e] <;> rfl,?_,by rw[er]⟩
   rw[e]
   exact Sh.weak (by omega)
  ·refine RDO.ev [] [] λ R3=>RD.one 12 (RDO.ct [] [] [0] (iA mb M k T t.S t.code t.cA t.cn t.cc t.e0 t.e1 t.e2 _ hM hS.toSetN (ar hE) hC.up) ?_)
   rintro _ No ⟨QO,rfl⟩
   refine ag [] [13,14,15,16,18] []<|RD.one 19 (RDO.ev [] [.own 0,.own 0,.own 0,.own 0] λ _=>?_)
   refine ag [] [20] []<|RD.fin<|ae 21 ([.own 0,.own 0,.own 0,.own 0]++ow 1 5) λ _=>RN.ret [] [1] [0] (v:=.bool (bq t.code t.cn M)) (H':=(ap [(tb,.lit ((Stp.lp t mb)++[vI ((ak t.S t.code t.cn M).e.t),vI ((ak t.S t.code t.cn M).e.i),vI ((ak t.S t.code t.cn M).e.k),vI ((ak t.S t.code t.cn M).e.v),.bool ((ak t.S t.code t.cn M).em)]) 275 (0,0))] [No])) ?_
   have e:(db t a b M)=⟨(ak t.S t.code t.cn M).M,0,⟨(ak t.S t.code t.cn M).e.t,(ak t.S t.code t.cn M).e.i,(ak t.S t.code t.cn M).e.k,(ak t.S t.code t.cn M).e.v⟩,(ak t.S t.code t.cn M).em⟩:=by
    first|(simp only[db,eS,if_neg h1];try rfl;done)|rfl
   have er:(jT t a b M)=bq t.code t.cn M:=by
    first|(simp only[jT,dt,if_neg h1];done)|(simp only[jT,dt,if_neg h1];simp[*];done)|(simp only[jT,dt,if_neg h1];rfl)
   refine⟨No,by rw[e] <;> rfl,?_,by rw[er]⟩
   rw[e]
   exact QO.weak (by omega)
theorem Fl(t:Stp)(a:Int)(b:Int)(tb mb:Nat)(M:MemS)(k:Nat)(T F:HL)(hM:MemH mb M (k+6) T)(hS:SetIn F t.S)(hE:cX F)(hC:CodeIn F t.code t.cA t.cn) :Sp Tryz.prog 186 #[vP tb 0,vI 2,vI a,vI b] (ap [(tb,.lit (Stp.l t mb) 275 (0,0))] [T]) F (λ u H'=>∃x,H'=ap [(tb,.lit ((Stp.lp t mb)++[vI ((b8 t a b M).e.t),vI ((b8 t a b M).e.i),vI ((b8 t a b M).e.k),vI ((b8 t a b M).e.v),.bool ((b8 t a b M).em)]) 275 (0,0))] [x] /\ (MemH mb (b8 t a b M).M k x /\ u=.bool (jJ t a b M))):=by
 have hp:=hS.pl
 have hn:=hS.nb
 have hr:=hS.room
 refine Sp.run Tryz.func186 rfl (mc hS.blk mn) (A:=[(tb,.lit (Stp.l t mb) 275 (0,0))]) (Ts:=[T]) rfl λ w0=>?_
 refine ae 15 [.own 0] λ _=>RN.em (t.j=0) 16 (λ h1=>?_) λ h1=>?_
 ·refine ae 3 [] λ _=>RN.draw [16] []<|ag [] [0,4,8,9,10,11,1,5,12,2,6,13,3,7,14,15] (ow 0 6)<|RD.one 16 (RDO.ct [] [] [0] (Fi mb M (k+1) T t.cA t.cn t.cc t.e0 t.e1 t.e2 a b t.S.fuel _ hM) ?_)
  rintro _ T2 ⟨R8,rfl⟩
  refine ag [] [17] []<|RD.fin<|ae 1 [] λ _=>?_
  rcases Decidable.em (t.e2<0) with h4|h4
  ·refine cF 34 (nf (nt (decide_eq_true h4)))<|ae 6 [] λ _=>RN.ret [] [0] [0] (v:=.bool true) (H':=(ap [(tb,.lit (Stp.l t mb) 275 (0,0))] [T2])) ?_
   have e:(b8 t a b M)=⟨(aM t.e2 t.S.fuel a b M),0,⟨t.f0,t.f1,t.f2,t.f3⟩,t.emitted⟩:=by
    first|(simp only[b8,eS,if_pos h1,if_pos h4];try rfl;done)|rfl
   have er:(jJ t a b M)=true:=by
    first|(simp only[jJ,dt,if_pos h1,if_pos h4];done)|(simp only[jJ,dt,if_pos h1,if_pos h4];simp[*];done)|(simp only[jJ,dt,if_pos h1,if_pos h4];rfl)
   refine⟨T2,by rw[e] <;> rfl,?_,by rw[er]⟩
   rw[e]
   exact R8.weak (by omega)
  ·refine cF 34 (nt (nf (decide_eq_false h4)))<|ae 9 [.own 0] λ _=>RN.ct [] [0] (aj 3 1 R8) ?_
   rintro _ T5 Ry
   refine ae 7 [] λ _=>RN.ret [] [0] [0] (v:=.bool false) (H':=(ap [(tb,.lit (Stp.l t mb) 275 (0,0))] [T5])) ?_
   have e:(b8 t a b M)=⟨((aM t.e2 t.S.fuel a b M).set 3 1),0,⟨t.f0,t.f1,t.f2,t.f3⟩,t.emitted⟩:=by
    first|(simp only[b8,eS,if_pos h1,if_neg h4];try rfl;done)|rfl
   have er:(jJ t a b M)=false:=by
    first|(simp only[jJ,dt,if_pos h1,if_neg h4];done)|(simp only[jJ,dt,if_pos h1,if_neg h4];simp[*];done)|(simp only[jJ,dt,if_pos h1,if_neg h4];rfl)
   refine⟨T5,by rw[e] <;> rfl,?_,by rw[er]⟩
   rw[e]
   exact Ry.weak (by omega)
 ·refine ae 4 [] λ _=>RN.draw [12,19] []<|ag [] [0,4,8,1,5,9,2,6,10,3,7,11] (ow 0 21)<|fQ 12 17 ?_ ?_
  ·refine RDO.ct [] [] [0] (iA mb M k T t.S t.code t.cA t.cn t.cc t.e0 t.e1 t.e2 _ hM hS.toSetN (ar hE) hC.up) ?_
   rintro _ T7 ⟨Sh,rfl⟩
   refine ag [] [13,14,15,16] []<|RD.one 17 (RDO.ev [] [] λ n9=>?_)
   refine ag [] [18] []<|RD.one 19 (RDO.ev [] [.own 0,.own 0,.own 0,.own 0] λ _=>?_)
   refine ag [] [20] []<|RD.fin<|ae 21 ([.own 0,.own 0,.own 0,.own 0]++ow 1 5) λ _=>RN.ret [] [1] [0] (v:=.bool (bq t.code t.cn M)) (H':=(ap [(tb,.lit ((Stp.lp t mb)++[vI ((ak t.S t.code t.cn M).e.t),vI ((ak t.S t.code t.cn M).e.i),vI ((ak t.S t.code t.cn M).e.k),vI ((ak t.S t.code t.cn M).e.v),.bool ((ak t.S t.code t.cn M).em)]) 275 (0,0))] [T7])) ?_
   have e:(b8 t a b M)=⟨(ak t.S t.code t.cn M).M,0,⟨(ak t.S t.code t.cn M).e.t,(ak t.S t.code t.cn M).e.i,(ak t.S t.code t.cn M).e.k,(ak t.S t.code t.cn M).e.v⟩,(ak t.S t.code t.cn M).em⟩:=by
    first|(simp only[b8,eS,if_neg h1];try rfl;done)|rfl
   have er:(jJ t a b M)=bq t.code t.cn M:=by
    first|(simp only[jJ,dt,if_neg h1];done)|(simp only[jJ,dt,if_neg h1];simp[*];done)|(simp only[jJ,dt,if_neg h1];rfl)
   refine⟨T7,by rw[e] <;> rfl,?_,by rw[er]⟩
   rw[e]
   exact Sh.weak (by omega)
  ·refine RDO.ev [] [] λ R3=>RD.one 12 (RDO.ct [] [] [0] (iA mb M k T t.S t.code t.cA t.cn t.cc t.e0 t.e1 t.e2 _ hM hS.toSetN (ar hE) hC.up) ?_)
   rintro _ No ⟨QO,rfl⟩
   refine ag [] [13,14,15,16,18] []<|RD.one 19 (RDO.ev [] [.own 0,.own 0,.own 0,.own 0] λ _=>?_)
   refine ag [] [20] []<|RD.fin<|ae 21 ([.own 0,.own 0,.own 0,.own 0]++ow 1 5) λ _=>RN.ret [] [1] [0] (v:=.bool (bq t.code t.cn M)) (H':=(ap [(tb,.lit ((Stp.lp t mb)++[vI ((ak t.S t.code t.cn M).e.t),vI ((ak t.S t.code t.cn M).e.i),vI ((ak t.S t.code t.cn M).e.k),vI ((ak t.S t.code t.cn M).e.v),.bool ((ak t.S t.code t.cn M).em)]) 275 (0,0))] [No])) ?_
   have e:(b8 t a b M)=⟨(ak t.S t.code t.cn M).M,0,⟨(ak t.S t.code t.cn M).e.t,(ak t.S t.code t.cn M).e.i,(ak t.S t.code t.cn M).e.k,(ak t.S t.code t.cn M).e.v⟩,(ak t.S t.code t.cn M).em⟩:=by
    first|(simp only[b8,eS,if_neg h1];try rfl;done)|rfl
   have er:(jJ t a b M)=bq t.code t.cn M:=by
    first|(simp only[jJ,dt,if_neg h1];done)|(simp only[jJ,dt,if_neg h1];simp[*];done)|(simp only[jJ,dt,if_neg h1];rfl)
   refine⟨No,by rw[e] <;> rfl,?_,by rw[er]⟩
   rw[e]
   exact QO.weak (by omega)
theorem Ju(t:Stp)(b:Int)(c:Bool)(tb mb:Nat)(M:MemS)(k:Nat)(T F:HL)(hM:MemH mb M (k+8) T)(hS:SetIn F t.S)(hE:cX F)(hC:CodeIn F t.code t.cA t.cn) :Sp Tryz.prog 185 #[vP tb 0,vI 0,vI b,.bool c] (ap [(tb,.lit (Stp.l t mb) 275 (0,0))] [T]) F (λ u H'=>∃x,H'=ap [(tb,.lit ((Stp.lp t mb)++[vI ((cP t b c M).e.t),vI ((cP t b c M).e.i),vI ((cP t b c M).e.k),vI ((cP t b c M).e.v),.bool ((cP t b c M).em)]) 275 (0,0))] [x] /\ (MemH mb (cP t b c M).M k x)):=by
 have hp:=hS.pl
 have hn:=hS.nb
 have hr:=hS.room
 refine Sp.run Tryz.func185 rfl (mc hS.blk mn) (A:=[(tb,.lit (Stp.l t mb) 275 (0,0))]) (Ts:=[T]) rfl λ w0=>?_
 refine ae 8 [.own 0] λ _=>RN.em (t.j=0) 13 (λ h1=>?_) λ h1=>?_
 ·refine ae 5 [] λ _=>s8 (c) 16 (λ h2=>?_) λ h2=>?_
  ·refine ae 10 [.own 0] λ _=>RN.ct [0] [0] (Fk t t.i b tb mb M (k+2) T _ hM hS.up (ar hE) hC.up) ?_
   rintro _ T3 ⟨K_,rfl⟩
   refine ae 2 [] λ _=>jl (jI t t.i b M) 36 (λ h5=>?_) λ h5=>?_
   ·refine ae 11 [.own 0] λ _=>cF 41 (nt (decide_eq_true h1))<|ae 3 [] λ _=>RN.draw [11] []<|ag [] [0,4,1,5,2,6,3,7,8,9,10] [.own 0,.own 0]<|RD.one 11 (RDO.ct [] [] [0] (aj 2 (i64.wrap (t.i+1)) K_) ?_)
    rintro _ T6 WQ
    refine RD.fin<|RN.ret [] [0] [0] (v:=.tuple #[]) (H':=(ap [(tb,.lit ((Stp.lp t mb)++[vI ((b7 t t.i b M).e.t),vI ((b7 t t.i b M).e.i),vI ((b7 t t.i b M).e.k),vI ((b7 t t.i b M).e.v),.bool ((b7 t t.i b M).em)]) 275 (0,0))] [T6])) ?_
    have e:(cP t b c M)=⟨(((b7 t t.i b M).M).set 2 (i64.wrap (t.i+1))),0,⟨(b7 t t.i b M).e.t,(b7 t t.i b M).e.i,(b7 t t.i b M).e.k,(b7 t t.i b M).e.v⟩,(b7 t t.i b M).em⟩:=by
     first|(simp only[cP,dH,if_pos h1,if_pos h2,if_pos h5];try rfl;done)|rfl
    refine⟨T6,by rw[e] <;> rfl,?_⟩
    rw[e]
    exact WQ.weak (by omega)
   ·refine ae 2 [] λ _=>RN.ret [] [0] [0] (v:=.tuple #[]) (H':=(ap [(tb,.lit ((Stp.lp t mb)++[vI ((b7 t t.i b M).e.t),vI ((b7 t t.i b M).e.i),vI ((b7 t t.i b M).e.k),vI ((b7 t t.i b M).e.v),.bool ((b7 t t.i b M).em)]) 275 (0,0))] [T3])) ?_
    have e:(cP t b c M)=⟨(b7 t t.i b M).M,0,⟨(b7 t t.i b M).e.t,(b7 t t.i b M).e.i,(b7 t t.i b M).e.k,(b7 t t.i b M).e.v⟩,(b7 t t.i b M).em⟩:=by
     first|(simp only[cP,dH,if_pos h1,if_pos h2,if_neg h5];try rfl;done)|rfl
    refine⟨T3,by rw[e] <;> rfl,?_⟩
    rw[e]
    exact K_.weak (by omega)
  ·refine ae 1 [] λ _=>RN.draw [11] []<|ag [] [0,4,1,5,2,6,3,7,8,9,10] [.own 0,.own 0]<|RD.one 11 (RDO.ct [] [] [0] (aj 2 (i64.wrap (t.i+1)) hM) ?_)
   rintro _ T8 UB
   refine RD.fin<|RN.ret [] [0] [0] (v:=.tuple #[]) (H':=(ap [(tb,.lit (Stp.l t mb) 275 (0,0))] [T8])) ?_
   have e:(cP t b c M)=⟨(M.set 2 (i64.wrap (t.i+1))),0,⟨t.f0,t.f1,t.f2,t.f3⟩,t.emitted⟩:=by
    first|(simp only[cP,dH,if_pos h1,if_neg h2];try rfl;done)|rfl
   refine⟨T8,by rw[e] <;> rfl,?_⟩
   rw[e]
   exact UB.weak (by omega)
 ·refine ae 15 [.own 0] λ _=>RN.ct [0] [0] (Fk t t.i b tb mb M (k+2) T _ hM hS.up (ar hE) hC.up) ?_
  rintro _ Tu ⟨Rj,rfl⟩
  refine ae 2 [] λ _=>jl (jI t t.i b M) 36 (λ Rk=>?_) λ Rk=>?_
  ·refine ae 11 [.own 0] λ _=>cF 41 (nf (decide_eq_false h1))<|ae 6 [.own 0] λ _=>RN.ct [] [0] (aj 3 0 Rj) ?_
   rintro _ Td Sa
   refine ae 2 [] λ _=>RN.draw [11] []<|ag [] [0,4,1,5,2,6,3,7,8,9,10] [.own 0,.own 0]<|RD.one 11 (RDO.ct [] [] [0] (aj 2 (i64.wrap (t.i+1)) Sa) ?_)
   rintro _ Sk R_
   refine RD.fin<|RN.ret [] [0] [0] (v:=.tuple #[]) (H':=(ap [(tb,.lit ((Stp.lp t mb)++[vI ((b7 t t.i b M).e.t),vI ((b7 t t.i b M).e.i),vI ((b7 t t.i b M).e.k),vI ((b7 t t.i b M).e.v),.bool ((b7 t t.i b M).em)]) 275 (0,0))] [Sk])) ?_
   have e:(cP t b c M)=⟨((((b7 t t.i b M).M).set 3 0).set 2 (i64.wrap (t.i+1))),0,⟨(b7 t t.i b M).e.t,(b7 t t.i b M).e.i,(b7 t t.i b M).e.k,(b7 t t.i b M).e.v⟩,(b7 t t.i b M).em⟩:=by
    first|(simp only[cP,dH,if_neg h1,if_pos Rk];try rfl;done)|rfl
   refine⟨Sk,by rw[e] <;> rfl,?_⟩
   rw[e]
   exact R_.weak (by omega)
  ·refine ae 2 [] λ _=>RN.ret [] [0] [0] (v:=.tuple #[]) (H':=(ap [(tb,.lit ((Stp.lp t mb)++[vI ((b7 t t.i b M).e.t),vI ((b7 t t.i b M).e.i),vI ((b7 t t.i b M).e.k),vI ((b7 t t.i b M).e.v),.bool ((b7 t t.i b M).em)]) 275 (0,0))] [Tu])) ?_
   have e:(cP t b c M)=⟨(b7 t t.i b M).M,0,⟨(b7 t t.i b M).e.t,(b7 t t.i b M).e.i,(b7 t t.i b M).e.k,(b7 t t.i b M).e.v⟩,(b7 t t.i b M).em⟩:=by
    first|(simp only[cP,dH,if_neg h1,if_neg Rk];try rfl;done)|rfl
   refine⟨Tu,by rw[e] <;> rfl,?_⟩
   rw[e]
   exact Rj.weak (by omega)
theorem Jv(t:Stp)(b:Int)(c:Bool)(tb mb:Nat)(M:MemS)(k:Nat)(T F:HL)(hM:MemH mb M (k+8) T)(hS:SetIn F t.S)(hE:cX F)(hC:CodeIn F t.code t.cA t.cn) :Sp Tryz.prog 185 #[vP tb 0,vI 2,vI b,.bool c] (ap [(tb,.lit (Stp.l t mb) 275 (0,0))] [T]) F (λ u H'=>∃x,H'=ap [(tb,.lit ((Stp.lp t mb)++[vI ((cQ t b c M).e.t),vI ((cQ t b c M).e.i),vI ((cQ t b c M).e.k),vI ((cQ t b c M).e.v),.bool ((cQ t b c M).em)]) 275 (0,0))] [x] /\ (MemH mb (cQ t b c M).M k x)):=by
 have hp:=hS.pl
 have hn:=hS.nb
 have hr:=hS.room
 refine Sp.run Tryz.func185 rfl (mc hS.blk mn) (A:=[(tb,.lit (Stp.l t mb) 275 (0,0))]) (Ts:=[T]) rfl λ w0=>?_
 refine ae 8 [.own 0] λ _=>RN.em (t.j=0) 13 (λ h1=>?_) λ h1=>?_
 ·refine ae 5 [] λ _=>s8 (c) 16 (λ h2=>?_) λ h2=>?_
  ·refine ae 10 [.own 0] λ _=>RN.ct [0] [0] (Fl t t.i b tb mb M (k+2) T _ hM hS.up (ar hE) hC.up) ?_
   rintro _ T3 ⟨K_,rfl⟩
   refine ae 2 [] λ _=>jl (jJ t t.i b M) 36 (λ h5=>?_) λ h5=>?_
   ·refine ae 11 [.own 0] λ _=>cF 41 (nt (decide_eq_true h1))<|ae 3 [] λ _=>RN.draw [11] []<|ag [] [0,4,1,5,2,6,3,7,8,9,10] [.own 0,.own 0]<|RD.one 11 (RDO.ct [] [] [0] (aj 2 (i64.wrap (t.i+1)) K_) ?_)
    rintro _ T6 WQ
    refine RD.fin<|RN.ret [] [0] [0] (v:=.tuple #[]) (H':=(ap [(tb,.lit ((Stp.lp t mb)++[vI ((b8 t t.i b M).e.t),vI ((b8 t t.i b M).e.i),vI ((b8 t t.i b M).e.k),vI ((b8 t t.i b M).e.v),.bool ((b8 t t.i b M).em)]) 275 (0,0))] [T6])) ?_
    have e:(cQ t b c M)=⟨(((b8 t t.i b M).M).set 2 (i64.wrap (t.i+1))),0,⟨(b8 t t.i b M).e.t,(b8 t t.i b M).e.i,(b8 t t.i b M).e.k,(b8 t t.i b M).e.v⟩,(b8 t t.i b M).em⟩:=by
     first|(simp only[cQ,dH,if_pos h1,if_pos h2,if_pos h5];try rfl;done)|rfl
    refine⟨T6,by rw[e] <;> rfl,?_⟩
    rw[e]
    exact WQ.weak (by omega)
   ·refine ae 2 [] λ _=>RN.ret [] [0] [0] (v:=.tuple #[]) (H':=(ap [(tb,.lit ((Stp.lp t mb)++[vI ((b8 t t.i b M).e.t),vI ((b8 t t.i b M).e.i),vI ((b8 t t.i b M).e.k),vI ((b8 t t.i b M).e.v),.bool ((b8 t t.i b M).em)]) 275 (0,0))] [T3])) ?_
    have e:(cQ t b c M)=⟨(b8 t t.i b M).M,0,⟨(b8 t t.i b M).e.t,(b8 t t.i b M).e.i,(b8 t t.i b M).e.k,(b8 t t.i b M).e.v⟩,(b8 t t.i b M).em⟩:=by
     first|(simp only[cQ,dH,if_pos h1,if_pos h2,if_neg h5];try rfl;done)|rfl
    refine⟨T3,by rw[e] <;> rfl,?_⟩
    rw[e]
    exact K_.weak (by omega)
  ·refine ae 1 [] λ _=>RN.draw [11] []<|ag [] [0,4,1,5,2,6,3,7,8,9,10] [.own 0,.own 0]<|RD.one 11 (RDO.ct [] [] [0] (aj 2 (i64.wrap (t.i+1)) hM) ?_)
   rintro _ T8 UB
   refine RD.fin<|RN.ret [] [0] [0] (v:=.tuple #[]) (H':=(ap [(tb,.lit (Stp.l t mb) 275 (0,0))] [T8])) ?_
   have e:(cQ t b c M)=⟨(M.set 2 (i64.wrap (t.i+1))),0,⟨t.f0,t.f1,t.f2,t.f3⟩,t.emitted⟩:=by
    first|(simp only[cQ,dH,if_pos h1,if_neg h2];try rfl;done)|rfl
   refine⟨T8,by rw[e] <;> rfl,?_⟩
   rw[e]
   exact UB.weak (by omega)
 ·refine ae 15 [.own 0] λ _=>RN.ct [0] [0] (Fl t t.i b tb mb M (k+2) T _ hM hS.up (ar hE) hC.up) ?_
  rintro _ Tu ⟨Rj,rfl⟩
  refine ae 2 [] λ _=>jl (jJ t t.i b M) 36 (λ Rk=>?_) λ Rk=>?_
  ·refine ae 11 [.own 0] λ _=>cF 41 (nf (decide_eq_false h1))<|ae 6 [.own 0] λ _=>RN.ct [] [0] (aj 3 0 Rj) ?_
   rintro _ Td Sa
   refine ae 2 [] λ _=>RN.draw [11] []<|ag [] [0,4,1,5,2,6,3,7,8,9,10] [.own 0,.own 0]<|RD.one 11 (RDO.ct [] [] [0] (aj 2 (i64.wrap (t.i+1)) Sa) ?_)
   rintro _ Sk R_
   refine RD.fin<|RN.ret [] [0] [0] (v:=.tuple #[]) (H':=(ap [(tb,.lit ((Stp.lp t mb)++[vI ((b8 t t.i b M).e.t),vI ((b8 t t.i b M).e.i),vI ((b8 t t.i b M).e.k),vI ((b8 t t.i b M).e.v),.bool ((b8 t t.i b M).em)]) 275 (0,0))] [Sk])) ?_
   have e:(cQ t b c M)=⟨((((b8 t t.i b M).M).set 3 0).set 2 (i64.wrap (t.i+1))),0,⟨(b8 t t.i b M).e.t,(b8 t t.i b M).e.i,(b8 t t.i b M).e.k,(b8 t t.i b M).e.v⟩,(b8 t t.i b M).em⟩:=by
    first|(simp only[cQ,dH,if_neg h1,if_pos Rk];try rfl;done)|rfl
   refine⟨Sk,by rw[e] <;> rfl,?_⟩
   rw[e]
   exact R_.weak (by omega)
  ·refine ae 2 [] λ _=>RN.ret [] [0] [0] (v:=.tuple #[]) (H':=(ap [(tb,.lit ((Stp.lp t mb)++[vI ((b8 t t.i b M).e.t),vI ((b8 t t.i b M).e.i),vI ((b8 t t.i b M).e.k),vI ((b8 t t.i b M).e.v),.bool ((b8 t t.i b M).em)]) 275 (0,0))] [Tu])) ?_
   have e:(cQ t b c M)=⟨(b8 t t.i b M).M,0,⟨(b8 t t.i b M).e.t,(b8 t t.i b M).e.i,(b8 t t.i b M).e.k,(b8 t t.i b M).e.v⟩,(b8 t t.i b M).em⟩:=by
    first|(simp only[cQ,dH,if_neg h1,if_neg Rk];try rfl;done)|rfl
   refine⟨Tu,by rw[e] <;> rfl,?_⟩
   rw[e]
   exact Rj.weak (by omega)
theorem Ol(t:Stp)  (tb mb:Nat) (M:MemS) (k:Nat) (T F:HL) (hM:MemH mb M (k+9) T) (hS:SetIn F t.S) (hE:cX F) (hC:CodeIn F t.code t.cA t.cn) :Sp Tryz.prog 149 #[vP tb 0] (ap [(tb,.lit (Stp.l t mb) 275 (0,0))] [T]) F (λ u H'=>∃x,H'=ap [(tb,.lit ((Stp.lp t mb)++[vI ((fj t M).e.t),vI ((fj t M).e.i),vI ((fj t M).e.k),vI ((fj t M).e.v),.bool ((fj t M).em)]) 275 (0,0))] [x] /\ (MemH mb (fj t M).M k x)):=by
 have hp:=hS.pl
 have hn:=hS.nb
 have hr:=hS.room
 refine Sp.run Tryz.func149 rfl (mc hS.blk mn) (A:=[(tb,.lit (Stp.l t mb) 275 (0,0))]) (Ts:=[T]) rfl λ w0=>?_
 refine ae 1 [] λ _=>RN.draw [] []<|ag [] [0,4,1,5,2,6,3,7] (ow 0 17)<|RD.cp [] 8 (λ X_=>(gE t.S t.i _ hS.toSetN)) ?_
 have UA:=gD hS.toSetN t.i
 refine ag [] [9] []<|RD.fin<|ae 8 [] λ _=>RN.em (ah t.S t.i<0) 14 (λ h2=>?_) λ h2=>?_
 ·refine ae 4 [] λ _=>RN.ct [0] [0] (bJ t 2 0 tb mb M (k+6) T _ hM hS.up ) ?_
  rintro _ T3 K_
  refine ae 2 [] λ _=>RN.ret [] [0] [0] (v:=.tuple #[]) (H':=(ap [(tb,.lit (Stp.l t mb) 275 (0,0))] [T3])) ?_
  have e:(fj t M)=⟨(aL t 2 0 M),0,⟨t.f0,t.f1,t.f2,t.f3⟩,t.emitted⟩:=by
   first|(simp only[fj,VR.z,if_pos h2];try rfl;done)|rfl
  refine⟨T3,by rw[e] <;> rfl,?_⟩
  rw[e]
  exact K_.weak (by omega)
 ·refine ai 11 [.own 0,.nw] [aS ((ah t.S t.i)+2)] λ _=>RN.cp (aw ((ah t.S t.i)+2) hM (aq 0))<|ae 8 [] λ _=>RN.ct [0] [0] (Ju t (M.get ((ah t.S t.i)+2)) (!(decide (M.get ((ah t.S t.i)+2)=0))) tb mb M (k+1) T _ hM hS.up (ar hE) hC.up) ?_
  rintro _ T5 Ry
  refine ae 1 [] λ _=>RN.ret [] [0] [0] (v:=.tuple #[]) (H':=(ap [(tb,.lit ((Stp.lp t mb)++[vI ((cP t (M.get ((ah t.S t.i)+2)) (!(decide (M.get ((ah t.S t.i)+2)=0))) M).e.t),vI ((cP t (M.get ((ah t.S t.i)+2)) (!(decide (M.get ((ah t.S t.i)+2)=0))) M).e.i),vI ((cP t (M.get ((ah t.S t.i)+2)) (!(decide (M.get ((ah t.S t.i)+2)=0))) M).e.k),vI ((cP t (M.get ((ah t.S t.i)+2)) (!(decide (M.get ((ah t.S t.i)+2)=0))) M).e.v),.bool ((cP t (M.get ((ah t.S t.i)+2)) (!(decide (M.get ((ah t.S t.i)+2)=0))) M).em)]) 275 (0,0))] [T5])) ?_
  have e:(fj t M)=⟨(cP t (M.get ((ah t.S t.i)+2)) (!(decide (M.get ((ah t.S t.i)+2)=0))) M).M,0,⟨(cP t (M.get ((ah t.S t.i)+2)) (!(decide (M.get ((ah t.S t.i)+2)=0))) M).e.t,(cP t (M.get ((ah t.S t.i)+2)) (!(decide (M.get ((ah t.S t.i)+2)=0))) M).e.i,(cP t (M.get ((ah t.S t.i)+2)) (!(decide (M.get ((ah t.S t.i)+2)=0))) M).e.k,(cP t (M.get ((ah t.S t.i)+2)) (!(decide (M.get ((ah t.S t.i)+2)=0))) M).e.v⟩,(cP t (M.get ((ah t.S t.i)+2)) (!(decide (M.get ((ah t.S t.i)+2)=0))) M).em⟩:=by
   first|(simp only[fj,VR.z,if_neg h2];try rfl;done)|rfl
  refine⟨T5,by rw[e] <;> rfl,?_⟩
  rw[e]
  exact Ry.weak (by omega)
theorem Mi(t:Stp)  (tb mb:Nat) (M:MemS) (k:Nat) (T F:HL) (hM:MemH mb M (k+9) T) (hS:SetIn F t.S) (hE:cX F) (hC:CodeIn F t.code t.cA t.cn) :Sp Tryz.prog 150 #[vP tb 0] (ap [(tb,.lit (Stp.l t mb) 275 (0,0))] [T]) F (λ u H'=>∃x,H'=ap [(tb,.lit ((Stp.lp t mb)++[vI ((cY t M).e.t),vI ((cY t M).e.i),vI ((cY t M).e.k),vI ((cY t M).e.v),.bool ((cY t M).em)]) 275 (0,0))] [x] /\ (MemH mb (cY t M).M k x)):=by
 have hp:=hS.pl
 have hn:=hS.nb
 have hr:=hS.room
 refine Sp.run Tryz.func150 rfl (mc hS.blk mn) (A:=[(tb,.lit (Stp.l t mb) 275 (0,0))]) (Ts:=[T]) rfl λ w0=>?_
 refine ae 3 [] λ _=>RN.ct [0] [0] (Mh t 0 0 tb mb M (k+3) T _ hM hS.up (ar hE) hC.up) ?_
 rintro _ T1 ⟨Wh,rfl⟩
 refine ae 2 [] λ _=>jl (jT t 0 0 M) 3 (λ h3=>?_) λ h3=>?_
 ·refine ae 3 [] λ _=>RN.ct [0] [0] (bJ (t.upd (db t 0 0 M)) 3 0 tb mb ((db t 0 0 M).M) k T1 _ Wh hS.up ) ?_
  rintro _ T4 SG
  refine ae 1 [] λ _=>RN.ret [] [0] [0] (v:=.tuple #[]) (H':=(ap [(tb,.lit ((Stp.lp t mb)++[vI ((db t 0 0 M).e.t),vI ((db t 0 0 M).e.i),vI ((db t 0 0 M).e.k),vI ((db t 0 0 M).e.v),.bool ((db t 0 0 M).em)]) 275 (0,0))] [T4])) ?_
  have e:(cY t M)=⟨(aL (t.upd (db t 0 0 M)) 3 0 ((db t 0 0 M).M)),0,⟨(db t 0 0 M).e.t,(db t 0 0 M).e.i,(db t 0 0 M).e.k,(db t 0 0 M).e.v⟩,(db t 0 0 M).em⟩:=by
   first|(simp only[cY,VR.z,if_pos h3];try rfl;done)|rfl
  refine⟨T4,by rw[e] <;> rfl,?_⟩
  rw[e]
  exact SG.weak (by omega)
 ·refine ae 2 [] λ _=>RN.ret [] [0] [0] (v:=.tuple #[]) (H':=(ap [(tb,.lit ((Stp.lp t mb)++[vI ((db t 0 0 M).e.t),vI ((db t 0 0 M).e.i),vI ((db t 0 0 M).e.k),vI ((db t 0 0 M).e.v),.bool ((db t 0 0 M).em)]) 275 (0,0))] [T1])) ?_
  have e:(cY t M)=⟨(db t 0 0 M).M,0,⟨(db t 0 0 M).e.t,(db t 0 0 M).e.i,(db t 0 0 M).e.k,(db t 0 0 M).e.v⟩,(db t 0 0 M).em⟩:=by
   first|(simp only[cY,VR.z,if_neg h3];try rfl;done)|rfl
  refine⟨T1,by rw[e] <;> rfl,?_⟩
  rw[e]
  exact Wh.weak (by omega)
theorem Om(t:Stp)  (tb mb:Nat) (M:MemS) (k:Nat) (T F:HL) (hM:MemH mb M (k+9) T) (hS:SetIn F t.S) (hE:cX F) (hC:CodeIn F t.code t.cA t.cn) :Sp Tryz.prog 154 #[vP tb 0] (ap [(tb,.lit (Stp.l t mb) 275 (0,0))] [T]) F (λ u H'=>∃x,H'=ap [(tb,.lit ((Stp.lp t mb)++[vI ((fl t M).e.t),vI ((fl t M).e.i),vI ((fl t M).e.k),vI ((fl t M).e.v),.bool ((fl t M).em)]) 275 (0,0))] [x] /\ (MemH mb (fl t M).M k x)):=by
 have hp:=hS.pl
 have hn:=hS.nb
 have hr:=hS.room
 refine Sp.run Tryz.func154 rfl (mc hS.blk mn) (A:=[(tb,.lit (Stp.l t mb) 275 (0,0))]) (Ts:=[T]) rfl λ w0=>?_
 refine ae 1 [] λ _=>RN.draw [] []<|ag [] [0,4,1,5,2,6,3,7] (ow 0 17)<|RD.cp [] 8 (λ X_=>(cL t.S t.i _ hS.toSetN)) ?_
 have UA:=cK hS.toSetN t.i
 refine ag [] [9] []<|RD.fin<|ae 8 [] λ _=>RN.em (af t.S t.i<0) 14 (λ h2=>?_) λ h2=>?_
 ·refine ae 4 [] λ _=>RN.ct [0] [0] (bJ t 7 0 tb mb M (k+6) T _ hM hS.up ) ?_
  rintro _ T3 K_
  refine ae 2 [] λ _=>RN.ret [] [0] [0] (v:=.tuple #[]) (H':=(ap [(tb,.lit (Stp.l t mb) 275 (0,0))] [T3])) ?_
  have e:(fl t M)=⟨(aL t 7 0 M),0,⟨t.f0,t.f1,t.f2,t.f3⟩,t.emitted⟩:=by
   first|(simp only[fl,VR.z,if_pos h2];try rfl;done)|rfl
  refine⟨T3,by rw[e] <;> rfl,?_⟩
  rw[e]
  exact K_.weak (by omega)
 ·refine ai 11 [.own 0,.nw] [aS ((af t.S t.i)+6)] λ _=>RN.cp (aw ((af t.S t.i)+6) hM (aq 0))<|ae 9 [] λ _=>RN.ct [0] [0] (Jv t (i64.wrap ((M.get ((af t.S t.i)+6))-1)) (!(decide (M.get ((af t.S t.i)+6)=0))) tb mb M (k+1) T _ hM hS.up (ar hE) hC.up) ?_
  rintro _ T5 Ry
  refine ae 1 [] λ _=>RN.ret [] [0] [0] (v:=.tuple #[]) (H':=(ap [(tb,.lit ((Stp.lp t mb)++[vI ((cQ t (i64.wrap ((M.get ((af t.S t.i)+6))-1)) (!(decide (M.get ((af t.S t.i)+6)=0))) M).e.t),vI ((cQ t (i64.wrap ((M.get ((af t.S t.i)+6))-1)) (!(decide (M.get ((af t.S t.i)+6)=0))) M).e.i),vI ((cQ t (i64.wrap ((M.get ((af t.S t.i)+6))-1)) (!(decide (M.get ((af t.S t.i)+6)=0))) M).e.k),vI ((cQ t (i64.wrap ((M.get ((af t.S t.i)+6))-1)) (!(decide (M.get ((af t.S t.i)+6)=0))) M).e.v),.bool ((cQ t (i64.wrap ((M.get ((af t.S t.i)+6))-1)) (!(decide (M.get ((af t.S t.i)+6)=0))) M).em)]) 275 (0,0))] [T5])) ?_
  have e:(fl t M)=⟨(cQ t (i64.wrap ((M.get ((af t.S t.i)+6))-1)) (!(decide (M.get ((af t.S t.i)+6)=0))) M).M,0,⟨(cQ t (i64.wrap ((M.get ((af t.S t.i)+6))-1)) (!(decide (M.get ((af t.S t.i)+6)=0))) M).e.t,(cQ t (i64.wrap ((M.get ((af t.S t.i)+6))-1)) (!(decide (M.get ((af t.S t.i)+6)=0))) M).e.i,(cQ t (i64.wrap ((M.get ((af t.S t.i)+6))-1)) (!(decide (M.get ((af t.S t.i)+6)=0))) M).e.k,(cQ t (i64.wrap ((M.get ((af t.S t.i)+6))-1)) (!(decide (M.get ((af t.S t.i)+6)=0))) M).e.v⟩,(cQ t (i64.wrap ((M.get ((af t.S t.i)+6))-1)) (!(decide (M.get ((af t.S t.i)+6)=0))) M).em⟩:=by
   first|(simp only[fl,VR.z,if_neg h2];try rfl;done)|rfl
  refine⟨T5,by rw[e] <;> rfl,?_⟩
  rw[e]
  exact Ry.weak (by omega)
def fA(a:Shp)(pa:V2)(b:Shp)(pb:V2)(xs:List V2):Nat -> Con
 | 0=>⟨0,0,9223372036854775807⟩
 | i+1=>if mS a pa b pb (xs.getD i ⟨0,0⟩)<(fA a pa b pb xs i).d then ⟨(xs.getD i ⟨0,0⟩).x,(xs.getD i ⟨0,0⟩).y,mS a pa b pb (xs.getD i ⟨0,0⟩)⟩ else fA a pa b pb xs i
def jo(a:Shp)(pa:V2)(b:Shp)(pb:V2)(xs:List V2):Nat -> Bool
 | 0=>true
 | i+1=>jo a pa b pb xs i && !decide (mS a pa b pb (xs.getD i ⟨0,0⟩) <= 0)
theorem wg{a:Shp}{pa:V2}{b:Shp}{pb:V2}{xs:List V2}{i:Nat}(h:jo a pa b pb xs i=false):∀k,jo a pa b pb xs (i+k)=false
 | 0=>h
 | k+1=>by rw[<- Nat.add_assoc,jo,wg h k];rfl
def Fp(pa pb:V2)(c:Con):Con:=if da (dz pb pa) ⟨c.nx,c.ny⟩<0 then ⟨(CC ⟨c.nx,c.ny⟩).x,(CC ⟨c.nx,c.ny⟩).y,c.d⟩ else c
def cy(a:Shp)(pa:V2)(b:Shp)(pb:V2):Con × Bool:=if NI (eC a pa) (eC b pb) then (if jo a pa b pb (aG a pa b pb) (aG a pa b pb).length=true then (Fp pa pb (fA a pa b pb (aG a pa b pb) (aG a pa b pb).length),true) else (⟨0,0,0⟩,false)) else (⟨0,0,0⟩,false)
theorem Jw{xs:List V2}{i:Nat}{x:V2}(h:xs[i]?=some x):xs.getD i ⟨0,0⟩=x:=by rw[List.getD_eq_getElem?_getD,h];rfl
theorem Jy(a:Shp)(pa:V2)(b:Shp)(pb:V2)(q1 q2 q3 q4:Nat)(F:HL)(ha:ShIn F a)(hb:ShIn F b)(Sr:(q1,.lit [vI a.r,.slice a.A a.poly.length a.cap] 73 (0,0))∈F)(P_:(q2,.lit [vI b.r,.slice b.A b.poly.length b.cap] 73 (0,0))∈F)(Sq:(q3,.lit [vI pb.x,vI pb.y] 29 (0,0))∈F)(TF:(q4,.lit [vI pa.x,vI pa.y] 29 (0,0))∈F) :
  It Tryz.prog 257 #[vP q1 0,vP q2 0,vP q3 0,vP q4 0] F Fc (aG a pa b pb):=by
 intro X l J Jx H0 hY h0
 have key:Sp Tryz.prog 257 #[.func (.yield l) #[] #[],vP q1 0,vP q2 0,vP q3 0,vP q4 0] (ap [] [H0]) (X++F) (λ _ H'=>J (aG a pa b pb).length H' \/ Jx H'):=by
  cases ha with
  | circle ra Aa ca =>
   cases hb with
   | circle rb Ab cb=>exact Jn pa pb ra rb ca cb Aa Ab q1 q2 q3 q4 l X F J Jx H0 Sr P_ Sq TF hY h0
   | poly rb lb bb cb h h3 h4 h5=>exact Jo pa pb ra rb ca cb Aa lb bb q1 q2 q3 q4 l X F J Jx H0 Sr P_ Sq TF h h3 h4 h5 hY h0
  | poly ra la ba ca g g3 g4 g5 =>
   cases hb with
   | circle rb Ab cb=>exact Jp pa pb ra rb ca cb la ba Ab q1 q2 q3 q4 l X F J Jx H0 Sr P_ Sq TF g g3 g4 g5 hY h0
   | poly rb lb bb cb h h3 h4 h5=>exact Jq pa pb ra rb ca cb la ba lb bb q1 q2 q3 q4 l X F J Jx H0 Sr P_ Sq TF g g3 g4 g5 h h3 h4 h5 hY h0
 rw[bB] at key
 exact key
theorem CQ(a:Shp)(pa:V2)(b:Shp)(pb:V2)(F:HL):Sp Tryz.prog 232 #[NH a,.agg #[vI pa.x,vI pa.y],NH b,.agg #[vI pb.x,vI pb.y]] (ap [] []) F (λ u H'=>∃n:Nat,H'=ap [((n+3),.lit [vI pb.x,vI pb.y] 29 (0,0)),((n+2),.lit [vI b.r,.slice b.A b.poly.length b.cap] 73 (0,0)),((n+1),.lit [vI pa.x,vI pa.y] 29 (0,0)),((n+0),.lit [vI a.r,.slice a.A a.poly.length a.cap] 73 (0,0))] [] /\ u=.func (.func 257) #[] #[vP (n+0) 0,vP (n+2) 0,vP (n+3) 0,vP (n+1) 0]):=by
 refine Sp.run Tryz.func232 rfl mn (A:=[]) (Ts:=[]) rfl λ w0=>?_
 refine ae 15 [] λ n1=>RN.ret [] [0,1,2,3] [] (v:=.func (.func 257) #[] #[vP (n1+0) 0,vP (n1+2) 0,vP (n1+3) 0,vP (n1+1) 0]) (H':=[((n1+3),.lit [vI pb.x,vI pb.y] 29 (0,0)),((n1+2),.lit [vI b.r,.slice b.A b.poly.length b.cap] 73 (0,0)),((n1+1),.lit [vI pa.x,vI pa.y] 29 (0,0)),((n1+0),.lit [vI a.r,.slice a.A a.poly.length a.cap] 73 (0,0))]) ?_
 exact⟨_,rfl,rfl⟩
theorem pE(a:Shp)(pa:V2)(b:Shp)(pb:V2)(F:HL)(ha:ShIn F a)(hb:ShIn F b):Sp Tryz.prog 213 #[.agg #[vI a.r,.slice a.A a.poly.length a.cap],.agg #[vI pa.x,vI pa.y],.agg #[vI b.r,.slice b.A b.poly.length b.cap],.agg #[vI pb.x,vI pb.y]] [] F (λ u H'=>u=.tuple #[.agg #[vI (cy a pa b pb).1.nx,vI (cy a pa b pb).1.ny,vI (cy a pa b pb).1.d],.bool (cy a pa b pb).2] /\ H'=[]):=by
 refine Sp.runM Tryz.func213 rfl mn (A:=[]) (Ts:=[]) rfl λ w0=>?_
 refine ae 12 [] λ n1=>RN.draw [] []<|ag [] [0,1,3,4] [.own 5,.own 5,.own 4,.own 4,.own 3,.own 3,.own 2,.own 2]<|RD.cp [] 2 (λ X_=>(qH a pa _ (ha.up.up)))<|RD.cp [] 5 (λ X_=>(qH b pb _ (hb.up.up)))<|RD.cp [] 6 (λ X_=>(Jh (eC a pa) (eC b pb)  _))<|ag [] [7] []<|RD.fin<|ae 1 [] λ _=>RN.en (NI (eC a pa) (eC b pb)) 20 (λ h2=>?_) λ h2=>?_
 ·refine ae 17 [.own 0,.own 0,.own 0,.own 6,.own 6,.own 5,.own 5,.own 4,.own 4,.own 3,.own 3] λ n3=>RN.ct (Hp:=[]) (Tp:=[]) [] [] (CQ a pa b pb _) ?_
  rintro _ m4 rfl
  refine ae 3 [] λ _=>RN.dn 4 (.lit [vI ((fA a pa b pb (aG a pa b pb) 0).nx),vI ((fA a pa b pb (aG a pa b pb) 0).ny),vI ((fA a pa b pb (aG a pa b pb) 0).d)] 312 (0,0))<|RN.range (σ:=Nat) (τ:=Nat × V2 × Nat) (encs:=λ (x_:V2)=>#[.agg #[vI x_.x,vI x_.y]]) (xs:=(aG a pa b pb)) (enters_of Tryz.func257 (by kernel_rfl) rfl) (λ m_=>([((n3+0),.lit [vI ((fA a pa b pb (aG a pa b pb) m_).nx),vI ((fA a pa b pb (aG a pa b pb) m_).ny),vI ((fA a pa b pb (aG a pa b pb) m_).d)] 312 (0,0)),((n1+5),.lit [.bool false] 4 (0,0)),((n1+4),.lit [vI 0,vI 0,vI 0] 312 (0,0))],[])) (λ i_ m_=>m_=i_ /\ jo a pa b pb (aG a pa b pb) m_=true) (λ c_ m_=>c_=Code.ret /\ jo a pa b pb (aG a pa b pb) (aG a pa b pb).length=false) (λ ⟨m_,y_,nb⟩=>⟨[(4,vP (n1+0) 0),(5,vP (n1+1) 0),(6,vP (n1+2) 0),(7,vP (n1+3) 0),(8,vP (n1+4) 0),(9,vP (n1+5) 0),(10,vP (n3+0) 0),(11,vP (nb+0) 0)],[((nb+0),.lit [vI y_.x,vI y_.y] 29 (0,0)),((n3+0),.lit [vI ((fA a pa b pb (aG a pa b pb) m_).nx),vI ((fA a pa b pb (aG a pa b pb) m_).ny),vI ((fA a pa b pb (aG a pa b pb) m_).d)] 312 (0,0)),((n1+5),.lit [.bool false] 4 (0,0)),((n1+4),.lit [vI 0,vI 0,vI 0] 312 (0,0))],[],True,0⟩) (λ i_ x_ ⟨m_,y_,nb⟩=>m_=i_ /\ jo a pa b pb (aG a pa b pb) m_=true /\ y_=x_) 0 (⟨rfl,rfl⟩) [4,5,6] [] (Jy a pa b pb (m4+0) (m4+2) (m4+3) (m4+1) _ ha.up hb.up (av 3) (av 1) (av 0) (av 2)) ?_ ?_ ?_ ?_
  ·rintro l_ i_ x_ m_ Y5 w6 hx7 Tm XV
   obtain⟨rfl,dO⟩:=Tm
   refine ae 4 [.own 0,.own 0] λ n9=>?_
   refine XV (m_,x_,n9) [0,1,2,3] [] ?_
   try dsimp only
   exact⟨rfl,dO,rfl⟩
  ·rintro l_ i_ x_ ⟨m_,y_,nb⟩ Y10 w11 ZQ Tm
   obtain⟨rfl,dO,rfl⟩:=Tm
   have ex:=Jw ZQ
   skip
   refine ae 8 [.ro 7,.ro 7,.ro 6,.ro 6,.ro 5,.ro 5,.ro 4,.ro 4,.own 0,.own 0] λ _=>RN.cp (CK a pa b pb y_ _ (ha.up.up.up) (hb.up.up.up))<|ae 10 [] λ _=>RN.em (mS a pa b pb y_ <= 0) 36 (λ Sc=>?_) λ Sc=>?_
   ·refine ae 8 [.own 3,.own 3,.own 3,.own 2] λ _=>RN.rr m_ [1,2,3] [] ?_
    try dsimp only
    refine⟨rfl,?_⟩
    have hl_:m_<(aG a pa b pb).length:=(List.getElem?_eq_some_iff.1 ZQ).1
    have W6:jo a pa b pb (aG a pa b pb) (m_+1)=false:=by rw[jo,ex,dO,decide_eq_true Sc];rfl
    have Q1:=wg W6 ((aG a pa b pb).length-(m_+1))
    rwa [show m_+1+((aG a pa b pb).length-(m_+1))=(aG a pa b pb).length by omega] at Q1
   ·refine ae 11 [.own 1] λ _=>RN.em (mS a pa b pb y_<(fA a pa b pb (aG a pa b pb) m_).d) 41 (λ SI=>?_) λ SI=>?_
    ·refine ae 8 [.own 0,.own 0,.own 1,.own 1,.own 1] λ _=>?_
     have Vh:jo a pa b pb (aG a pa b pb) (m_+1)=true:=by rw[jo,ex,dO,decide_eq_false Sc];rfl
     have e_:(fA a pa b pb (aG a pa b pb) (m_+1))=(⟨y_.x,y_.y,mS a pa b pb y_⟩:Con):=by rw[fA,ex,if_pos SI]
     refine cr 1 (congrArg (λ v_=>(.lit [vI v_.nx,vI v_.ny,vI v_.d] 312 (0,0):Blk)) e_.symm)<|RN.rn (m_+1) [1,2,3] [] ?_
     try dsimp only
     exact⟨rfl,Vh⟩
    ·refine ae 3 [] λ _=>?_
     have Vh:jo a pa b pb (aG a pa b pb) (m_+1)=true:=by rw[jo,ex,dO,decide_eq_false Sc];rfl
     have e_:(fA a pa b pb (aG a pa b pb) (m_+1))=(fA a pa b pb (aG a pa b pb) m_):=by rw[fA,ex,if_neg SI]
     refine cr 1 (congrArg (λ v_=>(.lit [vI v_.nx,vI v_.ny,vI v_.d] 312 (0,0):Blk)) e_.symm)<|RN.rn (m_+1) [1,2,3] [] ?_
     try dsimp only
     exact⟨rfl,Vh⟩
  ·rintro d15 m_  Tm
   obtain⟨rfl,dO⟩:=Tm
   refine ae 4 [] λ _=>RN.draw [] []<|ag [] [0,1,3,4] [.own 8,.own 8,.own 10,.own 10,.own 1,.own 1]<|RD.cp [] 2 (λ X_=>(iO pb pa  _))<|RD.cp [] 5 (λ X_=>(nL (dz pb pa) (⟨(fA a pa b pb (aG a pa b pb) (aG a pa b pb).length).nx,(fA a pa b pb (aG a pa b pb) (aG a pa b pb).length).ny⟩:V2)  _))<|ag [] [6] []<|RD.fin<|ae 1 [] λ _=>RN.em (da (dz pb pa) (⟨(fA a pa b pb (aG a pa b pb) (aG a pa b pb).length).nx,(fA a pa b pb (aG a pa b pb) (aG a pa b pb).length).ny⟩:V2)<0) 51 (λ Ra=>?_) λ Ra=>?_
   ·refine ae 4 [.own 1,.own 1] λ _=>RN.cp (E3 (⟨(fA a pa b pb (aG a pa b pb) (aG a pa b pb).length).nx,(fA a pa b pb (aG a pa b pb) (aG a pa b pb).length).ny⟩:V2)  _)<|ae 11 (ow 1 5++[.own 3,.own 3,.own 3,.own 2]) λ _=>RN.retM [d15] [0] [.own 2,.own 2,.own 2,.own 1] [] [] (v:=.tuple #[.agg #[vI ((CC (⟨(fA a pa b pb (aG a pa b pb) (aG a pa b pb).length).nx,(fA a pa b pb (aG a pa b pb) (aG a pa b pb).length).ny⟩:V2)).x),vI ((CC (⟨(fA a pa b pb (aG a pa b pb) (aG a pa b pb).length).nx,(fA a pa b pb (aG a pa b pb) (aG a pa b pb).length).ny⟩:V2)).y),vI ((fA a pa b pb (aG a pa b pb) (aG a pa b pb).length).d)],.bool true]) (H':=[]) ?_
    exact⟨by simp only[cy,if_pos h2,dO,if_true,Fp,if_pos Ra],rfl⟩
   ·refine ae 10 [.own 1,.own 1,.own 1,.own 3,.own 3,.own 3,.own 2] λ _=>RN.retM [d15] [0] [.own 2,.own 2,.own 2,.own 1] [] [] (v:=.tuple #[.agg #[vI ((fA a pa b pb (aG a pa b pb) (aG a pa b pb).length).nx),vI ((fA a pa b pb (aG a pa b pb) (aG a pa b pb).length).ny),vI ((fA a pa b pb (aG a pa b pb) (aG a pa b pb).length).d)],.bool true]) (H':=[]) ?_
    exact⟨by simp only[cy,if_pos h2,dO,if_true,Fp,if_neg Ra],rfl⟩
  ·rintro d17 c_ m_ ⟨rfl,R1⟩
   refine RN.retM [d17] [0] [.own 2,.own 2,.own 2,.own 1] [] [] (v:=.tuple #[.agg #[vI 0,vI 0,vI 0],.bool false]) (H':=[]) ?_
   exact⟨by simp only[cy,if_pos h2,R1];rfl,rfl⟩
 ·refine ae 8 [.own 1,.own 1,.own 1,.own 0] λ _=>RN.retM [] [] [.own 1,.own 1,.own 1,.own 0] [] [] (v:=.tuple #[.agg #[vI 0,vI 0,vI 0],.bool false]) (H':=[]) ?_
  exact⟨by simp only[cy,if_neg h2],rfl⟩
def oJ(a:V2)(m:Int):V2:=⟨aF a.x (aZ (0-m)) m,aF a.y (aZ (0-m)) m⟩
def dW(m:Mot)(b:V2):Mot:=⟨m.px,m.py,(dz ⟨m.vx,m.vy⟩ b).x,(dz ⟨m.vx,m.vy⟩ b).y,m.inv⟩
def cJ(m:Mot)(b:V2):Mot:=⟨m.px,m.py,(aD ⟨m.vx,m.vy⟩ b).x,(aD ⟨m.vx,m.vy⟩ b).y,m.inv⟩
def fv(m:Mot)(b:V2):Mot:=⟨(aD ⟨m.px,m.py⟩ b).x,(aD ⟨m.px,m.py⟩ b).y,m.vx,m.vy,m.inv⟩
def dg(m:Mot)(b:V2):Mot:=⟨(dz ⟨m.px,m.py⟩ b).x,(dz ⟨m.px,m.py⟩ b).y,m.vx,m.vy,m.inv⟩
def gl(m:Mot):Mot:=⟨(oJ ⟨m.px,m.py⟩ 1048576).x,(oJ ⟨m.px,m.py⟩ 1048576).y,(oJ ⟨m.vx,m.vy⟩ 16384).x,(oJ ⟨m.vx,m.vy⟩ 16384).y,m.inv⟩
def rsSp(a b:Mot)(c:Con):Int:=da (dz ⟨b.vx,b.vy⟩ ⟨a.vx,a.vy⟩) ⟨c.nx,c.ny⟩
def Lp(a b:Mot)(c:Con)(rest:Int):Int:=az (aZ (0-rsSp a b c)) (aZ (1024+rest)) (aZ (a.inv+b.inv))
def Qc(a b:Mot)(c:Con)(rest:Int):Mot:=if rsSp a b c<0 then dW a (al ⟨c.nx,c.ny⟩ (ga (Lp a b c rest) a.inv)) else a
def Qd(a b:Mot)(c:Con)(rest:Int):Mot:=if rsSp a b c<0 then cJ b (al ⟨c.nx,c.ny⟩ (ga (Lp a b c rest) b.inv)) else b
def cz(a b:Mot)(c:Con)(rest:Int):Mot × Mot:=if aZ (a.inv+b.inv)=0 then (a,b) else (gl (dg (Qc a b c rest) (al ⟨c.nx,c.ny⟩ (az c.d a.inv (aZ (a.inv+b.inv))))),gl (fv (Qd a b c rest) (al ⟨c.nx,c.ny⟩ (az c.d b.inv (aZ (a.inv+b.inv))))))
theorem qM(a:V2)(m:Int)  (F:HL):Sp Tryz.prog 264 #[.agg #[vI a.x,vI a.y],vI m] [] F (λ u H'=>u=.agg #[vI ((oJ a m).x),vI ((oJ a m).y)] /\ H'=[]):=by
 refine Sp.run Tryz.func264 rfl mn (A:=[]) (Ts:=[]) rfl λ w0=>?_
 refine ae 7 [] λ n1=>RN.draw [13] []<|ag [] [0,2,4,6,8,10,1,3,7,9] [.own 1,.own 1]<|RD.cp [] 5 (λ X_=>(cC a.x (i64.wrap (0-m)) m  _))<|RD.cp [] 11 (λ X_=>(cC a.y (i64.wrap (0-m)) m  _))<|ag [] [12] []<|RD.one 13 (RDO.ev [] [.own 0,.own 0] λ _=>?_)
 refine RD.fin<|ae 1 [] λ _=>?_
 exact RN.ret [.own 0,.own 0] [] [] ⟨rfl,rfl⟩
theorem uI(m:Mot)(b:V2)(q:Nat)(F:HL):Sp Tryz.prog 239 #[vP q 0,.agg #[vI b.x,vI b.y]] [(q,.lit [vI m.px,vI m.py,vI m.vx,vI m.vy,vI m.inv] 339 (0,0))] F (λ u H'=>∃x:Unit,H'=ap [(q,.lit [vI ((dW m b).px),vI ((dW m b).py),vI ((dW m b).vx),vI ((dW m b).vy),vI ((dW m b).inv)] 339 (0,0))] [] /\ True):=by
 refine Sp.run Tryz.func239 rfl mn (A:=[(q,.lit [vI m.px,vI m.py,vI m.vx,vI m.vy,vI m.inv] 339 (0,0))]) (Ts:=[]) rfl λ w0=>?_
 refine ae 5 [] λ n1=>RN.draw [11] []<|ag [] [0,1,6,2,3,4,5] [.own 0,.own 0,.own 1,.own 1]<|RD.cp [] 7 (λ X_=>(iO (⟨m.vx,m.vy⟩:V2) b  _))<|ag [] [8,9,10] []<|RD.one 11 (RDO.ev [] [.own 1,.own 1] λ _=>?_)
 refine RD.fin<|RN.ret [] [1] [] (v:=.tuple #[]) (H':=(ap [(q,.lit [vI m.px,vI m.py,vI ((dz (⟨m.vx,m.vy⟩:V2) b).x),vI ((dz (⟨m.vx,m.vy⟩:V2) b).y),vI m.inv] 339 (0,0))] [])) ?_
 exact⟨(),rfl,trivial⟩
theorem wh(m:Mot)(b:V2)(q:Nat)(F:HL):Sp Tryz.prog 239 #[vP q 0,.agg #[vI b.x,vI b.y]] (ap [(q,.lit [vI m.px,vI m.py,vI m.vx,vI m.vy,vI m.inv] 339 (0,0))] []) F (λ u H'=>∃x:Unit,H'=ap [(q,.lit [vI ((dW m b).px),vI ((dW m b).py),vI ((dW m b).vx),vI ((dW m b).vy),vI ((dW m b).inv)] 339 (0,0))] [] /\ True):=by
 have e:ap [(q,.lit [vI m.px,vI m.py,vI m.vx,vI m.vy,vI m.inv] 339 (0,0))] []=[(q,.lit [vI m.px,vI m.py,vI m.vx,vI m.vy,vI m.inv] 339 (0,0))]:=by simp
 rw[e]
 exact uI m b q F
theorem wi(m:Mot)(b:V2)(q:Nat)(F:HL):Sp Tryz.prog 240 #[vP q 0,.agg #[vI b.x,vI b.y]] [(q,.lit [vI m.px,vI m.py,vI m.vx,vI m.vy,vI m.inv] 339 (0,0))] F (λ u H'=>∃x:Unit,H'=ap [(q,.lit [vI ((cJ m b).px),vI ((cJ m b).py),vI ((cJ m b).vx),vI ((cJ m b).vy),vI ((cJ m b).inv)] 339 (0,0))] [] /\ True):=by
 refine Sp.run Tryz.func240 rfl mn (A:=[(q,.lit [vI m.px,vI m.py,vI m.vx,vI m.vy,vI m.inv] 339 (0,0))]) (Ts:=[]) rfl λ w0=>?_
 refine ae 5 [] λ n1=>RN.draw [11] []<|ag [] [0,1,6,2,3,4,5] [.own 0,.own 0,.own 1,.own 1]<|RD.cp [] 7 (λ X_=>(ee (⟨m.vx,m.vy⟩:V2) b  _))<|ag [] [8,9,10] []<|RD.one 11 (RDO.ev [] [.own 1,.own 1] λ _=>?_)
 refine RD.fin<|RN.ret [] [1] [] (v:=.tuple #[]) (H':=(ap [(q,.lit [vI m.px,vI m.py,vI ((aD (⟨m.vx,m.vy⟩:V2) b).x),vI ((aD (⟨m.vx,m.vy⟩:V2) b).y),vI m.inv] 339 (0,0))] [])) ?_
 exact⟨(),rfl,trivial⟩
theorem zd(m:Mot)(b:V2)(q:Nat)(F:HL):Sp Tryz.prog 240 #[vP q 0,.agg #[vI b.x,vI b.y]] (ap [(q,.lit [vI m.px,vI m.py,vI m.vx,vI m.vy,vI m.inv] 339 (0,0))] []) F (λ u H'=>∃x:Unit,H'=ap [(q,.lit [vI ((cJ m b).px),vI ((cJ m b).py),vI ((cJ m b).vx),vI ((cJ m b).vy),vI ((cJ m b).inv)] 339 (0,0))] [] /\ True):=by
 have e:ap [(q,.lit [vI m.px,vI m.py,vI m.vx,vI m.vy,vI m.inv] 339 (0,0))] []=[(q,.lit [vI m.px,vI m.py,vI m.vx,vI m.vy,vI m.inv] 339 (0,0))]:=by simp
 rw[e]
 exact wi m b q F
theorem wj(m:Mot)(b:V2)(q:Nat)(F:HL):Sp Tryz.prog 242 #[vP q 0,.agg #[vI b.x,vI b.y]] [(q,.lit [vI m.px,vI m.py,vI m.vx,vI m.vy,vI m.inv] 339 (0,0))] F (λ u H'=>∃x:Unit,H'=ap [(q,.lit [vI ((fv m b).px),vI ((fv m b).py),vI ((fv m b).vx),vI ((fv m b).vy),vI ((fv m b).inv)] 339 (0,0))] [] /\ True):=by
 refine Sp.run Tryz.func242 rfl mn (A:=[(q,.lit [vI m.px,vI m.py,vI m.vx,vI m.vy,vI m.inv] 339 (0,0))]) (Ts:=[]) rfl λ w0=>?_
 refine ae 5 [] λ n1=>RN.draw [11] []<|ag [] [0,1,6,2,3,4,5] [.own 0,.own 0,.own 1,.own 1]<|RD.cp [] 7 (λ X_=>(ee (⟨m.px,m.py⟩:V2) b  _))<|ag [] [8,9,10] []<|RD.one 11 (RDO.ev [] [.own 1,.own 1] λ _=>?_)
 refine RD.fin<|RN.ret [] [1] [] (v:=.tuple #[]) (H':=(ap [(q,.lit [vI ((aD (⟨m.px,m.py⟩:V2) b).x),vI ((aD (⟨m.px,m.py⟩:V2) b).y),vI m.vx,vI m.vy,vI m.inv] 339 (0,0))] [])) ?_
 exact⟨(),rfl,trivial⟩
theorem ze(m:Mot)(b:V2)(q:Nat)(F:HL):Sp Tryz.prog 242 #[vP q 0,.agg #[vI b.x,vI b.y]] (ap [(q,.lit [vI m.px,vI m.py,vI m.vx,vI m.vy,vI m.inv] 339 (0,0))] []) F (λ u H'=>∃x:Unit,H'=ap [(q,.lit [vI ((fv m b).px),vI ((fv m b).py),vI ((fv m b).vx),vI ((fv m b).vy),vI ((fv m b).inv)] 339 (0,0))] [] /\ True):=by
 have e:ap [(q,.lit [vI m.px,vI m.py,vI m.vx,vI m.vy,vI m.inv] 339 (0,0))] []=[(q,.lit [vI m.px,vI m.py,vI m.vx,vI m.vy,vI m.inv] 339 (0,0))]:=by simp
 rw[e]
 exact wj m b q F
theorem wl(m:Mot)(b:V2)(q:Nat)(F:HL):Sp Tryz.prog 241 #[vP q 0,.agg #[vI b.x,vI b.y]] [(q,.lit [vI m.px,vI m.py,vI m.vx,vI m.vy,vI m.inv] 339 (0,0))] F (λ u H'=>∃x:Unit,H'=ap [(q,.lit [vI ((dg m b).px),vI ((dg m b).py),vI ((dg m b).vx),vI ((dg m b).vy),vI ((dg m b).inv)] 339 (0,0))] [] /\ True):=by
 refine Sp.run Tryz.func241 rfl mn (A:=[(q,.lit [vI m.px,vI m.py,vI m.vx,vI m.vy,vI m.inv] 339 (0,0))]) (Ts:=[]) rfl λ w0=>?_
 refine ae 5 [] λ n1=>RN.draw [11] []<|ag [] [0,1,6,2,3,4,5] [.own 0,.own 0,.own 1,.own 1]<|RD.cp [] 7 (λ X_=>(iO (⟨m.px,m.py⟩:V2) b  _))<|ag [] [8,9,10] []<|RD.one 11 (RDO.ev [] [.own 1,.own 1] λ _=>?_)
 refine RD.fin<|RN.ret [] [1] [] (v:=.tuple #[]) (H':=(ap [(q,.lit [vI ((dz (⟨m.px,m.py⟩:V2) b).x),vI ((dz (⟨m.px,m.py⟩:V2) b).y),vI m.vx,vI m.vy,vI m.inv] 339 (0,0))] [])) ?_
 exact⟨(),rfl,trivial⟩
theorem zf(m:Mot)(b:V2)(q:Nat)(F:HL):Sp Tryz.prog 241 #[vP q 0,.agg #[vI b.x,vI b.y]] (ap [(q,.lit [vI m.px,vI m.py,vI m.vx,vI m.vy,vI m.inv] 339 (0,0))] []) F (λ u H'=>∃x:Unit,H'=ap [(q,.lit [vI ((dg m b).px),vI ((dg m b).py),vI ((dg m b).vx),vI ((dg m b).vy),vI ((dg m b).inv)] 339 (0,0))] [] /\ True):=by
 have e:ap [(q,.lit [vI m.px,vI m.py,vI m.vx,vI m.vy,vI m.inv] 339 (0,0))] []=[(q,.lit [vI m.px,vI m.py,vI m.vx,vI m.vy,vI m.inv] 339 (0,0))]:=by simp
 rw[e]
 exact wl m b q F
theorem jq(m:Mot)(q:Nat)(F:HL)(hq:(q,.lit [vI m.px,vI m.py,vI m.vx,vI m.vy,vI m.inv] 339 (0,0))∈F):Sp Tryz.prog 243 #[vP q 0] [] F (λ u H'=>u=.agg #[vI ((gl m).px),vI ((gl m).py),vI ((gl m).vx),vI ((gl m).vy),vI ((gl m).inv)] /\ H'=[]):=by
 refine Sp.run Tryz.func243 rfl (mc hq mn) (A:=[]) (Ts:=[]) rfl λ w0=>?_
 refine ae 6 [] λ n1=>RN.draw [18] []<|ag [] [0,6,12,1,7,13,2,8,14,3,9,15,4,10,16] [.ro 0,.ro 0,.ro 0,.ro 0,.ro 0]<|RD.cp [] 5 (λ X_=>(qM (⟨m.px,m.py⟩:V2) 1048576  _))<|RD.cp [] 11 (λ X_=>(qM (⟨m.vx,m.vy⟩:V2) 16384  _))<|ag [] [17] []<|RD.one 18 (RDO.ev [] (ow 0 5) λ _=>?_)
 refine RD.fin<|ae 1 [] λ _=>?_
 exact RN.ret (ow 0 5) [] [] ⟨rfl,rfl⟩
theorem uJ(m:Mot)(c:Con)(am:Int)(q qc:Nat)(F:HL)(hc:(qc,.lit [vI c.nx,vI c.ny,vI c.d] 312 (0,0))∈F):Sp Tryz.prog 237 #[.func (.func 239) #[vP q 0] #[],vI am,vP qc 0] (ap [(q,.lit [vI m.px,vI m.py,vI m.vx,vI m.vy,vI m.inv] 339 (0,0))] []) F (λ u H'=>∃x:Unit,H'=ap [(q,.lit [vI ((dW m (al ⟨c.nx,c.ny⟩ am)).px),vI ((dW m (al ⟨c.nx,c.ny⟩ am)).py),vI ((dW m (al ⟨c.nx,c.ny⟩ am)).vx),vI ((dW m (al ⟨c.nx,c.ny⟩ am)).vy),vI ((dW m (al ⟨c.nx,c.ny⟩ am)).inv)] 339 (0,0))] [] /\ True):=by
 refine Sp.run Tryz.func237 rfl (mc hc mn) (A:=[(q,.lit [vI m.px,vI m.py,vI m.vx,vI m.vy,vI m.inv] 339 (0,0))]) (Ts:=[]) rfl λ w0=>?_
 refine ae 5 [.ro 0,.ro 0] λ _=>RN.cp (eX (⟨c.nx,c.ny⟩:V2) am  _)<|RN.ct [0] [] (wh m (al (⟨c.nx,c.ny⟩:V2) am) q _) ?_
 rintro _ _ _
 refine ae 1 [] λ _=>RN.ret [] [0] [] (v:=.tuple #[]) (H':=(ap [(q,.lit [vI ((dW m (al (⟨c.nx,c.ny⟩:V2) am)).px),vI ((dW m (al (⟨c.nx,c.ny⟩:V2) am)).py),vI ((dW m (al (⟨c.nx,c.ny⟩:V2) am)).vx),vI ((dW m (al (⟨c.nx,c.ny⟩:V2) am)).vy),vI ((dW m (al (⟨c.nx,c.ny⟩:V2) am)).inv)] 339 (0,0))] [])) ?_
 exact⟨(),rfl,trivial⟩
theorem wm(m:Mot)(c:Con)(am:Int)(q qc:Nat)(F:HL)(hc:(qc,.lit [vI c.nx,vI c.ny,vI c.d] 312 (0,0))∈F):Sp Tryz.prog 237 #[.func (.func 240) #[vP q 0] #[],vI am,vP qc 0] (ap [(q,.lit [vI m.px,vI m.py,vI m.vx,vI m.vy,vI m.inv] 339 (0,0))] []) F (λ u H'=>∃x:Unit,H'=ap [(q,.lit [vI ((cJ m (al ⟨c.nx,c.ny⟩ am)).px),vI ((cJ m (al ⟨c.nx,c.ny⟩ am)).py),vI ((cJ m (al ⟨c.nx,c.ny⟩ am)).vx),vI ((cJ m (al ⟨c.nx,c.ny⟩ am)).vy),vI ((cJ m (al ⟨c.nx,c.ny⟩ am)).inv)] 339 (0,0))] [] /\ True):=by
 refine Sp.run Tryz.func237 rfl (mc hc mn) (A:=[(q,.lit [vI m.px,vI m.py,vI m.vx,vI m.vy,vI m.inv] 339 (0,0))]) (Ts:=[]) rfl λ w0=>?_
 refine ae 5 [.ro 0,.ro 0] λ _=>RN.cp (eX (⟨c.nx,c.ny⟩:V2) am  _)<|RN.ct [0] [] (zd m (al (⟨c.nx,c.ny⟩:V2) am) q _) ?_
 rintro _ _ _
 refine ae 1 [] λ _=>RN.ret [] [0] [] (v:=.tuple #[]) (H':=(ap [(q,.lit [vI ((cJ m (al (⟨c.nx,c.ny⟩:V2) am)).px),vI ((cJ m (al (⟨c.nx,c.ny⟩:V2) am)).py),vI ((cJ m (al (⟨c.nx,c.ny⟩:V2) am)).vx),vI ((cJ m (al (⟨c.nx,c.ny⟩:V2) am)).vy),vI ((cJ m (al (⟨c.nx,c.ny⟩:V2) am)).inv)] 339 (0,0))] [])) ?_
 exact⟨(),rfl,trivial⟩
theorem pF(m:Mot)(c:Con)(am:Int)(q qc:Nat)(F:HL)(hc:(qc,.lit [vI c.nx,vI c.ny,vI c.d] 312 (0,0))∈F):Sp Tryz.prog 237 #[.func (.func 242) #[vP q 0] #[],vI am,vP qc 0] (ap [(q,.lit [vI m.px,vI m.py,vI m.vx,vI m.vy,vI m.inv] 339 (0,0))] []) F (λ u H'=>∃x:Unit,H'=ap [(q,.lit [vI ((fv m (al ⟨c.nx,c.ny⟩ am)).px),vI ((fv m (al ⟨c.nx,c.ny⟩ am)).py),vI ((fv m (al ⟨c.nx,c.ny⟩ am)).vx),vI ((fv m (al ⟨c.nx,c.ny⟩ am)).vy),vI ((fv m (al ⟨c.nx,c.ny⟩ am)).inv)] 339 (0,0))] [] /\ True):=by
 refine Sp.run Tryz.func237 rfl (mc hc mn) (A:=[(q,.lit [vI m.px,vI m.py,vI m.vx,vI m.vy,vI m.inv] 339 (0,0))]) (Ts:=[]) rfl λ w0=>?_
 refine ae 5 [.ro 0,.ro 0] λ _=>RN.cp (eX (⟨c.nx,c.ny⟩:V2) am  _)<|RN.ct [0] [] (ze m (al (⟨c.nx,c.ny⟩:V2) am) q _) ?_
 rintro _ _ _
 refine ae 1 [] λ _=>RN.ret [] [0] [] (v:=.tuple #[]) (H':=(ap [(q,.lit [vI ((fv m (al (⟨c.nx,c.ny⟩:V2) am)).px),vI ((fv m (al (⟨c.nx,c.ny⟩:V2) am)).py),vI ((fv m (al (⟨c.nx,c.ny⟩:V2) am)).vx),vI ((fv m (al (⟨c.nx,c.ny⟩:V2) am)).vy),vI ((fv m (al (⟨c.nx,c.ny⟩:V2) am)).inv)] 339 (0,0))] [])) ?_
 exact⟨(),rfl,trivial⟩
theorem pG(m:Mot)(c:Con)(am:Int)(q qc:Nat)(F:HL)(hc:(qc,.lit [vI c.nx,vI c.ny,vI c.d] 312 (0,0))∈F):Sp Tryz.prog 237 #[.func (.func 241) #[vP q 0] #[],vI am,vP qc 0] (ap [(q,.lit [vI m.px,vI m.py,vI m.vx,vI m.vy,vI m.inv] 339 (0,0))] []) F (λ u H'=>∃x:Unit,H'=ap [(q,.lit [vI ((dg m (al ⟨c.nx,c.ny⟩ am)).px),vI ((dg m (al ⟨c.nx,c.ny⟩ am)).py),vI ((dg m (al ⟨c.nx,c.ny⟩ am)).vx),vI ((dg m (al ⟨c.nx,c.ny⟩ am)).vy),vI ((dg m (al ⟨c.nx,c.ny⟩ am)).inv)] 339 (0,0))] [] /\ True):=by
 refine Sp.run Tryz.func237 rfl (mc hc mn) (A:=[(q,.lit [vI m.px,vI m.py,vI m.vx,vI m.vy,vI m.inv] 339 (0,0))]) (Ts:=[]) rfl λ w0=>?_
 refine ae 5 [.ro 0,.ro 0] λ _=>RN.cp (eX (⟨c.nx,c.ny⟩:V2) am  _)<|RN.ct [0] [] (zf m (al (⟨c.nx,c.ny⟩:V2) am) q _) ?_
 rintro _ _ _
 refine ae 1 [] λ _=>RN.ret [] [0] [] (v:=.tuple #[]) (H':=(ap [(q,.lit [vI ((dg m (al (⟨c.nx,c.ny⟩:V2) am)).px),vI ((dg m (al (⟨c.nx,c.ny⟩:V2) am)).py),vI ((dg m (al (⟨c.nx,c.ny⟩:V2) am)).vx),vI ((dg m (al (⟨c.nx,c.ny⟩:V2) am)).vy),vI ((dg m (al (⟨c.nx,c.ny⟩:V2) am)).inv)] 339 (0,0))] [])) ?_
 exact⟨(),rfl,trivial⟩
theorem wo(a b:Mot)(c:Con)(rest:Int)(F:HL):Sp Tryz.prog 214 #[.agg #[vI a.px,vI a.py,vI a.vx,vI a.vy,vI a.inv],.agg #[vI b.px,vI b.py,vI b.vx,vI b.vy,vI b.inv],.agg #[vI c.nx,vI c.ny,vI c.d],vI rest] [] F (λ u H'=>u=.tuple #[.agg #[vI (((cz a b c rest).1).px),vI (((cz a b c rest).1).py),vI (((cz a b c rest).1).vx),vI (((cz a b c rest).1).vy),vI (((cz a b c rest).1).inv)],.agg #[vI (((cz a b c rest).2).px),vI (((cz a b c rest).2).py),vI (((cz a b c rest).2).vx),vI (((cz a b c rest).2).vy),vI (((cz a b c rest).2).inv)]] /\ H'=[]):=by
 refine Sp.run Tryz.func214 rfl mn (A:=[]) (Ts:=[]) rfl λ w0=>?_
 refine ae 26 [.own 4,.own 3] λ n1=>RN.em (i64.wrap (a.inv+b.inv)=0) 22 (λ h2=>?_) λ h2=>?_
 ·refine ae 2 [] λ _=>RN.draw [2,3] [2,3,4]<|ag [2,3,4] [0,1] (ow 4 5++[.ro 1,.ro 1,.ro 1,.ro 1,.ro 1])<|RD.one 2 (RDO.ev [2,3,4] (ow 1 5) λ _=>?_)
  refine RD.one 3 (RDO.ev [2,3,4] (ow 0 5) λ _=>?_)
  refine RD.fin<|ae 1 [] λ _=>RN.ret (ow 1 5++ow 0 5) [] [] (v:=.tuple #[.agg #[vI a.px,vI a.py,vI a.vx,vI a.vy,vI a.inv],.agg #[vI b.px,vI b.py,vI b.vx,vI b.vy,vI b.inv]]) (H':=[]) ?_
  refine⟨?_,rfl⟩
  rw[show cz a b c rest=(a,b) from if_pos (show aZ (a.inv+b.inv)=0 from h2)]
 ·refine ae 4 [] λ _=>RN.draw [6,7] [0,1,2,3,4]<|ag [0,1,2,3,4] [0,2,1,3] (ow 4 5++[.ro 3,.ro 3,.ro 3,.ro 3,.ro 3])<|jQ (σ:=Nat × Nat) (λ ⟨n5,n6⟩=>⟨[(3,vI rest),(4,vP (n1+0) 0),(5,vP (n1+1) 0),(6,vP (n1+2) 0),(8,vP (n1+3) 0),(9,vP (n1+4) 0),(10,vI (i64.wrap (a.inv+b.inv))),(11,vP (n5+0) 0),(12,vP (n6+0) 0)],[((n6+0),.lit [vI b.px,vI b.py,vI b.vx,vI b.vy,vI b.inv] 339 (0,0)),((n5+0),.lit [vI a.px,vI a.py,vI a.vx,vI a.vy,vI a.inv] 339 (0,0)),((n1+4),.lit [vI 0,vI 0,vI 0,vI 0,vI 0] 76 (0,0)),((n1+3),.lit [vI 0,vI 0,vI 0,vI 0,vI 0] 76 (0,0)),((n1+2),.lit [vI c.nx,vI c.ny,vI c.d] 312 (0,0)),((n1+1),.lit [vI b.px,vI b.py,vI b.vx,vI b.vy,vI b.inv] 76 (0,0)),((n1+0),.lit [vI a.px,vI a.py,vI a.vx,vI a.vy,vI a.inv] 76 (0,0))],[],True,0⟩) ?_ ?_
  ·rintro⟨n5,n6⟩
   refine ae 9 [] λ _=>RN.draw [] []<|ag [] [0,2,5,1,3,6] [.own 5,.own 5,.own 6,.own 6,.own 4,.own 4]<|RD.cp [] 4 (λ X_=>(iO (⟨b.vx,b.vy⟩:V2) (⟨a.vx,a.vy⟩:V2)  _))<|RD.cp [] 7 (λ X_=>(nL (dz (⟨b.vx,b.vy⟩:V2) (⟨a.vx,a.vy⟩:V2)) (⟨c.nx,c.ny⟩:V2)  _))<|ag [] [8] []<|RD.fin<|ae 7 [] λ _=>RN.em (da (dz (⟨b.vx,b.vy⟩:V2) (⟨a.vx,a.vy⟩:V2)) (⟨c.nx,c.ny⟩:V2)<0) 39 (λ h7=>?_) λ h7=>?_
   ·refine ae 8 [] λ _=>RN.cp (gj (i64.wrap (0-(da (dz (⟨b.vx,b.vy⟩:V2) (⟨a.vx,a.vy⟩:V2)) (⟨c.nx,c.ny⟩:V2)))) (i64.wrap (1024+rest)) (i64.wrap (a.inv+b.inv))  _)<|ae 10 [.own 6] λ _=>RN.cp (nK (az (i64.wrap (0-(da (dz (⟨b.vx,b.vy⟩:V2) (⟨a.vx,a.vy⟩:V2)) (⟨c.nx,c.ny⟩:V2)))) (i64.wrap (1024+rest)) (i64.wrap (a.inv+b.inv))) a.inv  _)<|RN.ct [1] [] (uJ a c (ga (az (i64.wrap (0-(da (dz (⟨b.vx,b.vy⟩:V2) (⟨a.vx,a.vy⟩:V2)) (⟨c.nx,c.ny⟩:V2)))) (i64.wrap (1024+rest)) (i64.wrap (a.inv+b.inv))) a.inv) (n5+0) (n1+2) _ (av 3)) ?_
    rintro _ _ _
    refine ae 8 [.own 5] λ _=>RN.cp (nK (az (i64.wrap (0-(da (dz (⟨b.vx,b.vy⟩:V2) (⟨a.vx,a.vy⟩:V2)) (⟨c.nx,c.ny⟩:V2)))) (i64.wrap (1024+rest)) (i64.wrap (a.inv+b.inv))) b.inv  _)<|RN.ct [1] [] (wm b c (ga (az (i64.wrap (0-(da (dz (⟨b.vx,b.vy⟩:V2) (⟨a.vx,a.vy⟩:V2)) (⟨c.nx,c.ny⟩:V2)))) (i64.wrap (1024+rest)) (i64.wrap (a.inv+b.inv))) b.inv) (n6+0) (n1+2) _ (av 3)) ?_
    rintro _ _ _
    refine ae 11 [.own 4,.own 6] λ _=>RN.cp (gj c.d a.inv (i64.wrap (a.inv+b.inv))  _)<|RN.ct [1] [] (pG (dW a (al ⟨c.nx,c.ny⟩ (ga (az (i64.wrap (0-(da (dz (⟨b.vx,b.vy⟩:V2) (⟨a.vx,a.vy⟩:V2)) (⟨c.nx,c.ny⟩:V2)))) (i64.wrap (1024+rest)) (i64.wrap (a.inv+b.inv))) a.inv))) c (az c.d a.inv (i64.wrap (a.inv+b.inv))) (n5+0) (n1+2) _ (av 3)) ?_
    rintro _ _ _
    refine ae 11 [.own 4,.own 5] λ _=>RN.cp (gj c.d b.inv (i64.wrap (a.inv+b.inv))  _)<|RN.ct [1] [] (pF (cJ b (al ⟨c.nx,c.ny⟩ (ga (az (i64.wrap (0-(da (dz (⟨b.vx,b.vy⟩:V2) (⟨a.vx,a.vy⟩:V2)) (⟨c.nx,c.ny⟩:V2)))) (i64.wrap (1024+rest)) (i64.wrap (a.inv+b.inv))) b.inv))) c (az c.d b.inv (i64.wrap (a.inv+b.inv))) (n6+0) (n1+2) _ (av 3)) ?_
    rintro _ _ _
    refine ae 4 [] λ _=>RN.cp (jq (dg (dW a (al ⟨c.nx,c.ny⟩ (ga (az (i64.wrap (0-(da (dz (⟨b.vx,b.vy⟩:V2) (⟨a.vx,a.vy⟩:V2)) (⟨c.nx,c.ny⟩:V2)))) (i64.wrap (1024+rest)) (i64.wrap (a.inv+b.inv))) a.inv))) (al ⟨c.nx,c.ny⟩ (az c.d a.inv (i64.wrap (a.inv+b.inv))))) (n5+0) _ (av 1))<|RN.cp (jq (fv (cJ b (al ⟨c.nx,c.ny⟩ (ga (az (i64.wrap (0-(da (dz (⟨b.vx,b.vy⟩:V2) (⟨a.vx,a.vy⟩:V2)) (⟨c.nx,c.ny⟩:V2)))) (i64.wrap (1024+rest)) (i64.wrap (a.inv+b.inv))) b.inv))) (al ⟨c.nx,c.ny⟩ (az c.d b.inv (i64.wrap (a.inv+b.inv))))) (n6+0) _ (av 0))<|ae 4 (ow 3 5++ow 2 5) λ _=>RN.ret (ow 3 5++ow 2 5) [] [] (v:=.tuple #[.agg #[vI ((gl (dg (dW a (al ⟨c.nx,c.ny⟩ (ga (az (i64.wrap (0-(da (dz (⟨b.vx,b.vy⟩:V2) (⟨a.vx,a.vy⟩:V2)) (⟨c.nx,c.ny⟩:V2)))) (i64.wrap (1024+rest)) (i64.wrap (a.inv+b.inv))) a.inv))) (al ⟨c.nx,c.ny⟩ (az c.d a.inv (i64.wrap (a.inv+b.inv)))))).px),vI ((gl (dg (dW a (al ⟨c.nx,c.ny⟩ (ga (az (i64.wrap (0-(da (dz (⟨b.vx,b.vy⟩:V2) (⟨a.vx,a.vy⟩:V2)) (⟨c.nx,c.ny⟩:V2)))) (i64.wrap (1024+rest)) (i64.wrap (a.inv+b.inv))) a.inv))) (al ⟨c.nx,c.ny⟩ (az c.d a.inv (i64.wrap (a.inv+b.inv)))))).py),vI ((gl (dg (dW a (al ⟨c.nx,c.ny⟩ (ga (az (i64.wrap (0-(da (dz (⟨b.vx,b.vy⟩:V2) (⟨a.vx,a.vy⟩:V2)) (⟨c.nx,c.ny⟩:V2)))) (i64.wrap (1024+rest)) (i64.wrap (a.inv+b.inv))) a.inv))) (al ⟨c.nx,c.ny⟩ (az c.d a.inv (i64.wrap (a.inv+b.inv)))))).vx),vI ((gl (dg (dW a (al ⟨c.nx,c.ny⟩ (ga (az (i64.wrap (0-(da (dz (⟨b.vx,b.vy⟩:V2) (⟨a.vx,a.vy⟩:V2)) (⟨c.nx,c.ny⟩:V2)))) (i64.wrap (1024+rest)) (i64.wrap (a.inv+b.inv))) a.inv))) (al ⟨c.nx,c.ny⟩ (az c.d a.inv (i64.wrap (a.inv+b.inv)))))).vy),vI ((gl (dg (dW a (al ⟨c.nx,c.ny⟩ (ga (az (i64.wrap (0-(da (dz (⟨b.vx,b.vy⟩:V2) (⟨a.vx,a.vy⟩:V2)) (⟨c.nx,c.ny⟩:V2)))) (i64.wrap (1024+rest)) (i64.wrap (a.inv+b.inv))) a.inv))) (al ⟨c.nx,c.ny⟩ (az c.d a.inv (i64.wrap (a.inv+b.inv)))))).inv)],.agg #[vI ((gl (fv (cJ b (al ⟨c.nx,c.ny⟩ (ga (az (i64.wrap (0-(da (dz (⟨b.vx,b.vy⟩:V2) (⟨a.vx,a.vy⟩:V2)) (⟨c.nx,c.ny⟩:V2)))) (i64.wrap (1024+rest)) (i64.wrap (a.inv+b.inv))) b.inv))) (al ⟨c.nx,c.ny⟩ (az c.d b.inv (i64.wrap (a.inv+b.inv)))))).px),vI ((gl (fv (cJ b (al ⟨c.nx,c.ny⟩ (ga (az (i64.wrap (0-(da (dz (⟨b.vx,b.vy⟩:V2) (⟨a.vx,a.vy⟩:V2)) (⟨c.nx,c.ny⟩:V2)))) (i64.wrap (1024+rest)) (i64.wrap (a.inv+b.inv))) b.inv))) (al ⟨c.nx,c.ny⟩ (az c.d b.inv (i64.wrap (a.inv+b.inv)))))).py),vI ((gl (fv (cJ b (al ⟨c.nx,c.ny⟩ (ga (az (i64.wrap (0-(da (dz (⟨b.vx,b.vy⟩:V2) (⟨a.vx,a.vy⟩:V2)) (⟨c.nx,c.ny⟩:V2)))) (i64.wrap (1024+rest)) (i64.wrap (a.inv+b.inv))) b.inv))) (al ⟨c.nx,c.ny⟩ (az c.d b.inv (i64.wrap (a.inv+b.inv)))))).vx),vI ((gl (fv (cJ b (al ⟨c.nx,c.ny⟩ (ga (az (i64.wrap (0-(da (dz (⟨b.vx,b.vy⟩:V2) (⟨a.vx,a.vy⟩:V2)) (⟨c.nx,c.ny⟩:V2)))) (i64.wrap (1024+rest)) (i64.wrap (a.inv+b.inv))) b.inv))) (al ⟨c.nx,c.ny⟩ (az c.d b.inv (i64.wrap (a.inv+b.inv)))))).vy),vI ((gl (fv (cJ b (al ⟨c.nx,c.ny⟩ (ga (az (i64.wrap (0-(da (dz (⟨b.vx,b.vy⟩:V2) (⟨a.vx,a.vy⟩:V2)) (⟨c.nx,c.ny⟩:V2)))) (i64.wrap (1024+rest)) (i64.wrap (a.inv+b.inv))) b.inv))) (al ⟨c.nx,c.ny⟩ (az c.d b.inv (i64.wrap (a.inv+b.inv)))))).inv)]]) (H':=[]) ?_
    refine⟨?_,rfl⟩
    rw[show cz a b c rest=_ from if_neg (show ¬ aZ (a.inv+b.inv)=0 from h2)]
    rw[show Qc a b c rest=_ from if_pos (show rsSp a b c<0 from h7),show Qd a b c rest=_ from if_pos (show rsSp a b c<0 from h7)]
    first|rfl|skip
   ·refine ae 12 [.own 4,.own 6] λ _=>RN.cp (gj c.d a.inv (i64.wrap (a.inv+b.inv))  _)<|RN.ct [1] [] (pG a c (az c.d a.inv (i64.wrap (a.inv+b.inv))) (n5+0) (n1+2) _ (av 3)) ?_
    rintro _ _ _
    refine ae 11 [.own 4,.own 5] λ _=>RN.cp (gj c.d b.inv (i64.wrap (a.inv+b.inv))  _)<|RN.ct [1] [] (pF b c (az c.d b.inv (i64.wrap (a.inv+b.inv))) (n6+0) (n1+2) _ (av 3)) ?_
    rintro _ _ _
    refine ae 4 [] λ _=>RN.cp (jq (dg a (al ⟨c.nx,c.ny⟩ (az c.d a.inv (i64.wrap (a.inv+b.inv))))) (n5+0) _ (av 1))<|RN.cp (jq (fv b (al ⟨c.nx,c.ny⟩ (az c.d b.inv (i64.wrap (a.inv+b.inv))))) (n6+0) _ (av 0))<|ae 4 (ow 3 5++ow 2 5) λ _=>RN.ret (ow 3 5++ow 2 5) [] [] (v:=.tuple #[.agg #[vI ((gl (dg a (al ⟨c.nx,c.ny⟩ (az c.d a.inv (i64.wrap (a.inv+b.inv)))))).px),vI ((gl (dg a (al ⟨c.nx,c.ny⟩ (az c.d a.inv (i64.wrap (a.inv+b.inv)))))).py),vI ((gl (dg a (al ⟨c.nx,c.ny⟩ (az c.d a.inv (i64.wrap (a.inv+b.inv)))))).vx),vI ((gl (dg a (al ⟨c.nx,c.ny⟩ (az c.d a.inv (i64.wrap (a.inv+b.inv)))))).vy),vI ((gl (dg a (al ⟨c.nx,c.ny⟩ (az c.d a.inv (i64.wrap (a.inv+b.inv)))))).inv)],.agg #[vI ((gl (fv b (al ⟨c.nx,c.ny⟩ (az c.d b.inv (i64.wrap (a.inv+b.inv)))))).px),vI ((gl (fv b (al ⟨c.nx,c.ny⟩ (az c.d b.inv (i64.wrap (a.inv+b.inv)))))).py),vI ((gl (fv b (al ⟨c.nx,c.ny⟩ (az c.d b.inv (i64.wrap (a.inv+b.inv)))))).vx),vI ((gl (fv b (al ⟨c.nx,c.ny⟩ (az c.d b.inv (i64.wrap (a.inv+b.inv)))))).vy),vI ((gl (fv b (al ⟨c.nx,c.ny⟩ (az c.d b.inv (i64.wrap (a.inv+b.inv)))))).inv)]]) (H':=[]) ?_
    refine⟨?_,rfl⟩
    rw[show cz a b c rest=_ from if_neg (show ¬ aZ (a.inv+b.inv)=0 from h2)]
    rw[show Qc a b c rest=_ from if_neg (show ¬ rsSp a b c<0 from h7),show Qd a b c rest=_ from if_neg (show ¬ rsSp a b c<0 from h7)]
    first|rfl|skip
  ·intro UX
   refine fQ 4 5 ?_ ?_
   ·refine RDO.ev [] [] λ n9=>RD.one 5 (RDO.ev [] [] λ R3=>?_)
    refine RD.one 6 (RDO.ev [2,3,4,5,6] (ow 1 5) λ _=>?_)
    refine RD.one 7 (RDO.ev [2,3,4,5,6] (ow 0 5) λ _=>?_)
    exact UX ⟨n9,R3⟩ [0,1,2,3,4,5,6] []
   ·refine RDO.ev [] [] λ n11=>RD.one 4 (RDO.ev [] [] λ Xf=>?_)
    refine RD.one 6 (RDO.ev [2,3,4,5,6] (ow 0 5) λ _=>?_)
    refine RD.one 7 (RDO.ev [2,3,4,5,6] (ow 1 5) λ _=>?_)
    exact UX ⟨Xf,n11⟩ [1,0,2,3,4,5,6] []
def oK(pos Xe:V2)(k:Int):V2:=aD pos (eL Xe k 8)
def qN(a:Shp)(pa va:V2)(b:Shp)(pb vb:V2)(k:Int):Bool:=(cy a (oK pa va k) b (oK pb vb k)).2
def qO(a:Shp)(pa va:V2)(b:Shp)(pb vb:V2):Nat -> Nat -> Int
 | 0,_=>1024
 | n+1,k=>if qN a pa va b pb vb ((k:Int)+1)=true then ((k:Int) * 1024) / 8 else qO a pa va b pb vb n (k+1)
def my(a:Shp)(pa va:V2)(b:Shp)(pb vb:V2):Int:=if qN a pa va b pb vb 0=true then 1024 else qO a pa va b pb vb 8 0
theorem tf(pos:V2)(Xe:V2)(k:Int)  (F:HL):Sp Tryz.prog 245 #[.agg #[vI pos.x,vI pos.y],.agg #[vI Xe.x,vI Xe.y],vI k] [] F (λ u H'=>u=.agg #[vI ((oK pos Xe k).x),vI ((oK pos Xe k).y)] /\ H'=[]):=by
 refine Sp.run Tryz.func245 rfl mn (A:=[]) (Ts:=[]) rfl λ w0=>?_
 refine ae 8 [] λ n1=>RN.draw [5] []<|ag [] [0,1,2] [.own 2,.own 2,.own 1,.own 1]<|RD.cp [] 3 (λ X_=>(lm Xe k 8  _))<|RD.cp [] 4 (λ X_=>(ee pos (eL Xe k 8)  _))<|RD.one 5 (RDO.ev [] [.own 0,.own 0] λ _=>?_)
 refine RD.fin<|ae 1 [] λ _=>?_
 exact RN.ret [.own 0,.own 0] [] [] ⟨rfl,rfl⟩
theorem tg(a:Shp)(pa va:V2)(b:Shp)(pb vb:V2)(k:Int)(q1 q2 q3 q4 q5 q6:Nat)(F:HL)(ha:ShIn F a)(hb:ShIn F b)(Sr:(q1,.lit [vI a.r,.slice a.A a.poly.length a.cap] 73 (0,0))∈F)(P_:(q2,.lit [vI pa.x,vI pa.y] 29 (0,0))∈F)(Sq:(q3,.lit [vI va.x,vI va.y] 29 (0,0))∈F)(TF:(q4,.lit [vI b.r,.slice b.A b.poly.length b.cap] 73 (0,0))∈F)(hq5:(q5,.lit [vI pb.x,vI pb.y] 29 (0,0))∈F)(hq6:(q6,.lit [vI vb.x,vI vb.y] 29 (0,0))∈F):Sp Tryz.prog 244 #[vI k,vP q1 0,vP q2 0,vP q3 0,vP q4 0,vP q5 0,vP q6 0] [] F (λ u H'=>u=.bool (qN a pa va b pb vb k) /\ H'=[]):=by
 refine Sp.run Tryz.func244 rfl (mc Sr (mc P_ (mc Sq (mc TF (mc hq5 (mc hq6 mn)))))) (A:=[]) (Ts:=[]) rfl λ w0=>?_
 refine ae 6 [] λ _=>RN.draw [15] []<|ag [] [0,1,2,3,5,6,7,8] [.ro 0,.ro 0,.ro 1,.ro 1,.ro 2,.ro 2,.ro 3,.ro 3,.ro 4,.ro 4,.ro 5,.ro 5]<|RD.cp [] 4 (λ X_=>(tf pa va k  _))<|RD.cp [] 9 (λ X_=>(tf pb vb k  _))<|RD.cp [] 10 (λ X_=>(pE a (oK pa va k) b (oK pb vb k) _ (ha.up.up) (hb.up.up)))<|ag [] [11,12,13] []<|RD.one 14 (RDO.ev [] [] λ n2=>?_)
 refine RD.one 15 (RDO.ev [] [.own 0,.own 0,.own 0] λ _=>?_)
 refine ag [] [16] []<|RD.fin<|ae 7 [] λ _=>?_
 exact RN.ret [] [] [] ⟨rfl,rfl⟩
theorem uK(a:Shp)(pa va:V2)(b:Shp)(pb vb:V2)(F:HL)(ha:ShIn F a)(hb:ShIn F b):Sp Tryz.prog 216 #[.agg #[vI a.r,.slice a.A a.poly.length a.cap],.agg #[vI pa.x,vI pa.y],.agg #[vI va.x,vI va.y],.agg #[vI b.r,.slice b.A b.poly.length b.cap],.agg #[vI pb.x,vI pb.y],.agg #[vI vb.x,vI vb.y]] [] F (λ u H'=>u=vI (my a pa va b pb vb) /\ H'=[]):=by
 refine Sp.run Tryz.func216 rfl mn (A:=[]) (Ts:=[]) rfl λ w0=>?_
 refine ae 21 [] λ n1=>RN.cp (tg a pa va b pb vb 0 (n1+0) (n1+1) (n1+2) (n1+3) (n1+4) (n1+5) _ ha.up hb.up (av 5) (av 4) (av 3) (av 2) (av 1) (av 0))<|ae 2 [] λ _=>jl (qN a pa va b pb vb 0) 17 (λ h2=>?_) λ h2=>?_
 ·refine ae 6 [] λ _=>RN.ret [] [] [] (v:=vI 1024) (H':=[]) ?_
  exact⟨by rw[my,if_pos h2],rfl⟩
 ·refine ae 10 [] λ _=>RN.loop (σ:=Nat) (λ n=>⟨[(13,.func (.func 244) #[] #[vP (n1+0) 0,vP (n1+1) 0,vP (n1+2) 0,vP (n1+3) 0,vP (n1+4) 0,vP (n1+5) 0]),(18,vI (n:Int))],[((n1+5),.lit [vI vb.x,vI vb.y] 29 (0,0)),((n1+4),.lit [vI pb.x,vI pb.y] 29 (0,0)),((n1+3),.lit [vI b.r,.slice b.A b.poly.length b.cap] 73 (0,0)),((n1+2),.lit [vI va.x,vI va.y] 29 (0,0)),((n1+1),.lit [vI pa.x,vI pa.y] 29 (0,0)),((n1+0),.lit [vI a.r,.slice a.A a.poly.length a.cap] 73 (0,0))],[],n <= 8 /\ qO a pa va b pb vb (8-n) n=qO a pa va b pb vb 8 0,8-n⟩) 0 [0,1,2,3,4,5] [] (⟨Nat.zero_le _,rfl⟩) ?_
  rintro n ⟨Yk,XF⟩ mt4
  refine ae 6 [] λ _=>RN.em ((n:Int)<8) 19 (λ h5=>?_) λ h5=>?_
  ·refine ai 16 [.nw] [aS ((n:Int)+1)] λ _=>RN.cp (tg a pa va b pb vb ((n:Int)+1) (n1+0) (n1+1) (n1+2) (n1+3) (n1+4) (n1+5) _ ha.up hb.up (av 5) (av 4) (av 3) (av 2) (av 1) (av 0))<|ae 2 [] λ _=>jl (qN a pa va b pb vb ((n:Int)+1)) 24 (λ h6=>?_) λ h6=>?_
   ·refine ai 9 [.nw,.nw] [0 <= (n:Int) * 1024 /\ (0:Int)<8 /\ (n:Int) * 1024 <= 9223372036854775807,aS ((n:Int) * 1024)] λ _=>RN.ret [] [] [] (v:=vI (((n:Int) * 1024) / 8)) (H':=[]) ?_
    refine⟨?_,rfl⟩
    rw[my,if_neg h2,<- XF]
    rw[show 8-n=(8-(n+1))+1 by omega,qO,if_pos h6]
   ·refine ai 8 [.nw] [aS ((n:Int)+1)] λ _=>?_
    refine mt4 (n+1) [0,1,2,3,4,5] [] ?_
    try dsimp only
    refine⟨⟨by omega,?_⟩,by omega⟩
    rw[<- XF,show 8-n=(8-(n+1))+1 by omega,qO,if_neg h6]
  ·refine ae 11 [] λ _=>RN.ret [] [] [] (v:=vI 1024) (H':=[]) ?_
   refine⟨?_,rfl⟩
   rw[my,if_neg h2,<- XF]
   rw[show 8-n=0 by omega,qO]
end Go.Proofs.YtgdcbiiopbpgaaaGreatDoor
