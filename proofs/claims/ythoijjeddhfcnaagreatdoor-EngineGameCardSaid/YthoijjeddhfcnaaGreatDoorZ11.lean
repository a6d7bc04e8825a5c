import Derived.Test.YthoijjeddhfcnaaGreatDoorZ10
set_option maxHeartbeats 4000000
set_option maxRecDepth 100000
set_option linter.unusedSimpArgs false
set_option linter.unusedVariables false
namespace Go.Proofs.YthoijjeddhfcnaaGreatDoor
open IntKind
open Go.RowKit
def VR.z(r:VR):VR:=⟨r.M,0,r.e,r.em⟩
abbrev Stp.f(t:Stp):Eff:=⟨t.f0,t.f1,t.f2,t.f3⟩
def Stp.upd(t:Stp)(r:VR):Stp:={ t with f0:=r.e.t,f1:=r.e.i,f2:=r.e.k,f3:=r.e.v,emitted:=r.em }
def ew(e:Int)(t:Stp)(self other:Int)(M:MemS):VR:=if t.j=0 then (if e<0 then ⟨aU e t.S.fuel self other M,0,t.f,t.emitted⟩ else ⟨(aU e t.S.fuel self other M).set 3 1,0,t.f,t.emitted⟩) else ⟨(ao t.S t.code t.cn M).M,0,(ao t.S t.code t.cn M).e,(ao t.S t.code t.cn M).em⟩
def dh(e:Int)(t:Stp)(self other:Int)(M:MemS):Bool:=if t.j=0 then decide (e<0) else bE t.code t.cn M
abbrev cB(t:Stp)(a b:Int)(M:MemS):VR:=ew t.e0 t a b M
abbrev dm(t:Stp)(a b:Int)(M:MemS):VR:=ew t.e1 t a b M
abbrev cC(t:Stp)(a b:Int)(M:MemS):VR:=ew t.e2 t a b M
abbrev iC(t:Stp)(a b:Int)(M:MemS):Bool:=dh t.e0 t a b M
abbrev i5(t:Stp)(a b:Int)(M:MemS):Bool:=dh t.e1 t a b M
abbrev iE(t:Stp)(a b:Int)(M:MemS):Bool:=dh t.e2 t a b M
def di(r:VR)(over:Bool)(t:Stp)(IT:Bool)(M:MemS):VR:=if t.j=0 then (if IT=true then (if over=true then ⟨r.M.set 2 (aV (t.i+1)),0,r.e,r.em⟩ else ⟨r.M,0,r.e,r.em⟩) else ⟨M.set 2 (aV (t.i+1)),0,t.f,t.emitted⟩) else (if over=true then ⟨(r.M.set 3 0).set 2 (aV (t.i+1)),0,r.e,r.em⟩ else ⟨r.M,0,r.e,r.em⟩)
abbrev cW(t:Stp)(b:Int)(c:Bool)(M:MemS):VR:=di (cB t t.i b M) (iC t t.i b M) t c M
abbrev cX(t:Stp)(b:Int)(c:Bool)(M:MemS):VR:=di (cC t t.i b M) (iE t t.i b M) t c M
def eF(t:Stp)(M:MemS):VR:=if ah t.S t.i<0 then ⟨aQ t 2 0 M,0,t.f,t.emitted⟩ else (cW t (M.get (ah t.S t.i+2)) (!decide (M.get (ah t.S t.i+2)=0)) M).z
def cS(t:Stp)(M:MemS):VR:=if i5 t 0 0 M=true then ⟨aQ t 3 0 (dm t 0 0 M).M,0,(dm t 0 0 M).e,(dm t 0 0 M).em⟩ else ⟨(dm t 0 0 M).M,0,(dm t 0 0 M).e,(dm t 0 0 M).em⟩
def eG(t:Stp)(M:MemS):VR:=if ae t.S t.i<0 then ⟨aQ t 7 0 M,0,t.f,t.emitted⟩ else (cX t (aV (M.get (ae t.S t.i+6)-1)) (!decide (M.get (ae t.S t.i+6)=0)) M).z
theorem D2(t:Stp)(a:Int)(b:Int)(tb mb:Nat)(M:MemS)(k:Nat)(T F:HL)(hM:MemH mb M (k+6) T)(hS:SetIn F t.S)(hE:fv F)(hC:CodeIn F t.code t.cA t.cn) :Sp Tryz.prog 120 #[vP tb 0,vI 0,vI a,vI b] (ap [(tb,.lit (Stp.l t mb) 181 (0,0))] [T]) F (λ u H'=>∃x,H'=ap [(tb,.lit ((Stp.lp t mb)++[vI ((cB t a b M).e.t),vI ((cB t a b M).e.i),vI ((cB t a b M).e.k),vI ((cB t a b M).e.v),.bool ((cB t a b M).em)]) 181 (0,0))] [x] /\ (MemH mb (cB t a b M).M k x /\ u=.bool (iC t a b M))):=by
 have hp:=hS.pl
 have hn:=hS.nb
 have hr:=hS.room
 refine Sp.run Tryz.func120 rfl (mc hS.blk mn) (A:=[(tb,.lit (Stp.l t mb) 181 (0,0))]) (Ts:=[T]) rfl λ w0=>?_
 refine aa 15 [.own 0] λ _=>RN.em (t.j=0) 16 (λ h1=>?_) λ h1=>?_
 ·refine aa 3 [] λ _=>RN.draw [16] []<|af [] [0,4,8,9,10,11,1,5,12,2,6,13,3,7,14,15] (ow 0 6)<|RD.one 16 (RDO.ct [] [] [0] (DX mb M (k+1) T t.cA t.cn t.cc t.e0 t.e1 t.e2 a b t.S.fuel _ hM) ?_)
  rintro _ T2 ⟨P6,rfl⟩
  refine af [] [17] []<|RD.fin<|aa 1 [] λ _=>?_
  rcases Decidable.em (t.e0<0) with h4|h4
  ·refine dR 34 (nf (nt (decide_eq_true h4)))<|aa 6 [] λ _=>RN.ret [] [0] [0] (v:=.bool true) (H':=(ap [(tb,.lit (Stp.l t mb) 181 (0,0))] [T2])) ?_
   have e:(cB t a b M)=⟨(aU t.e0 t.S.fuel a b M),0,⟨t.f0,t.f1,t.f2,t.f3⟩,t.emitted⟩:=by
    first|(simp only[cB,ew,if_pos h1,if_pos h4];try rfl;done)|rfl
   have er:(iC t a b M)=true:=by
    first|(simp only[iC,dh,if_pos h1,if_pos h4];done)|(simp only[iC,dh,if_pos h1,if_pos h4];simp[*];done)|(simp only[iC,dh,if_pos h1,if_pos h4];rfl)
   refine⟨T2,by rw[e] <;> rfl,?_,by rw[er]⟩
   rw[e]
   exact P6.weak (by omega)
  ·refine dR 34 (nt (nf (decide_eq_false h4)))<|aa 9 [.own 0] λ _=>RN.ct [] [0] (ak 3 1 P6) ?_
   rintro _ T5 P5
   refine aa 7 [] λ _=>RN.ret [] [0] [0] (v:=.bool false) (H':=(ap [(tb,.lit (Stp.l t mb) 181 (0,0))] [T5])) ?_
   have e:(cB t a b M)=⟨((aU t.e0 t.S.fuel a b M).set 3 1),0,⟨t.f0,t.f1,t.f2,t.f3⟩,t.emitted⟩:=by
    first|(simp only[cB,ew,if_pos h1,if_neg h4];try rfl;done)|rfl
   have er:(iC t a b M)=false:=by
    first|(simp only[iC,dh,if_pos h1,if_neg h4];done)|(simp only[iC,dh,if_pos h1,if_neg h4];simp[*];done)|(simp only[iC,dh,if_pos h1,if_neg h4];rfl)
   refine⟨T5,by rw[e] <;> rfl,?_,by rw[er]⟩
   rw[e]
   exact P5.weak (by omega)
 ·refine aa 4 [] λ _=>RN.draw [12,19] []<|af [] [0,4,8,1,5,9,2,6,10,3,7,11] (ow 0 21)<|d5 12 17 ?_ ?_
  ·refine RDO.ct [] [] [0] (gR mb M k T t.S t.code t.cA t.cn t.cc t.e0 t.e1 t.e2 _ hM hS.toSetN (bK hE) hC.up) ?_
   rintro _ T7 ⟨P4,rfl⟩
   refine af [] [13,14,15,16] []<|RD.one 17 (RDO.ev [] [] λ n9=>?_)
   refine af [] [18] []<|RD.one 19 (RDO.ev [] [.own 0,.own 0,.own 0,.own 0] λ _=>?_)
   refine af [] [20] []<|RD.fin<|aa 21 ([.own 0,.own 0,.own 0,.own 0]++ow 1 5) λ _=>RN.ret [] [1] [0] (v:=.bool (bE t.code t.cn M)) (H':=(ap [(tb,.lit ((Stp.lp t mb)++[vI ((ao t.S t.code t.cn M).e.t),vI ((ao t.S t.code t.cn M).e.i),vI ((ao t.S t.code t.cn M).e.k),vI ((ao t.S t.code t.cn M).e.v),.bool ((ao t.S t.code t.cn M).em)]) 181 (0,0))] [T7])) ?_
   have e:(cB t a b M)=⟨(ao t.S t.code t.cn M).M,0,⟨(ao t.S t.code t.cn M).e.t,(ao t.S t.code t.cn M).e.i,(ao t.S t.code t.cn M).e.k,(ao t.S t.code t.cn M).e.v⟩,(ao t.S t.code t.cn M).em⟩:=by
    first|(simp only[cB,ew,if_neg h1];try rfl;done)|rfl
   have er:(iC t a b M)=bE t.code t.cn M:=by
    first|(simp only[iC,dh,if_neg h1];done)|(simp only[iC,dh,if_neg h1];simp[*];done)|(simp only[iC,dh,if_neg h1];rfl)
   refine⟨T7,by rw[e] <;> rfl,?_,by rw[er]⟩
   rw[e]
   exact P4.weak (by omega)
  ·refine RDO.ev [] [] λ Qw=>RD.one 12 (RDO.ct [] [] [0] (gR mb M k T t.S t.code t.cA t.cn t.cc t.e0 t.e1 t.e2 _ hM hS.toSetN (bK hE) hC.up) ?_)
   rintro _ Pp ⟨IF,rfl⟩
   refine af [] [13,14,15,16,18] []<|RD.one 19 (RDO.ev [] [.own 0,.own 0,.own 0,.own 0] λ _=>?_)
   refine af [] [20] []<|RD.fin<|aa 21 ([.own 0,.own 0,.own 0,.own 0]++ow 1 5) λ _=>RN.ret [] [1] [0] (v:=.bool (bE t.code t.cn M)) (H':=(ap [(tb,.lit ((Stp.lp t mb)++[vI ((ao t.S t.code t.cn M).e.t),vI ((ao t.S t.code t.cn M).e.i),vI ((ao t.S t.code t.cn M).e.k),vI ((ao t.S t.code t.cn M).e.v),.bool ((ao t.S t.code t.cn M).em)]) 181 (0,0))] [Pp])) ?_
   have e:(cB t a b M)=⟨(ao t.S t.code t.cn M).M,0,⟨(ao t.S t.code t.cn M).e.t,(ao t.S t.code t.cn M).e.i,(ao t.S t.code t.cn M).e.k,(ao t.S t.code t.cn M).e.v⟩,(ao t.S t.code t.cn M).em⟩:=by
    first|(simp only[cB,ew,if_neg h1];try rfl;done)|rfl
   have er:(iC t a b M)=bE t.code t.cn M:=by
    first|(simp only[iC,dh,if_neg h1];done)|(simp only[iC,dh,if_neg h1];simp[*];done)|(simp only[iC,dh,if_neg h1];rfl)
   refine⟨Pp,by rw[e] <;> rfl,?_,by rw[er]⟩
   rw[e]
   exact IF.weak (by omega)
theorem KV(t:Stp)(a:Int)(b:Int)(tb mb:Nat)(M:MemS)(k:Nat)(T F:HL)(hM:MemH mb M (k+6) T)(hS:SetIn F t.S)(hE:fv F)(hC:CodeIn F t.code t.cA t.cn) :Sp Tryz.prog 120 #[vP tb 0,vI 1,vI a,vI b] (ap [(tb,.lit (Stp.l t mb) 181 (0,0))] [T]) F (λ u H'=>∃x,H'=ap [(tb,.lit ((Stp.lp t mb)++[vI ((dm t a b M).e.t),vI ((dm t a b M).e.i),vI ((dm t a b M).e.k),vI ((dm t a b M).e.v),.bool ((dm t a b M).em)]) 181 (0,0))] [x] /\ (MemH mb (dm t a b M).M k x /\ u=.bool (i5 t a b M))):=by
 have hp:=hS.pl
 have hn:=hS.nb
 have hr:=hS.room
 refine Sp.run Tryz.func120 rfl (mc hS.blk mn) (A:=[(tb,.lit (Stp.l t mb) 181 (0,0))]) (Ts:=[T]) rfl λ w0=>?_
 refine aa 15 [.own 0] λ _=>RN.em (t.j=0) 16 (λ h1=>?_) λ h1=>?_
 ·refine aa 3 [] λ _=>RN.draw [16] []<|af [] [0,4,8,9,10,11,1,5,12,2,6,13,3,7,14,15] (ow 0 6)<|RD.one 16 (RDO.ct [] [] [0] (DY mb M (k+1) T t.cA t.cn t.cc t.e0 t.e1 t.e2 a b t.S.fuel _ hM) ?_)
  rintro _ T2 ⟨P6,rfl⟩
  refine af [] [17] []<|RD.fin<|aa 1 [] λ _=>?_
  rcases Decidable.em (t.e1<0) with h4|h4
  ·refine dR 34 (nf (nt (decide_eq_true h4)))<|aa 6 [] λ _=>RN.ret [] [0] [0] (v:=.bool true) (H':=(ap [(tb,.lit (Stp.l t mb) 181 (0,0))] [T2])) ?_
   have e:(dm t a b M)=⟨(aU t.e1 t.S.fuel a b M),0,⟨t.f0,t.f1,t.f2,t.f3⟩,t.emitted⟩:=by
    first|(simp only[dm,ew,if_pos h1,if_pos h4];try rfl;done)|rfl
   have er:(i5 t a b M)=true:=by
    first|(simp only[i5,dh,if_pos h1,if_pos h4];done)|(simp only[i5,dh,if_pos h1,if_pos h4];simp[*];done)|(simp only[i5,dh,if_pos h1,if_pos h4];rfl)
   refine⟨T2,by rw[e] <;> rfl,?_,by rw[er]⟩
   rw[e]
   exact P6.weak (by omega)
  ·refine dR 34 (nt (nf (decide_eq_false h4)))<|aa 9 [.own 0] λ _=>RN.ct [] [0] (ak 3 1 P6) ?_
   rintro _ T5 P5
   refine aa 7 [] λ _=>RN.ret [] [0] [0] (v:=.bool false) (H':=(ap [(tb,.lit (Stp.l t mb) 181 (0,0))] [T5])) ?_
   have e:(dm t a b M)=⟨((aU t.e1 t.S.fuel a b M).set 3 1),0,⟨t.f0,t.f1,t.f2,t.f3⟩,t.emitted⟩:=by
    first|(simp only[dm,ew,if_pos h1,if_neg h4];try rfl;done)|rfl
   have er:(i5 t a b M)=false:=by
    first|(simp only[i5,dh,if_pos h1,if_neg h4];done)|(simp only[i5,dh,if_pos h1,if_neg h4];simp[*];done)|(simp only[i5,dh,if_pos h1,if_neg h4];rfl)
   refine⟨T5,by rw[e] <;> rfl,?_,by rw[er]⟩
   rw[e]
   exact P5.weak (by omega)
 ·refine aa 4 [] λ _=>RN.draw [12,19] []<|af [] [0,4,8,1,5,9,2,6,10,3,7,11] (ow 0 21)<|d5 12 17 ?_ ?_
  ·refine RDO.ct [] [] [0] (gR mb M k T t.S t.code t.cA t.cn t.cc t.e0 t.e1 t.e2 _ hM hS.toSetN (bK hE) hC.up) ?_
   rintro _ T7 ⟨P4,rfl⟩
   refine af [] [13,14,15,16] []<|RD.one 17 (RDO.ev [] [] λ n9=>?_)
   refine af [] [18] []<|RD.one 19 (RDO.ev [] [.own 0,.own 0,.own 0,.own 0] λ _=>?_)
   refine af [] [20] []<|RD.fin<|aa 21 ([.own 0,.own 0,.own 0,.own 0]++ow 1 5) λ _=>RN.ret [] [1] [0] (v:=.bool (bE t.code t.cn M)) (H':=(ap [(tb,.lit ((Stp.lp t mb)++[vI ((ao t.S t.code t.cn M).e.t),vI ((ao t.S t.code t.cn M).e.i),vI ((ao t.S t.code t.cn M).e.k),vI ((ao t.S t.code t.cn M).e.v),.bool ((ao t.S t.code t.cn M).em)]) 181 (0,0))] [T7])) ?_
   have e:(dm t a b M)=⟨(ao t.S t.code t.cn M).M,0,⟨(ao t.S t.code t.cn M).e.t,(ao t.S t.code t.cn M).e.i,(ao t.S t.code t.cn M).e.k,(ao t.S t.code t.cn M).e.v⟩,(ao t.S t.code t.cn M).em⟩:=by
    first|(simp only[dm,ew,if_neg h1];try rfl;done)|rfl
   have er:(i5 t a b M)=bE t.code t.cn M:=by
    first|(simp only[i5,dh,if_neg h1];done)|(simp only[i5,dh,if_neg h1];simp[*];done)|(simp only[i5,dh,if_neg h1];rfl)
   refine⟨T7,by rw[e] <;> rfl,?_,by rw[er]⟩
   rw[e]
   exact P4.weak (by omega)
  ·refine RDO.ev [] [] λ Qw=>RD.one 12 (RDO.ct [] [] [0] (gR mb M k T t.S t.code t.cA t.cn t.cc t.e0 t.e1 t.e2 _ hM hS.toSetN (bK hE) hC.up) ?_)
   rintro _ Pp ⟨IF,rfl⟩
   refine af [] [13,14,15,16,18] []<|RD.one 19 (RDO.ev [] [.own 0,.own 0,.own 0,.own 0] λ _=>?_)
   refine af [] [20] []<|RD.fin<|aa 21 ([.own 0,.own 0,.own 0,.own 0]++ow 1 5) λ _=>RN.ret [] [1] [0] (v:=.bool (bE t.code t.cn M)) (H':=(ap [(tb,.lit ((Stp.lp t mb)++[vI ((ao t.S t.code t.cn M).e.t),vI ((ao t.S t.code t.cn M).e.i),vI ((ao t.S t.code t.cn M).e.k),vI ((ao t.S t.code t.cn M).e.v),.bool ((ao t.S t.code t.cn M).em)]) 181 (0,0))] [Pp])) ?_
   have e:(dm t a b M)=⟨(ao t.S t.code t.cn M).M,0,⟨(ao t.S t.code t.cn M).e.t,(ao t.S t.code t.cn M).e.i,(ao t.S t.code t.cn M).e.k,(ao t.S t.code t.cn M).e.v⟩,(ao t.S t.code t.cn M).em⟩:=by
    first|(simp only[dm,ew,if_neg h1];try rfl;done)|rfl
   have er:(i5 t a b M)=bE t.code t.cn M:=by
    first|(simp only[i5,dh,if_neg h1];done)|(simp only[i5,dh,if_neg h1];simp[*];done)|(simp only[i5,dh,if_neg h1];rfl)
   refine⟨Pp,by rw[e] <;> rfl,?_,by rw[er]⟩
   rw[e]
   exact IF.weak (by omega)
theorem D3(t:Stp)(a:Int)(b:Int)(tb mb:Nat)(M:MemS)(k:Nat)(T F:HL)(hM:MemH mb M (k+6) T)(hS:SetIn F t.S)(hE:fv F)(hC:CodeIn F t.code t.cA t.cn) :Sp Tryz.prog 120 #[vP tb 0,vI 2,vI a,vI b] (ap [(tb,.lit (Stp.l t mb) 181 (0,0))] [T]) F (λ u H'=>∃x,H'=ap [(tb,.lit ((Stp.lp t mb)++[vI ((cC t a b M).e.t),vI ((cC t a b M).e.i),vI ((cC t a b M).e.k),vI ((cC t a b M).e.v),.bool ((cC t a b M).em)]) 181 (0,0))] [x] /\ (MemH mb (cC t a b M).M k x /\ u=.bool (iE t a b M))):=by
 have hp:=hS.pl
 have hn:=hS.nb
 have hr:=hS.room
 refine Sp.run Tryz.func120 rfl (mc hS.blk mn) (A:=[(tb,.lit (Stp.l t mb) 181 (0,0))]) (Ts:=[T]) rfl λ w0=>?_
 refine aa 15 [.own 0] λ _=>RN.em (t.j=0) 16 (λ h1=>?_) λ h1=>?_
 ·refine aa 3 [] λ _=>RN.draw [16] []<|af [] [0,4,8,9,10,11,1,5,12,2,6,13,3,7,14,15] (ow 0 6)<|RD.one 16 (RDO.ct [] [] [0] (DZ mb M (k+1) T t.cA t.cn t.cc t.e0 t.e1 t.e2 a b t.S.fuel _ hM) ?_)
  rintro _ T2 ⟨P6,rfl⟩
  refine af [] [17] []<|RD.fin<|aa 1 [] λ _=>?_
  rcases Decidable.em (t.e2<0) with h4|h4
  ·refine dR 34 (nf (nt (decide_eq_true h4)))<|aa 6 [] λ _=>RN.ret [] [0] [0] (v:=.bool true) (H':=(ap [(tb,.lit (Stp.l t mb) 181 (0,0))] [T2])) ?_
   have e:(cC t a b M)=⟨(aU t.e2 t.S.fuel a b M),0,⟨t.f0,t.f1,t.f2,t.f3⟩,t.emitted⟩:=by
    first|(simp only[cC,ew,if_pos h1,if_pos h4];try rfl;done)|rfl
   have er:(iE t a b M)=true:=by
    first|(simp only[iE,dh,if_pos h1,if_pos h4];done)|(simp only[iE,dh,if_pos h1,if_pos h4];simp[*];done)|(simp only[iE,dh,if_pos h1,if_pos h4];rfl)
   refine⟨T2,by rw[e] <;> rfl,?_,by rw[er]⟩
   rw[e]
   exact P6.weak (by omega)
  ·refine dR 34 (nt (nf (decide_eq_false h4)))<|aa 9 [.own 0] λ _=>RN.ct [] [0] (ak 3 1 P6) ?_
   rintro _ T5 P5
   refine aa 7 [] λ _=>RN.ret [] [0] [0] (v:=.bool false) (H':=(ap [(tb,.lit (Stp.l t mb) 181 (0,0))] [T5])) ?_
   have e:(cC t a b M)=⟨((aU t.e2 t.S.fuel a b M).set 3 1),0,⟨t.f0,t.f1,t.f2,t.f3⟩,t.emitted⟩:=by
    first|(simp only[cC,ew,if_pos h1,if_neg h4];try rfl;done)|rfl
   have er:(iE t a b M)=false:=by
    first|(simp only[iE,dh,if_pos h1,if_neg h4];done)|(simp only[iE,dh,if_pos h1,if_neg h4];simp[*];done)|(simp only[iE,dh,if_pos h1,if_neg h4];rfl)
   refine⟨T5,by rw[e] <;> rfl,?_,by rw[er]⟩
   rw[e]
   exact P5.weak (by omega)
 ·refine aa 4 [] λ _=>RN.draw [12,19] []<|af [] [0,4,8,1,5,9,2,6,10,3,7,11] (ow 0 21)<|d5 12 17 ?_ ?_
  ·refine RDO.ct [] [] [0] (gR mb M k T t.S t.code t.cA t.cn t.cc t.e0 t.e1 t.e2 _ hM hS.toSetN (bK hE) hC.up) ?_
   rintro _ T7 ⟨P4,rfl⟩
   refine af [] [13,14,15,16] []<|RD.one 17 (RDO.ev [] [] λ n9=>?_)
   refine af [] [18] []<|RD.one 19 (RDO.ev [] [.own 0,.own 0,.own 0,.own 0] λ _=>?_)
   refine af [] [20] []<|RD.fin<|aa 21 ([.own 0,.own 0,.own 0,.own 0]++ow 1 5) λ _=>RN.ret [] [1] [0] (v:=.bool (bE t.code t.cn M)) (H':=(ap [(tb,.lit ((Stp.lp t mb)++[vI ((ao t.S t.code t.cn M).e.t),vI ((ao t.S t.code t.cn M).e.i),vI ((ao t.S t.code t.cn M).e.k),vI ((ao t.S t.code t.cn M).e.v),.bool ((ao t.S t.code t.cn M).em)]) 181 (0,0))] [T7])) ?_
   have e:(cC t a b M)=⟨(ao t.S t.code t.cn M).M,0,⟨(ao t.S t.code t.cn M).e.t,(ao t.S t.code t.cn M).e.i,(ao t.S t.code t.cn M).e.k,(ao t.S t.code t.cn M).e.v⟩,(ao t.S t.code t.cn M).em⟩:=by
    first|(simp only[cC,ew,if_neg h1];try rfl;done)|rfl
   have er:(iE t a b M)=bE t.code t.cn M:=by
    first|(simp only[iE,dh,if_neg h1];done)|(simp only[iE,dh,if_neg h1];simp[*];done)|(simp only[iE,dh,if_neg h1];rfl)
   refine⟨T7,by rw[e] <;> rfl,?_,by rw[er]⟩
   rw[e]
   exact P4.weak (by omega)
  ·refine RDO.ev [] [] λ Qw=>RD.one 12 (RDO.ct [] [] [0] (gR mb M k T t.S t.code t.cA t.cn t.cc t.e0 t.e1 t.e2 _ hM hS.toSetN (bK hE) hC.up) ?_)
   rintro _ Pp ⟨IF,rfl⟩
   refine af [] [13,14,15,16,18] []<|RD.one 19 (RDO.ev [] [.own 0,.own 0,.own 0,.own 0] λ _=>?_)
   refine af [] [20] []<|RD.fin<|aa 21 ([.own 0,.own 0,.own 0,.own 0]++ow 1 5) λ _=>RN.ret [] [1] [0] (v:=.bool (bE t.code t.cn M)) (H':=(ap [(tb,.lit ((Stp.lp t mb)++[vI ((ao t.S t.code t.cn M).e.t),vI ((ao t.S t.code t.cn M).e.i),vI ((ao t.S t.code t.cn M).e.k),vI ((ao t.S t.code t.cn M).e.v),.bool ((ao t.S t.code t.cn M).em)]) 181 (0,0))] [Pp])) ?_
   have e:(cC t a b M)=⟨(ao t.S t.code t.cn M).M,0,⟨(ao t.S t.code t.cn M).e.t,(ao t.S t.code t.cn M).e.i,(ao t.S t.code t.cn M).e.k,(ao t.S t.code t.cn M).e.v⟩,(ao t.S t.code t.cn M).em⟩:=by
    first|(simp only[cC,ew,if_neg h1];try rfl;done)|rfl
   have er:(iE t a b M)=bE t.code t.cn M:=by
    first|(simp only[iE,dh,if_neg h1];done)|(simp only[iE,dh,if_neg h1];simp[*];done)|(simp only[iE,dh,if_neg h1];rfl)
   refine⟨Pp,by rw[e] <;> rfl,?_,by rw[er]⟩
   rw[e]
   exact IF.weak (by omega)
theorem HW(t:Stp)(b:Int)(c:Bool)(tb mb:Nat)(M:MemS)(k:Nat)(T F:HL)(hM:MemH mb M (k+8) T)(hS:SetIn F t.S)(hE:fv F)(hC:CodeIn F t.code t.cA t.cn) :Sp Tryz.prog 119 #[vP tb 0,vI 0,vI b,.bool c] (ap [(tb,.lit (Stp.l t mb) 181 (0,0))] [T]) F (λ u H'=>∃x,H'=ap [(tb,.lit ((Stp.lp t mb)++[vI ((cW t b c M).e.t),vI ((cW t b c M).e.i),vI ((cW t b c M).e.k),vI ((cW t b c M).e.v),.bool ((cW t b c M).em)]) 181 (0,0))] [x] /\ (MemH mb (cW t b c M).M k x)):=by
 have hp:=hS.pl
 have hn:=hS.nb
 have hr:=hS.room
 refine Sp.run Tryz.func119 rfl (mc hS.blk mn) (A:=[(tb,.lit (Stp.l t mb) 181 (0,0))]) (Ts:=[T]) rfl λ w0=>?_
 refine aa 8 [.own 0] λ _=>RN.em (t.j=0) 13 (λ h1=>?_) λ h1=>?_
 ·refine aa 5 [] λ _=>rC (c) 16 (λ h2=>?_) λ h2=>?_
  ·refine aa 10 [.own 0] λ _=>RN.ct [0] [0] (D2 t t.i b tb mb M (k+2) T _ hM hS.up (bK hE) hC.up) ?_
   rintro _ T3 ⟨C_,rfl⟩
   refine aa 2 [] λ _=>RN.eb (iC t t.i b M) 36 (λ h5=>?_) λ h5=>?_
   ·refine aa 11 [.own 0] λ _=>dR 41 (nt (decide_eq_true h1))<|aa 3 [] λ _=>RN.draw [11] []<|af [] [0,4,1,5,2,6,3,7,8,9,10] [.own 0,.own 0]<|RD.one 11 (RDO.ct [] [] [0] (ak 2 (i64.wrap (t.i+1)) C_) ?_)
    rintro _ T6 Uj
    refine RD.fin<|RN.ret [] [0] [0] (v:=.tuple #[]) (H':=(ap [(tb,.lit ((Stp.lp t mb)++[vI ((cB t t.i b M).e.t),vI ((cB t t.i b M).e.i),vI ((cB t t.i b M).e.k),vI ((cB t t.i b M).e.v),.bool ((cB t t.i b M).em)]) 181 (0,0))] [T6])) ?_
    have e:(cW t b c M)=⟨(((cB t t.i b M).M).set 2 (i64.wrap (t.i+1))),0,⟨(cB t t.i b M).e.t,(cB t t.i b M).e.i,(cB t t.i b M).e.k,(cB t t.i b M).e.v⟩,(cB t t.i b M).em⟩:=by
     first|(simp only[cW,di,if_pos h1,if_pos h2,if_pos h5];try rfl;done)|rfl
    refine⟨T6,by rw[e] <;> rfl,?_⟩
    rw[e]
    exact Uj.weak (by omega)
   ·refine aa 2 [] λ _=>RN.ret [] [0] [0] (v:=.tuple #[]) (H':=(ap [(tb,.lit ((Stp.lp t mb)++[vI ((cB t t.i b M).e.t),vI ((cB t t.i b M).e.i),vI ((cB t t.i b M).e.k),vI ((cB t t.i b M).e.v),.bool ((cB t t.i b M).em)]) 181 (0,0))] [T3])) ?_
    have e:(cW t b c M)=⟨(cB t t.i b M).M,0,⟨(cB t t.i b M).e.t,(cB t t.i b M).e.i,(cB t t.i b M).e.k,(cB t t.i b M).e.v⟩,(cB t t.i b M).em⟩:=by
     first|(simp only[cW,di,if_pos h1,if_pos h2,if_neg h5];try rfl;done)|rfl
    refine⟨T3,by rw[e] <;> rfl,?_⟩
    rw[e]
    exact C_.weak (by omega)
  ·refine aa 1 [] λ _=>RN.draw [11] []<|af [] [0,4,1,5,2,6,3,7,8,9,10] [.own 0,.own 0]<|RD.one 11 (RDO.ct [] [] [0] (ak 2 (i64.wrap (t.i+1)) hM) ?_)
   rintro _ T8 R5
   refine RD.fin<|RN.ret [] [0] [0] (v:=.tuple #[]) (H':=(ap [(tb,.lit (Stp.l t mb) 181 (0,0))] [T8])) ?_
   have e:(cW t b c M)=⟨(M.set 2 (i64.wrap (t.i+1))),0,⟨t.f0,t.f1,t.f2,t.f3⟩,t.emitted⟩:=by
    first|(simp only[cW,di,if_pos h1,if_neg h2];try rfl;done)|rfl
   refine⟨T8,by rw[e] <;> rfl,?_⟩
   rw[e]
   exact R5.weak (by omega)
 ·refine aa 15 [.own 0] λ _=>RN.ct [0] [0] (D2 t t.i b tb mb M (k+2) T _ hM hS.up (bK hE) hC.up) ?_
  rintro _ Sb ⟨PU,rfl⟩
  refine aa 2 [] λ _=>RN.eb (iC t t.i b M) 36 (λ PN=>?_) λ PN=>?_
  ·refine aa 11 [.own 0] λ _=>dR 41 (nf (decide_eq_false h1))<|aa 6 [.own 0] λ _=>RN.ct [] [0] (ak 3 0 PU) ?_
   rintro _ Sl P8
   refine aa 2 [] λ _=>RN.draw [11] []<|af [] [0,4,1,5,2,6,3,7,8,9,10] [.own 0,.own 0]<|RD.one 11 (RDO.ct [] [] [0] (ak 2 (i64.wrap (t.i+1)) P8) ?_)
   rintro _ QQ P7
   refine RD.fin<|RN.ret [] [0] [0] (v:=.tuple #[]) (H':=(ap [(tb,.lit ((Stp.lp t mb)++[vI ((cB t t.i b M).e.t),vI ((cB t t.i b M).e.i),vI ((cB t t.i b M).e.k),vI ((cB t t.i b M).e.v),.bool ((cB t t.i b M).em)]) 181 (0,0))] [QQ])) ?_
   have e:(cW t b c M)=⟨((((cB t t.i b M).M).set 3 0).set 2 (i64.wrap (t.i+1))),0,⟨(cB t t.i b M).e.t,(cB t t.i b M).e.i,(cB t t.i b M).e.k,(cB t t.i b M).e.v⟩,(cB t t.i b M).em⟩:=by
    first|(simp only[cW,di,if_neg h1,if_pos PN];try rfl;done)|rfl
   refine⟨QQ,by rw[e] <;> rfl,?_⟩
   rw[e]
   exact P7.weak (by omega)
  ·refine aa 2 [] λ _=>RN.ret [] [0] [0] (v:=.tuple #[]) (H':=(ap [(tb,.lit ((Stp.lp t mb)++[vI ((cB t t.i b M).e.t),vI ((cB t t.i b M).e.i),vI ((cB t t.i b M).e.k),vI ((cB t t.i b M).e.v),.bool ((cB t t.i b M).em)]) 181 (0,0))] [Sb])) ?_
   have e:(cW t b c M)=⟨(cB t t.i b M).M,0,⟨(cB t t.i b M).e.t,(cB t t.i b M).e.i,(cB t t.i b M).e.k,(cB t t.i b M).e.v⟩,(cB t t.i b M).em⟩:=by
    first|(simp only[cW,di,if_neg h1,if_neg PN];try rfl;done)|rfl
   refine⟨Sb,by rw[e] <;> rfl,?_⟩
   rw[e]
   exact PU.weak (by omega)
theorem HX(t:Stp)(b:Int)(c:Bool)(tb mb:Nat)(M:MemS)(k:Nat)(T F:HL)(hM:MemH mb M (k+8) T)(hS:SetIn F t.S)(hE:fv F)(hC:CodeIn F t.code t.cA t.cn) :Sp Tryz.prog 119 #[vP tb 0,vI 2,vI b,.bool c] (ap [(tb,.lit (Stp.l t mb) 181 (0,0))] [T]) F (λ u H'=>∃x,H'=ap [(tb,.lit ((Stp.lp t mb)++[vI ((cX t b c M).e.t),vI ((cX t b c M).e.i),vI ((cX t b c M).e.k),vI ((cX t b c M).e.v),.bool ((cX t b c M).em)]) 181 (0,0))] [x] /\ (MemH mb (cX t b c M).M k x)):=by
 have hp:=hS.pl
 have hn:=hS.nb
 have hr:=hS.room
 refine Sp.run Tryz.func119 rfl (mc hS.blk mn) (A:=[(tb,.lit (Stp.l t mb) 181 (0,0))]) (Ts:=[T]) rfl λ w0=>?_
 refine aa 8 [.own 0] λ _=>RN.em (t.j=0) 13 (λ h1=>?_) λ h1=>?_
 ·refine aa 5 [] λ _=>rC (c) 16 (λ h2=>?_) λ h2=>?_
  ·refine aa 10 [.own 0] λ _=>RN.ct [0] [0] (D3 t t.i b tb mb M (k+2) T _ hM hS.up (bK hE) hC.up) ?_
   rintro _ T3 ⟨C_,rfl⟩
   refine aa 2 [] λ _=>RN.eb (iE t t.i b M) 36 (λ h5=>?_) λ h5=>?_
   ·refine aa 11 [.own 0] λ _=>dR 41 (nt (decide_eq_true h1))<|aa 3 [] λ _=>RN.draw [11] []<|af [] [0,4,1,5,2,6,3,7,8,9,10] [.own 0,.own 0]<|RD.one 11 (RDO.ct [] [] [0] (ak 2 (i64.wrap (t.i+1)) C_) ?_)
    rintro _ T6 Uj
    refine RD.fin<|RN.ret [] [0] [0] (v:=.tuple #[]) (H':=(ap [(tb,.lit ((Stp.lp t mb)++[vI ((cC t t.i b M).e.t),vI ((cC t t.i b M).e.i),vI ((cC t t.i b M).e.k),vI ((cC t t.i b M).e.v),.bool ((cC t t.i b M).em)]) 181 (0,0))] [T6])) ?_
    have e:(cX t b c M)=⟨(((cC t t.i b M).M).set 2 (i64.wrap (t.i+1))),0,⟨(cC t t.i b M).e.t,(cC t t.i b M).e.i,(cC t t.i b M).e.k,(cC t t.i b M).e.v⟩,(cC t t.i b M).em⟩:=by
     first|(simp only[cX,di,if_pos h1,if_pos h2,if_pos h5];try rfl;done)|rfl
    refine⟨T6,by rw[e] <;> rfl,?_⟩
    rw[e]
    exact Uj.weak (by omega)
   ·refine aa 2 [] λ _=>RN.ret [] [0] [0] (v:=.tuple #[]) (H':=(ap [(tb,.lit ((Stp.lp t mb)++[vI ((cC t t.i b M).e.t),vI ((cC t t.i b M).e.i),vI ((cC t t.i b M).e.k),vI ((cC t t.i b M).e.v),.bool ((cC t t.i b M).em)]) 181 (0,0))] [T3])) ?_
    have e:(cX t b c M)=⟨(cC t t.i b M).M,0,⟨(cC t t.i b M).e.t,(cC t t.i b M).e.i,(cC t t.i b M).e.k,(cC t t.i b M).e.v⟩,(cC t t.i b M).em⟩:=by
     first|(simp only[cX,di,if_pos h1,if_pos h2,if_neg h5];try rfl;done)|rfl
    refine⟨T3,by rw[e] <;> rfl,?_⟩
    rw[e]
    exact C_.weak (by omega)
  ·refine aa 1 [] λ _=>RN.draw [11] []<|af [] [0,4,1,5,2,6,3,7,8,9,10] [.own 0,.own 0]<|RD.one 11 (RDO.ct [] [] [0] (ak 2 (i64.wrap (t.i+1)) hM) ?_)
   rintro _ T8 R5
   refine RD.fin<|RN.ret [] [0] [0] (v:=.tuple #[]) (H':=(ap [(tb,.lit (Stp.l t mb) 181 (0,0))] [T8])) ?_
   have e:(cX t b c M)=⟨(M.set 2 (i64.wrap (t.i+1))),0,⟨t.f0,t.f1,t.f2,t.f3⟩,t.emitted⟩:=by
    first|(simp only[cX,di,if_pos h1,if_neg h2];try rfl;done)|rfl
   refine⟨T8,by rw[e] <;> rfl,?_⟩
   rw[e]
   exact R5.weak (by omega)
 ·refine aa 15 [.own 0] λ _=>RN.ct [0] [0] (D3 t t.i b tb mb M (k+2) T _ hM hS.up (bK hE) hC.up) ?_
  rintro _ Sb ⟨PU,rfl⟩
  refine aa 2 [] λ _=>RN.eb (iE t t.i b M) 36 (λ PN=>?_) λ PN=>?_
  ·refine aa 11 [.own 0] λ _=>dR 41 (nf (decide_eq_false h1))<|aa 6 [.own 0] λ _=>RN.ct [] [0] (ak 3 0 PU) ?_
   rintro _ Sl P8
   refine aa 2 [] λ _=>RN.draw [11] []<|af [] [0,4,1,5,2,6,3,7,8,9,10] [.own 0,.own 0]<|RD.one 11 (RDO.ct [] [] [0] (ak 2 (i64.wrap (t.i+1)) P8) ?_)
   rintro _ QQ P7
   refine RD.fin<|RN.ret [] [0] [0] (v:=.tuple #[]) (H':=(ap [(tb,.lit ((Stp.lp t mb)++[vI ((cC t t.i b M).e.t),vI ((cC t t.i b M).e.i),vI ((cC t t.i b M).e.k),vI ((cC t t.i b M).e.v),.bool ((cC t t.i b M).em)]) 181 (0,0))] [QQ])) ?_
   have e:(cX t b c M)=⟨((((cC t t.i b M).M).set 3 0).set 2 (i64.wrap (t.i+1))),0,⟨(cC t t.i b M).e.t,(cC t t.i b M).e.i,(cC t t.i b M).e.k,(cC t t.i b M).e.v⟩,(cC t t.i b M).em⟩:=by
    first|(simp only[cX,di,if_neg h1,if_pos PN];try rfl;done)|rfl
   refine⟨QQ,by rw[e] <;> rfl,?_⟩
   rw[e]
   exact P7.weak (by omega)
  ·refine aa 2 [] λ _=>RN.ret [] [0] [0] (v:=.tuple #[]) (H':=(ap [(tb,.lit ((Stp.lp t mb)++[vI ((cC t t.i b M).e.t),vI ((cC t t.i b M).e.i),vI ((cC t t.i b M).e.k),vI ((cC t t.i b M).e.v),.bool ((cC t t.i b M).em)]) 181 (0,0))] [Sb])) ?_
   have e:(cX t b c M)=⟨(cC t t.i b M).M,0,⟨(cC t t.i b M).e.t,(cC t t.i b M).e.i,(cC t t.i b M).e.k,(cC t t.i b M).e.v⟩,(cC t t.i b M).em⟩:=by
    first|(simp only[cX,di,if_neg h1,if_neg PN];try rfl;done)|rfl
   refine⟨Sb,by rw[e] <;> rfl,?_⟩
   rw[e]
   exact PU.weak (by omega)
theorem M6(t:Stp)  (tb mb:Nat) (M:MemS) (k:Nat) (T F:HL) (hM:MemH mb M (k+9) T) (hS:SetIn F t.S) (hE:fv F) (hC:CodeIn F t.code t.cA t.cn) :Sp Tryz.prog 85 #[vP tb 0] (ap [(tb,.lit (Stp.l t mb) 181 (0,0))] [T]) F (λ u H'=>∃x,H'=ap [(tb,.lit ((Stp.lp t mb)++[vI ((eF t M).e.t),vI ((eF t M).e.i),vI ((eF t M).e.k),vI ((eF t M).e.v),.bool ((eF t M).em)]) 181 (0,0))] [x] /\ (MemH mb (eF t M).M k x)):=by
 have hp:=hS.pl
 have hn:=hS.nb
 have hr:=hS.room
 refine Sp.run Tryz.func85 rfl (mc hS.blk mn) (A:=[(tb,.lit (Stp.l t mb) 181 (0,0))]) (Ts:=[T]) rfl λ w0=>?_
 refine aa 1 [] λ _=>RN.draw [] []<|af [] [0,4,1,5,2,6,3,7] (ow 0 17)<|au [] 8 (λ X_=>(gi t.S t.i _ hS.toSetN)) ?_
 have Ri:=gh hS.toSetN t.i
 refine af [] [9] []<|RD.fin<|aa 8 [] λ _=>RN.em (ah t.S t.i<0) 14 (λ h2=>?_) λ h2=>?_
 ·refine aa 4 [] λ _=>RN.ct [0] [0] (b9 t 2 0 tb mb M (k+6) T _ hM hS.up ) ?_
  rintro _ T3 C_
  refine aa 2 [] λ _=>RN.ret [] [0] [0] (v:=.tuple #[]) (H':=(ap [(tb,.lit (Stp.l t mb) 181 (0,0))] [T3])) ?_
  have e:(eF t M)=⟨(aQ t 2 0 M),0,⟨t.f0,t.f1,t.f2,t.f3⟩,t.emitted⟩:=by
   first|(simp only[eF,VR.z,if_pos h2];try rfl;done)|rfl
  refine⟨T3,by rw[e] <;> rfl,?_⟩
  rw[e]
  exact C_.weak (by omega)
 ·refine aq 11 [.own 0,.nw] [bF ((ah t.S t.i)+2)] λ _=>al (aB ((ah t.S t.i)+2) hM (aS 0))<|aa 8 [] λ _=>RN.ct [0] [0] (HW t (M.get ((ah t.S t.i)+2)) (!(decide (M.get ((ah t.S t.i)+2)=0))) tb mb M (k+1) T _ hM hS.up (bK hE) hC.up) ?_
  rintro _ T5 P5
  refine aa 1 [] λ _=>RN.ret [] [0] [0] (v:=.tuple #[]) (H':=(ap [(tb,.lit ((Stp.lp t mb)++[vI ((cW t (M.get ((ah t.S t.i)+2)) (!(decide (M.get ((ah t.S t.i)+2)=0))) M).e.t),vI ((cW t (M.get ((ah t.S t.i)+2)) (!(decide (M.get ((ah t.S t.i)+2)=0))) M).e.i),vI ((cW t (M.get ((ah t.S t.i)+2)) (!(decide (M.get ((ah t.S t.i)+2)=0))) M).e.k),vI ((cW t (M.get ((ah t.S t.i)+2)) (!(decide (M.get ((ah t.S t.i)+2)=0))) M).e.v),.bool ((cW t (M.get ((ah t.S t.i)+2)) (!(decide (M.get ((ah t.S t.i)+2)=0))) M).em)]) 181 (0,0))] [T5])) ?_
  have e:(eF t M)=⟨(cW t (M.get ((ah t.S t.i)+2)) (!(decide (M.get ((ah t.S t.i)+2)=0))) M).M,0,⟨(cW t (M.get ((ah t.S t.i)+2)) (!(decide (M.get ((ah t.S t.i)+2)=0))) M).e.t,(cW t (M.get ((ah t.S t.i)+2)) (!(decide (M.get ((ah t.S t.i)+2)=0))) M).e.i,(cW t (M.get ((ah t.S t.i)+2)) (!(decide (M.get ((ah t.S t.i)+2)=0))) M).e.k,(cW t (M.get ((ah t.S t.i)+2)) (!(decide (M.get ((ah t.S t.i)+2)=0))) M).e.v⟩,(cW t (M.get ((ah t.S t.i)+2)) (!(decide (M.get ((ah t.S t.i)+2)=0))) M).em⟩:=by
   first|(simp only[eF,VR.z,if_neg h2];try rfl;done)|rfl
  refine⟨T5,by rw[e] <;> rfl,?_⟩
  rw[e]
  exact P5.weak (by omega)
theorem KW(t:Stp)  (tb mb:Nat) (M:MemS) (k:Nat) (T F:HL) (hM:MemH mb M (k+9) T) (hS:SetIn F t.S) (hE:fv F) (hC:CodeIn F t.code t.cA t.cn) :Sp Tryz.prog 86 #[vP tb 0] (ap [(tb,.lit (Stp.l t mb) 181 (0,0))] [T]) F (λ u H'=>∃x,H'=ap [(tb,.lit ((Stp.lp t mb)++[vI ((cS t M).e.t),vI ((cS t M).e.i),vI ((cS t M).e.k),vI ((cS t M).e.v),.bool ((cS t M).em)]) 181 (0,0))] [x] /\ (MemH mb (cS t M).M k x)):=by
 have hp:=hS.pl
 have hn:=hS.nb
 have hr:=hS.room
 refine Sp.run Tryz.func86 rfl (mc hS.blk mn) (A:=[(tb,.lit (Stp.l t mb) 181 (0,0))]) (Ts:=[T]) rfl λ w0=>?_
 refine aa 3 [] λ _=>RN.ct [0] [0] (KV t 0 0 tb mb M (k+3) T _ hM hS.up (bK hE) hC.up) ?_
 rintro _ T1 ⟨Tw,rfl⟩
 refine aa 2 [] λ _=>RN.eb (i5 t 0 0 M) 3 (λ h3=>?_) λ h3=>?_
 ·refine aa 3 [] λ _=>RN.ct [0] [0] (b9 (t.upd (dm t 0 0 M)) 3 0 tb mb ((dm t 0 0 M).M) k T1 _ Tw hS.up ) ?_
  rintro _ T4 QW
  refine aa 1 [] λ _=>RN.ret [] [0] [0] (v:=.tuple #[]) (H':=(ap [(tb,.lit ((Stp.lp t mb)++[vI ((dm t 0 0 M).e.t),vI ((dm t 0 0 M).e.i),vI ((dm t 0 0 M).e.k),vI ((dm t 0 0 M).e.v),.bool ((dm t 0 0 M).em)]) 181 (0,0))] [T4])) ?_
  have e:(cS t M)=⟨(aQ (t.upd (dm t 0 0 M)) 3 0 ((dm t 0 0 M).M)),0,⟨(dm t 0 0 M).e.t,(dm t 0 0 M).e.i,(dm t 0 0 M).e.k,(dm t 0 0 M).e.v⟩,(dm t 0 0 M).em⟩:=by
   first|(simp only[cS,VR.z,if_pos h3];try rfl;done)|rfl
  refine⟨T4,by rw[e] <;> rfl,?_⟩
  rw[e]
  exact QW.weak (by omega)
 ·refine aa 2 [] λ _=>RN.ret [] [0] [0] (v:=.tuple #[]) (H':=(ap [(tb,.lit ((Stp.lp t mb)++[vI ((dm t 0 0 M).e.t),vI ((dm t 0 0 M).e.i),vI ((dm t 0 0 M).e.k),vI ((dm t 0 0 M).e.v),.bool ((dm t 0 0 M).em)]) 181 (0,0))] [T1])) ?_
  have e:(cS t M)=⟨(dm t 0 0 M).M,0,⟨(dm t 0 0 M).e.t,(dm t 0 0 M).e.i,(dm t 0 0 M).e.k,(dm t 0 0 M).e.v⟩,(dm t 0 0 M).em⟩:=by
   first|(simp only[cS,VR.z,if_neg h3];try rfl;done)|rfl
  refine⟨T1,by rw[e] <;> rfl,?_⟩
  rw[e]
  exact Tw.weak (by omega)
theorem M7(t:Stp)  (tb mb:Nat) (M:MemS) (k:Nat) (T F:HL) (hM:MemH mb M (k+9) T) (hS:SetIn F t.S) (hE:fv F) (hC:CodeIn F t.code t.cA t.cn) :Sp Tryz.prog 90 #[vP tb 0] (ap [(tb,.lit (Stp.l t mb) 181 (0,0))] [T]) F (λ u H'=>∃x,H'=ap [(tb,.lit ((Stp.lp t mb)++[vI ((eG t M).e.t),vI ((eG t M).e.i),vI ((eG t M).e.k),vI ((eG t M).e.v),.bool ((eG t M).em)]) 181 (0,0))] [x] /\ (MemH mb (eG t M).M k x)):=by
 have hp:=hS.pl
 have hn:=hS.nb
 have hr:=hS.room
 refine Sp.run Tryz.func90 rfl (mc hS.blk mn) (A:=[(tb,.lit (Stp.l t mb) 181 (0,0))]) (Ts:=[T]) rfl λ w0=>?_
 refine aa 1 [] λ _=>RN.draw [] []<|af [] [0,4,1,5,2,6,3,7] (ow 0 17)<|au [] 8 (λ X_=>(cy t.S t.i _ hS.toSetN)) ?_
 have Ri:=cw hS.toSetN t.i
 refine af [] [9] []<|RD.fin<|aa 8 [] λ _=>RN.em (ae t.S t.i<0) 14 (λ h2=>?_) λ h2=>?_
 ·refine aa 4 [] λ _=>RN.ct [0] [0] (b9 t 7 0 tb mb M (k+6) T _ hM hS.up ) ?_
  rintro _ T3 C_
  refine aa 2 [] λ _=>RN.ret [] [0] [0] (v:=.tuple #[]) (H':=(ap [(tb,.lit (Stp.l t mb) 181 (0,0))] [T3])) ?_
  have e:(eG t M)=⟨(aQ t 7 0 M),0,⟨t.f0,t.f1,t.f2,t.f3⟩,t.emitted⟩:=by
   first|(simp only[eG,VR.z,if_pos h2];try rfl;done)|rfl
  refine⟨T3,by rw[e] <;> rfl,?_⟩
  rw[e]
  exact C_.weak (by omega)
 ·refine aq 11 [.own 0,.nw] [bF ((ae t.S t.i)+6)] λ _=>al (aB ((ae t.S t.i)+6) hM (aS 0))<|aa 9 [] λ _=>RN.ct [0] [0] (HX t (i64.wrap ((M.get ((ae t.S t.i)+6))-1)) (!(decide (M.get ((ae t.S t.i)+6)=0))) tb mb M (k+1) T _ hM hS.up (bK hE) hC.up) ?_
  rintro _ T5 P5
  refine aa 1 [] λ _=>RN.ret [] [0] [0] (v:=.tuple #[]) (H':=(ap [(tb,.lit ((Stp.lp t mb)++[vI ((cX t (i64.wrap ((M.get ((ae t.S t.i)+6))-1)) (!(decide (M.get ((ae t.S t.i)+6)=0))) M).e.t),vI ((cX t (i64.wrap ((M.get ((ae t.S t.i)+6))-1)) (!(decide (M.get ((ae t.S t.i)+6)=0))) M).e.i),vI ((cX t (i64.wrap ((M.get ((ae t.S t.i)+6))-1)) (!(decide (M.get ((ae t.S t.i)+6)=0))) M).e.k),vI ((cX t (i64.wrap ((M.get ((ae t.S t.i)+6))-1)) (!(decide (M.get ((ae t.S t.i)+6)=0))) M).e.v),.bool ((cX t (i64.wrap ((M.get ((ae t.S t.i)+6))-1)) (!(decide (M.get ((ae t.S t.i)+6)=0))) M).em)]) 181 (0,0))] [T5])) ?_
  have e:(eG t M)=⟨(cX t (i64.wrap ((M.get ((ae t.S t.i)+6))-1)) (!(decide (M.get ((ae t.S t.i)+6)=0))) M).M,0,⟨(cX t (i64.wrap ((M.get ((ae t.S t.i)+6))-1)) (!(decide (M.get ((ae t.S t.i)+6)=0))) M).e.t,(cX t (i64.wrap ((M.get ((ae t.S t.i)+6))-1)) (!(decide (M.get ((ae t.S t.i)+6)=0))) M).e.i,(cX t (i64.wrap ((M.get ((ae t.S t.i)+6))-1)) (!(decide (M.get ((ae t.S t.i)+6)=0))) M).e.k,(cX t (i64.wrap ((M.get ((ae t.S t.i)+6))-1)) (!(decide (M.get ((ae t.S t.i)+6)=0))) M).e.v⟩,(cX t (i64.wrap ((M.get ((ae t.S t.i)+6))-1)) (!(decide (M.get ((ae t.S t.i)+6)=0))) M).em⟩:=by
   first|(simp only[eG,VR.z,if_neg h2];try rfl;done)|rfl
  refine⟨T5,by rw[e] <;> rfl,?_⟩
  rw[e]
  exact P5.weak (by omega)
end Go.Proofs.YthoijjeddhfcnaaGreatDoor
