import Derived.Test.YtghjbimijeinfaaGreatDoorV09
set_option maxHeartbeats 4000000
set_option maxRecDepth 100000
set_option linter.all false
namespace Go.Proofs.YtghjbimijeinfaaGreatDoor
open IntKind
open Go.RowKit
def VR.z(r:VR):VR:=⟨r.M,0,r.e,r.em⟩
abbrev Stp.f(t:Stp):Eff:=⟨t.f0,t.f1,t.f2,t.f3⟩
def Stp.upd(t:Stp)(r:VR):Stp:={ t with f0:=r.e.t,f1:=r.e.i,f2:=r.e.k,f3:=r.e.v,emitted:=r.em }
def eO(e:Int)(t:Stp)(self other:Int)(M:MemS):VR:=if t.j=0 then (if e<0 then ⟨aN e t.S.fuel self other M,0,t.f,t.emitted⟩ else ⟨(aN e t.S.fuel self other M).set 3 1,0,t.f,t.emitted⟩) else ⟨(ak t.S t.code t.cn M).M,0,(ak t.S t.code t.cn M).e,(ak t.S t.code t.cn M).em⟩
def db(e:Int)(t:Stp)(self other:Int)(M:MemS):Bool:=if t.j=0 then decide (e<0) else bn t.code t.cn M
abbrev cj(t:Stp)(a b:Int)(M:MemS):VR:=eO t.e0 t a b M
abbrev dh(t:Stp)(a b:Int)(M:MemS):VR:=eO t.e1 t a b M
abbrev cm(t:Stp)(a b:Int)(M:MemS):VR:=eO t.e2 t a b M
abbrev jv(t:Stp)(a b:Int)(M:MemS):Bool:=db t.e0 t a b M
abbrev jV(t:Stp)(a b:Int)(M:MemS):Bool:=db t.e1 t a b M
abbrev jx(t:Stp)(a b:Int)(M:MemS):Bool:=db t.e2 t a b M
def dq(r:VR)(over:Bool)(t:Stp)(Tb:Bool)(M:MemS):VR:=if t.j=0 then (if Tb=true then (if over=true then ⟨r.M.set 2 (aV (t.i+1)),0,r.e,r.em⟩ else ⟨r.M,0,r.e,r.em⟩) else ⟨M.set 2 (aV (t.i+1)),0,t.f,t.emitted⟩) else (if over=true then ⟨(r.M.set 3 0).set 2 (aV (t.i+1)),0,r.e,r.em⟩ else ⟨r.M,0,r.e,r.em⟩)
abbrev cP(t:Stp)(b:Int)(c:Bool)(M:MemS):VR:=dq (cj t t.i b M) (jv t t.i b M) t c M
abbrev cQ(t:Stp)(b:Int)(c:Bool)(M:MemS):VR:=dq (cm t t.i b M) (jx t t.i b M) t c M
def ff(t:Stp)(M:MemS):VR:=if ah t.S t.i<0 then ⟨aO t 2 0 M,0,t.f,t.emitted⟩ else (cP t (M.get (ah t.S t.i+2)) (!decide (M.get (ah t.S t.i+2)=0)) M).z
def cS(t:Stp)(M:MemS):VR:=if jV t 0 0 M=true then ⟨aO t 3 0 (dh t 0 0 M).M,0,(dh t 0 0 M).e,(dh t 0 0 M).em⟩ else ⟨(dh t 0 0 M).M,0,(dh t 0 0 M).e,(dh t 0 0 M).em⟩
def fg(t:Stp)(M:MemS):VR:=if af t.S t.i<0 then ⟨aO t 7 0 M,0,t.f,t.emitted⟩ else (cQ t (aV (M.get (af t.S t.i+6)-1)) (!decide (M.get (af t.S t.i+6)=0)) M).z
theorem Hc(t:Stp)(a:Int)(b:Int)(tb mb:Nat)(M:MemS)(k:Nat)(T F:HL)(hM:MemH mb M (k+6) T)(hS:SetIn F t.S)(hE:dp F)(hC:CodeIn F t.code t.cA t.cn) :Sp Tryz.prog 87 #[vP tb 0,vI 0,vI a,vI b] (ap [(tb,.lit (Stp.l t mb) 140 (0,0))] [T]) F (λ u H'=>∃x,H'=ap [(tb,.lit ((Stp.lp t mb)++(aaa (cj t a b M).e++[.bool ((cj t a b M).em)])) 140 (0,0))] [x] /\ (MemH mb (cj t a b M).M k x /\ u=.bool (jv t a b M))):=by
 have hp:=hS.pl;have hn:=hS.nb;have hr:=hS.room;refine aas Tryz.func87 rfl (mc hS.blk mn) (A:=[(tb,.lit (Stp.l t mb) 140 (0,0))]) (Ts:=[T]) rfl λ w0=>?_;refine ae 15 [.own 0] λ _=>aal (t.j=0) 16 (λ h1=>?_) λ h1=>?_
 ·refine ae 3 [] λ _=>aak [16] []<|ag [] [0,4,8,9,10,11,1,5,12,2,6,13,3,7,14,15] (ow 0 6)<|aae 16 (aaf [] [] [0] (G4 mb M (k+1) T t.cA t.cn t.cc t.e0 t.e1 t.e2 a b t.S.fuel _ hM) ?_);rintro _ T2 ⟨Us,rfl⟩;refine ag [] [17] []<|aad<|ae 1 [] λ _=>?_;rcases Decidable.em (t.e0<0) with h4|h4
  ·refine cD 34 (nf (nt (abA h4)))<|ae 6 [] λ _=>aap [] [0] [0] (v:=.bool true) (H':=(ap [(tb,.lit (Stp.l t mb) 140 (0,0))] [T2])) ?_;have e:(cj t a b M)=⟨(aN t.e0 t.S.fuel a b M),0,⟨t.f0,t.f1,t.f2,t.f3⟩,t.emitted⟩:=by
    first|(simp only[cj,eO,if_pos h1,if_pos h4];try rfl;done)|rfl
   have er:(jv t a b M)=true:=by
    first|(simp only[jv,db,if_pos h1,if_pos h4];done)|(simp only[jv,db,if_pos h1,if_pos h4];simp[*];done)|(simp only[jv,db,if_pos h1,if_pos h4];rfl)
   refine⟨T2,by rw[e] <;> rfl,?_,by rw[er]⟩;rw[e];exact Us.weak (by omega)
  ·refine cD 34 (nt (nf (abz h4)))<|ae 9 [.own 0] λ _=>aai [] [0] (aj 3 1 Us) ?_;rintro _ T5 TU;refine ae 7 [] λ _=>aap [] [0] [0] (v:=.bool false) (H':=(ap [(tb,.lit (Stp.l t mb) 140 (0,0))] [T5])) ?_;have e:(cj t a b M)=⟨((aN t.e0 t.S.fuel a b M).set 3 1),0,⟨t.f0,t.f1,t.f2,t.f3⟩,t.emitted⟩:=by
    first|(simp only[cj,eO,if_pos h1,if_neg h4];try rfl;done)|rfl
   have er:(jv t a b M)=false:=by
    first|(simp only[jv,db,if_pos h1,if_neg h4];done)|(simp only[jv,db,if_pos h1,if_neg h4];simp[*];done)|(simp only[jv,db,if_pos h1,if_neg h4];rfl)
   refine⟨T5,by rw[e] <;> rfl,?_,by rw[er]⟩;rw[e];exact TU.weak (by omega)
 ·refine ae 4 [] λ _=>aak [12,19] []<|ag [] [0,4,8,1,5,9,2,6,10,3,7,11] (ow 0 21)<|fe 12 17 ?_ ?_
  ·refine aaf [] [] [0] (iQ mb M k T t.S t.code t.cA t.cn t.cc t.e0 t.e1 t.e2 _ hM hS.toSetN (aq hE) hC.up) ?_;rintro _ T7 ⟨UU,rfl⟩;refine ag [] [13,14,15,16] []<|aae 17 (aag [] [] λ n9=>?_);refine ag [] [18] []<|aae 19 (aag [] (aab 4) λ _=>?_);refine ag [] [20] []<|aad<|ae 21 ((aab 4)++ow 1 5) λ _=>aap [] [1] [0] (v:=.bool (bn t.code t.cn M)) (H':=(ap [(tb,.lit ((Stp.lp t mb)++(aaa (ak t.S t.code t.cn M).e++[.bool ((ak t.S t.code t.cn M).em)])) 140 (0,0))] [T7])) ?_;have e:(cj t a b M)=⟨(ak t.S t.code t.cn M).M,0,⟨(ak t.S t.code t.cn M).e.t,(ak t.S t.code t.cn M).e.i,(ak t.S t.code t.cn M).e.k,(ak t.S t.code t.cn M).e.v⟩,(ak t.S t.code t.cn M).em⟩:=by
    first|(simp only[cj,eO,if_neg h1];try rfl;done)|rfl
   have er:(jv t a b M)=bn t.code t.cn M:=by
    first|(simp only[jv,db,if_neg h1];done)|(simp only[jv,db,if_neg h1];simp[*];done)|(simp only[jv,db,if_neg h1];rfl)
   refine⟨T7,by rw[e] <;> rfl,?_,by rw[er]⟩;rw[e];exact UU.weak (by omega)
  ·refine aag [] [] λ UF=>aae 12 (aaf [] [] [0] (iQ mb M k T t.S t.code t.cA t.cn t.cc t.e0 t.e1 t.e2 _ hM hS.toSetN (aq hE) hC.up) ?_);rintro _ SX ⟨No,rfl⟩;refine ag [] [13,14,15,16,18] []<|aae 19 (aag [] (aab 4) λ _=>?_);refine ag [] [20] []<|aad<|ae 21 ((aab 4)++ow 1 5) λ _=>aap [] [1] [0] (v:=.bool (bn t.code t.cn M)) (H':=(ap [(tb,.lit ((Stp.lp t mb)++(aaa (ak t.S t.code t.cn M).e++[.bool ((ak t.S t.code t.cn M).em)])) 140 (0,0))] [SX])) ?_;have e:(cj t a b M)=⟨(ak t.S t.code t.cn M).M,0,⟨(ak t.S t.code t.cn M).e.t,(ak t.S t.code t.cn M).e.i,(ak t.S t.code t.cn M).e.k,(ak t.S t.code t.cn M).e.v⟩,(ak t.S t.code t.cn M).em⟩:=by
    first|(simp only[cj,eO,if_neg h1];try rfl;done)|rfl
   have er:(jv t a b M)=bn t.code t.cn M:=by
    first|(simp only[jv,db,if_neg h1];done)|(simp only[jv,db,if_neg h1];simp[*];done)|(simp only[jv,db,if_neg h1];rfl)
   refine⟨SX,by rw[e] <;> rfl,?_,by rw[er]⟩;rw[e];exact No.weak (by omega)
theorem Oo(t:Stp)(a:Int)(b:Int)(tb mb:Nat)(M:MemS)(k:Nat)(T F:HL)(hM:MemH mb M (k+6) T)(hS:SetIn F t.S)(hE:dp F)(hC:CodeIn F t.code t.cA t.cn) :Sp Tryz.prog 87 #[vP tb 0,vI 1,vI a,vI b] (ap [(tb,.lit (Stp.l t mb) 140 (0,0))] [T]) F (λ u H'=>∃x,H'=ap [(tb,.lit ((Stp.lp t mb)++(aaa (dh t a b M).e++[.bool ((dh t a b M).em)])) 140 (0,0))] [x] /\ (MemH mb (dh t a b M).M k x /\ u=.bool (jV t a b M))):=by
 have hp:=hS.pl;have hn:=hS.nb;have hr:=hS.room;refine aas Tryz.func87 rfl (mc hS.blk mn) (A:=[(tb,.lit (Stp.l t mb) 140 (0,0))]) (Ts:=[T]) rfl λ w0=>?_;refine ae 15 [.own 0] λ _=>aal (t.j=0) 16 (λ h1=>?_) λ h1=>?_
 ·refine ae 3 [] λ _=>aak [16] []<|ag [] [0,4,8,9,10,11,1,5,12,2,6,13,3,7,14,15] (ow 0 6)<|aae 16 (aaf [] [] [0] (G5 mb M (k+1) T t.cA t.cn t.cc t.e0 t.e1 t.e2 a b t.S.fuel _ hM) ?_);rintro _ T2 ⟨Us,rfl⟩;refine ag [] [17] []<|aad<|ae 1 [] λ _=>?_;rcases Decidable.em (t.e1<0) with h4|h4
  ·refine cD 34 (nf (nt (abA h4)))<|ae 6 [] λ _=>aap [] [0] [0] (v:=.bool true) (H':=(ap [(tb,.lit (Stp.l t mb) 140 (0,0))] [T2])) ?_;have e:(dh t a b M)=⟨(aN t.e1 t.S.fuel a b M),0,⟨t.f0,t.f1,t.f2,t.f3⟩,t.emitted⟩:=by
    first|(simp only[dh,eO,if_pos h1,if_pos h4];try rfl;done)|rfl
   have er:(jV t a b M)=true:=by
    first|(simp only[jV,db,if_pos h1,if_pos h4];done)|(simp only[jV,db,if_pos h1,if_pos h4];simp[*];done)|(simp only[jV,db,if_pos h1,if_pos h4];rfl)
   refine⟨T2,by rw[e] <;> rfl,?_,by rw[er]⟩;rw[e];exact Us.weak (by omega)
  ·refine cD 34 (nt (nf (abz h4)))<|ae 9 [.own 0] λ _=>aai [] [0] (aj 3 1 Us) ?_;rintro _ T5 TU;refine ae 7 [] λ _=>aap [] [0] [0] (v:=.bool false) (H':=(ap [(tb,.lit (Stp.l t mb) 140 (0,0))] [T5])) ?_;have e:(dh t a b M)=⟨((aN t.e1 t.S.fuel a b M).set 3 1),0,⟨t.f0,t.f1,t.f2,t.f3⟩,t.emitted⟩:=by
    first|(simp only[dh,eO,if_pos h1,if_neg h4];try rfl;done)|rfl
   have er:(jV t a b M)=false:=by
    first|(simp only[jV,db,if_pos h1,if_neg h4];done)|(simp only[jV,db,if_pos h1,if_neg h4];simp[*];done)|(simp only[jV,db,if_pos h1,if_neg h4];rfl)
   refine⟨T5,by rw[e] <;> rfl,?_,by rw[er]⟩;rw[e];exact TU.weak (by omega)
 ·refine ae 4 [] λ _=>aak [12,19] []<|ag [] [0,4,8,1,5,9,2,6,10,3,7,11] (ow 0 21)<|fe 12 17 ?_ ?_
  ·refine aaf [] [] [0] (iQ mb M k T t.S t.code t.cA t.cn t.cc t.e0 t.e1 t.e2 _ hM hS.toSetN (aq hE) hC.up) ?_;rintro _ T7 ⟨UU,rfl⟩;refine ag [] [13,14,15,16] []<|aae 17 (aag [] [] λ n9=>?_);refine ag [] [18] []<|aae 19 (aag [] (aab 4) λ _=>?_);refine ag [] [20] []<|aad<|ae 21 ((aab 4)++ow 1 5) λ _=>aap [] [1] [0] (v:=.bool (bn t.code t.cn M)) (H':=(ap [(tb,.lit ((Stp.lp t mb)++(aaa (ak t.S t.code t.cn M).e++[.bool ((ak t.S t.code t.cn M).em)])) 140 (0,0))] [T7])) ?_;have e:(dh t a b M)=⟨(ak t.S t.code t.cn M).M,0,⟨(ak t.S t.code t.cn M).e.t,(ak t.S t.code t.cn M).e.i,(ak t.S t.code t.cn M).e.k,(ak t.S t.code t.cn M).e.v⟩,(ak t.S t.code t.cn M).em⟩:=by
    first|(simp only[dh,eO,if_neg h1];try rfl;done)|rfl
   have er:(jV t a b M)=bn t.code t.cn M:=by
    first|(simp only[jV,db,if_neg h1];done)|(simp only[jV,db,if_neg h1];simp[*];done)|(simp only[jV,db,if_neg h1];rfl)
   refine⟨T7,by rw[e] <;> rfl,?_,by rw[er]⟩;rw[e];exact UU.weak (by omega)
  ·refine aag [] [] λ UF=>aae 12 (aaf [] [] [0] (iQ mb M k T t.S t.code t.cA t.cn t.cc t.e0 t.e1 t.e2 _ hM hS.toSetN (aq hE) hC.up) ?_);rintro _ SX ⟨No,rfl⟩;refine ag [] [13,14,15,16,18] []<|aae 19 (aag [] (aab 4) λ _=>?_);refine ag [] [20] []<|aad<|ae 21 ((aab 4)++ow 1 5) λ _=>aap [] [1] [0] (v:=.bool (bn t.code t.cn M)) (H':=(ap [(tb,.lit ((Stp.lp t mb)++(aaa (ak t.S t.code t.cn M).e++[.bool ((ak t.S t.code t.cn M).em)])) 140 (0,0))] [SX])) ?_;have e:(dh t a b M)=⟨(ak t.S t.code t.cn M).M,0,⟨(ak t.S t.code t.cn M).e.t,(ak t.S t.code t.cn M).e.i,(ak t.S t.code t.cn M).e.k,(ak t.S t.code t.cn M).e.v⟩,(ak t.S t.code t.cn M).em⟩:=by
    first|(simp only[dh,eO,if_neg h1];try rfl;done)|rfl
   have er:(jV t a b M)=bn t.code t.cn M:=by
    first|(simp only[jV,db,if_neg h1];done)|(simp only[jV,db,if_neg h1];simp[*];done)|(simp only[jV,db,if_neg h1];rfl)
   refine⟨SX,by rw[e] <;> rfl,?_,by rw[er]⟩;rw[e];exact No.weak (by omega)
theorem He(t:Stp)(a:Int)(b:Int)(tb mb:Nat)(M:MemS)(k:Nat)(T F:HL)(hM:MemH mb M (k+6) T)(hS:SetIn F t.S)(hE:dp F)(hC:CodeIn F t.code t.cA t.cn) :Sp Tryz.prog 87 #[vP tb 0,vI 2,vI a,vI b] (ap [(tb,.lit (Stp.l t mb) 140 (0,0))] [T]) F (λ u H'=>∃x,H'=ap [(tb,.lit ((Stp.lp t mb)++(aaa (cm t a b M).e++[.bool ((cm t a b M).em)])) 140 (0,0))] [x] /\ (MemH mb (cm t a b M).M k x /\ u=.bool (jx t a b M))):=by
 have hp:=hS.pl;have hn:=hS.nb;have hr:=hS.room;refine aas Tryz.func87 rfl (mc hS.blk mn) (A:=[(tb,.lit (Stp.l t mb) 140 (0,0))]) (Ts:=[T]) rfl λ w0=>?_;refine ae 15 [.own 0] λ _=>aal (t.j=0) 16 (λ h1=>?_) λ h1=>?_
 ·refine ae 3 [] λ _=>aak [16] []<|ag [] [0,4,8,9,10,11,1,5,12,2,6,13,3,7,14,15] (ow 0 6)<|aae 16 (aaf [] [] [0] (G8 mb M (k+1) T t.cA t.cn t.cc t.e0 t.e1 t.e2 a b t.S.fuel _ hM) ?_);rintro _ T2 ⟨Us,rfl⟩;refine ag [] [17] []<|aad<|ae 1 [] λ _=>?_;rcases Decidable.em (t.e2<0) with h4|h4
  ·refine cD 34 (nf (nt (abA h4)))<|ae 6 [] λ _=>aap [] [0] [0] (v:=.bool true) (H':=(ap [(tb,.lit (Stp.l t mb) 140 (0,0))] [T2])) ?_;have e:(cm t a b M)=⟨(aN t.e2 t.S.fuel a b M),0,⟨t.f0,t.f1,t.f2,t.f3⟩,t.emitted⟩:=by
    first|(simp only[cm,eO,if_pos h1,if_pos h4];try rfl;done)|rfl
   have er:(jx t a b M)=true:=by
    first|(simp only[jx,db,if_pos h1,if_pos h4];done)|(simp only[jx,db,if_pos h1,if_pos h4];simp[*];done)|(simp only[jx,db,if_pos h1,if_pos h4];rfl)
   refine⟨T2,by rw[e] <;> rfl,?_,by rw[er]⟩;rw[e];exact Us.weak (by omega)
  ·refine cD 34 (nt (nf (abz h4)))<|ae 9 [.own 0] λ _=>aai [] [0] (aj 3 1 Us) ?_;rintro _ T5 TU;refine ae 7 [] λ _=>aap [] [0] [0] (v:=.bool false) (H':=(ap [(tb,.lit (Stp.l t mb) 140 (0,0))] [T5])) ?_;have e:(cm t a b M)=⟨((aN t.e2 t.S.fuel a b M).set 3 1),0,⟨t.f0,t.f1,t.f2,t.f3⟩,t.emitted⟩:=by
    first|(simp only[cm,eO,if_pos h1,if_neg h4];try rfl;done)|rfl
   have er:(jx t a b M)=false:=by
    first|(simp only[jx,db,if_pos h1,if_neg h4];done)|(simp only[jx,db,if_pos h1,if_neg h4];simp[*];done)|(simp only[jx,db,if_pos h1,if_neg h4];rfl)
   refine⟨T5,by rw[e] <;> rfl,?_,by rw[er]⟩;rw[e];exact TU.weak (by omega)
 ·refine ae 4 [] λ _=>aak [12,19] []<|ag [] [0,4,8,1,5,9,2,6,10,3,7,11] (ow 0 21)<|fe 12 17 ?_ ?_
  ·refine aaf [] [] [0] (iQ mb M k T t.S t.code t.cA t.cn t.cc t.e0 t.e1 t.e2 _ hM hS.toSetN (aq hE) hC.up) ?_;rintro _ T7 ⟨UU,rfl⟩;refine ag [] [13,14,15,16] []<|aae 17 (aag [] [] λ n9=>?_);refine ag [] [18] []<|aae 19 (aag [] (aab 4) λ _=>?_);refine ag [] [20] []<|aad<|ae 21 ((aab 4)++ow 1 5) λ _=>aap [] [1] [0] (v:=.bool (bn t.code t.cn M)) (H':=(ap [(tb,.lit ((Stp.lp t mb)++(aaa (ak t.S t.code t.cn M).e++[.bool ((ak t.S t.code t.cn M).em)])) 140 (0,0))] [T7])) ?_;have e:(cm t a b M)=⟨(ak t.S t.code t.cn M).M,0,⟨(ak t.S t.code t.cn M).e.t,(ak t.S t.code t.cn M).e.i,(ak t.S t.code t.cn M).e.k,(ak t.S t.code t.cn M).e.v⟩,(ak t.S t.code t.cn M).em⟩:=by
    first|(simp only[cm,eO,if_neg h1];try rfl;done)|rfl
   have er:(jx t a b M)=bn t.code t.cn M:=by
    first|(simp only[jx,db,if_neg h1];done)|(simp only[jx,db,if_neg h1];simp[*];done)|(simp only[jx,db,if_neg h1];rfl)
   refine⟨T7,by rw[e] <;> rfl,?_,by rw[er]⟩;rw[e];exact UU.weak (by omega)
  ·refine aag [] [] λ UF=>aae 12 (aaf [] [] [0] (iQ mb M k T t.S t.code t.cA t.cn t.cc t.e0 t.e1 t.e2 _ hM hS.toSetN (aq hE) hC.up) ?_);rintro _ SX ⟨No,rfl⟩;refine ag [] [13,14,15,16,18] []<|aae 19 (aag [] (aab 4) λ _=>?_);refine ag [] [20] []<|aad<|ae 21 ((aab 4)++ow 1 5) λ _=>aap [] [1] [0] (v:=.bool (bn t.code t.cn M)) (H':=(ap [(tb,.lit ((Stp.lp t mb)++(aaa (ak t.S t.code t.cn M).e++[.bool ((ak t.S t.code t.cn M).em)])) 140 (0,0))] [SX])) ?_;have e:(cm t a b M)=⟨(ak t.S t.code t.cn M).M,0,⟨(ak t.S t.code t.cn M).e.t,(ak t.S t.code t.cn M).e.i,(ak t.S t.code t.cn M).e.k,(ak t.S t.code t.cn M).e.v⟩,(ak t.S t.code t.cn M).em⟩:=by
    first|(simp only[cm,eO,if_neg h1];try rfl;done)|rfl
   have er:(jx t a b M)=bn t.code t.cn M:=by
    first|(simp only[jx,db,if_neg h1];done)|(simp only[jx,db,if_neg h1];simp[*];done)|(simp only[jx,db,if_neg h1];rfl)
   refine⟨SX,by rw[e] <;> rfl,?_,by rw[er]⟩;rw[e];exact No.weak (by omega)
theorem K5(t:Stp)(b:Int)(c:Bool)(tb mb:Nat)(M:MemS)(k:Nat)(T F:HL)(hM:MemH mb M (k+8) T)(hS:SetIn F t.S)(hE:dp F)(hC:CodeIn F t.code t.cA t.cn) :Sp Tryz.prog 86 #[vP tb 0,vI 0,vI b,.bool c] (ap [(tb,.lit (Stp.l t mb) 140 (0,0))] [T]) F (λ u H'=>∃x,H'=ap [(tb,.lit ((Stp.lp t mb)++(aaa (cP t b c M).e++[.bool ((cP t b c M).em)])) 140 (0,0))] [x] /\ (MemH mb (cP t b c M).M k x)):=by
 have hp:=hS.pl;have hn:=hS.nb;have hr:=hS.room;refine aas Tryz.func86 rfl (mc hS.blk mn) (A:=[(tb,.lit (Stp.l t mb) 140 (0,0))]) (Ts:=[T]) rfl λ w0=>?_;refine ae 8 [.own 0] λ _=>aal (t.j=0) 13 (λ h1=>?_) λ h1=>?_
 ·refine ae 5 [] λ _=>xO (c) 16 (λ h2=>?_) λ h2=>?_
  ·refine ae 10 [.own 0] λ _=>aai [0] [0] (Hc t t.i b tb mb M (k+2) T _ hM hS.up (aq hE) hC.up) ?_;rintro _ T3 ⟨H_,rfl⟩;refine ae 2 [] λ _=>iw (jv t t.i b M) 36 (λ h5=>?_) λ h5=>?_
   ·refine ae 11 [.own 0] λ _=>cD 41 (nt (abA h1))<|ae 3 [] λ _=>aak [11] []<|ag [] [0,4,1,5,2,6,3,7,8,9,10] (aab 2)<|aae 11 (aaf [] [] [0] (aj 2 (i64.wrap (t.i+1)) H_) ?_);rintro _ T6 YG;refine aad<|aap [] [0] [0] (v:=.tuple #[]) (H':=(ap [(tb,.lit ((Stp.lp t mb)++(aaa (cj t t.i b M).e++[.bool ((cj t t.i b M).em)])) 140 (0,0))] [T6])) ?_;have e:(cP t b c M)=⟨(((cj t t.i b M).M).set 2 (i64.wrap (t.i+1))),0,⟨(cj t t.i b M).e.t,(cj t t.i b M).e.i,(cj t t.i b M).e.k,(cj t t.i b M).e.v⟩,(cj t t.i b M).em⟩:=by
     first|(simp only[cP,dq,if_pos h1,if_pos h2,if_pos h5];try rfl;done)|rfl
    refine⟨T6,by rw[e] <;> rfl,?_⟩;rw[e];exact YG.weak (by omega)
   ·refine ae 2 [] λ _=>aap [] [0] [0] (v:=.tuple #[]) (H':=(ap [(tb,.lit ((Stp.lp t mb)++(aaa (cj t t.i b M).e++[.bool ((cj t t.i b M).em)])) 140 (0,0))] [T3])) ?_;have e:(cP t b c M)=⟨(cj t t.i b M).M,0,⟨(cj t t.i b M).e.t,(cj t t.i b M).e.i,(cj t t.i b M).e.k,(cj t t.i b M).e.v⟩,(cj t t.i b M).em⟩:=by
     first|(simp only[cP,dq,if_pos h1,if_pos h2,if_neg h5];try rfl;done)|rfl
    refine⟨T3,by rw[e] <;> rfl,?_⟩;rw[e];exact H_.weak (by omega)
  ·refine ae 1 [] λ _=>aak [11] []<|ag [] [0,4,1,5,2,6,3,7,8,9,10] (aab 2)<|aae 11 (aaf [] [] [0] (aj 2 (i64.wrap (t.i+1)) hM) ?_);rintro _ T8 Wg;refine aad<|aap [] [0] [0] (v:=.tuple #[]) (H':=(ap [(tb,.lit (Stp.l t mb) 140 (0,0))] [T8])) ?_;have e:(cP t b c M)=⟨(M.set 2 (i64.wrap (t.i+1))),0,⟨t.f0,t.f1,t.f2,t.f3⟩,t.emitted⟩:=by
    first|(simp only[cP,dq,if_pos h1,if_neg h2];try rfl;done)|rfl
   refine⟨T8,by rw[e] <;> rfl,?_⟩;rw[e];exact Wg.weak (by omega)
 ·refine ae 15 [.own 0] λ _=>aai [0] [0] (Hc t t.i b tb mb M (k+2) T _ hM hS.up (aq hE) hC.up) ?_;rintro _ Wq ⟨TE,rfl⟩;refine ae 2 [] λ _=>iw (jv t t.i b M) 36 (λ TH=>?_) λ TH=>?_
  ·refine ae 11 [.own 0] λ _=>cD 41 (nf (abz h1))<|ae 6 [.own 0] λ _=>aai [] [0] (aj 3 0 TE) ?_;rintro _ XU Uw;refine ae 2 [] λ _=>aak [11] []<|ag [] [0,4,1,5,2,6,3,7,8,9,10] (aab 2)<|aae 11 (aaf [] [] [0] (aj 2 (i64.wrap (t.i+1)) Uw) ?_);rintro _ TM Uv;refine aad<|aap [] [0] [0] (v:=.tuple #[]) (H':=(ap [(tb,.lit ((Stp.lp t mb)++(aaa (cj t t.i b M).e++[.bool ((cj t t.i b M).em)])) 140 (0,0))] [TM])) ?_;have e:(cP t b c M)=⟨((((cj t t.i b M).M).set 3 0).set 2 (i64.wrap (t.i+1))),0,⟨(cj t t.i b M).e.t,(cj t t.i b M).e.i,(cj t t.i b M).e.k,(cj t t.i b M).e.v⟩,(cj t t.i b M).em⟩:=by
    first|(simp only[cP,dq,if_neg h1,if_pos TH];try rfl;done)|rfl
   refine⟨TM,by rw[e] <;> rfl,?_⟩;rw[e];exact Uv.weak (by omega)
  ·refine ae 2 [] λ _=>aap [] [0] [0] (v:=.tuple #[]) (H':=(ap [(tb,.lit ((Stp.lp t mb)++(aaa (cj t t.i b M).e++[.bool ((cj t t.i b M).em)])) 140 (0,0))] [Wq])) ?_;have e:(cP t b c M)=⟨(cj t t.i b M).M,0,⟨(cj t t.i b M).e.t,(cj t t.i b M).e.i,(cj t t.i b M).e.k,(cj t t.i b M).e.v⟩,(cj t t.i b M).em⟩:=by
    first|(simp only[cP,dq,if_neg h1,if_neg TH];try rfl;done)|rfl
   refine⟨Wq,by rw[e] <;> rfl,?_⟩;rw[e];exact TE.weak (by omega)
theorem K6(t:Stp)(b:Int)(c:Bool)(tb mb:Nat)(M:MemS)(k:Nat)(T F:HL)(hM:MemH mb M (k+8) T)(hS:SetIn F t.S)(hE:dp F)(hC:CodeIn F t.code t.cA t.cn) :Sp Tryz.prog 86 #[vP tb 0,vI 2,vI b,.bool c] (ap [(tb,.lit (Stp.l t mb) 140 (0,0))] [T]) F (λ u H'=>∃x,H'=ap [(tb,.lit ((Stp.lp t mb)++(aaa (cQ t b c M).e++[.bool ((cQ t b c M).em)])) 140 (0,0))] [x] /\ (MemH mb (cQ t b c M).M k x)):=by
 have hp:=hS.pl;have hn:=hS.nb;have hr:=hS.room;refine aas Tryz.func86 rfl (mc hS.blk mn) (A:=[(tb,.lit (Stp.l t mb) 140 (0,0))]) (Ts:=[T]) rfl λ w0=>?_;refine ae 8 [.own 0] λ _=>aal (t.j=0) 13 (λ h1=>?_) λ h1=>?_
 ·refine ae 5 [] λ _=>xO (c) 16 (λ h2=>?_) λ h2=>?_
  ·refine ae 10 [.own 0] λ _=>aai [0] [0] (He t t.i b tb mb M (k+2) T _ hM hS.up (aq hE) hC.up) ?_;rintro _ T3 ⟨H_,rfl⟩;refine ae 2 [] λ _=>iw (jx t t.i b M) 36 (λ h5=>?_) λ h5=>?_
   ·refine ae 11 [.own 0] λ _=>cD 41 (nt (abA h1))<|ae 3 [] λ _=>aak [11] []<|ag [] [0,4,1,5,2,6,3,7,8,9,10] (aab 2)<|aae 11 (aaf [] [] [0] (aj 2 (i64.wrap (t.i+1)) H_) ?_);rintro _ T6 YG;refine aad<|aap [] [0] [0] (v:=.tuple #[]) (H':=(ap [(tb,.lit ((Stp.lp t mb)++(aaa (cm t t.i b M).e++[.bool ((cm t t.i b M).em)])) 140 (0,0))] [T6])) ?_;have e:(cQ t b c M)=⟨(((cm t t.i b M).M).set 2 (i64.wrap (t.i+1))),0,⟨(cm t t.i b M).e.t,(cm t t.i b M).e.i,(cm t t.i b M).e.k,(cm t t.i b M).e.v⟩,(cm t t.i b M).em⟩:=by
     first|(simp only[cQ,dq,if_pos h1,if_pos h2,if_pos h5];try rfl;done)|rfl
    refine⟨T6,by rw[e] <;> rfl,?_⟩;rw[e];exact YG.weak (by omega)
   ·refine ae 2 [] λ _=>aap [] [0] [0] (v:=.tuple #[]) (H':=(ap [(tb,.lit ((Stp.lp t mb)++(aaa (cm t t.i b M).e++[.bool ((cm t t.i b M).em)])) 140 (0,0))] [T3])) ?_;have e:(cQ t b c M)=⟨(cm t t.i b M).M,0,⟨(cm t t.i b M).e.t,(cm t t.i b M).e.i,(cm t t.i b M).e.k,(cm t t.i b M).e.v⟩,(cm t t.i b M).em⟩:=by
     first|(simp only[cQ,dq,if_pos h1,if_pos h2,if_neg h5];try rfl;done)|rfl
    refine⟨T3,by rw[e] <;> rfl,?_⟩;rw[e];exact H_.weak (by omega)
  ·refine ae 1 [] λ _=>aak [11] []<|ag [] [0,4,1,5,2,6,3,7,8,9,10] (aab 2)<|aae 11 (aaf [] [] [0] (aj 2 (i64.wrap (t.i+1)) hM) ?_);rintro _ T8 Wg;refine aad<|aap [] [0] [0] (v:=.tuple #[]) (H':=(ap [(tb,.lit (Stp.l t mb) 140 (0,0))] [T8])) ?_;have e:(cQ t b c M)=⟨(M.set 2 (i64.wrap (t.i+1))),0,⟨t.f0,t.f1,t.f2,t.f3⟩,t.emitted⟩:=by
    first|(simp only[cQ,dq,if_pos h1,if_neg h2];try rfl;done)|rfl
   refine⟨T8,by rw[e] <;> rfl,?_⟩;rw[e];exact Wg.weak (by omega)
 ·refine ae 15 [.own 0] λ _=>aai [0] [0] (He t t.i b tb mb M (k+2) T _ hM hS.up (aq hE) hC.up) ?_;rintro _ Wq ⟨TE,rfl⟩;refine ae 2 [] λ _=>iw (jx t t.i b M) 36 (λ TH=>?_) λ TH=>?_
  ·refine ae 11 [.own 0] λ _=>cD 41 (nf (abz h1))<|ae 6 [.own 0] λ _=>aai [] [0] (aj 3 0 TE) ?_;rintro _ XU Uw;refine ae 2 [] λ _=>aak [11] []<|ag [] [0,4,1,5,2,6,3,7,8,9,10] (aab 2)<|aae 11 (aaf [] [] [0] (aj 2 (i64.wrap (t.i+1)) Uw) ?_);rintro _ TM Uv;refine aad<|aap [] [0] [0] (v:=.tuple #[]) (H':=(ap [(tb,.lit ((Stp.lp t mb)++(aaa (cm t t.i b M).e++[.bool ((cm t t.i b M).em)])) 140 (0,0))] [TM])) ?_;have e:(cQ t b c M)=⟨((((cm t t.i b M).M).set 3 0).set 2 (i64.wrap (t.i+1))),0,⟨(cm t t.i b M).e.t,(cm t t.i b M).e.i,(cm t t.i b M).e.k,(cm t t.i b M).e.v⟩,(cm t t.i b M).em⟩:=by
    first|(simp only[cQ,dq,if_neg h1,if_pos TH];try rfl;done)|rfl
   refine⟨TM,by rw[e] <;> rfl,?_⟩;rw[e];exact Uv.weak (by omega)
  ·refine ae 2 [] λ _=>aap [] [0] [0] (v:=.tuple #[]) (H':=(ap [(tb,.lit ((Stp.lp t mb)++(aaa (cm t t.i b M).e++[.bool ((cm t t.i b M).em)])) 140 (0,0))] [Wq])) ?_;have e:(cQ t b c M)=⟨(cm t t.i b M).M,0,⟨(cm t t.i b M).e.t,(cm t t.i b M).e.i,(cm t t.i b M).e.k,(cm t t.i b M).e.v⟩,(cm t t.i b M).em⟩:=by
    first|(simp only[cQ,dq,if_neg h1,if_neg TH];try rfl;done)|rfl
   refine⟨Wq,by rw[e] <;> rfl,?_⟩;rw[e];exact TE.weak (by omega)
theorem Qy(t:Stp)  (tb mb:Nat) (M:MemS) (k:Nat) (T F:HL) (hM:MemH mb M (k+9) T) (hS:SetIn F t.S) (hE:dp F) (hC:CodeIn F t.code t.cA t.cn) :Sp Tryz.prog 50 #[vP tb 0] (ap [(tb,.lit (Stp.l t mb) 140 (0,0))] [T]) F (λ u H'=>∃x,H'=ap [(tb,.lit ((Stp.lp t mb)++(aaa (ff t M).e++[.bool ((ff t M).em)])) 140 (0,0))] [x] /\ (MemH mb (ff t M).M k x)):=by
 have hp:=hS.pl;have hn:=hS.nb;have hr:=hS.room;refine aas Tryz.func50 rfl (mc hS.blk mn) (A:=[(tb,.lit (Stp.l t mb) 140 (0,0))]) (Ts:=[T]) rfl λ w0=>?_;refine ae 1 [] λ _=>aak [] []<|ag [] [0,4,1,5,2,6,3,7] (ow 0 17)<|aac [] 8 (λ X_=>(gh t.S t.i _ hS.toSetN)) ?_;have UD:=ge hS.toSetN t.i;refine ag [] [9] []<|aad<|ae 8 [] λ _=>aal (ah t.S t.i<0) 14 (λ h2=>?_) λ h2=>?_
 ·refine ae 4 [] λ _=>aai [0] [0] (bV t 2 0 tb mb M (k+6) T _ hM hS.up ) ?_;rintro _ T3 H_;refine ae 2 [] λ _=>aap [] [0] [0] (v:=.tuple #[]) (H':=(ap [(tb,.lit (Stp.l t mb) 140 (0,0))] [T3])) ?_;have e:(ff t M)=⟨(aO t 2 0 M),0,⟨t.f0,t.f1,t.f2,t.f3⟩,t.emitted⟩:=by
   first|(simp only[ff,VR.z,if_pos h2];try rfl;done)|rfl
  refine⟨T3,by rw[e] <;> rfl,?_⟩;rw[e];exact H_.weak (by omega)
 ·refine ai 11 [.own 0,.nw] [bm ((ah t.S t.i)+2)] λ _=>aah (ar ((ah t.S t.i)+2) hM (ay 0))<|ae 8 [] λ _=>aai [0] [0] (K5 t (M.get ((ah t.S t.i)+2)) (!(decide (M.get ((ah t.S t.i)+2)=0))) tb mb M (k+1) T _ hM hS.up (aq hE) hC.up) ?_;rintro _ T5 TU;refine ae 1 [] λ _=>aap [] [0] [0] (v:=.tuple #[]) (H':=(ap [(tb,.lit ((Stp.lp t mb)++(aaa (cP t (M.get ((ah t.S t.i)+2)) (!(decide (M.get ((ah t.S t.i)+2)=0))) M).e++[.bool ((cP t (M.get ((ah t.S t.i)+2)) (!(decide (M.get ((ah t.S t.i)+2)=0))) M).em)])) 140 (0,0))] [T5])) ?_;have e:(ff t M)=⟨(cP t (M.get ((ah t.S t.i)+2)) (!(decide (M.get ((ah t.S t.i)+2)=0))) M).M,0,⟨(cP t (M.get ((ah t.S t.i)+2)) (!(decide (M.get ((ah t.S t.i)+2)=0))) M).e.t,(cP t (M.get ((ah t.S t.i)+2)) (!(decide (M.get ((ah t.S t.i)+2)=0))) M).e.i,(cP t (M.get ((ah t.S t.i)+2)) (!(decide (M.get ((ah t.S t.i)+2)=0))) M).e.k,(cP t (M.get ((ah t.S t.i)+2)) (!(decide (M.get ((ah t.S t.i)+2)=0))) M).e.v⟩,(cP t (M.get ((ah t.S t.i)+2)) (!(decide (M.get ((ah t.S t.i)+2)=0))) M).em⟩:=by
   first|(simp only[ff,VR.z,if_neg h2];try rfl;done)|rfl
  refine⟨T5,by rw[e] <;> rfl,?_⟩;rw[e];exact TU.weak (by omega)
theorem Oq(t:Stp)  (tb mb:Nat) (M:MemS) (k:Nat) (T F:HL) (hM:MemH mb M (k+9) T) (hS:SetIn F t.S) (hE:dp F) (hC:CodeIn F t.code t.cA t.cn) :Sp Tryz.prog 51 #[vP tb 0] (ap [(tb,.lit (Stp.l t mb) 140 (0,0))] [T]) F (λ u H'=>∃x,H'=ap [(tb,.lit ((Stp.lp t mb)++(aaa (cS t M).e++[.bool ((cS t M).em)])) 140 (0,0))] [x] /\ (MemH mb (cS t M).M k x)):=by
 have hp:=hS.pl;have hn:=hS.nb;have hr:=hS.room;refine aas Tryz.func51 rfl (mc hS.blk mn) (A:=[(tb,.lit (Stp.l t mb) 140 (0,0))]) (Ts:=[T]) rfl λ w0=>?_;refine ae 3 [] λ _=>aai [0] [0] (Oo t 0 0 tb mb M (k+3) T _ hM hS.up (aq hE) hC.up) ?_;rintro _ T1 ⟨XP,rfl⟩;refine ae 2 [] λ _=>iw (jV t 0 0 M) 3 (λ h3=>?_) λ h3=>?_
 ·refine ae 3 [] λ _=>aai [0] [0] (bV (t.upd (dh t 0 0 M)) 3 0 tb mb ((dh t 0 0 M).M) k T1 _ XP hS.up ) ?_;rintro _ T4 UW;refine ae 1 [] λ _=>aap [] [0] [0] (v:=.tuple #[]) (H':=(ap [(tb,.lit ((Stp.lp t mb)++(aaa (dh t 0 0 M).e++[.bool ((dh t 0 0 M).em)])) 140 (0,0))] [T4])) ?_;have e:(cS t M)=⟨(aO (t.upd (dh t 0 0 M)) 3 0 ((dh t 0 0 M).M)),0,⟨(dh t 0 0 M).e.t,(dh t 0 0 M).e.i,(dh t 0 0 M).e.k,(dh t 0 0 M).e.v⟩,(dh t 0 0 M).em⟩:=by
   first|(simp only[cS,VR.z,if_pos h3];try rfl;done)|rfl
  refine⟨T4,by rw[e] <;> rfl,?_⟩;rw[e];exact UW.weak (by omega)
 ·refine ae 2 [] λ _=>aap [] [0] [0] (v:=.tuple #[]) (H':=(ap [(tb,.lit ((Stp.lp t mb)++(aaa (dh t 0 0 M).e++[.bool ((dh t 0 0 M).em)])) 140 (0,0))] [T1])) ?_;have e:(cS t M)=⟨(dh t 0 0 M).M,0,⟨(dh t 0 0 M).e.t,(dh t 0 0 M).e.i,(dh t 0 0 M).e.k,(dh t 0 0 M).e.v⟩,(dh t 0 0 M).em⟩:=by
   first|(simp only[cS,VR.z,if_neg h3];try rfl;done)|rfl
  refine⟨T1,by rw[e] <;> rfl,?_⟩;rw[e];exact XP.weak (by omega)
theorem Qz(t:Stp)  (tb mb:Nat) (M:MemS) (k:Nat) (T F:HL) (hM:MemH mb M (k+9) T) (hS:SetIn F t.S) (hE:dp F) (hC:CodeIn F t.code t.cA t.cn) :Sp Tryz.prog 55 #[vP tb 0] (ap [(tb,.lit (Stp.l t mb) 140 (0,0))] [T]) F (λ u H'=>∃x,H'=ap [(tb,.lit ((Stp.lp t mb)++(aaa (fg t M).e++[.bool ((fg t M).em)])) 140 (0,0))] [x] /\ (MemH mb (fg t M).M k x)):=by
 have hp:=hS.pl;have hn:=hS.nb;have hr:=hS.room;refine aas Tryz.func55 rfl (mc hS.blk mn) (A:=[(tb,.lit (Stp.l t mb) 140 (0,0))]) (Ts:=[T]) rfl λ w0=>?_;refine ae 1 [] λ _=>aak [] []<|ag [] [0,4,1,5,2,6,3,7] (ow 0 17)<|aac [] 8 (λ X_=>(cL t.S t.i _ hS.toSetN)) ?_;have UD:=cK hS.toSetN t.i;refine ag [] [9] []<|aad<|ae 8 [] λ _=>aal (af t.S t.i<0) 14 (λ h2=>?_) λ h2=>?_
 ·refine ae 4 [] λ _=>aai [0] [0] (bV t 7 0 tb mb M (k+6) T _ hM hS.up ) ?_;rintro _ T3 H_;refine ae 2 [] λ _=>aap [] [0] [0] (v:=.tuple #[]) (H':=(ap [(tb,.lit (Stp.l t mb) 140 (0,0))] [T3])) ?_;have e:(fg t M)=⟨(aO t 7 0 M),0,⟨t.f0,t.f1,t.f2,t.f3⟩,t.emitted⟩:=by
   first|(simp only[fg,VR.z,if_pos h2];try rfl;done)|rfl
  refine⟨T3,by rw[e] <;> rfl,?_⟩;rw[e];exact H_.weak (by omega)
 ·refine ai 11 [.own 0,.nw] [bm ((af t.S t.i)+6)] λ _=>aah (ar ((af t.S t.i)+6) hM (ay 0))<|ae 9 [] λ _=>aai [0] [0] (K6 t (i64.wrap ((M.get ((af t.S t.i)+6))-1)) (!(decide (M.get ((af t.S t.i)+6)=0))) tb mb M (k+1) T _ hM hS.up (aq hE) hC.up) ?_;rintro _ T5 TU;refine ae 1 [] λ _=>aap [] [0] [0] (v:=.tuple #[]) (H':=(ap [(tb,.lit ((Stp.lp t mb)++(aaa (cQ t (i64.wrap ((M.get ((af t.S t.i)+6))-1)) (!(decide (M.get ((af t.S t.i)+6)=0))) M).e++[.bool ((cQ t (i64.wrap ((M.get ((af t.S t.i)+6))-1)) (!(decide (M.get ((af t.S t.i)+6)=0))) M).em)])) 140 (0,0))] [T5])) ?_;have e:(fg t M)=⟨(cQ t (i64.wrap ((M.get ((af t.S t.i)+6))-1)) (!(decide (M.get ((af t.S t.i)+6)=0))) M).M,0,⟨(cQ t (i64.wrap ((M.get ((af t.S t.i)+6))-1)) (!(decide (M.get ((af t.S t.i)+6)=0))) M).e.t,(cQ t (i64.wrap ((M.get ((af t.S t.i)+6))-1)) (!(decide (M.get ((af t.S t.i)+6)=0))) M).e.i,(cQ t (i64.wrap ((M.get ((af t.S t.i)+6))-1)) (!(decide (M.get ((af t.S t.i)+6)=0))) M).e.k,(cQ t (i64.wrap ((M.get ((af t.S t.i)+6))-1)) (!(decide (M.get ((af t.S t.i)+6)=0))) M).e.v⟩,(cQ t (i64.wrap ((M.get ((af t.S t.i)+6))-1)) (!(decide (M.get ((af t.S t.i)+6)=0))) M).em⟩:=by
   first|(simp only[fg,VR.z,if_neg h2];try rfl;done)|rfl
  refine⟨T5,by rw[e] <;> rfl,?_⟩;rw[e];exact TU.weak (by omega)
end Go.Proofs.YtghjbimijeinfaaGreatDoor
