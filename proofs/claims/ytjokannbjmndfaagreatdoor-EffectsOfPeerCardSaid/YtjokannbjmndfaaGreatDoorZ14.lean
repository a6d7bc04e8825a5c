import Derived.Test.YtjokannbjmndfaaGreatDoorZ13
set_option linter.all false
set_option maxHeartbeats 4000000
set_option maxRecDepth 100000
namespace Go.Proofs.YtjokannbjmndfaaGreatDoor
open IntKind
open Go.RowKit
variable {F T:HL} {M:MemS} {mb:Nat} (t:Stp) (a b:Int) (tb k:Nat)
def VR.z(r:VR):VR:=⟨r.M,0,r.e,r.em⟩
abbrev Stp.f(t:Stp):Eff:=⟨t.f0,t.f1,t.f2,t.f3⟩
def Stp.upd(t:Stp)(r:VR):Stp:={ t with f0:=r.e.t,f1:=r.e.i,f2:=r.e.k,f3:=r.e.v,emitted:=r.em }
def ep(e:Int)(t:Stp)(self other:Int)(M:MemS):VR:=if t.j=0 then (if e<0 then ⟨aK e t.S.fuel self other M,0,t.f,t.emitted⟩ else ⟨(aK e t.S.fuel self other M).set 3 1,0,t.f,t.emitted⟩) else ⟨(aj t.S t.code t.cn M).M,0,(aj t.S t.code t.cn M).e,(aj t.S t.code t.cn M).em⟩
def di(e:Int)(t:Stp)(self other:Int)(M:MemS):Bool:=if t.j=0 then decide (e<0) else cM t.code t.cn M
abbrev bT(t:Stp)(a b:Int)(M:MemS):VR:=ep t.e0 t a b M
abbrev cU(t:Stp)(a b:Int)(M:MemS):VR:=ep t.e1 t a b M
abbrev bU(t:Stp)(a b:Int)(M:MemS):VR:=ep t.e2 t a b M
abbrev ji(t:Stp)(a b:Int)(M:MemS):Bool:=di t.e0 t a b M
abbrev jO(t:Stp)(a b:Int)(M:MemS):Bool:=di t.e1 t a b M
abbrev jj(t:Stp)(a b:Int)(M:MemS):Bool:=di t.e2 t a b M
def c6(r:VR)(over:Bool)(t:Stp)(UP:Bool)(M:MemS):VR:=if t.j=0 then (if UP=true then (if over=true then ⟨r.M.set 2 (aV (t.i+1)),0,r.e,r.em⟩ else ⟨r.M,0,r.e,r.em⟩) else ⟨M.set 2 (aV (t.i+1)),0,t.f,t.emitted⟩) else (if over=true then ⟨(r.M.set 3 0).set 2 (aV (t.i+1)),0,r.e,r.em⟩ else ⟨r.M,0,r.e,r.em⟩)
abbrev cz(t:Stp)(b:Int)(c:Bool)(M:MemS):VR:=c6 (bT t t.i b M) (ji t t.i b M) t c M
abbrev cB(t:Stp)(b:Int)(c:Bool)(M:MemS):VR:=c6 (bU t t.i b M) (jj t t.i b M) t c M
def eR(t:Stp)(M:MemS):VR:=if ai t.S t.i<0 then ⟨aZ t 2 0 M,0,t.f,t.emitted⟩ else (cz t (M.get (ai t.S t.i+2)) (!decide (M.get (ai t.S t.i+2)=0)) M).z
def cG(t:Stp)(M:MemS):VR:=if jO t 0 0 M=true then ⟨aZ t 3 0 (cU t 0 0 M).M,0,(cU t 0 0 M).e,(cU t 0 0 M).em⟩ else ⟨(cU t 0 0 M).M,0,(cU t 0 0 M).e,(cU t 0 0 M).em⟩
def eS(t:Stp)(M:MemS):VR:=if ag t.S t.i<0 then ⟨aZ t 7 0 M,0,t.f,t.emitted⟩ else (cB t (aV (M.get (ag t.S t.i+6)-1)) (!decide (M.get (ag t.S t.i+6)=0)) M).z
theorem HJ(hM:MemH mb M (k+6) T)(hS:SetIn F t.S)(hE:¬ t.j=0->cF F)(hC:CodeIn F t.code t.cA t.cn) :af1 181 #[vP tb 0,vI 0,vI a,vI b] (ap [(tb,.lit (Stp.l t mb) 253 (0,0))] [T]) F (λ u H'=>∃x,H'=ap [(tb,.lit ((Stp.lp t mb)++(aaa (bT t a b M).e++[.bool ((bT t a b M).em)])) 253 (0,0))] [x]/\(MemH mb (bT t a b M).M k x/\u=.bool (ji t a b M))):=by
 have hp:=hS.pl;have hn:=hS.nb;have hr:=hS.room;refine QF Tryz.func181 (mc hS.blk mn)<|Sr 15 [.o 0]<|aal (t.j=0) 16 (λ h1=>?_) λ h1=>?_
 ·refine OG 3<|aak [16] []<|af [] [0,4,8,9,10,11,1,5,12,2,6,13,3,7,14,15] (ow 0 6)<|aae 16 (aaf [] [] [0] (HF (k+1) t.cA t.cn t.cc t.e0 t.e1 t.e2 a b t.S.fuel hM) ?_);rintro _ T2 ⟨Wm,rfl⟩;refine afZ [17]<|aad<|ae 1 [] λ _=>?_;rcases Decidable.em (t.e0<0) with h4|h4
  ·refine ci 34 (nf (nt (abw h4)))<|OG 6<|QI [] [0] [0] (.bool true) (ap [(tb,.lit (Stp.l t mb) 253 (0,0))] [T2]) ?_;have e:(bT t a b M)=⟨(aK t.e0 t.S.fuel a b M),0,⟨t.f0,t.f1,t.f2,t.f3⟩,t.emitted⟩:=by
    first|(simp only[bT,ep,if_pos h1,if_pos h4];try rfl;done)|rfl
   have er:(ji t a b M)=true:=by
    first|(simp only[ji,di,if_pos h1,if_pos h4];done)|(simp only[ji,di,if_pos h1,if_pos h4];simp[*];done)|(simp only[ji,di,if_pos h1,if_pos h4];rfl)
   refine⟨T2,by rw[e] <;> rfl,?_,by rw[er]⟩;rw[e];exact Wm.weak (by omega)
  ·refine ci 34 (nt (nf (abv h4)))<|Sr 9 [.o 0]<|aai [] [0] (al 3 1 Wm) ?_;rintro _ T5 Vc;refine OG 7<|QI [] [0] [0] (.bool false) (ap [(tb,.lit (Stp.l t mb) 253 (0,0))] [T5]) ?_;have e:(bT t a b M)=⟨((aK t.e0 t.S.fuel a b M).set 3 1),0,⟨t.f0,t.f1,t.f2,t.f3⟩,t.emitted⟩:=by
    first|(simp only[bT,ep,if_pos h1,if_neg h4];try rfl;done)|rfl
   have er:(ji t a b M)=false:=by
    first|(simp only[ji,di,if_pos h1,if_neg h4];done)|(simp only[ji,di,if_pos h1,if_neg h4];simp[*];done)|(simp only[ji,di,if_pos h1,if_neg h4];rfl)
   refine⟨T5,by rw[e] <;> rfl,?_,by rw[er]⟩;rw[e];exact Vc.weak (by omega)
 ·refine OG 4<|aak [12,19] []<|af [] [0,4,8,1,5,9,2,6,10,3,7,11] (ow 0 21)<|fq 12 17 ?_ ?_
  ·refine aaf [] [] [0] (iJ k t.cc t.e0 t.e1 t.e2 hM hS.toSetN (aC (hE h1)) hC.up) ?_;rintro _ T7 ⟨Wt,rfl⟩;refine afZ [13,14,15,16]<|aae 17 (aag [] [] λ n9=>?_);refine afZ [18]<|Sx 19 [] (aab 4)<|afZ [20]<|aad<|ae 21 ((aab 4)++ow 1 5) λ _=>QI [] [1] [0] (.bool (cM t.code t.cn M)) (ap [(tb,.lit ((Stp.lp t mb)++(aaa (aj t.S t.code t.cn M).e++[.bool ((aj t.S t.code t.cn M).em)])) 253 (0,0))] [T7]) ?_;have e:(bT t a b M)=⟨(aj t.S t.code t.cn M).M,0,⟨(aj t.S t.code t.cn M).e.t,(aj t.S t.code t.cn M).e.i,(aj t.S t.code t.cn M).e.k,(aj t.S t.code t.cn M).e.v⟩,(aj t.S t.code t.cn M).em⟩:=by
    first|(simp only[bT,ep,if_neg h1];try rfl;done)|rfl
   have er:(ji t a b M)=cM t.code t.cn M:=by
    first|(simp only[ji,di,if_neg h1];done)|(simp only[ji,di,if_neg h1];simp[*];done)|(simp only[ji,di,if_neg h1];rfl)
   refine⟨T7,by rw[e] <;> rfl,?_,by rw[er]⟩;rw[e];exact Wt.weak (by omega)
  ·refine aag [] [] λ n10=>aae 12 (aaf [] [] [0] (iJ k t.cc t.e0 t.e1 t.e2 hM hS.toSetN (aC (hE h1)) hC.up) ?_);rintro _ Ub ⟨Um,rfl⟩;refine afZ [13,14,15,16,18]<|Sx 19 [] (aab 4)<|afZ [20]<|aad<|ae 21 ((aab 4)++ow 1 5) λ _=>QI [] [1] [0] (.bool (cM t.code t.cn M)) (ap [(tb,.lit ((Stp.lp t mb)++(aaa (aj t.S t.code t.cn M).e++[.bool ((aj t.S t.code t.cn M).em)])) 253 (0,0))] [Ub]) ?_;have e:(bT t a b M)=⟨(aj t.S t.code t.cn M).M,0,⟨(aj t.S t.code t.cn M).e.t,(aj t.S t.code t.cn M).e.i,(aj t.S t.code t.cn M).e.k,(aj t.S t.code t.cn M).e.v⟩,(aj t.S t.code t.cn M).em⟩:=by
    first|(simp only[bT,ep,if_neg h1];try rfl;done)|rfl
   have er:(ji t a b M)=cM t.code t.cn M:=by
    first|(simp only[ji,di,if_neg h1];done)|(simp only[ji,di,if_neg h1];simp[*];done)|(simp only[ji,di,if_neg h1];rfl)
   refine⟨Ub,by rw[e] <;> rfl,?_,by rw[er]⟩;rw[e];exact Um.weak (by omega)
theorem O7(hM:MemH mb M (k+6) T)(hS:SetIn F t.S)(hE:¬ t.j=0->cF F)(hC:CodeIn F t.code t.cA t.cn) :af1 181 #[vP tb 0,vI 1,vI a,vI b] (ap [(tb,.lit (Stp.l t mb) 253 (0,0))] [T]) F (λ u H'=>∃x,H'=ap [(tb,.lit ((Stp.lp t mb)++(aaa (cU t a b M).e++[.bool ((cU t a b M).em)])) 253 (0,0))] [x]/\(MemH mb (cU t a b M).M k x/\u=.bool (jO t a b M))):=by
 have hp:=hS.pl;have hn:=hS.nb;have hr:=hS.room;refine QF Tryz.func181 (mc hS.blk mn)<|Sr 15 [.o 0]<|aal (t.j=0) 16 (λ h1=>?_) λ h1=>?_
 ·refine OG 3<|aak [16] []<|af [] [0,4,8,9,10,11,1,5,12,2,6,13,3,7,14,15] (ow 0 6)<|aae 16 (aaf [] [] [0] (HG (k+1) t.cA t.cn t.cc t.e0 t.e1 t.e2 a b t.S.fuel hM) ?_);rintro _ T2 ⟨Wm,rfl⟩;refine afZ [17]<|aad<|ae 1 [] λ _=>?_;rcases Decidable.em (t.e1<0) with h4|h4
  ·refine ci 34 (nf (nt (abw h4)))<|OG 6<|QI [] [0] [0] (.bool true) (ap [(tb,.lit (Stp.l t mb) 253 (0,0))] [T2]) ?_;have e:(cU t a b M)=⟨(aK t.e1 t.S.fuel a b M),0,⟨t.f0,t.f1,t.f2,t.f3⟩,t.emitted⟩:=by
    first|(simp only[cU,ep,if_pos h1,if_pos h4];try rfl;done)|rfl
   have er:(jO t a b M)=true:=by
    first|(simp only[jO,di,if_pos h1,if_pos h4];done)|(simp only[jO,di,if_pos h1,if_pos h4];simp[*];done)|(simp only[jO,di,if_pos h1,if_pos h4];rfl)
   refine⟨T2,by rw[e] <;> rfl,?_,by rw[er]⟩;rw[e];exact Wm.weak (by omega)
  ·refine ci 34 (nt (nf (abv h4)))<|Sr 9 [.o 0]<|aai [] [0] (al 3 1 Wm) ?_;rintro _ T5 Vc;refine OG 7<|QI [] [0] [0] (.bool false) (ap [(tb,.lit (Stp.l t mb) 253 (0,0))] [T5]) ?_;have e:(cU t a b M)=⟨((aK t.e1 t.S.fuel a b M).set 3 1),0,⟨t.f0,t.f1,t.f2,t.f3⟩,t.emitted⟩:=by
    first|(simp only[cU,ep,if_pos h1,if_neg h4];try rfl;done)|rfl
   have er:(jO t a b M)=false:=by
    first|(simp only[jO,di,if_pos h1,if_neg h4];done)|(simp only[jO,di,if_pos h1,if_neg h4];simp[*];done)|(simp only[jO,di,if_pos h1,if_neg h4];rfl)
   refine⟨T5,by rw[e] <;> rfl,?_,by rw[er]⟩;rw[e];exact Vc.weak (by omega)
 ·refine OG 4<|aak [12,19] []<|af [] [0,4,8,1,5,9,2,6,10,3,7,11] (ow 0 21)<|fq 12 17 ?_ ?_
  ·refine aaf [] [] [0] (iJ k t.cc t.e0 t.e1 t.e2 hM hS.toSetN (aC (hE h1)) hC.up) ?_;rintro _ T7 ⟨Wt,rfl⟩;refine afZ [13,14,15,16]<|aae 17 (aag [] [] λ n9=>?_);refine afZ [18]<|Sx 19 [] (aab 4)<|afZ [20]<|aad<|ae 21 ((aab 4)++ow 1 5) λ _=>QI [] [1] [0] (.bool (cM t.code t.cn M)) (ap [(tb,.lit ((Stp.lp t mb)++(aaa (aj t.S t.code t.cn M).e++[.bool ((aj t.S t.code t.cn M).em)])) 253 (0,0))] [T7]) ?_;have e:(cU t a b M)=⟨(aj t.S t.code t.cn M).M,0,⟨(aj t.S t.code t.cn M).e.t,(aj t.S t.code t.cn M).e.i,(aj t.S t.code t.cn M).e.k,(aj t.S t.code t.cn M).e.v⟩,(aj t.S t.code t.cn M).em⟩:=by
    first|(simp only[cU,ep,if_neg h1];try rfl;done)|rfl
   have er:(jO t a b M)=cM t.code t.cn M:=by
    first|(simp only[jO,di,if_neg h1];done)|(simp only[jO,di,if_neg h1];simp[*];done)|(simp only[jO,di,if_neg h1];rfl)
   refine⟨T7,by rw[e] <;> rfl,?_,by rw[er]⟩;rw[e];exact Wt.weak (by omega)
  ·refine aag [] [] λ n10=>aae 12 (aaf [] [] [0] (iJ k t.cc t.e0 t.e1 t.e2 hM hS.toSetN (aC (hE h1)) hC.up) ?_);rintro _ Ub ⟨Um,rfl⟩;refine afZ [13,14,15,16,18]<|Sx 19 [] (aab 4)<|afZ [20]<|aad<|ae 21 ((aab 4)++ow 1 5) λ _=>QI [] [1] [0] (.bool (cM t.code t.cn M)) (ap [(tb,.lit ((Stp.lp t mb)++(aaa (aj t.S t.code t.cn M).e++[.bool ((aj t.S t.code t.cn M).em)])) 253 (0,0))] [Ub]) ?_;have e:(cU t a b M)=⟨(aj t.S t.code t.cn M).M,0,⟨(aj t.S t.code t.cn M).e.t,(aj t.S t.code t.cn M).e.i,(aj t.S t.code t.cn M).e.k,(aj t.S t.code t.cn M).e.v⟩,(aj t.S t.code t.cn M).em⟩:=by
    first|(simp only[cU,ep,if_neg h1];try rfl;done)|rfl
   have er:(jO t a b M)=cM t.code t.cn M:=by
    first|(simp only[jO,di,if_neg h1];done)|(simp only[jO,di,if_neg h1];simp[*];done)|(simp only[jO,di,if_neg h1];rfl)
   refine⟨Ub,by rw[e] <;> rfl,?_,by rw[er]⟩;rw[e];exact Um.weak (by omega)
theorem HK(hM:MemH mb M (k+6) T)(hS:SetIn F t.S)(hE:¬ t.j=0->cF F)(hC:CodeIn F t.code t.cA t.cn) :af1 181 #[vP tb 0,vI 2,vI a,vI b] (ap [(tb,.lit (Stp.l t mb) 253 (0,0))] [T]) F (λ u H'=>∃x,H'=ap [(tb,.lit ((Stp.lp t mb)++(aaa (bU t a b M).e++[.bool ((bU t a b M).em)])) 253 (0,0))] [x]/\(MemH mb (bU t a b M).M k x/\u=.bool (jj t a b M))):=by
 have hp:=hS.pl;have hn:=hS.nb;have hr:=hS.room;refine QF Tryz.func181 (mc hS.blk mn)<|Sr 15 [.o 0]<|aal (t.j=0) 16 (λ h1=>?_) λ h1=>?_
 ·refine OG 3<|aak [16] []<|af [] [0,4,8,9,10,11,1,5,12,2,6,13,3,7,14,15] (ow 0 6)<|aae 16 (aaf [] [] [0] (HH (k+1) t.cA t.cn t.cc t.e0 t.e1 t.e2 a b t.S.fuel hM) ?_);rintro _ T2 ⟨Wm,rfl⟩;refine afZ [17]<|aad<|ae 1 [] λ _=>?_;rcases Decidable.em (t.e2<0) with h4|h4
  ·refine ci 34 (nf (nt (abw h4)))<|OG 6<|QI [] [0] [0] (.bool true) (ap [(tb,.lit (Stp.l t mb) 253 (0,0))] [T2]) ?_;have e:(bU t a b M)=⟨(aK t.e2 t.S.fuel a b M),0,⟨t.f0,t.f1,t.f2,t.f3⟩,t.emitted⟩:=by
    first|(simp only[bU,ep,if_pos h1,if_pos h4];try rfl;done)|rfl
   have er:(jj t a b M)=true:=by
    first|(simp only[jj,di,if_pos h1,if_pos h4];done)|(simp only[jj,di,if_pos h1,if_pos h4];simp[*];done)|(simp only[jj,di,if_pos h1,if_pos h4];rfl)
   refine⟨T2,by rw[e] <;> rfl,?_,by rw[er]⟩;rw[e];exact Wm.weak (by omega)
  ·refine ci 34 (nt (nf (abv h4)))<|Sr 9 [.o 0]<|aai [] [0] (al 3 1 Wm) ?_;rintro _ T5 Vc;refine OG 7<|QI [] [0] [0] (.bool false) (ap [(tb,.lit (Stp.l t mb) 253 (0,0))] [T5]) ?_;have e:(bU t a b M)=⟨((aK t.e2 t.S.fuel a b M).set 3 1),0,⟨t.f0,t.f1,t.f2,t.f3⟩,t.emitted⟩:=by
    first|(simp only[bU,ep,if_pos h1,if_neg h4];try rfl;done)|rfl
   have er:(jj t a b M)=false:=by
    first|(simp only[jj,di,if_pos h1,if_neg h4];done)|(simp only[jj,di,if_pos h1,if_neg h4];simp[*];done)|(simp only[jj,di,if_pos h1,if_neg h4];rfl)
   refine⟨T5,by rw[e] <;> rfl,?_,by rw[er]⟩;rw[e];exact Vc.weak (by omega)
 ·refine OG 4<|aak [12,19] []<|af [] [0,4,8,1,5,9,2,6,10,3,7,11] (ow 0 21)<|fq 12 17 ?_ ?_
  ·refine aaf [] [] [0] (iJ k t.cc t.e0 t.e1 t.e2 hM hS.toSetN (aC (hE h1)) hC.up) ?_;rintro _ T7 ⟨Wt,rfl⟩;refine afZ [13,14,15,16]<|aae 17 (aag [] [] λ n9=>?_);refine afZ [18]<|Sx 19 [] (aab 4)<|afZ [20]<|aad<|ae 21 ((aab 4)++ow 1 5) λ _=>QI [] [1] [0] (.bool (cM t.code t.cn M)) (ap [(tb,.lit ((Stp.lp t mb)++(aaa (aj t.S t.code t.cn M).e++[.bool ((aj t.S t.code t.cn M).em)])) 253 (0,0))] [T7]) ?_;have e:(bU t a b M)=⟨(aj t.S t.code t.cn M).M,0,⟨(aj t.S t.code t.cn M).e.t,(aj t.S t.code t.cn M).e.i,(aj t.S t.code t.cn M).e.k,(aj t.S t.code t.cn M).e.v⟩,(aj t.S t.code t.cn M).em⟩:=by
    first|(simp only[bU,ep,if_neg h1];try rfl;done)|rfl
   have er:(jj t a b M)=cM t.code t.cn M:=by
    first|(simp only[jj,di,if_neg h1];done)|(simp only[jj,di,if_neg h1];simp[*];done)|(simp only[jj,di,if_neg h1];rfl)
   refine⟨T7,by rw[e] <;> rfl,?_,by rw[er]⟩;rw[e];exact Wt.weak (by omega)
  ·refine aag [] [] λ n10=>aae 12 (aaf [] [] [0] (iJ k t.cc t.e0 t.e1 t.e2 hM hS.toSetN (aC (hE h1)) hC.up) ?_);rintro _ Ub ⟨Um,rfl⟩;refine afZ [13,14,15,16,18]<|Sx 19 [] (aab 4)<|afZ [20]<|aad<|ae 21 ((aab 4)++ow 1 5) λ _=>QI [] [1] [0] (.bool (cM t.code t.cn M)) (ap [(tb,.lit ((Stp.lp t mb)++(aaa (aj t.S t.code t.cn M).e++[.bool ((aj t.S t.code t.cn M).em)])) 253 (0,0))] [Ub]) ?_;have e:(bU t a b M)=⟨(aj t.S t.code t.cn M).M,0,⟨(aj t.S t.code t.cn M).e.t,(aj t.S t.code t.cn M).e.i,(aj t.S t.code t.cn M).e.k,(aj t.S t.code t.cn M).e.v⟩,(aj t.S t.code t.cn M).em⟩:=by
    first|(simp only[bU,ep,if_neg h1];try rfl;done)|rfl
   have er:(jj t a b M)=cM t.code t.cn M:=by
    first|(simp only[jj,di,if_neg h1];done)|(simp only[jj,di,if_neg h1];simp[*];done)|(simp only[jj,di,if_neg h1];rfl)
   refine⟨Ub,by rw[e] <;> rfl,?_,by rw[er]⟩;rw[e];exact Um.weak (by omega)
theorem LU(c:Bool)(tb:Nat)(k:Nat)(hM:MemH mb M (k+8) T)(hS:SetIn F t.S)(hE:¬ t.j=0->cF F)(hC:CodeIn F t.code t.cA t.cn) :af1 180 #[vP tb 0,vI 0,vI b,.bool c] (ap [(tb,.lit (Stp.l t mb) 253 (0,0))] [T]) F (λ u H'=>∃x,H'=ap [(tb,.lit ((Stp.lp t mb)++(aaa (cz t b c M).e++[.bool ((cz t b c M).em)])) 253 (0,0))] [x]/\(MemH mb (cz t b c M).M k x)):=by
 have hp:=hS.pl;have hn:=hS.nb;have hr:=hS.room;refine QF Tryz.func180 (mc hS.blk mn)<|Sr 8 [.o 0]<|aal (t.j=0) 13 (λ h1=>?_) λ h1=>?_
 ·refine OG 5<|rv (c) 16 (λ h2=>?_) λ h2=>?_
  ·refine Sr 10 [.o 0]<|aai [0] [0] (HJ t t.i b tb (k+2) hM hS.up (λ h_=>aC (hE h_)) hC.up) ?_;rintro _ T3 ⟨R_,rfl⟩;refine OG 2<|il (ji t t.i b M) 36 (λ h5=>?_) λ h5=>?_
   ·refine Sr 11 [.o 0]<|ci 41 (nt (abw h1))<|OG 3<|aak [11] []<|af [] [0,4,1,5,2,6,3,7,8,9,10] (aab 2)<|aae 11 (aaf [] [] [0] (al 2 (i64.wrap (t.i+1)) R_) ?_);rintro _ T6 YY;refine aad<|QI [] [0] [0] (.tuple #[]) (ap [(tb,.lit ((Stp.lp t mb)++(aaa (bT t t.i b M).e++[.bool ((bT t t.i b M).em)])) 253 (0,0))] [T6]) ?_;have e:(cz t b c M)=⟨(((bT t t.i b M).M).set 2 (i64.wrap (t.i+1))),0,⟨(bT t t.i b M).e.t,(bT t t.i b M).e.i,(bT t t.i b M).e.k,(bT t t.i b M).e.v⟩,(bT t t.i b M).em⟩:=by
     first|(simp only[cz,c6,if_pos h1,if_pos h2,if_pos h5];try rfl;done)|rfl
    refine⟨T6,by rw[e] <;> rfl,?_⟩;rw[e];exact YY.weak (by omega)
   ·refine OG 2<|QI [] [0] [0] (.tuple #[]) (ap [(tb,.lit ((Stp.lp t mb)++(aaa (bT t t.i b M).e++[.bool ((bT t t.i b M).em)])) 253 (0,0))] [T3]) ?_;have e:(cz t b c M)=⟨(bT t t.i b M).M,0,⟨(bT t t.i b M).e.t,(bT t t.i b M).e.i,(bT t t.i b M).e.k,(bT t t.i b M).e.v⟩,(bT t t.i b M).em⟩:=by
     first|(simp only[cz,c6,if_pos h1,if_pos h2,if_neg h5];try rfl;done)|rfl
    refine⟨T3,by rw[e] <;> rfl,?_⟩;rw[e];exact R_.weak (by omega)
  ·refine OG 1<|aak [11] []<|af [] [0,4,1,5,2,6,3,7,8,9,10] (aab 2)<|aae 11 (aaf [] [] [0] (al 2 (i64.wrap (t.i+1)) hM) ?_);rintro _ T8 XW;refine aad<|QI [] [0] [0] (.tuple #[]) (ap [(tb,.lit (Stp.l t mb) 253 (0,0))] [T8]) ?_;have e:(cz t b c M)=⟨(M.set 2 (i64.wrap (t.i+1))),0,⟨t.f0,t.f1,t.f2,t.f3⟩,t.emitted⟩:=by
    first|(simp only[cz,c6,if_pos h1,if_neg h2];try rfl;done)|rfl
   refine⟨T8,by rw[e] <;> rfl,?_⟩;rw[e];exact XW.weak (by omega)
 ·refine Sr 15 [.o 0]<|aai [0] [0] (HJ t t.i b tb (k+2) hM hS.up (λ h_=>aC (hE h_)) hC.up) ?_;rintro _ VI ⟨VD,rfl⟩;refine OG 2<|il (ji t t.i b M) 36 (λ UO=>?_) λ UO=>?_
  ·refine Sr 11 [.o 0]<|ci 41 (nf (abv h1))<|Sr 6 [.o 0]<|aai [] [0] (al 3 0 VD) ?_;rintro _ U2 UN;refine OG 2<|aak [11] []<|af [] [0,4,1,5,2,6,3,7,8,9,10] (aab 2)<|aae 11 (aaf [] [] [0] (al 2 (i64.wrap (t.i+1)) UN) ?_);rintro _ Vf Ul;refine aad<|QI [] [0] [0] (.tuple #[]) (ap [(tb,.lit ((Stp.lp t mb)++(aaa (bT t t.i b M).e++[.bool ((bT t t.i b M).em)])) 253 (0,0))] [Vf]) ?_;have e:(cz t b c M)=⟨((((bT t t.i b M).M).set 3 0).set 2 (i64.wrap (t.i+1))),0,⟨(bT t t.i b M).e.t,(bT t t.i b M).e.i,(bT t t.i b M).e.k,(bT t t.i b M).e.v⟩,(bT t t.i b M).em⟩:=by
    first|(simp only[cz,c6,if_neg h1,if_pos UO];try rfl;done)|rfl
   refine⟨Vf,by rw[e] <;> rfl,?_⟩;rw[e];exact Ul.weak (by omega)
  ·refine OG 2<|QI [] [0] [0] (.tuple #[]) (ap [(tb,.lit ((Stp.lp t mb)++(aaa (bT t t.i b M).e++[.bool ((bT t t.i b M).em)])) 253 (0,0))] [VI]) ?_;have e:(cz t b c M)=⟨(bT t t.i b M).M,0,⟨(bT t t.i b M).e.t,(bT t t.i b M).e.i,(bT t t.i b M).e.k,(bT t t.i b M).e.v⟩,(bT t t.i b M).em⟩:=by
    first|(simp only[cz,c6,if_neg h1,if_neg UO];try rfl;done)|rfl
   refine⟨VI,by rw[e] <;> rfl,?_⟩;rw[e];exact VD.weak (by omega)
theorem LW(c:Bool)(tb:Nat)(k:Nat)(hM:MemH mb M (k+8) T)(hS:SetIn F t.S)(hE:¬ t.j=0->cF F)(hC:CodeIn F t.code t.cA t.cn) :af1 180 #[vP tb 0,vI 2,vI b,.bool c] (ap [(tb,.lit (Stp.l t mb) 253 (0,0))] [T]) F (λ u H'=>∃x,H'=ap [(tb,.lit ((Stp.lp t mb)++(aaa (cB t b c M).e++[.bool ((cB t b c M).em)])) 253 (0,0))] [x]/\(MemH mb (cB t b c M).M k x)):=by
 have hp:=hS.pl;have hn:=hS.nb;have hr:=hS.room;refine QF Tryz.func180 (mc hS.blk mn)<|Sr 8 [.o 0]<|aal (t.j=0) 13 (λ h1=>?_) λ h1=>?_
 ·refine OG 5<|rv (c) 16 (λ h2=>?_) λ h2=>?_
  ·refine Sr 10 [.o 0]<|aai [0] [0] (HK t t.i b tb (k+2) hM hS.up (λ h_=>aC (hE h_)) hC.up) ?_;rintro _ T3 ⟨R_,rfl⟩;refine OG 2<|il (jj t t.i b M) 36 (λ h5=>?_) λ h5=>?_
   ·refine Sr 11 [.o 0]<|ci 41 (nt (abw h1))<|OG 3<|aak [11] []<|af [] [0,4,1,5,2,6,3,7,8,9,10] (aab 2)<|aae 11 (aaf [] [] [0] (al 2 (i64.wrap (t.i+1)) R_) ?_);rintro _ T6 YY;refine aad<|QI [] [0] [0] (.tuple #[]) (ap [(tb,.lit ((Stp.lp t mb)++(aaa (bU t t.i b M).e++[.bool ((bU t t.i b M).em)])) 253 (0,0))] [T6]) ?_;have e:(cB t b c M)=⟨(((bU t t.i b M).M).set 2 (i64.wrap (t.i+1))),0,⟨(bU t t.i b M).e.t,(bU t t.i b M).e.i,(bU t t.i b M).e.k,(bU t t.i b M).e.v⟩,(bU t t.i b M).em⟩:=by
     first|(simp only[cB,c6,if_pos h1,if_pos h2,if_pos h5];try rfl;done)|rfl
    refine⟨T6,by rw[e] <;> rfl,?_⟩;rw[e];exact YY.weak (by omega)
   ·refine OG 2<|QI [] [0] [0] (.tuple #[]) (ap [(tb,.lit ((Stp.lp t mb)++(aaa (bU t t.i b M).e++[.bool ((bU t t.i b M).em)])) 253 (0,0))] [T3]) ?_;have e:(cB t b c M)=⟨(bU t t.i b M).M,0,⟨(bU t t.i b M).e.t,(bU t t.i b M).e.i,(bU t t.i b M).e.k,(bU t t.i b M).e.v⟩,(bU t t.i b M).em⟩:=by
     first|(simp only[cB,c6,if_pos h1,if_pos h2,if_neg h5];try rfl;done)|rfl
    refine⟨T3,by rw[e] <;> rfl,?_⟩;rw[e];exact R_.weak (by omega)
  ·refine OG 1<|aak [11] []<|af [] [0,4,1,5,2,6,3,7,8,9,10] (aab 2)<|aae 11 (aaf [] [] [0] (al 2 (i64.wrap (t.i+1)) hM) ?_);rintro _ T8 XW;refine aad<|QI [] [0] [0] (.tuple #[]) (ap [(tb,.lit (Stp.l t mb) 253 (0,0))] [T8]) ?_;have e:(cB t b c M)=⟨(M.set 2 (i64.wrap (t.i+1))),0,⟨t.f0,t.f1,t.f2,t.f3⟩,t.emitted⟩:=by
    first|(simp only[cB,c6,if_pos h1,if_neg h2];try rfl;done)|rfl
   refine⟨T8,by rw[e] <;> rfl,?_⟩;rw[e];exact XW.weak (by omega)
 ·refine Sr 15 [.o 0]<|aai [0] [0] (HK t t.i b tb (k+2) hM hS.up (λ h_=>aC (hE h_)) hC.up) ?_;rintro _ VI ⟨VD,rfl⟩;refine OG 2<|il (jj t t.i b M) 36 (λ UO=>?_) λ UO=>?_
  ·refine Sr 11 [.o 0]<|ci 41 (nf (abv h1))<|Sr 6 [.o 0]<|aai [] [0] (al 3 0 VD) ?_;rintro _ U2 UN;refine OG 2<|aak [11] []<|af [] [0,4,1,5,2,6,3,7,8,9,10] (aab 2)<|aae 11 (aaf [] [] [0] (al 2 (i64.wrap (t.i+1)) UN) ?_);rintro _ Vf Ul;refine aad<|QI [] [0] [0] (.tuple #[]) (ap [(tb,.lit ((Stp.lp t mb)++(aaa (bU t t.i b M).e++[.bool ((bU t t.i b M).em)])) 253 (0,0))] [Vf]) ?_;have e:(cB t b c M)=⟨((((bU t t.i b M).M).set 3 0).set 2 (i64.wrap (t.i+1))),0,⟨(bU t t.i b M).e.t,(bU t t.i b M).e.i,(bU t t.i b M).e.k,(bU t t.i b M).e.v⟩,(bU t t.i b M).em⟩:=by
    first|(simp only[cB,c6,if_neg h1,if_pos UO];try rfl;done)|rfl
   refine⟨Vf,by rw[e] <;> rfl,?_⟩;rw[e];exact Ul.weak (by omega)
  ·refine OG 2<|QI [] [0] [0] (.tuple #[]) (ap [(tb,.lit ((Stp.lp t mb)++(aaa (bU t t.i b M).e++[.bool ((bU t t.i b M).em)])) 253 (0,0))] [VI]) ?_;have e:(cB t b c M)=⟨(bU t t.i b M).M,0,⟨(bU t t.i b M).e.t,(bU t t.i b M).e.i,(bU t t.i b M).e.k,(bU t t.i b M).e.v⟩,(bU t t.i b M).em⟩:=by
    first|(simp only[cB,c6,if_neg h1,if_neg UO];try rfl;done)|rfl
   refine⟨VI,by rw[e] <;> rfl,?_⟩;rw[e];exact VD.weak (by omega)
theorem Rm (hM:MemH mb M (k+9) T) (hS:SetIn F t.S) (hE:¬ t.j=0->cF F) (hC:CodeIn F t.code t.cA t.cn) :af1 133 #[vP tb 0] (ap [(tb,.lit (Stp.l t mb) 253 (0,0))] [T]) F (λ u H'=>∃x,H'=ap [(tb,.lit ((Stp.lp t mb)++(aaa (eR t M).e++[.bool ((eR t M).em)])) 253 (0,0))] [x]/\(MemH mb (eR t M).M k x)):=by
 have hp:=hS.pl;have hn:=hS.nb;have hr:=hS.room;refine QF Tryz.func133 (mc hS.blk mn)<|OG 1<|aak [] []<|af [] [0,4,1,5,2,6,3,7] (ow 0 17)<|aac [] 8 (λ X_=>(ly t.i hS.toSetN)) ?_;have Xo:=lx hS.toSetN t.i;refine afZ [9]<|QQ 8<|aal (ai t.S t.i<0) 14 (λ h2=>?_) λ h2=>?_
 ·refine OG 4<|aai [0] [0] (fi t 2 0 tb (k+6) hM hS.up ) ?_;rintro _ T3 R_;refine OG 2<|QI [] [0] [0] (.tuple #[]) (ap [(tb,.lit (Stp.l t mb) 253 (0,0))] [T3]) ?_;have e:(eR t M)=⟨(aZ t 2 0 M),0,⟨t.f0,t.f1,t.f2,t.f3⟩,t.emitted⟩:=by
   first|(simp only[eR,VR.z,if_pos h2];try rfl;done)|rfl
  refine⟨T3,by rw[e] <;> rfl,?_⟩;rw[e];exact R_.weak (by omega)
 ·refine ah 11 [.o 0,.nw] [aX ((ai t.S t.i)+2)] λ _=>aah (aA ((ai t.S t.i)+2) hM (ar 0))<|OG 8<|aai [0] [0] (LU t (M.get ((ai t.S t.i)+2)) (!(decide (M.get ((ai t.S t.i)+2)=0))) tb (k+1) hM hS.up (λ h_=>aC (hE h_)) hC.up) ?_;rintro _ T5 Vc;refine OG 1<|QI [] [0] [0] (.tuple #[]) (ap [(tb,.lit ((Stp.lp t mb)++(aaa (cz t (M.get ((ai t.S t.i)+2)) (!(decide (M.get ((ai t.S t.i)+2)=0))) M).e++[.bool ((cz t (M.get ((ai t.S t.i)+2)) (!(decide (M.get ((ai t.S t.i)+2)=0))) M).em)])) 253 (0,0))] [T5]) ?_;have e:(eR t M)=⟨(cz t (M.get ((ai t.S t.i)+2)) (!(decide (M.get ((ai t.S t.i)+2)=0))) M).M,0,⟨(cz t (M.get ((ai t.S t.i)+2)) (!(decide (M.get ((ai t.S t.i)+2)=0))) M).e.t,(cz t (M.get ((ai t.S t.i)+2)) (!(decide (M.get ((ai t.S t.i)+2)=0))) M).e.i,(cz t (M.get ((ai t.S t.i)+2)) (!(decide (M.get ((ai t.S t.i)+2)=0))) M).e.k,(cz t (M.get ((ai t.S t.i)+2)) (!(decide (M.get ((ai t.S t.i)+2)=0))) M).e.v⟩,(cz t (M.get ((ai t.S t.i)+2)) (!(decide (M.get ((ai t.S t.i)+2)=0))) M).em⟩:=by
   first|(simp only[eR,VR.z,if_neg h2];try rfl;done)|rfl
  refine⟨T5,by rw[e] <;> rfl,?_⟩;rw[e];exact Vc.weak (by omega)
theorem O8 (hM:MemH mb M (k+9) T) (hS:SetIn F t.S) (hE:¬ t.j=0->cF F) (hC:CodeIn F t.code t.cA t.cn) :af1 134 #[vP tb 0] (ap [(tb,.lit (Stp.l t mb) 253 (0,0))] [T]) F (λ u H'=>∃x,H'=ap [(tb,.lit ((Stp.lp t mb)++(aaa (cG t M).e++[.bool ((cG t M).em)])) 253 (0,0))] [x]/\(MemH mb (cG t M).M k x)):=by
 have hp:=hS.pl;have hn:=hS.nb;have hr:=hS.room;refine QF Tryz.func134 (mc hS.blk mn)<|OG 3<|aai [0] [0] (O7 t 0 0 tb (k+3) hM hS.up (λ h_=>aC (hE h_)) hC.up) ?_;rintro _ T1 ⟨Zu,rfl⟩;refine OG 2<|il (jO t 0 0 M) 3 (λ h3=>?_) λ h3=>?_
 ·refine OG 3<|aai [0] [0] (fi (t.upd (cU t 0 0 M)) 3 0 tb k Zu hS.up ) ?_;rintro _ T4 XE;refine OG 1<|QI [] [0] [0] (.tuple #[]) (ap [(tb,.lit ((Stp.lp t mb)++(aaa (cU t 0 0 M).e++[.bool ((cU t 0 0 M).em)])) 253 (0,0))] [T4]) ?_;have e:(cG t M)=⟨(aZ (t.upd (cU t 0 0 M)) 3 0 ((cU t 0 0 M).M)),0,⟨(cU t 0 0 M).e.t,(cU t 0 0 M).e.i,(cU t 0 0 M).e.k,(cU t 0 0 M).e.v⟩,(cU t 0 0 M).em⟩:=by
   first|(simp only[cG,VR.z,if_pos h3];try rfl;done)|rfl
  refine⟨T4,by rw[e] <;> rfl,?_⟩;rw[e];exact XE.weak (by omega)
 ·refine OG 2<|QI [] [0] [0] (.tuple #[]) (ap [(tb,.lit ((Stp.lp t mb)++(aaa (cU t 0 0 M).e++[.bool ((cU t 0 0 M).em)])) 253 (0,0))] [T1]) ?_;have e:(cG t M)=⟨(cU t 0 0 M).M,0,⟨(cU t 0 0 M).e.t,(cU t 0 0 M).e.i,(cU t 0 0 M).e.k,(cU t 0 0 M).e.v⟩,(cU t 0 0 M).em⟩:=by
   first|(simp only[cG,VR.z,if_neg h3];try rfl;done)|rfl
  refine⟨T1,by rw[e] <;> rfl,?_⟩;rw[e];exact Zu.weak (by omega)
theorem Rn (hM:MemH mb M (k+9) T) (hS:SetIn F t.S) (hE:¬ t.j=0->cF F) (hC:CodeIn F t.code t.cA t.cn) :af1 138 #[vP tb 0] (ap [(tb,.lit (Stp.l t mb) 253 (0,0))] [T]) F (λ u H'=>∃x,H'=ap [(tb,.lit ((Stp.lp t mb)++(aaa (eS t M).e++[.bool ((eS t M).em)])) 253 (0,0))] [x]/\(MemH mb (eS t M).M k x)):=by
 have hp:=hS.pl;have hn:=hS.nb;have hr:=hS.room;refine QF Tryz.func138 (mc hS.blk mn)<|OG 1<|aak [] []<|af [] [0,4,1,5,2,6,3,7] (ow 0 17)<|aac [] 8 (λ X_=>(dh t.i hS.toSetN)) ?_;have Xo:=dg hS.toSetN t.i;refine afZ [9]<|QQ 8<|aal (ag t.S t.i<0) 14 (λ h2=>?_) λ h2=>?_
 ·refine OG 4<|aai [0] [0] (fi t 7 0 tb (k+6) hM hS.up ) ?_;rintro _ T3 R_;refine OG 2<|QI [] [0] [0] (.tuple #[]) (ap [(tb,.lit (Stp.l t mb) 253 (0,0))] [T3]) ?_;have e:(eS t M)=⟨(aZ t 7 0 M),0,⟨t.f0,t.f1,t.f2,t.f3⟩,t.emitted⟩:=by
   first|(simp only[eS,VR.z,if_pos h2];try rfl;done)|rfl
  refine⟨T3,by rw[e] <;> rfl,?_⟩;rw[e];exact R_.weak (by omega)
 ·refine ah 11 [.o 0,.nw] [aX ((ag t.S t.i)+6)] λ _=>aah (aA ((ag t.S t.i)+6) hM (ar 0))<|OG 9<|aai [0] [0] (LW t (i64.wrap ((M.get ((ag t.S t.i)+6))-1)) (!(decide (M.get ((ag t.S t.i)+6)=0))) tb (k+1) hM hS.up (λ h_=>aC (hE h_)) hC.up) ?_;rintro _ T5 Vc;refine OG 1<|QI [] [0] [0] (.tuple #[]) (ap [(tb,.lit ((Stp.lp t mb)++(aaa (cB t (i64.wrap ((M.get ((ag t.S t.i)+6))-1)) (!(decide (M.get ((ag t.S t.i)+6)=0))) M).e++[.bool ((cB t (i64.wrap ((M.get ((ag t.S t.i)+6))-1)) (!(decide (M.get ((ag t.S t.i)+6)=0))) M).em)])) 253 (0,0))] [T5]) ?_;have e:(eS t M)=⟨(cB t (i64.wrap ((M.get ((ag t.S t.i)+6))-1)) (!(decide (M.get ((ag t.S t.i)+6)=0))) M).M,0,⟨(cB t (i64.wrap ((M.get ((ag t.S t.i)+6))-1)) (!(decide (M.get ((ag t.S t.i)+6)=0))) M).e.t,(cB t (i64.wrap ((M.get ((ag t.S t.i)+6))-1)) (!(decide (M.get ((ag t.S t.i)+6)=0))) M).e.i,(cB t (i64.wrap ((M.get ((ag t.S t.i)+6))-1)) (!(decide (M.get ((ag t.S t.i)+6)=0))) M).e.k,(cB t (i64.wrap ((M.get ((ag t.S t.i)+6))-1)) (!(decide (M.get ((ag t.S t.i)+6)=0))) M).e.v⟩,(cB t (i64.wrap ((M.get ((ag t.S t.i)+6))-1)) (!(decide (M.get ((ag t.S t.i)+6)=0))) M).em⟩:=by
   first|(simp only[eS,VR.z,if_neg h2];try rfl;done)|rfl
  refine⟨T5,by rw[e] <;> rfl,?_⟩;rw[e];exact Vc.weak (by omega)
end Go.Proofs.YtjokannbjmndfaaGreatDoor
