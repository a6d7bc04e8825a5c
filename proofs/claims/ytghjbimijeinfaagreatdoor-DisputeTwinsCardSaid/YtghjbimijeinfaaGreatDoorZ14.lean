import Derived.Test.YtghjbimijeinfaaGreatDoorZ13
set_option maxHeartbeats 4000000
set_option maxRecDepth 100000
set_option linter.unusedSimpArgs false
set_option linter.unusedVariables false
namespace Go.Proofs.YtghjbimijeinfaaGreatDoor
open Go.RowKit
def VR.z (r:VR):VR:=⟨r.M,0,r.e,r.em⟩
abbrev Stp.f (t:Stp):Eff:=⟨t.f0,t.f1,t.f2,t.f3⟩
def Stp.upd (t:Stp) (r:VR):Stp:={ t with f0:=r.e.t,f1:=r.e.i,f2:=r.e.k,f3:=r.e.v,emitted:=r.em }
def ez (e:Int) (t:Stp) (self other:Int) (M:MemS):VR:=if t.j=0 then (if e < 0 then ⟨aM e t.S.fuel self other M,0,t.f,t.emitted⟩ else ⟨(aM e t.S.fuel self other M).set 3 1,0,t.f,t.emitted⟩) else ⟨(ak t.S t.code t.cn M).M,0,(ak t.S t.code t.cn M).e,(ak t.S t.code t.cn M).em⟩
def c9 (e:Int) (t:Stp) (self other:Int) (M:MemS):Bool:=if t.j=0 then decide (e < 0) else bg t.code t.cn M
abbrev bW (t:Stp) (a b:Int) (M:MemS):VR:=ez t.e0 t a b M
abbrev cT (t:Stp) (a b:Int) (M:MemS):VR:=ez t.e1 t a b M
abbrev bX (t:Stp) (a b:Int) (M:MemS):VR:=ez t.e2 t a b M
abbrev i6 (t:Stp) (a b:Int) (M:MemS):Bool:=c9 t.e0 t a b M
abbrev jk (t:Stp) (a b:Int) (M:MemS):Bool:=c9 t.e1 t a b M
abbrev i7 (t:Stp) (a b:Int) (M:MemS):Bool:=c9 t.e2 t a b M
def dm (r:VR) (over:Bool) (t:Stp) (cause:Bool) (M:MemS):VR:=if t.j=0 then (if cause=true then (if over=true then ⟨r.M.set 2 (aY (t.i+1)),0,r.e,r.em⟩ else ⟨r.M,0,r.e,r.em⟩) else ⟨M.set 2 (aY (t.i+1)),0,t.f,t.emitted⟩) else (if over=true then ⟨(r.M.set 3 0).set 2 (aY (t.i+1)),0,r.e,r.em⟩ else ⟨r.M,0,r.e,r.em⟩)
abbrev cE (t:Stp) (b:Int) (c:Bool) (M:MemS):VR:=dm (bW t t.i b M) (i6 t t.i b M) t c M
abbrev cF (t:Stp) (b:Int) (c:Bool) (M:MemS):VR:=dm (bX t t.i b M) (i7 t t.i b M) t c M
def eS (t:Stp) (M:MemS):VR:=if ah t.S t.i < 0 then ⟨aL t 2 0 M,0,t.f,t.emitted⟩ else (cE t (M.get (ah t.S t.i+2)) (!decide (M.get (ah t.S t.i+2)=0)) M).z
def cO (t:Stp) (M:MemS):VR:=if jk t 0 0 M=true then ⟨aL t 3 0 (cT t 0 0 M).M,0,(cT t 0 0 M).e,(cT t 0 0 M).em⟩ else ⟨(cT t 0 0 M).M,0,(cT t 0 0 M).e,(cT t 0 0 M).em⟩
def eT (t:Stp) (M:MemS):VR:=if af t.S t.i < 0 then ⟨aL t 7 0 M,0,t.f,t.emitted⟩ else (cF t (aY (M.get (af t.S t.i+6) - 1)) (!decide (M.get (af t.S t.i+6)=0)) M).z
theorem Dp (t:Stp) (a:Int) (b:Int) (tb mb:Nat) (M:MemS) (k:Nat) (T F:HL) (hM:MemH mb M (k+6) T) (hS:SetIn F t.S) (hE:cN F) (hC:CodeIn F t.code t.cA t.cn) :Sp Tryz.prog 87 #[vP tb 0,vI 0,vI a,vI b] (ap [(tb,.lit (Stp.l t mb) 140 (0,0))] [T]) F (λ u H'=>∃ x,H'=ap [(tb,.lit ((Stp.lp t mb)++[vI ((bW t a b M).e.t),vI ((bW t a b M).e.i),vI ((bW t a b M).e.k),vI ((bW t a b M).e.v),.bool ((bW t a b M).em)]) 140 (0,0))] [x] /\ (MemH mb (bW t a b M).M k x /\ u=.bool (i6 t a b M))):=by
 have hp:=hS.pl
 have hn:=hS.nb
 have hr:=hS.room
 refine Sp.run Tryz.func87 rfl (mc hS.blk mn) (A:=[(tb,.lit (Stp.l t mb) 140 (0,0))]) (Ts:=[T]) rfl λ w0=>?_
 refine ae 15 [.own 0] λ _=>RN.em (t.j=0) 16 (λ h1=>?_) λ h1=>?_
 ·refine ae 3 [] λ _=>RN.draw [16] []<|ag [] [0,4,8,9,10,11,1,5,12,2,6,13,3,7,14,15] (ow 0 6)<|RD.one 16 (RDO.ct [] [] [0] (Dk mb M (k+1) T t.cA t.cn t.cc t.e0 t.e1 t.e2 a b t.S.fuel _ hM) ?_)
  rintro _ T2 ⟨hM3,rfl⟩
  refine ag [] [17] []<|RD.fin<|ae 1 [] λ _=>?_
  rcases Decidable.em (t.e0 < 0) with h4 | h4
  ·refine dj 34 (nf (nt (decide_eq_true h4)))<|ae 6 [] λ _=>RN.ret [] [0] [0] (v:=.bool true) (H':=(ap [(tb,.lit (Stp.l t mb) 140 (0,0))] [T2])) ?_
   have e:(bW t a b M)=⟨(aM t.e0 t.S.fuel a b M),0,⟨t.f0,t.f1,t.f2,t.f3⟩,t.emitted⟩:=by
    first | (simp only [bW,ez,if_pos h1,if_pos h4];done) | (simp only [bW,ez,if_pos h1,if_pos h4];rfl) | rfl
   have er:(i6 t a b M)=true:=by
    first | (simp only [i6,c9,if_pos h1,if_pos h4];done) | (simp only [i6,c9,if_pos h1,if_pos h4];simp [*];done) | (simp only [i6,c9,if_pos h1,if_pos h4];rfl)
   refine ⟨T2,by rw [e] <;> rfl,?_,by rw [er]⟩
   rw [e]
   exact hM3.weak (by omega)
  ·refine dj 34 (nt (nf (decide_eq_false h4)))<|ae 9 [.own 0] λ _=>RN.ct [] [0] (ai 3 1 hM3) ?_
   rintro _ T5 hM6
   refine ae 7 [] λ _=>RN.ret [] [0] [0] (v:=.bool false) (H':=(ap [(tb,.lit (Stp.l t mb) 140 (0,0))] [T5])) ?_
   have e:(bW t a b M)=⟨((aM t.e0 t.S.fuel a b M).set 3 1),0,⟨t.f0,t.f1,t.f2,t.f3⟩,t.emitted⟩:=by
    first | (simp only [bW,ez,if_pos h1,if_neg h4];done) | (simp only [bW,ez,if_pos h1,if_neg h4];rfl) | rfl
   have er:(i6 t a b M)=false:=by
    first | (simp only [i6,c9,if_pos h1,if_neg h4];done) | (simp only [i6,c9,if_pos h1,if_neg h4];simp [*];done) | (simp only [i6,c9,if_pos h1,if_neg h4];rfl)
   refine ⟨T5,by rw [e] <;> rfl,?_,by rw [er]⟩
   rw [e]
   exact hM6.weak (by omega)
 ·refine ae 4 [] λ _=>RN.draw [12,19] []<|ag [] [0,4,8,1,5,9,2,6,10,3,7,11] (ow 0 21)<|ee 12 17 ?_ ?_
  ·refine RDO.ct [] [] [0] (gT mb M k T t.S t.code t.cA t.cn t.cc t.e0 t.e1 t.e2 _ hM hS.toSetN (aw hE) hC.up) ?_
   rintro _ T7 ⟨hM8,rfl⟩
   refine ag [] [13,14,15,16] []<|RD.one 17 (RDO.ev [] [] λ n9=>?_)
   refine ag [] [18] []<|RD.one 19 (RDO.ev [] [.own 0,.own 0,.own 0,.own 0] λ _=>?_)
   refine ag [] [20] []<|RD.fin<|ae 21 ([.own 0,.own 0,.own 0,.own 0]++ow 1 5) λ _=>RN.ret [] [1] [0] (v:=.bool (bg t.code t.cn M)) (H':=(ap [(tb,.lit ((Stp.lp t mb)++[vI ((ak t.S t.code t.cn M).e.t),vI ((ak t.S t.code t.cn M).e.i),vI ((ak t.S t.code t.cn M).e.k),vI ((ak t.S t.code t.cn M).e.v),.bool ((ak t.S t.code t.cn M).em)]) 140 (0,0))] [T7])) ?_
   have e:(bW t a b M)=⟨(ak t.S t.code t.cn M).M,0,⟨(ak t.S t.code t.cn M).e.t,(ak t.S t.code t.cn M).e.i,(ak t.S t.code t.cn M).e.k,(ak t.S t.code t.cn M).e.v⟩,(ak t.S t.code t.cn M).em⟩:=by
    first | (simp only [bW,ez,if_neg h1];done) | (simp only [bW,ez,if_neg h1];rfl) | rfl
   have er:(i6 t a b M)=bg t.code t.cn M:=by
    first | (simp only [i6,c9,if_neg h1];done) | (simp only [i6,c9,if_neg h1];simp [*];done) | (simp only [i6,c9,if_neg h1];rfl)
   refine ⟨T7,by rw [e] <;> rfl,?_,by rw [er]⟩
   rw [e]
   exact hM8.weak (by omega)
  ·refine RDO.ev [] [] λ n10=>RD.one 12 (RDO.ct [] [] [0] (gT mb M k T t.S t.code t.cA t.cn t.cc t.e0 t.e1 t.e2 _ hM hS.toSetN (aw hE) hC.up) ?_)
   rintro _ T11 ⟨hM12,rfl⟩
   refine ag [] [13,14,15,16,18] []<|RD.one 19 (RDO.ev [] [.own 0,.own 0,.own 0,.own 0] λ _=>?_)
   refine ag [] [20] []<|RD.fin<|ae 21 ([.own 0,.own 0,.own 0,.own 0]++ow 1 5) λ _=>RN.ret [] [1] [0] (v:=.bool (bg t.code t.cn M)) (H':=(ap [(tb,.lit ((Stp.lp t mb)++[vI ((ak t.S t.code t.cn M).e.t),vI ((ak t.S t.code t.cn M).e.i),vI ((ak t.S t.code t.cn M).e.k),vI ((ak t.S t.code t.cn M).e.v),.bool ((ak t.S t.code t.cn M).em)]) 140 (0,0))] [T11])) ?_
   have e:(bW t a b M)=⟨(ak t.S t.code t.cn M).M,0,⟨(ak t.S t.code t.cn M).e.t,(ak t.S t.code t.cn M).e.i,(ak t.S t.code t.cn M).e.k,(ak t.S t.code t.cn M).e.v⟩,(ak t.S t.code t.cn M).em⟩:=by
    first | (simp only [bW,ez,if_neg h1];done) | (simp only [bW,ez,if_neg h1];rfl) | rfl
   have er:(i6 t a b M)=bg t.code t.cn M:=by
    first | (simp only [i6,c9,if_neg h1];done) | (simp only [i6,c9,if_neg h1];simp [*];done) | (simp only [i6,c9,if_neg h1];rfl)
   refine ⟨T11,by rw [e] <;> rfl,?_,by rw [er]⟩
   rw [e]
   exact hM12.weak (by omega)
theorem J4 (t:Stp) (a:Int) (b:Int) (tb mb:Nat) (M:MemS) (k:Nat) (T F:HL) (hM:MemH mb M (k+6) T) (hS:SetIn F t.S) (hE:cN F) (hC:CodeIn F t.code t.cA t.cn) :Sp Tryz.prog 87 #[vP tb 0,vI 1,vI a,vI b] (ap [(tb,.lit (Stp.l t mb) 140 (0,0))] [T]) F (λ u H'=>∃ x,H'=ap [(tb,.lit ((Stp.lp t mb)++[vI ((cT t a b M).e.t),vI ((cT t a b M).e.i),vI ((cT t a b M).e.k),vI ((cT t a b M).e.v),.bool ((cT t a b M).em)]) 140 (0,0))] [x] /\ (MemH mb (cT t a b M).M k x /\ u=.bool (jk t a b M))):=by
 have hp:=hS.pl
 have hn:=hS.nb
 have hr:=hS.room
 refine Sp.run Tryz.func87 rfl (mc hS.blk mn) (A:=[(tb,.lit (Stp.l t mb) 140 (0,0))]) (Ts:=[T]) rfl λ w0=>?_
 refine ae 15 [.own 0] λ _=>RN.em (t.j=0) 16 (λ h1=>?_) λ h1=>?_
 ·refine ae 3 [] λ _=>RN.draw [16] []<|ag [] [0,4,8,9,10,11,1,5,12,2,6,13,3,7,14,15] (ow 0 6)<|RD.one 16 (RDO.ct [] [] [0] (Dl mb M (k+1) T t.cA t.cn t.cc t.e0 t.e1 t.e2 a b t.S.fuel _ hM) ?_)
  rintro _ T2 ⟨hM3,rfl⟩
  refine ag [] [17] []<|RD.fin<|ae 1 [] λ _=>?_
  rcases Decidable.em (t.e1 < 0) with h4 | h4
  ·refine dj 34 (nf (nt (decide_eq_true h4)))<|ae 6 [] λ _=>RN.ret [] [0] [0] (v:=.bool true) (H':=(ap [(tb,.lit (Stp.l t mb) 140 (0,0))] [T2])) ?_
   have e:(cT t a b M)=⟨(aM t.e1 t.S.fuel a b M),0,⟨t.f0,t.f1,t.f2,t.f3⟩,t.emitted⟩:=by
    first | (simp only [cT,ez,if_pos h1,if_pos h4];done) | (simp only [cT,ez,if_pos h1,if_pos h4];rfl) | rfl
   have er:(jk t a b M)=true:=by
    first | (simp only [jk,c9,if_pos h1,if_pos h4];done) | (simp only [jk,c9,if_pos h1,if_pos h4];simp [*];done) | (simp only [jk,c9,if_pos h1,if_pos h4];rfl)
   refine ⟨T2,by rw [e] <;> rfl,?_,by rw [er]⟩
   rw [e]
   exact hM3.weak (by omega)
  ·refine dj 34 (nt (nf (decide_eq_false h4)))<|ae 9 [.own 0] λ _=>RN.ct [] [0] (ai 3 1 hM3) ?_
   rintro _ T5 hM6
   refine ae 7 [] λ _=>RN.ret [] [0] [0] (v:=.bool false) (H':=(ap [(tb,.lit (Stp.l t mb) 140 (0,0))] [T5])) ?_
   have e:(cT t a b M)=⟨((aM t.e1 t.S.fuel a b M).set 3 1),0,⟨t.f0,t.f1,t.f2,t.f3⟩,t.emitted⟩:=by
    first | (simp only [cT,ez,if_pos h1,if_neg h4];done) | (simp only [cT,ez,if_pos h1,if_neg h4];rfl) | rfl
   have er:(jk t a b M)=false:=by
    first | (simp only [jk,c9,if_pos h1,if_neg h4];done) | (simp only [jk,c9,if_pos h1,if_neg h4];simp [*];done) | (simp only [jk,c9,if_pos h1,if_neg h4];rfl)
   refine ⟨T5,by rw [e] <;> rfl,?_,by rw [er]⟩
   rw [e]
   exact hM6.weak (by omega)
 ·refine ae 4 [] λ _=>RN.draw [12,19] []<|ag [] [0,4,8,1,5,9,2,6,10,3,7,11] (ow 0 21)<|ee 12 17 ?_ ?_
  ·refine RDO.ct [] [] [0] (gT mb M k T t.S t.code t.cA t.cn t.cc t.e0 t.e1 t.e2 _ hM hS.toSetN (aw hE) hC.up) ?_
   rintro _ T7 ⟨hM8,rfl⟩
   refine ag [] [13,14,15,16] []<|RD.one 17 (RDO.ev [] [] λ n9=>?_)
   refine ag [] [18] []<|RD.one 19 (RDO.ev [] [.own 0,.own 0,.own 0,.own 0] λ _=>?_)
   refine ag [] [20] []<|RD.fin<|ae 21 ([.own 0,.own 0,.own 0,.own 0]++ow 1 5) λ _=>RN.ret [] [1] [0] (v:=.bool (bg t.code t.cn M)) (H':=(ap [(tb,.lit ((Stp.lp t mb)++[vI ((ak t.S t.code t.cn M).e.t),vI ((ak t.S t.code t.cn M).e.i),vI ((ak t.S t.code t.cn M).e.k),vI ((ak t.S t.code t.cn M).e.v),.bool ((ak t.S t.code t.cn M).em)]) 140 (0,0))] [T7])) ?_
   have e:(cT t a b M)=⟨(ak t.S t.code t.cn M).M,0,⟨(ak t.S t.code t.cn M).e.t,(ak t.S t.code t.cn M).e.i,(ak t.S t.code t.cn M).e.k,(ak t.S t.code t.cn M).e.v⟩,(ak t.S t.code t.cn M).em⟩:=by
    first | (simp only [cT,ez,if_neg h1];done) | (simp only [cT,ez,if_neg h1];rfl) | rfl
   have er:(jk t a b M)=bg t.code t.cn M:=by
    first | (simp only [jk,c9,if_neg h1];done) | (simp only [jk,c9,if_neg h1];simp [*];done) | (simp only [jk,c9,if_neg h1];rfl)
   refine ⟨T7,by rw [e] <;> rfl,?_,by rw [er]⟩
   rw [e]
   exact hM8.weak (by omega)
  ·refine RDO.ev [] [] λ n10=>RD.one 12 (RDO.ct [] [] [0] (gT mb M k T t.S t.code t.cA t.cn t.cc t.e0 t.e1 t.e2 _ hM hS.toSetN (aw hE) hC.up) ?_)
   rintro _ T11 ⟨hM12,rfl⟩
   refine ag [] [13,14,15,16,18] []<|RD.one 19 (RDO.ev [] [.own 0,.own 0,.own 0,.own 0] λ _=>?_)
   refine ag [] [20] []<|RD.fin<|ae 21 ([.own 0,.own 0,.own 0,.own 0]++ow 1 5) λ _=>RN.ret [] [1] [0] (v:=.bool (bg t.code t.cn M)) (H':=(ap [(tb,.lit ((Stp.lp t mb)++[vI ((ak t.S t.code t.cn M).e.t),vI ((ak t.S t.code t.cn M).e.i),vI ((ak t.S t.code t.cn M).e.k),vI ((ak t.S t.code t.cn M).e.v),.bool ((ak t.S t.code t.cn M).em)]) 140 (0,0))] [T11])) ?_
   have e:(cT t a b M)=⟨(ak t.S t.code t.cn M).M,0,⟨(ak t.S t.code t.cn M).e.t,(ak t.S t.code t.cn M).e.i,(ak t.S t.code t.cn M).e.k,(ak t.S t.code t.cn M).e.v⟩,(ak t.S t.code t.cn M).em⟩:=by
    first | (simp only [cT,ez,if_neg h1];done) | (simp only [cT,ez,if_neg h1];rfl) | rfl
   have er:(jk t a b M)=bg t.code t.cn M:=by
    first | (simp only [jk,c9,if_neg h1];done) | (simp only [jk,c9,if_neg h1];simp [*];done) | (simp only [jk,c9,if_neg h1];rfl)
   refine ⟨T11,by rw [e] <;> rfl,?_,by rw [er]⟩
   rw [e]
   exact hM12.weak (by omega)
theorem Dq (t:Stp) (a:Int) (b:Int) (tb mb:Nat) (M:MemS) (k:Nat) (T F:HL) (hM:MemH mb M (k+6) T) (hS:SetIn F t.S) (hE:cN F) (hC:CodeIn F t.code t.cA t.cn) :Sp Tryz.prog 87 #[vP tb 0,vI 2,vI a,vI b] (ap [(tb,.lit (Stp.l t mb) 140 (0,0))] [T]) F (λ u H'=>∃ x,H'=ap [(tb,.lit ((Stp.lp t mb)++[vI ((bX t a b M).e.t),vI ((bX t a b M).e.i),vI ((bX t a b M).e.k),vI ((bX t a b M).e.v),.bool ((bX t a b M).em)]) 140 (0,0))] [x] /\ (MemH mb (bX t a b M).M k x /\ u=.bool (i7 t a b M))):=by
 have hp:=hS.pl
 have hn:=hS.nb
 have hr:=hS.room
 refine Sp.run Tryz.func87 rfl (mc hS.blk mn) (A:=[(tb,.lit (Stp.l t mb) 140 (0,0))]) (Ts:=[T]) rfl λ w0=>?_
 refine ae 15 [.own 0] λ _=>RN.em (t.j=0) 16 (λ h1=>?_) λ h1=>?_
 ·refine ae 3 [] λ _=>RN.draw [16] []<|ag [] [0,4,8,9,10,11,1,5,12,2,6,13,3,7,14,15] (ow 0 6)<|RD.one 16 (RDO.ct [] [] [0] (Dm mb M (k+1) T t.cA t.cn t.cc t.e0 t.e1 t.e2 a b t.S.fuel _ hM) ?_)
  rintro _ T2 ⟨hM3,rfl⟩
  refine ag [] [17] []<|RD.fin<|ae 1 [] λ _=>?_
  rcases Decidable.em (t.e2 < 0) with h4 | h4
  ·refine dj 34 (nf (nt (decide_eq_true h4)))<|ae 6 [] λ _=>RN.ret [] [0] [0] (v:=.bool true) (H':=(ap [(tb,.lit (Stp.l t mb) 140 (0,0))] [T2])) ?_
   have e:(bX t a b M)=⟨(aM t.e2 t.S.fuel a b M),0,⟨t.f0,t.f1,t.f2,t.f3⟩,t.emitted⟩:=by
    first | (simp only [bX,ez,if_pos h1,if_pos h4];done) | (simp only [bX,ez,if_pos h1,if_pos h4];rfl) | rfl
   have er:(i7 t a b M)=true:=by
    first | (simp only [i7,c9,if_pos h1,if_pos h4];done) | (simp only [i7,c9,if_pos h1,if_pos h4];simp [*];done) | (simp only [i7,c9,if_pos h1,if_pos h4];rfl)
   refine ⟨T2,by rw [e] <;> rfl,?_,by rw [er]⟩
   rw [e]
   exact hM3.weak (by omega)
  ·refine dj 34 (nt (nf (decide_eq_false h4)))<|ae 9 [.own 0] λ _=>RN.ct [] [0] (ai 3 1 hM3) ?_
   rintro _ T5 hM6
   refine ae 7 [] λ _=>RN.ret [] [0] [0] (v:=.bool false) (H':=(ap [(tb,.lit (Stp.l t mb) 140 (0,0))] [T5])) ?_
   have e:(bX t a b M)=⟨((aM t.e2 t.S.fuel a b M).set 3 1),0,⟨t.f0,t.f1,t.f2,t.f3⟩,t.emitted⟩:=by
    first | (simp only [bX,ez,if_pos h1,if_neg h4];done) | (simp only [bX,ez,if_pos h1,if_neg h4];rfl) | rfl
   have er:(i7 t a b M)=false:=by
    first | (simp only [i7,c9,if_pos h1,if_neg h4];done) | (simp only [i7,c9,if_pos h1,if_neg h4];simp [*];done) | (simp only [i7,c9,if_pos h1,if_neg h4];rfl)
   refine ⟨T5,by rw [e] <;> rfl,?_,by rw [er]⟩
   rw [e]
   exact hM6.weak (by omega)
 ·refine ae 4 [] λ _=>RN.draw [12,19] []<|ag [] [0,4,8,1,5,9,2,6,10,3,7,11] (ow 0 21)<|ee 12 17 ?_ ?_
  ·refine RDO.ct [] [] [0] (gT mb M k T t.S t.code t.cA t.cn t.cc t.e0 t.e1 t.e2 _ hM hS.toSetN (aw hE) hC.up) ?_
   rintro _ T7 ⟨hM8,rfl⟩
   refine ag [] [13,14,15,16] []<|RD.one 17 (RDO.ev [] [] λ n9=>?_)
   refine ag [] [18] []<|RD.one 19 (RDO.ev [] [.own 0,.own 0,.own 0,.own 0] λ _=>?_)
   refine ag [] [20] []<|RD.fin<|ae 21 ([.own 0,.own 0,.own 0,.own 0]++ow 1 5) λ _=>RN.ret [] [1] [0] (v:=.bool (bg t.code t.cn M)) (H':=(ap [(tb,.lit ((Stp.lp t mb)++[vI ((ak t.S t.code t.cn M).e.t),vI ((ak t.S t.code t.cn M).e.i),vI ((ak t.S t.code t.cn M).e.k),vI ((ak t.S t.code t.cn M).e.v),.bool ((ak t.S t.code t.cn M).em)]) 140 (0,0))] [T7])) ?_
   have e:(bX t a b M)=⟨(ak t.S t.code t.cn M).M,0,⟨(ak t.S t.code t.cn M).e.t,(ak t.S t.code t.cn M).e.i,(ak t.S t.code t.cn M).e.k,(ak t.S t.code t.cn M).e.v⟩,(ak t.S t.code t.cn M).em⟩:=by
    first | (simp only [bX,ez,if_neg h1];done) | (simp only [bX,ez,if_neg h1];rfl) | rfl
   have er:(i7 t a b M)=bg t.code t.cn M:=by
    first | (simp only [i7,c9,if_neg h1];done) | (simp only [i7,c9,if_neg h1];simp [*];done) | (simp only [i7,c9,if_neg h1];rfl)
   refine ⟨T7,by rw [e] <;> rfl,?_,by rw [er]⟩
   rw [e]
   exact hM8.weak (by omega)
  ·refine RDO.ev [] [] λ n10=>RD.one 12 (RDO.ct [] [] [0] (gT mb M k T t.S t.code t.cA t.cn t.cc t.e0 t.e1 t.e2 _ hM hS.toSetN (aw hE) hC.up) ?_)
   rintro _ T11 ⟨hM12,rfl⟩
   refine ag [] [13,14,15,16,18] []<|RD.one 19 (RDO.ev [] [.own 0,.own 0,.own 0,.own 0] λ _=>?_)
   refine ag [] [20] []<|RD.fin<|ae 21 ([.own 0,.own 0,.own 0,.own 0]++ow 1 5) λ _=>RN.ret [] [1] [0] (v:=.bool (bg t.code t.cn M)) (H':=(ap [(tb,.lit ((Stp.lp t mb)++[vI ((ak t.S t.code t.cn M).e.t),vI ((ak t.S t.code t.cn M).e.i),vI ((ak t.S t.code t.cn M).e.k),vI ((ak t.S t.code t.cn M).e.v),.bool ((ak t.S t.code t.cn M).em)]) 140 (0,0))] [T11])) ?_
   have e:(bX t a b M)=⟨(ak t.S t.code t.cn M).M,0,⟨(ak t.S t.code t.cn M).e.t,(ak t.S t.code t.cn M).e.i,(ak t.S t.code t.cn M).e.k,(ak t.S t.code t.cn M).e.v⟩,(ak t.S t.code t.cn M).em⟩:=by
    first | (simp only [bX,ez,if_neg h1];done) | (simp only [bX,ez,if_neg h1];rfl) | rfl
   have er:(i7 t a b M)=bg t.code t.cn M:=by
    first | (simp only [i7,c9,if_neg h1];done) | (simp only [i7,c9,if_neg h1];simp [*];done) | (simp only [i7,c9,if_neg h1];rfl)
   refine ⟨T11,by rw [e] <;> rfl,?_,by rw [er]⟩
   rw [e]
   exact hM12.weak (by omega)
theorem G3 (t:Stp) (b:Int) (c:Bool) (tb mb:Nat) (M:MemS) (k:Nat) (T F:HL) (hM:MemH mb M (k+8) T) (hS:SetIn F t.S) (hE:cN F) (hC:CodeIn F t.code t.cA t.cn) :Sp Tryz.prog 86 #[vP tb 0,vI 0,vI b,.bool c] (ap [(tb,.lit (Stp.l t mb) 140 (0,0))] [T]) F (λ u H'=>∃ x,H'=ap [(tb,.lit ((Stp.lp t mb)++[vI ((cE t b c M).e.t),vI ((cE t b c M).e.i),vI ((cE t b c M).e.k),vI ((cE t b c M).e.v),.bool ((cE t b c M).em)]) 140 (0,0))] [x] /\ (MemH mb (cE t b c M).M k x)):=by
 have hp:=hS.pl
 have hn:=hS.nb
 have hr:=hS.room
 refine Sp.run Tryz.func86 rfl (mc hS.blk mn) (A:=[(tb,.lit (Stp.l t mb) 140 (0,0))]) (Ts:=[T]) rfl λ w0=>?_
 refine ae 8 [.own 0] λ _=>RN.em (t.j=0) 13 (λ h1=>?_) λ h1=>?_
 ·refine ae 5 [] λ _=>mG (c) 16 (λ h2=>?_) λ h2=>?_
  ·refine ae 10 [.own 0] λ _=>RN.ct [0] [0] (Dp t t.i b tb mb M (k+2) T _ hM hS.up (aw hE) hC.up) ?_
   rintro _ T3 ⟨hM4,rfl⟩
   refine ae 2 [] λ _=>gE (i6 t t.i b M) 36 (λ h5=>?_) λ h5=>?_
   ·refine ae 11 [.own 0] λ _=>dj 41 (nt (decide_eq_true h1))<|ae 3 [] λ _=>RN.draw [11] []<|ag [] [0,4,1,5,2,6,3,7,8,9,10] [.own 0,.own 0]<|RD.one 11 (RDO.ct [] [] [0] (ai 2 (IntKind.i64.wrap (t.i+1)) hM4) ?_)
    rintro _ T6 hM7
    refine RD.fin<|RN.ret [] [0] [0] (v:=.tuple #[]) (H':=(ap [(tb,.lit ((Stp.lp t mb)++[vI ((bW t t.i b M).e.t),vI ((bW t t.i b M).e.i),vI ((bW t t.i b M).e.k),vI ((bW t t.i b M).e.v),.bool ((bW t t.i b M).em)]) 140 (0,0))] [T6])) ?_
    have e:(cE t b c M)=⟨(((bW t t.i b M).M).set 2 (IntKind.i64.wrap (t.i+1))),0,⟨(bW t t.i b M).e.t,(bW t t.i b M).e.i,(bW t t.i b M).e.k,(bW t t.i b M).e.v⟩,(bW t t.i b M).em⟩:=by
     first | (simp only [cE,dm,if_pos h1,if_pos h2,if_pos h5];done) | (simp only [cE,dm,if_pos h1,if_pos h2,if_pos h5];rfl) | rfl
    refine ⟨T6,by rw [e] <;> rfl,?_⟩
    rw [e]
    exact hM7.weak (by omega)
   ·refine ae 2 [] λ _=>RN.ret [] [0] [0] (v:=.tuple #[]) (H':=(ap [(tb,.lit ((Stp.lp t mb)++[vI ((bW t t.i b M).e.t),vI ((bW t t.i b M).e.i),vI ((bW t t.i b M).e.k),vI ((bW t t.i b M).e.v),.bool ((bW t t.i b M).em)]) 140 (0,0))] [T3])) ?_
    have e:(cE t b c M)=⟨(bW t t.i b M).M,0,⟨(bW t t.i b M).e.t,(bW t t.i b M).e.i,(bW t t.i b M).e.k,(bW t t.i b M).e.v⟩,(bW t t.i b M).em⟩:=by
     first | (simp only [cE,dm,if_pos h1,if_pos h2,if_neg h5];done) | (simp only [cE,dm,if_pos h1,if_pos h2,if_neg h5];rfl) | rfl
    refine ⟨T3,by rw [e] <;> rfl,?_⟩
    rw [e]
    exact hM4.weak (by omega)
  ·refine ae 1 [] λ _=>RN.draw [11] []<|ag [] [0,4,1,5,2,6,3,7,8,9,10] [.own 0,.own 0]<|RD.one 11 (RDO.ct [] [] [0] (ai 2 (IntKind.i64.wrap (t.i+1)) hM) ?_)
   rintro _ T8 hM9
   refine RD.fin<|RN.ret [] [0] [0] (v:=.tuple #[]) (H':=(ap [(tb,.lit (Stp.l t mb) 140 (0,0))] [T8])) ?_
   have e:(cE t b c M)=⟨(M.set 2 (IntKind.i64.wrap (t.i+1))),0,⟨t.f0,t.f1,t.f2,t.f3⟩,t.emitted⟩:=by
    first | (simp only [cE,dm,if_pos h1,if_neg h2];done) | (simp only [cE,dm,if_pos h1,if_neg h2];rfl) | rfl
   refine ⟨T8,by rw [e] <;> rfl,?_⟩
   rw [e]
   exact hM9.weak (by omega)
 ·refine ae 15 [.own 0] λ _=>RN.ct [0] [0] (Dp t t.i b tb mb M (k+2) T _ hM hS.up (aw hE) hC.up) ?_
  rintro _ T10 ⟨hM11,rfl⟩
  refine ae 2 [] λ _=>gE (i6 t t.i b M) 36 (λ h12=>?_) λ h12=>?_
  ·refine ae 11 [.own 0] λ _=>dj 41 (nf (decide_eq_false h1))<|ae 6 [.own 0] λ _=>RN.ct [] [0] (ai 3 0 hM11) ?_
   rintro _ T13 hM14
   refine ae 2 [] λ _=>RN.draw [11] []<|ag [] [0,4,1,5,2,6,3,7,8,9,10] [.own 0,.own 0]<|RD.one 11 (RDO.ct [] [] [0] (ai 2 (IntKind.i64.wrap (t.i+1)) hM14) ?_)
   rintro _ T15 hM16
   refine RD.fin<|RN.ret [] [0] [0] (v:=.tuple #[]) (H':=(ap [(tb,.lit ((Stp.lp t mb)++[vI ((bW t t.i b M).e.t),vI ((bW t t.i b M).e.i),vI ((bW t t.i b M).e.k),vI ((bW t t.i b M).e.v),.bool ((bW t t.i b M).em)]) 140 (0,0))] [T15])) ?_
   have e:(cE t b c M)=⟨((((bW t t.i b M).M).set 3 0).set 2 (IntKind.i64.wrap (t.i+1))),0,⟨(bW t t.i b M).e.t,(bW t t.i b M).e.i,(bW t t.i b M).e.k,(bW t t.i b M).e.v⟩,(bW t t.i b M).em⟩:=by
    first | (simp only [cE,dm,if_neg h1,if_pos h12];done) | (simp only [cE,dm,if_neg h1,if_pos h12];rfl) | rfl
   refine ⟨T15,by rw [e] <;> rfl,?_⟩
   rw [e]
   exact hM16.weak (by omega)
  ·refine ae 2 [] λ _=>RN.ret [] [0] [0] (v:=.tuple #[]) (H':=(ap [(tb,.lit ((Stp.lp t mb)++[vI ((bW t t.i b M).e.t),vI ((bW t t.i b M).e.i),vI ((bW t t.i b M).e.k),vI ((bW t t.i b M).e.v),.bool ((bW t t.i b M).em)]) 140 (0,0))] [T10])) ?_
   have e:(cE t b c M)=⟨(bW t t.i b M).M,0,⟨(bW t t.i b M).e.t,(bW t t.i b M).e.i,(bW t t.i b M).e.k,(bW t t.i b M).e.v⟩,(bW t t.i b M).em⟩:=by
    first | (simp only [cE,dm,if_neg h1,if_neg h12];done) | (simp only [cE,dm,if_neg h1,if_neg h12];rfl) | rfl
   refine ⟨T10,by rw [e] <;> rfl,?_⟩
   rw [e]
   exact hM11.weak (by omega)
theorem G4 (t:Stp) (b:Int) (c:Bool) (tb mb:Nat) (M:MemS) (k:Nat) (T F:HL) (hM:MemH mb M (k+8) T) (hS:SetIn F t.S) (hE:cN F) (hC:CodeIn F t.code t.cA t.cn) :Sp Tryz.prog 86 #[vP tb 0,vI 2,vI b,.bool c] (ap [(tb,.lit (Stp.l t mb) 140 (0,0))] [T]) F (λ u H'=>∃ x,H'=ap [(tb,.lit ((Stp.lp t mb)++[vI ((cF t b c M).e.t),vI ((cF t b c M).e.i),vI ((cF t b c M).e.k),vI ((cF t b c M).e.v),.bool ((cF t b c M).em)]) 140 (0,0))] [x] /\ (MemH mb (cF t b c M).M k x)):=by
 have hp:=hS.pl
 have hn:=hS.nb
 have hr:=hS.room
 refine Sp.run Tryz.func86 rfl (mc hS.blk mn) (A:=[(tb,.lit (Stp.l t mb) 140 (0,0))]) (Ts:=[T]) rfl λ w0=>?_
 refine ae 8 [.own 0] λ _=>RN.em (t.j=0) 13 (λ h1=>?_) λ h1=>?_
 ·refine ae 5 [] λ _=>mG (c) 16 (λ h2=>?_) λ h2=>?_
  ·refine ae 10 [.own 0] λ _=>RN.ct [0] [0] (Dq t t.i b tb mb M (k+2) T _ hM hS.up (aw hE) hC.up) ?_
   rintro _ T3 ⟨hM4,rfl⟩
   refine ae 2 [] λ _=>gE (i7 t t.i b M) 36 (λ h5=>?_) λ h5=>?_
   ·refine ae 11 [.own 0] λ _=>dj 41 (nt (decide_eq_true h1))<|ae 3 [] λ _=>RN.draw [11] []<|ag [] [0,4,1,5,2,6,3,7,8,9,10] [.own 0,.own 0]<|RD.one 11 (RDO.ct [] [] [0] (ai 2 (IntKind.i64.wrap (t.i+1)) hM4) ?_)
    rintro _ T6 hM7
    refine RD.fin<|RN.ret [] [0] [0] (v:=.tuple #[]) (H':=(ap [(tb,.lit ((Stp.lp t mb)++[vI ((bX t t.i b M).e.t),vI ((bX t t.i b M).e.i),vI ((bX t t.i b M).e.k),vI ((bX t t.i b M).e.v),.bool ((bX t t.i b M).em)]) 140 (0,0))] [T6])) ?_
    have e:(cF t b c M)=⟨(((bX t t.i b M).M).set 2 (IntKind.i64.wrap (t.i+1))),0,⟨(bX t t.i b M).e.t,(bX t t.i b M).e.i,(bX t t.i b M).e.k,(bX t t.i b M).e.v⟩,(bX t t.i b M).em⟩:=by
     first | (simp only [cF,dm,if_pos h1,if_pos h2,if_pos h5];done) | (simp only [cF,dm,if_pos h1,if_pos h2,if_pos h5];rfl) | rfl
    refine ⟨T6,by rw [e] <;> rfl,?_⟩
    rw [e]
    exact hM7.weak (by omega)
   ·refine ae 2 [] λ _=>RN.ret [] [0] [0] (v:=.tuple #[]) (H':=(ap [(tb,.lit ((Stp.lp t mb)++[vI ((bX t t.i b M).e.t),vI ((bX t t.i b M).e.i),vI ((bX t t.i b M).e.k),vI ((bX t t.i b M).e.v),.bool ((bX t t.i b M).em)]) 140 (0,0))] [T3])) ?_
    have e:(cF t b c M)=⟨(bX t t.i b M).M,0,⟨(bX t t.i b M).e.t,(bX t t.i b M).e.i,(bX t t.i b M).e.k,(bX t t.i b M).e.v⟩,(bX t t.i b M).em⟩:=by
     first | (simp only [cF,dm,if_pos h1,if_pos h2,if_neg h5];done) | (simp only [cF,dm,if_pos h1,if_pos h2,if_neg h5];rfl) | rfl
    refine ⟨T3,by rw [e] <;> rfl,?_⟩
    rw [e]
    exact hM4.weak (by omega)
  ·refine ae 1 [] λ _=>RN.draw [11] []<|ag [] [0,4,1,5,2,6,3,7,8,9,10] [.own 0,.own 0]<|RD.one 11 (RDO.ct [] [] [0] (ai 2 (IntKind.i64.wrap (t.i+1)) hM) ?_)
   rintro _ T8 hM9
   refine RD.fin<|RN.ret [] [0] [0] (v:=.tuple #[]) (H':=(ap [(tb,.lit (Stp.l t mb) 140 (0,0))] [T8])) ?_
   have e:(cF t b c M)=⟨(M.set 2 (IntKind.i64.wrap (t.i+1))),0,⟨t.f0,t.f1,t.f2,t.f3⟩,t.emitted⟩:=by
    first | (simp only [cF,dm,if_pos h1,if_neg h2];done) | (simp only [cF,dm,if_pos h1,if_neg h2];rfl) | rfl
   refine ⟨T8,by rw [e] <;> rfl,?_⟩
   rw [e]
   exact hM9.weak (by omega)
 ·refine ae 15 [.own 0] λ _=>RN.ct [0] [0] (Dq t t.i b tb mb M (k+2) T _ hM hS.up (aw hE) hC.up) ?_
  rintro _ T10 ⟨hM11,rfl⟩
  refine ae 2 [] λ _=>gE (i7 t t.i b M) 36 (λ h12=>?_) λ h12=>?_
  ·refine ae 11 [.own 0] λ _=>dj 41 (nf (decide_eq_false h1))<|ae 6 [.own 0] λ _=>RN.ct [] [0] (ai 3 0 hM11) ?_
   rintro _ T13 hM14
   refine ae 2 [] λ _=>RN.draw [11] []<|ag [] [0,4,1,5,2,6,3,7,8,9,10] [.own 0,.own 0]<|RD.one 11 (RDO.ct [] [] [0] (ai 2 (IntKind.i64.wrap (t.i+1)) hM14) ?_)
   rintro _ T15 hM16
   refine RD.fin<|RN.ret [] [0] [0] (v:=.tuple #[]) (H':=(ap [(tb,.lit ((Stp.lp t mb)++[vI ((bX t t.i b M).e.t),vI ((bX t t.i b M).e.i),vI ((bX t t.i b M).e.k),vI ((bX t t.i b M).e.v),.bool ((bX t t.i b M).em)]) 140 (0,0))] [T15])) ?_
   have e:(cF t b c M)=⟨((((bX t t.i b M).M).set 3 0).set 2 (IntKind.i64.wrap (t.i+1))),0,⟨(bX t t.i b M).e.t,(bX t t.i b M).e.i,(bX t t.i b M).e.k,(bX t t.i b M).e.v⟩,(bX t t.i b M).em⟩:=by
    first | (simp only [cF,dm,if_neg h1,if_pos h12];done) | (simp only [cF,dm,if_neg h1,if_pos h12];rfl) | rfl
   refine ⟨T15,by rw [e] <;> rfl,?_⟩
   rw [e]
   exact hM16.weak (by omega)
  ·refine ae 2 [] λ _=>RN.ret [] [0] [0] (v:=.tuple #[]) (H':=(ap [(tb,.lit ((Stp.lp t mb)++[vI ((bX t t.i b M).e.t),vI ((bX t t.i b M).e.i),vI ((bX t t.i b M).e.k),vI ((bX t t.i b M).e.v),.bool ((bX t t.i b M).em)]) 140 (0,0))] [T10])) ?_
   have e:(cF t b c M)=⟨(bX t t.i b M).M,0,⟨(bX t t.i b M).e.t,(bX t t.i b M).e.i,(bX t t.i b M).e.k,(bX t t.i b M).e.v⟩,(bX t t.i b M).em⟩:=by
    first | (simp only [cF,dm,if_neg h1,if_neg h12];done) | (simp only [cF,dm,if_neg h1,if_neg h12];rfl) | rfl
   refine ⟨T10,by rw [e] <;> rfl,?_⟩
   rw [e]
   exact hM11.weak (by omega)
theorem L9 (t:Stp)  (tb mb:Nat) (M:MemS) (k:Nat) (T F:HL) (hM:MemH mb M (k+9) T) (hS:SetIn F t.S) (hE:cN F) (hC:CodeIn F t.code t.cA t.cn) :Sp Tryz.prog 50 #[vP tb 0] (ap [(tb,.lit (Stp.l t mb) 140 (0,0))] [T]) F (λ u H'=>∃ x,H'=ap [(tb,.lit ((Stp.lp t mb)++[vI ((eS t M).e.t),vI ((eS t M).e.i),vI ((eS t M).e.k),vI ((eS t M).e.v),.bool ((eS t M).em)]) 140 (0,0))] [x] /\ (MemH mb (eS t M).M k x)):=by
 have hp:=hS.pl
 have hn:=hS.nb
 have hr:=hS.room
 refine Sp.run Tryz.func50 rfl (mc hS.blk mn) (A:=[(tb,.lit (Stp.l t mb) 140 (0,0))]) (Ts:=[T]) rfl λ w0=>?_
 refine ae 1 [] λ _=>RN.draw [] []<|ag [] [0,4,1,5,2,6,3,7] (ow 0 17)<|ar [] 8 (λ X_=>(ga t.S t.i _ hS.toSetN)) ?_
 have hb1:=f9 hS.toSetN t.i
 refine ag [] [9] []<|RD.fin<|ae 8 [] λ _=>RN.em (ah t.S t.i < 0) 14 (λ h2=>?_) λ h2=>?_
 ·refine ae 4 [] λ _=>RN.ct [0] [0] (bG t 2 0 tb mb M (k+6) T _ hM hS.up ) ?_
  rintro _ T3 hM4
  refine ae 2 [] λ _=>RN.ret [] [0] [0] (v:=.tuple #[]) (H':=(ap [(tb,.lit (Stp.l t mb) 140 (0,0))] [T3])) ?_
  have e:(eS t M)=⟨(aL t 2 0 M),0,⟨t.f0,t.f1,t.f2,t.f3⟩,t.emitted⟩:=by
   first | (simp only [eS,VR.z,if_pos h2];done) | (simp only [eS,VR.z,if_pos h2];rfl) | rfl
  refine ⟨T3,by rw [e] <;> rfl,?_⟩
  rw [e]
  exact hM4.weak (by omega)
 ·refine al 11 [.own 0,.nw] [bq ((ah t.S t.i)+2)] λ _=>aj (az ((ah t.S t.i)+2) hM (av 0))<|ae 8 [] λ _=>RN.ct [0] [0] (G3 t (M.get ((ah t.S t.i)+2)) (!(decide (M.get ((ah t.S t.i)+2)=0))) tb mb M (k+1) T _ hM hS.up (aw hE) hC.up) ?_
  rintro _ T5 hM6
  refine ae 1 [] λ _=>RN.ret [] [0] [0] (v:=.tuple #[]) (H':=(ap [(tb,.lit ((Stp.lp t mb)++[vI ((cE t (M.get ((ah t.S t.i)+2)) (!(decide (M.get ((ah t.S t.i)+2)=0))) M).e.t),vI ((cE t (M.get ((ah t.S t.i)+2)) (!(decide (M.get ((ah t.S t.i)+2)=0))) M).e.i),vI ((cE t (M.get ((ah t.S t.i)+2)) (!(decide (M.get ((ah t.S t.i)+2)=0))) M).e.k),vI ((cE t (M.get ((ah t.S t.i)+2)) (!(decide (M.get ((ah t.S t.i)+2)=0))) M).e.v),.bool ((cE t (M.get ((ah t.S t.i)+2)) (!(decide (M.get ((ah t.S t.i)+2)=0))) M).em)]) 140 (0,0))] [T5])) ?_
  have e:(eS t M)=⟨(cE t (M.get ((ah t.S t.i)+2)) (!(decide (M.get ((ah t.S t.i)+2)=0))) M).M,0,⟨(cE t (M.get ((ah t.S t.i)+2)) (!(decide (M.get ((ah t.S t.i)+2)=0))) M).e.t,(cE t (M.get ((ah t.S t.i)+2)) (!(decide (M.get ((ah t.S t.i)+2)=0))) M).e.i,(cE t (M.get ((ah t.S t.i)+2)) (!(decide (M.get ((ah t.S t.i)+2)=0))) M).e.k,(cE t (M.get ((ah t.S t.i)+2)) (!(decide (M.get ((ah t.S t.i)+2)=0))) M).e.v⟩,(cE t (M.get ((ah t.S t.i)+2)) (!(decide (M.get ((ah t.S t.i)+2)=0))) M).em⟩:=by
   first | (simp only [eS,VR.z,if_neg h2];done) | (simp only [eS,VR.z,if_neg h2];rfl) | rfl
  refine ⟨T5,by rw [e] <;> rfl,?_⟩
  rw [e]
  exact hM6.weak (by omega)
theorem J5 (t:Stp)  (tb mb:Nat) (M:MemS) (k:Nat) (T F:HL) (hM:MemH mb M (k+9) T) (hS:SetIn F t.S) (hE:cN F) (hC:CodeIn F t.code t.cA t.cn) :Sp Tryz.prog 51 #[vP tb 0] (ap [(tb,.lit (Stp.l t mb) 140 (0,0))] [T]) F (λ u H'=>∃ x,H'=ap [(tb,.lit ((Stp.lp t mb)++[vI ((cO t M).e.t),vI ((cO t M).e.i),vI ((cO t M).e.k),vI ((cO t M).e.v),.bool ((cO t M).em)]) 140 (0,0))] [x] /\ (MemH mb (cO t M).M k x)):=by
 have hp:=hS.pl
 have hn:=hS.nb
 have hr:=hS.room
 refine Sp.run Tryz.func51 rfl (mc hS.blk mn) (A:=[(tb,.lit (Stp.l t mb) 140 (0,0))]) (Ts:=[T]) rfl λ w0=>?_
 refine ae 3 [] λ _=>RN.ct [0] [0] (J4 t 0 0 tb mb M (k+3) T _ hM hS.up (aw hE) hC.up) ?_
 rintro _ T1 ⟨hM2,rfl⟩
 refine ae 2 [] λ _=>gE (jk t 0 0 M) 3 (λ h3=>?_) λ h3=>?_
 ·refine ae 3 [] λ _=>RN.ct [0] [0] (bG (t.upd (cT t 0 0 M)) 3 0 tb mb ((cT t 0 0 M).M) k T1 _ hM2 hS.up ) ?_
  rintro _ T4 hM5
  refine ae 1 [] λ _=>RN.ret [] [0] [0] (v:=.tuple #[]) (H':=(ap [(tb,.lit ((Stp.lp t mb)++[vI ((cT t 0 0 M).e.t),vI ((cT t 0 0 M).e.i),vI ((cT t 0 0 M).e.k),vI ((cT t 0 0 M).e.v),.bool ((cT t 0 0 M).em)]) 140 (0,0))] [T4])) ?_
  have e:(cO t M)=⟨(aL (t.upd (cT t 0 0 M)) 3 0 ((cT t 0 0 M).M)),0,⟨(cT t 0 0 M).e.t,(cT t 0 0 M).e.i,(cT t 0 0 M).e.k,(cT t 0 0 M).e.v⟩,(cT t 0 0 M).em⟩:=by
   first | (simp only [cO,VR.z,if_pos h3];done) | (simp only [cO,VR.z,if_pos h3];rfl) | rfl
  refine ⟨T4,by rw [e] <;> rfl,?_⟩
  rw [e]
  exact hM5.weak (by omega)
 ·refine ae 2 [] λ _=>RN.ret [] [0] [0] (v:=.tuple #[]) (H':=(ap [(tb,.lit ((Stp.lp t mb)++[vI ((cT t 0 0 M).e.t),vI ((cT t 0 0 M).e.i),vI ((cT t 0 0 M).e.k),vI ((cT t 0 0 M).e.v),.bool ((cT t 0 0 M).em)]) 140 (0,0))] [T1])) ?_
  have e:(cO t M)=⟨(cT t 0 0 M).M,0,⟨(cT t 0 0 M).e.t,(cT t 0 0 M).e.i,(cT t 0 0 M).e.k,(cT t 0 0 M).e.v⟩,(cT t 0 0 M).em⟩:=by
   first | (simp only [cO,VR.z,if_neg h3];done) | (simp only [cO,VR.z,if_neg h3];rfl) | rfl
  refine ⟨T1,by rw [e] <;> rfl,?_⟩
  rw [e]
  exact hM2.weak (by omega)
theorem Ma (t:Stp)  (tb mb:Nat) (M:MemS) (k:Nat) (T F:HL) (hM:MemH mb M (k+9) T) (hS:SetIn F t.S) (hE:cN F) (hC:CodeIn F t.code t.cA t.cn) :Sp Tryz.prog 55 #[vP tb 0] (ap [(tb,.lit (Stp.l t mb) 140 (0,0))] [T]) F (λ u H'=>∃ x,H'=ap [(tb,.lit ((Stp.lp t mb)++[vI ((eT t M).e.t),vI ((eT t M).e.i),vI ((eT t M).e.k),vI ((eT t M).e.v),.bool ((eT t M).em)]) 140 (0,0))] [x] /\ (MemH mb (eT t M).M k x)):=by
 have hp:=hS.pl
 have hn:=hS.nb
 have hr:=hS.room
 refine Sp.run Tryz.func55 rfl (mc hS.blk mn) (A:=[(tb,.lit (Stp.l t mb) 140 (0,0))]) (Ts:=[T]) rfl λ w0=>?_
 refine ae 1 [] λ _=>RN.draw [] []<|ag [] [0,4,1,5,2,6,3,7] (ow 0 17)<|ar [] 8 (λ X_=>(cu t.S t.i _ hS.toSetN)) ?_
 have hb1:=cr hS.toSetN t.i
 refine ag [] [9] []<|RD.fin<|ae 8 [] λ _=>RN.em (af t.S t.i < 0) 14 (λ h2=>?_) λ h2=>?_
 ·refine ae 4 [] λ _=>RN.ct [0] [0] (bG t 7 0 tb mb M (k+6) T _ hM hS.up ) ?_
  rintro _ T3 hM4
  refine ae 2 [] λ _=>RN.ret [] [0] [0] (v:=.tuple #[]) (H':=(ap [(tb,.lit (Stp.l t mb) 140 (0,0))] [T3])) ?_
  have e:(eT t M)=⟨(aL t 7 0 M),0,⟨t.f0,t.f1,t.f2,t.f3⟩,t.emitted⟩:=by
   first | (simp only [eT,VR.z,if_pos h2];done) | (simp only [eT,VR.z,if_pos h2];rfl) | rfl
  refine ⟨T3,by rw [e] <;> rfl,?_⟩
  rw [e]
  exact hM4.weak (by omega)
 ·refine al 11 [.own 0,.nw] [bq ((af t.S t.i)+6)] λ _=>aj (az ((af t.S t.i)+6) hM (av 0))<|ae 9 [] λ _=>RN.ct [0] [0] (G4 t (IntKind.i64.wrap ((M.get ((af t.S t.i)+6)) - 1)) (!(decide (M.get ((af t.S t.i)+6)=0))) tb mb M (k+1) T _ hM hS.up (aw hE) hC.up) ?_
  rintro _ T5 hM6
  refine ae 1 [] λ _=>RN.ret [] [0] [0] (v:=.tuple #[]) (H':=(ap [(tb,.lit ((Stp.lp t mb)++[vI ((cF t (IntKind.i64.wrap ((M.get ((af t.S t.i)+6)) - 1)) (!(decide (M.get ((af t.S t.i)+6)=0))) M).e.t),vI ((cF t (IntKind.i64.wrap ((M.get ((af t.S t.i)+6)) - 1)) (!(decide (M.get ((af t.S t.i)+6)=0))) M).e.i),vI ((cF t (IntKind.i64.wrap ((M.get ((af t.S t.i)+6)) - 1)) (!(decide (M.get ((af t.S t.i)+6)=0))) M).e.k),vI ((cF t (IntKind.i64.wrap ((M.get ((af t.S t.i)+6)) - 1)) (!(decide (M.get ((af t.S t.i)+6)=0))) M).e.v),.bool ((cF t (IntKind.i64.wrap ((M.get ((af t.S t.i)+6)) - 1)) (!(decide (M.get ((af t.S t.i)+6)=0))) M).em)]) 140 (0,0))] [T5])) ?_
  have e:(eT t M)=⟨(cF t (IntKind.i64.wrap ((M.get ((af t.S t.i)+6)) - 1)) (!(decide (M.get ((af t.S t.i)+6)=0))) M).M,0,⟨(cF t (IntKind.i64.wrap ((M.get ((af t.S t.i)+6)) - 1)) (!(decide (M.get ((af t.S t.i)+6)=0))) M).e.t,(cF t (IntKind.i64.wrap ((M.get ((af t.S t.i)+6)) - 1)) (!(decide (M.get ((af t.S t.i)+6)=0))) M).e.i,(cF t (IntKind.i64.wrap ((M.get ((af t.S t.i)+6)) - 1)) (!(decide (M.get ((af t.S t.i)+6)=0))) M).e.k,(cF t (IntKind.i64.wrap ((M.get ((af t.S t.i)+6)) - 1)) (!(decide (M.get ((af t.S t.i)+6)=0))) M).e.v⟩,(cF t (IntKind.i64.wrap ((M.get ((af t.S t.i)+6)) - 1)) (!(decide (M.get ((af t.S t.i)+6)=0))) M).em⟩:=by
   first | (simp only [eT,VR.z,if_neg h2];done) | (simp only [eT,VR.z,if_neg h2];rfl) | rfl
  refine ⟨T5,by rw [e] <;> rfl,?_⟩
  rw [e]
  exact hM6.weak (by omega)
end Go.Proofs.YtghjbimijeinfaaGreatDoor
