import Derived.Test.YtghjbimijeinfaaGreatDoorY12
set_option maxHeartbeats 4000000
set_option maxRecDepth 100000
set_option linter.unusedSimpArgs false
set_option linter.unusedVariables false
namespace Go.Proofs.YtghjbimijeinfaaGreatDoor
open Go.RowKit
def VR.z (r:VR):VR:=⟨r.M,0,r.e,r.em⟩
abbrev Stp.f (t:Stp):Eff:=⟨t.f0,t.f1,t.f2,t.f3⟩
def Stp.upd (t:Stp) (r:VR):Stp:={ t with f0:=r.e.t,f1:=r.e.i,f2:=r.e.k,f3:=r.e.v,emitted:=r.em }
def eC (e:Int) (t:Stp) (self other:Int) (M:MemS):VR:=if t.j=0 then (if e < 0 then ⟨aN e t.S.fuel self other M,0,t.f,t.emitted⟩ else ⟨(aN e t.S.fuel self other M).set 3 1,0,t.f,t.emitted⟩) else ⟨(ak t.S t.code t.cn M).M,0,(ak t.S t.code t.cn M).e,(ak t.S t.code t.cn M).em⟩
def de (e:Int) (t:Stp) (self other:Int) (M:MemS):Bool:=if t.j=0 then decide (e < 0) else bg t.code t.cn M
abbrev bX (t:Stp) (a b:Int) (M:MemS):VR:=eC t.e0 t a b M
abbrev cX (t:Stp) (a b:Int) (M:MemS):VR:=eC t.e1 t a b M
abbrev bZ (t:Stp) (a b:Int) (M:MemS):VR:=eC t.e2 t a b M
abbrev jc (t:Stp) (a b:Int) (M:MemS):Bool:=de t.e0 t a b M
abbrev jq (t:Stp) (a b:Int) (M:MemS):Bool:=de t.e1 t a b M
abbrev jd (t:Stp) (a b:Int) (M:MemS):Bool:=de t.e2 t a b M
def dq (r:VR) (over:Bool) (t:Stp) (cause:Bool) (M:MemS):VR:=if t.j=0 then (if cause=true then (if over=true then ⟨r.M.set 2 (aY (t.i+1)),0,r.e,r.em⟩ else ⟨r.M,0,r.e,r.em⟩) else ⟨M.set 2 (aY (t.i+1)),0,t.f,t.emitted⟩) else (if over=true then ⟨(r.M.set 3 0).set 2 (aY (t.i+1)),0,r.e,r.em⟩ else ⟨r.M,0,r.e,r.em⟩)
abbrev cJ (t:Stp) (b:Int) (c:Bool) (M:MemS):VR:=dq (bX t t.i b M) (jc t t.i b M) t c M
abbrev cK (t:Stp) (b:Int) (c:Bool) (M:MemS):VR:=dq (bZ t t.i b M) (jd t t.i b M) t c M
def eU (t:Stp) (M:MemS):VR:=if ah t.S t.i < 0 then ⟨aM t 2 0 M,0,t.f,t.emitted⟩ else (cJ t (M.get (ah t.S t.i+2)) (!decide (M.get (ah t.S t.i+2)=0)) M).z
def cS (t:Stp) (M:MemS):VR:=if jq t 0 0 M=true then ⟨aM t 3 0 (cX t 0 0 M).M,0,(cX t 0 0 M).e,(cX t 0 0 M).em⟩ else ⟨(cX t 0 0 M).M,0,(cX t 0 0 M).e,(cX t 0 0 M).em⟩
def eV (t:Stp) (M:MemS):VR:=if af t.S t.i < 0 then ⟨aM t 7 0 M,0,t.f,t.emitted⟩ else (cK t (aY (M.get (af t.S t.i+6) - 1)) (!decide (M.get (af t.S t.i+6)=0)) M).z
theorem Dy (t:Stp) (a:Int) (b:Int) (tb mb:Nat) (M:MemS) (k:Nat) (T F:HL) (hM:MemH mb M (k+6) T) (hS:SetIn F t.S) (hE:ck F) (hC:CodeIn F t.code t.cA t.cn) :Sp Tryz.prog 87 #[vP tb 0,vI 0,vI a,vI b] (ap [(tb,.lit (Stp.l t mb) 140 (0,0))] [T]) F (λ u H'=>∃ x,H'=ap [(tb,.lit ((Stp.lp t mb)++[vI ((bX t a b M).e.t),vI ((bX t a b M).e.i),vI ((bX t a b M).e.k),vI ((bX t a b M).e.v),.bool ((bX t a b M).em)]) 140 (0,0))] [x] /\ (MemH mb (bX t a b M).M k x /\ u=.bool (jc t a b M))):=by
 have hp:=hS.pl
 have hn:=hS.nb
 have hr:=hS.room
 refine Sp.run Tryz.func87 rfl (mc hS.blk mn) (A:=[(tb,.lit (Stp.l t mb) 140 (0,0))]) (Ts:=[T]) rfl λ w0=>?_
 refine ae 15 [.own 0] λ _=>RN.em (t.j=0) 16 (λ h1=>?_) λ h1=>?_
 ·refine ae 3 [] λ _=>RN.draw [16] []<|ag [] [0,4,8,9,10,11,1,5,12,2,6,13,3,7,14,15] (ow 0 6)<|RD.one 16 (RDO.ct [] [] [0] (Du mb M (k+1) T t.cA t.cn t.cc t.e0 t.e1 t.e2 a b t.S.fuel _ hM) ?_)
  rintro _ T2 ⟨hM3,rfl⟩
  refine ag [] [17] []<|RD.fin<|ae 1 [] λ _=>?_
  rcases Decidable.em (t.e0 < 0) with h4 | h4
  ·refine cV 34 (nf (nt (decide_eq_true h4)))<|ae 6 [] λ _=>RN.ret [] [0] [0] (v:=.bool true) (H':=(ap [(tb,.lit (Stp.l t mb) 140 (0,0))] [T2])) ?_
   have e:(bX t a b M)=⟨(aN t.e0 t.S.fuel a b M),0,⟨t.f0,t.f1,t.f2,t.f3⟩,t.emitted⟩:=by
    first | (simp only [bX,eC,if_pos h1,if_pos h4];done) | (simp only [bX,eC,if_pos h1,if_pos h4];rfl) | rfl
   have er:(jc t a b M)=true:=by
    first | (simp only [jc,de,if_pos h1,if_pos h4];done) | (simp only [jc,de,if_pos h1,if_pos h4];simp [*];done) | (simp only [jc,de,if_pos h1,if_pos h4];rfl)
   refine ⟨T2,by rw [e] <;> rfl,?_,by rw [er]⟩
   rw [e]
   exact hM3.weak (by omega)
  ·refine cV 34 (nt (nf (decide_eq_false h4)))<|ae 9 [.own 0] λ _=>RN.ct [] [0] (ai 3 1 hM3) ?_
   rintro _ T5 hM6
   refine ae 7 [] λ _=>RN.ret [] [0] [0] (v:=.bool false) (H':=(ap [(tb,.lit (Stp.l t mb) 140 (0,0))] [T5])) ?_
   have e:(bX t a b M)=⟨((aN t.e0 t.S.fuel a b M).set 3 1),0,⟨t.f0,t.f1,t.f2,t.f3⟩,t.emitted⟩:=by
    first | (simp only [bX,eC,if_pos h1,if_neg h4];done) | (simp only [bX,eC,if_pos h1,if_neg h4];rfl) | rfl
   have er:(jc t a b M)=false:=by
    first | (simp only [jc,de,if_pos h1,if_neg h4];done) | (simp only [jc,de,if_pos h1,if_neg h4];simp [*];done) | (simp only [jc,de,if_pos h1,if_neg h4];rfl)
   refine ⟨T5,by rw [e] <;> rfl,?_,by rw [er]⟩
   rw [e]
   exact hM6.weak (by omega)
 ·refine ae 4 [] λ _=>RN.draw [12,19] []<|ag [] [0,4,8,1,5,9,2,6,10,3,7,11] (ow 0 21)<|eh 12 17 ?_ ?_
  ·refine RDO.ct [] [] [0] (gY mb M k T t.S t.code t.cA t.cn t.cc t.e0 t.e1 t.e2 _ hM hS.toSetN (au hE) hC.up) ?_
   rintro _ T7 ⟨hM8,rfl⟩
   refine ag [] [13,14,15,16] []<|RD.one 17 (RDO.ev [] [] λ n9=>?_)
   refine ag [] [18] []<|RD.one 19 (RDO.ev [] [.own 0,.own 0,.own 0,.own 0] λ _=>?_)
   refine ag [] [20] []<|RD.fin<|ae 21 ([.own 0,.own 0,.own 0,.own 0]++ow 1 5) λ _=>RN.ret [] [1] [0] (v:=.bool (bg t.code t.cn M)) (H':=(ap [(tb,.lit ((Stp.lp t mb)++[vI ((ak t.S t.code t.cn M).e.t),vI ((ak t.S t.code t.cn M).e.i),vI ((ak t.S t.code t.cn M).e.k),vI ((ak t.S t.code t.cn M).e.v),.bool ((ak t.S t.code t.cn M).em)]) 140 (0,0))] [T7])) ?_
   have e:(bX t a b M)=⟨(ak t.S t.code t.cn M).M,0,⟨(ak t.S t.code t.cn M).e.t,(ak t.S t.code t.cn M).e.i,(ak t.S t.code t.cn M).e.k,(ak t.S t.code t.cn M).e.v⟩,(ak t.S t.code t.cn M).em⟩:=by
    first | (simp only [bX,eC,if_neg h1];done) | (simp only [bX,eC,if_neg h1];rfl) | rfl
   have er:(jc t a b M)=bg t.code t.cn M:=by
    first | (simp only [jc,de,if_neg h1];done) | (simp only [jc,de,if_neg h1];simp [*];done) | (simp only [jc,de,if_neg h1];rfl)
   refine ⟨T7,by rw [e] <;> rfl,?_,by rw [er]⟩
   rw [e]
   exact hM8.weak (by omega)
  ·refine RDO.ev [] [] λ n10=>RD.one 12 (RDO.ct [] [] [0] (gY mb M k T t.S t.code t.cA t.cn t.cc t.e0 t.e1 t.e2 _ hM hS.toSetN (au hE) hC.up) ?_)
   rintro _ T11 ⟨hM12,rfl⟩
   refine ag [] [13,14,15,16,18] []<|RD.one 19 (RDO.ev [] [.own 0,.own 0,.own 0,.own 0] λ _=>?_)
   refine ag [] [20] []<|RD.fin<|ae 21 ([.own 0,.own 0,.own 0,.own 0]++ow 1 5) λ _=>RN.ret [] [1] [0] (v:=.bool (bg t.code t.cn M)) (H':=(ap [(tb,.lit ((Stp.lp t mb)++[vI ((ak t.S t.code t.cn M).e.t),vI ((ak t.S t.code t.cn M).e.i),vI ((ak t.S t.code t.cn M).e.k),vI ((ak t.S t.code t.cn M).e.v),.bool ((ak t.S t.code t.cn M).em)]) 140 (0,0))] [T11])) ?_
   have e:(bX t a b M)=⟨(ak t.S t.code t.cn M).M,0,⟨(ak t.S t.code t.cn M).e.t,(ak t.S t.code t.cn M).e.i,(ak t.S t.code t.cn M).e.k,(ak t.S t.code t.cn M).e.v⟩,(ak t.S t.code t.cn M).em⟩:=by
    first | (simp only [bX,eC,if_neg h1];done) | (simp only [bX,eC,if_neg h1];rfl) | rfl
   have er:(jc t a b M)=bg t.code t.cn M:=by
    first | (simp only [jc,de,if_neg h1];done) | (simp only [jc,de,if_neg h1];simp [*];done) | (simp only [jc,de,if_neg h1];rfl)
   refine ⟨T11,by rw [e] <;> rfl,?_,by rw [er]⟩
   rw [e]
   exact hM12.weak (by omega)
theorem Km (t:Stp) (a:Int) (b:Int) (tb mb:Nat) (M:MemS) (k:Nat) (T F:HL) (hM:MemH mb M (k+6) T) (hS:SetIn F t.S) (hE:ck F) (hC:CodeIn F t.code t.cA t.cn) :Sp Tryz.prog 87 #[vP tb 0,vI 1,vI a,vI b] (ap [(tb,.lit (Stp.l t mb) 140 (0,0))] [T]) F (λ u H'=>∃ x,H'=ap [(tb,.lit ((Stp.lp t mb)++[vI ((cX t a b M).e.t),vI ((cX t a b M).e.i),vI ((cX t a b M).e.k),vI ((cX t a b M).e.v),.bool ((cX t a b M).em)]) 140 (0,0))] [x] /\ (MemH mb (cX t a b M).M k x /\ u=.bool (jq t a b M))):=by
 have hp:=hS.pl
 have hn:=hS.nb
 have hr:=hS.room
 refine Sp.run Tryz.func87 rfl (mc hS.blk mn) (A:=[(tb,.lit (Stp.l t mb) 140 (0,0))]) (Ts:=[T]) rfl λ w0=>?_
 refine ae 15 [.own 0] λ _=>RN.em (t.j=0) 16 (λ h1=>?_) λ h1=>?_
 ·refine ae 3 [] λ _=>RN.draw [16] []<|ag [] [0,4,8,9,10,11,1,5,12,2,6,13,3,7,14,15] (ow 0 6)<|RD.one 16 (RDO.ct [] [] [0] (Dv mb M (k+1) T t.cA t.cn t.cc t.e0 t.e1 t.e2 a b t.S.fuel _ hM) ?_)
  rintro _ T2 ⟨hM3,rfl⟩
  refine ag [] [17] []<|RD.fin<|ae 1 [] λ _=>?_
  rcases Decidable.em (t.e1 < 0) with h4 | h4
  ·refine cV 34 (nf (nt (decide_eq_true h4)))<|ae 6 [] λ _=>RN.ret [] [0] [0] (v:=.bool true) (H':=(ap [(tb,.lit (Stp.l t mb) 140 (0,0))] [T2])) ?_
   have e:(cX t a b M)=⟨(aN t.e1 t.S.fuel a b M),0,⟨t.f0,t.f1,t.f2,t.f3⟩,t.emitted⟩:=by
    first | (simp only [cX,eC,if_pos h1,if_pos h4];done) | (simp only [cX,eC,if_pos h1,if_pos h4];rfl) | rfl
   have er:(jq t a b M)=true:=by
    first | (simp only [jq,de,if_pos h1,if_pos h4];done) | (simp only [jq,de,if_pos h1,if_pos h4];simp [*];done) | (simp only [jq,de,if_pos h1,if_pos h4];rfl)
   refine ⟨T2,by rw [e] <;> rfl,?_,by rw [er]⟩
   rw [e]
   exact hM3.weak (by omega)
  ·refine cV 34 (nt (nf (decide_eq_false h4)))<|ae 9 [.own 0] λ _=>RN.ct [] [0] (ai 3 1 hM3) ?_
   rintro _ T5 hM6
   refine ae 7 [] λ _=>RN.ret [] [0] [0] (v:=.bool false) (H':=(ap [(tb,.lit (Stp.l t mb) 140 (0,0))] [T5])) ?_
   have e:(cX t a b M)=⟨((aN t.e1 t.S.fuel a b M).set 3 1),0,⟨t.f0,t.f1,t.f2,t.f3⟩,t.emitted⟩:=by
    first | (simp only [cX,eC,if_pos h1,if_neg h4];done) | (simp only [cX,eC,if_pos h1,if_neg h4];rfl) | rfl
   have er:(jq t a b M)=false:=by
    first | (simp only [jq,de,if_pos h1,if_neg h4];done) | (simp only [jq,de,if_pos h1,if_neg h4];simp [*];done) | (simp only [jq,de,if_pos h1,if_neg h4];rfl)
   refine ⟨T5,by rw [e] <;> rfl,?_,by rw [er]⟩
   rw [e]
   exact hM6.weak (by omega)
 ·refine ae 4 [] λ _=>RN.draw [12,19] []<|ag [] [0,4,8,1,5,9,2,6,10,3,7,11] (ow 0 21)<|eh 12 17 ?_ ?_
  ·refine RDO.ct [] [] [0] (gY mb M k T t.S t.code t.cA t.cn t.cc t.e0 t.e1 t.e2 _ hM hS.toSetN (au hE) hC.up) ?_
   rintro _ T7 ⟨hM8,rfl⟩
   refine ag [] [13,14,15,16] []<|RD.one 17 (RDO.ev [] [] λ n9=>?_)
   refine ag [] [18] []<|RD.one 19 (RDO.ev [] [.own 0,.own 0,.own 0,.own 0] λ _=>?_)
   refine ag [] [20] []<|RD.fin<|ae 21 ([.own 0,.own 0,.own 0,.own 0]++ow 1 5) λ _=>RN.ret [] [1] [0] (v:=.bool (bg t.code t.cn M)) (H':=(ap [(tb,.lit ((Stp.lp t mb)++[vI ((ak t.S t.code t.cn M).e.t),vI ((ak t.S t.code t.cn M).e.i),vI ((ak t.S t.code t.cn M).e.k),vI ((ak t.S t.code t.cn M).e.v),.bool ((ak t.S t.code t.cn M).em)]) 140 (0,0))] [T7])) ?_
   have e:(cX t a b M)=⟨(ak t.S t.code t.cn M).M,0,⟨(ak t.S t.code t.cn M).e.t,(ak t.S t.code t.cn M).e.i,(ak t.S t.code t.cn M).e.k,(ak t.S t.code t.cn M).e.v⟩,(ak t.S t.code t.cn M).em⟩:=by
    first | (simp only [cX,eC,if_neg h1];done) | (simp only [cX,eC,if_neg h1];rfl) | rfl
   have er:(jq t a b M)=bg t.code t.cn M:=by
    first | (simp only [jq,de,if_neg h1];done) | (simp only [jq,de,if_neg h1];simp [*];done) | (simp only [jq,de,if_neg h1];rfl)
   refine ⟨T7,by rw [e] <;> rfl,?_,by rw [er]⟩
   rw [e]
   exact hM8.weak (by omega)
  ·refine RDO.ev [] [] λ n10=>RD.one 12 (RDO.ct [] [] [0] (gY mb M k T t.S t.code t.cA t.cn t.cc t.e0 t.e1 t.e2 _ hM hS.toSetN (au hE) hC.up) ?_)
   rintro _ T11 ⟨hM12,rfl⟩
   refine ag [] [13,14,15,16,18] []<|RD.one 19 (RDO.ev [] [.own 0,.own 0,.own 0,.own 0] λ _=>?_)
   refine ag [] [20] []<|RD.fin<|ae 21 ([.own 0,.own 0,.own 0,.own 0]++ow 1 5) λ _=>RN.ret [] [1] [0] (v:=.bool (bg t.code t.cn M)) (H':=(ap [(tb,.lit ((Stp.lp t mb)++[vI ((ak t.S t.code t.cn M).e.t),vI ((ak t.S t.code t.cn M).e.i),vI ((ak t.S t.code t.cn M).e.k),vI ((ak t.S t.code t.cn M).e.v),.bool ((ak t.S t.code t.cn M).em)]) 140 (0,0))] [T11])) ?_
   have e:(cX t a b M)=⟨(ak t.S t.code t.cn M).M,0,⟨(ak t.S t.code t.cn M).e.t,(ak t.S t.code t.cn M).e.i,(ak t.S t.code t.cn M).e.k,(ak t.S t.code t.cn M).e.v⟩,(ak t.S t.code t.cn M).em⟩:=by
    first | (simp only [cX,eC,if_neg h1];done) | (simp only [cX,eC,if_neg h1];rfl) | rfl
   have er:(jq t a b M)=bg t.code t.cn M:=by
    first | (simp only [jq,de,if_neg h1];done) | (simp only [jq,de,if_neg h1];simp [*];done) | (simp only [jq,de,if_neg h1];rfl)
   refine ⟨T11,by rw [e] <;> rfl,?_,by rw [er]⟩
   rw [e]
   exact hM12.weak (by omega)
theorem Dz (t:Stp) (a:Int) (b:Int) (tb mb:Nat) (M:MemS) (k:Nat) (T F:HL) (hM:MemH mb M (k+6) T) (hS:SetIn F t.S) (hE:ck F) (hC:CodeIn F t.code t.cA t.cn) :Sp Tryz.prog 87 #[vP tb 0,vI 2,vI a,vI b] (ap [(tb,.lit (Stp.l t mb) 140 (0,0))] [T]) F (λ u H'=>∃ x,H'=ap [(tb,.lit ((Stp.lp t mb)++[vI ((bZ t a b M).e.t),vI ((bZ t a b M).e.i),vI ((bZ t a b M).e.k),vI ((bZ t a b M).e.v),.bool ((bZ t a b M).em)]) 140 (0,0))] [x] /\ (MemH mb (bZ t a b M).M k x /\ u=.bool (jd t a b M))):=by
 have hp:=hS.pl
 have hn:=hS.nb
 have hr:=hS.room
 refine Sp.run Tryz.func87 rfl (mc hS.blk mn) (A:=[(tb,.lit (Stp.l t mb) 140 (0,0))]) (Ts:=[T]) rfl λ w0=>?_
 refine ae 15 [.own 0] λ _=>RN.em (t.j=0) 16 (λ h1=>?_) λ h1=>?_
 ·refine ae 3 [] λ _=>RN.draw [16] []<|ag [] [0,4,8,9,10,11,1,5,12,2,6,13,3,7,14,15] (ow 0 6)<|RD.one 16 (RDO.ct [] [] [0] (Dw mb M (k+1) T t.cA t.cn t.cc t.e0 t.e1 t.e2 a b t.S.fuel _ hM) ?_)
  rintro _ T2 ⟨hM3,rfl⟩
  refine ag [] [17] []<|RD.fin<|ae 1 [] λ _=>?_
  rcases Decidable.em (t.e2 < 0) with h4 | h4
  ·refine cV 34 (nf (nt (decide_eq_true h4)))<|ae 6 [] λ _=>RN.ret [] [0] [0] (v:=.bool true) (H':=(ap [(tb,.lit (Stp.l t mb) 140 (0,0))] [T2])) ?_
   have e:(bZ t a b M)=⟨(aN t.e2 t.S.fuel a b M),0,⟨t.f0,t.f1,t.f2,t.f3⟩,t.emitted⟩:=by
    first | (simp only [bZ,eC,if_pos h1,if_pos h4];done) | (simp only [bZ,eC,if_pos h1,if_pos h4];rfl) | rfl
   have er:(jd t a b M)=true:=by
    first | (simp only [jd,de,if_pos h1,if_pos h4];done) | (simp only [jd,de,if_pos h1,if_pos h4];simp [*];done) | (simp only [jd,de,if_pos h1,if_pos h4];rfl)
   refine ⟨T2,by rw [e] <;> rfl,?_,by rw [er]⟩
   rw [e]
   exact hM3.weak (by omega)
  ·refine cV 34 (nt (nf (decide_eq_false h4)))<|ae 9 [.own 0] λ _=>RN.ct [] [0] (ai 3 1 hM3) ?_
   rintro _ T5 hM6
   refine ae 7 [] λ _=>RN.ret [] [0] [0] (v:=.bool false) (H':=(ap [(tb,.lit (Stp.l t mb) 140 (0,0))] [T5])) ?_
   have e:(bZ t a b M)=⟨((aN t.e2 t.S.fuel a b M).set 3 1),0,⟨t.f0,t.f1,t.f2,t.f3⟩,t.emitted⟩:=by
    first | (simp only [bZ,eC,if_pos h1,if_neg h4];done) | (simp only [bZ,eC,if_pos h1,if_neg h4];rfl) | rfl
   have er:(jd t a b M)=false:=by
    first | (simp only [jd,de,if_pos h1,if_neg h4];done) | (simp only [jd,de,if_pos h1,if_neg h4];simp [*];done) | (simp only [jd,de,if_pos h1,if_neg h4];rfl)
   refine ⟨T5,by rw [e] <;> rfl,?_,by rw [er]⟩
   rw [e]
   exact hM6.weak (by omega)
 ·refine ae 4 [] λ _=>RN.draw [12,19] []<|ag [] [0,4,8,1,5,9,2,6,10,3,7,11] (ow 0 21)<|eh 12 17 ?_ ?_
  ·refine RDO.ct [] [] [0] (gY mb M k T t.S t.code t.cA t.cn t.cc t.e0 t.e1 t.e2 _ hM hS.toSetN (au hE) hC.up) ?_
   rintro _ T7 ⟨hM8,rfl⟩
   refine ag [] [13,14,15,16] []<|RD.one 17 (RDO.ev [] [] λ n9=>?_)
   refine ag [] [18] []<|RD.one 19 (RDO.ev [] [.own 0,.own 0,.own 0,.own 0] λ _=>?_)
   refine ag [] [20] []<|RD.fin<|ae 21 ([.own 0,.own 0,.own 0,.own 0]++ow 1 5) λ _=>RN.ret [] [1] [0] (v:=.bool (bg t.code t.cn M)) (H':=(ap [(tb,.lit ((Stp.lp t mb)++[vI ((ak t.S t.code t.cn M).e.t),vI ((ak t.S t.code t.cn M).e.i),vI ((ak t.S t.code t.cn M).e.k),vI ((ak t.S t.code t.cn M).e.v),.bool ((ak t.S t.code t.cn M).em)]) 140 (0,0))] [T7])) ?_
   have e:(bZ t a b M)=⟨(ak t.S t.code t.cn M).M,0,⟨(ak t.S t.code t.cn M).e.t,(ak t.S t.code t.cn M).e.i,(ak t.S t.code t.cn M).e.k,(ak t.S t.code t.cn M).e.v⟩,(ak t.S t.code t.cn M).em⟩:=by
    first | (simp only [bZ,eC,if_neg h1];done) | (simp only [bZ,eC,if_neg h1];rfl) | rfl
   have er:(jd t a b M)=bg t.code t.cn M:=by
    first | (simp only [jd,de,if_neg h1];done) | (simp only [jd,de,if_neg h1];simp [*];done) | (simp only [jd,de,if_neg h1];rfl)
   refine ⟨T7,by rw [e] <;> rfl,?_,by rw [er]⟩
   rw [e]
   exact hM8.weak (by omega)
  ·refine RDO.ev [] [] λ n10=>RD.one 12 (RDO.ct [] [] [0] (gY mb M k T t.S t.code t.cA t.cn t.cc t.e0 t.e1 t.e2 _ hM hS.toSetN (au hE) hC.up) ?_)
   rintro _ T11 ⟨hM12,rfl⟩
   refine ag [] [13,14,15,16,18] []<|RD.one 19 (RDO.ev [] [.own 0,.own 0,.own 0,.own 0] λ _=>?_)
   refine ag [] [20] []<|RD.fin<|ae 21 ([.own 0,.own 0,.own 0,.own 0]++ow 1 5) λ _=>RN.ret [] [1] [0] (v:=.bool (bg t.code t.cn M)) (H':=(ap [(tb,.lit ((Stp.lp t mb)++[vI ((ak t.S t.code t.cn M).e.t),vI ((ak t.S t.code t.cn M).e.i),vI ((ak t.S t.code t.cn M).e.k),vI ((ak t.S t.code t.cn M).e.v),.bool ((ak t.S t.code t.cn M).em)]) 140 (0,0))] [T11])) ?_
   have e:(bZ t a b M)=⟨(ak t.S t.code t.cn M).M,0,⟨(ak t.S t.code t.cn M).e.t,(ak t.S t.code t.cn M).e.i,(ak t.S t.code t.cn M).e.k,(ak t.S t.code t.cn M).e.v⟩,(ak t.S t.code t.cn M).em⟩:=by
    first | (simp only [bZ,eC,if_neg h1];done) | (simp only [bZ,eC,if_neg h1];rfl) | rfl
   have er:(jd t a b M)=bg t.code t.cn M:=by
    first | (simp only [jd,de,if_neg h1];done) | (simp only [jd,de,if_neg h1];simp [*];done) | (simp only [jd,de,if_neg h1];rfl)
   refine ⟨T11,by rw [e] <;> rfl,?_,by rw [er]⟩
   rw [e]
   exact hM12.weak (by omega)
theorem Hu (t:Stp) (b:Int) (c:Bool) (tb mb:Nat) (M:MemS) (k:Nat) (T F:HL) (hM:MemH mb M (k+8) T) (hS:SetIn F t.S) (hE:ck F) (hC:CodeIn F t.code t.cA t.cn) :Sp Tryz.prog 86 #[vP tb 0,vI 0,vI b,.bool c] (ap [(tb,.lit (Stp.l t mb) 140 (0,0))] [T]) F (λ u H'=>∃ x,H'=ap [(tb,.lit ((Stp.lp t mb)++[vI ((cJ t b c M).e.t),vI ((cJ t b c M).e.i),vI ((cJ t b c M).e.k),vI ((cJ t b c M).e.v),.bool ((cJ t b c M).em)]) 140 (0,0))] [x] /\ (MemH mb (cJ t b c M).M k x)):=by
 have hp:=hS.pl
 have hn:=hS.nb
 have hr:=hS.room
 refine Sp.run Tryz.func86 rfl (mc hS.blk mn) (A:=[(tb,.lit (Stp.l t mb) 140 (0,0))]) (Ts:=[T]) rfl λ w0=>?_
 refine ae 8 [.own 0] λ _=>RN.em (t.j=0) 13 (λ h1=>?_) λ h1=>?_
 ·refine ae 5 [] λ _=>mL (c) 16 (λ h2=>?_) λ h2=>?_
  ·refine ae 10 [.own 0] λ _=>RN.ct [0] [0] (Dy t t.i b tb mb M (k+2) T _ hM hS.up (au hE) hC.up) ?_
   rintro _ T3 ⟨hM4,rfl⟩
   refine ae 2 [] λ _=>fT (jc t t.i b M) 36 (λ h5=>?_) λ h5=>?_
   ·refine ae 11 [.own 0] λ _=>cV 41 (nt (decide_eq_true h1))<|ae 3 [] λ _=>RN.draw [11] []<|ag [] [0,4,1,5,2,6,3,7,8,9,10] [.own 0,.own 0]<|RD.one 11 (RDO.ct [] [] [0] (ai 2 (IntKind.i64.wrap (t.i+1)) hM4) ?_)
    rintro _ T6 hM7
    refine RD.fin<|RN.ret [] [0] [0] (v:=.tuple #[]) (H':=(ap [(tb,.lit ((Stp.lp t mb)++[vI ((bX t t.i b M).e.t),vI ((bX t t.i b M).e.i),vI ((bX t t.i b M).e.k),vI ((bX t t.i b M).e.v),.bool ((bX t t.i b M).em)]) 140 (0,0))] [T6])) ?_
    have e:(cJ t b c M)=⟨(((bX t t.i b M).M).set 2 (IntKind.i64.wrap (t.i+1))),0,⟨(bX t t.i b M).e.t,(bX t t.i b M).e.i,(bX t t.i b M).e.k,(bX t t.i b M).e.v⟩,(bX t t.i b M).em⟩:=by
     first | (simp only [cJ,dq,if_pos h1,if_pos h2,if_pos h5];done) | (simp only [cJ,dq,if_pos h1,if_pos h2,if_pos h5];rfl) | rfl
    refine ⟨T6,by rw [e] <;> rfl,?_⟩
    rw [e]
    exact hM7.weak (by omega)
   ·refine ae 2 [] λ _=>RN.ret [] [0] [0] (v:=.tuple #[]) (H':=(ap [(tb,.lit ((Stp.lp t mb)++[vI ((bX t t.i b M).e.t),vI ((bX t t.i b M).e.i),vI ((bX t t.i b M).e.k),vI ((bX t t.i b M).e.v),.bool ((bX t t.i b M).em)]) 140 (0,0))] [T3])) ?_
    have e:(cJ t b c M)=⟨(bX t t.i b M).M,0,⟨(bX t t.i b M).e.t,(bX t t.i b M).e.i,(bX t t.i b M).e.k,(bX t t.i b M).e.v⟩,(bX t t.i b M).em⟩:=by
     first | (simp only [cJ,dq,if_pos h1,if_pos h2,if_neg h5];done) | (simp only [cJ,dq,if_pos h1,if_pos h2,if_neg h5];rfl) | rfl
    refine ⟨T3,by rw [e] <;> rfl,?_⟩
    rw [e]
    exact hM4.weak (by omega)
  ·refine ae 1 [] λ _=>RN.draw [11] []<|ag [] [0,4,1,5,2,6,3,7,8,9,10] [.own 0,.own 0]<|RD.one 11 (RDO.ct [] [] [0] (ai 2 (IntKind.i64.wrap (t.i+1)) hM) ?_)
   rintro _ T8 hM9
   refine RD.fin<|RN.ret [] [0] [0] (v:=.tuple #[]) (H':=(ap [(tb,.lit (Stp.l t mb) 140 (0,0))] [T8])) ?_
   have e:(cJ t b c M)=⟨(M.set 2 (IntKind.i64.wrap (t.i+1))),0,⟨t.f0,t.f1,t.f2,t.f3⟩,t.emitted⟩:=by
    first | (simp only [cJ,dq,if_pos h1,if_neg h2];done) | (simp only [cJ,dq,if_pos h1,if_neg h2];rfl) | rfl
   refine ⟨T8,by rw [e] <;> rfl,?_⟩
   rw [e]
   exact hM9.weak (by omega)
 ·refine ae 15 [.own 0] λ _=>RN.ct [0] [0] (Dy t t.i b tb mb M (k+2) T _ hM hS.up (au hE) hC.up) ?_
  rintro _ T10 ⟨hM11,rfl⟩
  refine ae 2 [] λ _=>fT (jc t t.i b M) 36 (λ h12=>?_) λ h12=>?_
  ·refine ae 11 [.own 0] λ _=>cV 41 (nf (decide_eq_false h1))<|ae 6 [.own 0] λ _=>RN.ct [] [0] (ai 3 0 hM11) ?_
   rintro _ T13 hM14
   refine ae 2 [] λ _=>RN.draw [11] []<|ag [] [0,4,1,5,2,6,3,7,8,9,10] [.own 0,.own 0]<|RD.one 11 (RDO.ct [] [] [0] (ai 2 (IntKind.i64.wrap (t.i+1)) hM14) ?_)
   rintro _ T15 hM16
   refine RD.fin<|RN.ret [] [0] [0] (v:=.tuple #[]) (H':=(ap [(tb,.lit ((Stp.lp t mb)++[vI ((bX t t.i b M).e.t),vI ((bX t t.i b M).e.i),vI ((bX t t.i b M).e.k),vI ((bX t t.i b M).e.v),.bool ((bX t t.i b M).em)]) 140 (0,0))] [T15])) ?_
   have e:(cJ t b c M)=⟨((((bX t t.i b M).M).set 3 0).set 2 (IntKind.i64.wrap (t.i+1))),0,⟨(bX t t.i b M).e.t,(bX t t.i b M).e.i,(bX t t.i b M).e.k,(bX t t.i b M).e.v⟩,(bX t t.i b M).em⟩:=by
    first | (simp only [cJ,dq,if_neg h1,if_pos h12];done) | (simp only [cJ,dq,if_neg h1,if_pos h12];rfl) | rfl
   refine ⟨T15,by rw [e] <;> rfl,?_⟩
   rw [e]
   exact hM16.weak (by omega)
  ·refine ae 2 [] λ _=>RN.ret [] [0] [0] (v:=.tuple #[]) (H':=(ap [(tb,.lit ((Stp.lp t mb)++[vI ((bX t t.i b M).e.t),vI ((bX t t.i b M).e.i),vI ((bX t t.i b M).e.k),vI ((bX t t.i b M).e.v),.bool ((bX t t.i b M).em)]) 140 (0,0))] [T10])) ?_
   have e:(cJ t b c M)=⟨(bX t t.i b M).M,0,⟨(bX t t.i b M).e.t,(bX t t.i b M).e.i,(bX t t.i b M).e.k,(bX t t.i b M).e.v⟩,(bX t t.i b M).em⟩:=by
    first | (simp only [cJ,dq,if_neg h1,if_neg h12];done) | (simp only [cJ,dq,if_neg h1,if_neg h12];rfl) | rfl
   refine ⟨T10,by rw [e] <;> rfl,?_⟩
   rw [e]
   exact hM11.weak (by omega)
theorem Hv (t:Stp) (b:Int) (c:Bool) (tb mb:Nat) (M:MemS) (k:Nat) (T F:HL) (hM:MemH mb M (k+8) T) (hS:SetIn F t.S) (hE:ck F) (hC:CodeIn F t.code t.cA t.cn) :Sp Tryz.prog 86 #[vP tb 0,vI 2,vI b,.bool c] (ap [(tb,.lit (Stp.l t mb) 140 (0,0))] [T]) F (λ u H'=>∃ x,H'=ap [(tb,.lit ((Stp.lp t mb)++[vI ((cK t b c M).e.t),vI ((cK t b c M).e.i),vI ((cK t b c M).e.k),vI ((cK t b c M).e.v),.bool ((cK t b c M).em)]) 140 (0,0))] [x] /\ (MemH mb (cK t b c M).M k x)):=by
 have hp:=hS.pl
 have hn:=hS.nb
 have hr:=hS.room
 refine Sp.run Tryz.func86 rfl (mc hS.blk mn) (A:=[(tb,.lit (Stp.l t mb) 140 (0,0))]) (Ts:=[T]) rfl λ w0=>?_
 refine ae 8 [.own 0] λ _=>RN.em (t.j=0) 13 (λ h1=>?_) λ h1=>?_
 ·refine ae 5 [] λ _=>mL (c) 16 (λ h2=>?_) λ h2=>?_
  ·refine ae 10 [.own 0] λ _=>RN.ct [0] [0] (Dz t t.i b tb mb M (k+2) T _ hM hS.up (au hE) hC.up) ?_
   rintro _ T3 ⟨hM4,rfl⟩
   refine ae 2 [] λ _=>fT (jd t t.i b M) 36 (λ h5=>?_) λ h5=>?_
   ·refine ae 11 [.own 0] λ _=>cV 41 (nt (decide_eq_true h1))<|ae 3 [] λ _=>RN.draw [11] []<|ag [] [0,4,1,5,2,6,3,7,8,9,10] [.own 0,.own 0]<|RD.one 11 (RDO.ct [] [] [0] (ai 2 (IntKind.i64.wrap (t.i+1)) hM4) ?_)
    rintro _ T6 hM7
    refine RD.fin<|RN.ret [] [0] [0] (v:=.tuple #[]) (H':=(ap [(tb,.lit ((Stp.lp t mb)++[vI ((bZ t t.i b M).e.t),vI ((bZ t t.i b M).e.i),vI ((bZ t t.i b M).e.k),vI ((bZ t t.i b M).e.v),.bool ((bZ t t.i b M).em)]) 140 (0,0))] [T6])) ?_
    have e:(cK t b c M)=⟨(((bZ t t.i b M).M).set 2 (IntKind.i64.wrap (t.i+1))),0,⟨(bZ t t.i b M).e.t,(bZ t t.i b M).e.i,(bZ t t.i b M).e.k,(bZ t t.i b M).e.v⟩,(bZ t t.i b M).em⟩:=by
     first | (simp only [cK,dq,if_pos h1,if_pos h2,if_pos h5];done) | (simp only [cK,dq,if_pos h1,if_pos h2,if_pos h5];rfl) | rfl
    refine ⟨T6,by rw [e] <;> rfl,?_⟩
    rw [e]
    exact hM7.weak (by omega)
   ·refine ae 2 [] λ _=>RN.ret [] [0] [0] (v:=.tuple #[]) (H':=(ap [(tb,.lit ((Stp.lp t mb)++[vI ((bZ t t.i b M).e.t),vI ((bZ t t.i b M).e.i),vI ((bZ t t.i b M).e.k),vI ((bZ t t.i b M).e.v),.bool ((bZ t t.i b M).em)]) 140 (0,0))] [T3])) ?_
    have e:(cK t b c M)=⟨(bZ t t.i b M).M,0,⟨(bZ t t.i b M).e.t,(bZ t t.i b M).e.i,(bZ t t.i b M).e.k,(bZ t t.i b M).e.v⟩,(bZ t t.i b M).em⟩:=by
     first | (simp only [cK,dq,if_pos h1,if_pos h2,if_neg h5];done) | (simp only [cK,dq,if_pos h1,if_pos h2,if_neg h5];rfl) | rfl
    refine ⟨T3,by rw [e] <;> rfl,?_⟩
    rw [e]
    exact hM4.weak (by omega)
  ·refine ae 1 [] λ _=>RN.draw [11] []<|ag [] [0,4,1,5,2,6,3,7,8,9,10] [.own 0,.own 0]<|RD.one 11 (RDO.ct [] [] [0] (ai 2 (IntKind.i64.wrap (t.i+1)) hM) ?_)
   rintro _ T8 hM9
   refine RD.fin<|RN.ret [] [0] [0] (v:=.tuple #[]) (H':=(ap [(tb,.lit (Stp.l t mb) 140 (0,0))] [T8])) ?_
   have e:(cK t b c M)=⟨(M.set 2 (IntKind.i64.wrap (t.i+1))),0,⟨t.f0,t.f1,t.f2,t.f3⟩,t.emitted⟩:=by
    first | (simp only [cK,dq,if_pos h1,if_neg h2];done) | (simp only [cK,dq,if_pos h1,if_neg h2];rfl) | rfl
   refine ⟨T8,by rw [e] <;> rfl,?_⟩
   rw [e]
   exact hM9.weak (by omega)
 ·refine ae 15 [.own 0] λ _=>RN.ct [0] [0] (Dz t t.i b tb mb M (k+2) T _ hM hS.up (au hE) hC.up) ?_
  rintro _ T10 ⟨hM11,rfl⟩
  refine ae 2 [] λ _=>fT (jd t t.i b M) 36 (λ h12=>?_) λ h12=>?_
  ·refine ae 11 [.own 0] λ _=>cV 41 (nf (decide_eq_false h1))<|ae 6 [.own 0] λ _=>RN.ct [] [0] (ai 3 0 hM11) ?_
   rintro _ T13 hM14
   refine ae 2 [] λ _=>RN.draw [11] []<|ag [] [0,4,1,5,2,6,3,7,8,9,10] [.own 0,.own 0]<|RD.one 11 (RDO.ct [] [] [0] (ai 2 (IntKind.i64.wrap (t.i+1)) hM14) ?_)
   rintro _ T15 hM16
   refine RD.fin<|RN.ret [] [0] [0] (v:=.tuple #[]) (H':=(ap [(tb,.lit ((Stp.lp t mb)++[vI ((bZ t t.i b M).e.t),vI ((bZ t t.i b M).e.i),vI ((bZ t t.i b M).e.k),vI ((bZ t t.i b M).e.v),.bool ((bZ t t.i b M).em)]) 140 (0,0))] [T15])) ?_
   have e:(cK t b c M)=⟨((((bZ t t.i b M).M).set 3 0).set 2 (IntKind.i64.wrap (t.i+1))),0,⟨(bZ t t.i b M).e.t,(bZ t t.i b M).e.i,(bZ t t.i b M).e.k,(bZ t t.i b M).e.v⟩,(bZ t t.i b M).em⟩:=by
    first | (simp only [cK,dq,if_neg h1,if_pos h12];done) | (simp only [cK,dq,if_neg h1,if_pos h12];rfl) | rfl
   refine ⟨T15,by rw [e] <;> rfl,?_⟩
   rw [e]
   exact hM16.weak (by omega)
  ·refine ae 2 [] λ _=>RN.ret [] [0] [0] (v:=.tuple #[]) (H':=(ap [(tb,.lit ((Stp.lp t mb)++[vI ((bZ t t.i b M).e.t),vI ((bZ t t.i b M).e.i),vI ((bZ t t.i b M).e.k),vI ((bZ t t.i b M).e.v),.bool ((bZ t t.i b M).em)]) 140 (0,0))] [T10])) ?_
   have e:(cK t b c M)=⟨(bZ t t.i b M).M,0,⟨(bZ t t.i b M).e.t,(bZ t t.i b M).e.i,(bZ t t.i b M).e.k,(bZ t t.i b M).e.v⟩,(bZ t t.i b M).em⟩:=by
    first | (simp only [cK,dq,if_neg h1,if_neg h12];done) | (simp only [cK,dq,if_neg h1,if_neg h12];rfl) | rfl
   refine ⟨T10,by rw [e] <;> rfl,?_⟩
   rw [e]
   exact hM11.weak (by omega)
theorem Mo (t:Stp)  (tb mb:Nat) (M:MemS) (k:Nat) (T F:HL) (hM:MemH mb M (k+9) T) (hS:SetIn F t.S) (hE:ck F) (hC:CodeIn F t.code t.cA t.cn) :Sp Tryz.prog 50 #[vP tb 0] (ap [(tb,.lit (Stp.l t mb) 140 (0,0))] [T]) F (λ u H'=>∃ x,H'=ap [(tb,.lit ((Stp.lp t mb)++[vI ((eU t M).e.t),vI ((eU t M).e.i),vI ((eU t M).e.k),vI ((eU t M).e.v),.bool ((eU t M).em)]) 140 (0,0))] [x] /\ (MemH mb (eU t M).M k x)):=by
 have hp:=hS.pl
 have hn:=hS.nb
 have hr:=hS.room
 refine Sp.run Tryz.func50 rfl (mc hS.blk mn) (A:=[(tb,.lit (Stp.l t mb) 140 (0,0))]) (Ts:=[T]) rfl λ w0=>?_
 refine ae 1 [] λ _=>RN.draw [] []<|ag [] [0,4,1,5,2,6,3,7] (ow 0 17)<|ar [] 8 (λ X_=>(gm t.S t.i _ hS.toSetN)) ?_
 have hb1:=gl hS.toSetN t.i
 refine ag [] [9] []<|RD.fin<|ae 8 [] λ _=>RN.em (ah t.S t.i < 0) 14 (λ h2=>?_) λ h2=>?_
 ·refine ae 4 [] λ _=>RN.ct [0] [0] (bH t 2 0 tb mb M (k+6) T _ hM hS.up ) ?_
  rintro _ T3 hM4
  refine ae 2 [] λ _=>RN.ret [] [0] [0] (v:=.tuple #[]) (H':=(ap [(tb,.lit (Stp.l t mb) 140 (0,0))] [T3])) ?_
  have e:(eU t M)=⟨(aM t 2 0 M),0,⟨t.f0,t.f1,t.f2,t.f3⟩,t.emitted⟩:=by
   first | (simp only [eU,VR.z,if_pos h2];done) | (simp only [eU,VR.z,if_pos h2];rfl) | rfl
  refine ⟨T3,by rw [e] <;> rfl,?_⟩
  rw [e]
  exact hM4.weak (by omega)
 ·refine al 11 [.own 0,.nw] [br ((ah t.S t.i)+2)] λ _=>aj (aw ((ah t.S t.i)+2) hM (aA 0))<|ae 8 [] λ _=>RN.ct [0] [0] (Hu t (M.get ((ah t.S t.i)+2)) (!(decide (M.get ((ah t.S t.i)+2)=0))) tb mb M (k+1) T _ hM hS.up (au hE) hC.up) ?_
  rintro _ T5 hM6
  refine ae 1 [] λ _=>RN.ret [] [0] [0] (v:=.tuple #[]) (H':=(ap [(tb,.lit ((Stp.lp t mb)++[vI ((cJ t (M.get ((ah t.S t.i)+2)) (!(decide (M.get ((ah t.S t.i)+2)=0))) M).e.t),vI ((cJ t (M.get ((ah t.S t.i)+2)) (!(decide (M.get ((ah t.S t.i)+2)=0))) M).e.i),vI ((cJ t (M.get ((ah t.S t.i)+2)) (!(decide (M.get ((ah t.S t.i)+2)=0))) M).e.k),vI ((cJ t (M.get ((ah t.S t.i)+2)) (!(decide (M.get ((ah t.S t.i)+2)=0))) M).e.v),.bool ((cJ t (M.get ((ah t.S t.i)+2)) (!(decide (M.get ((ah t.S t.i)+2)=0))) M).em)]) 140 (0,0))] [T5])) ?_
  have e:(eU t M)=⟨(cJ t (M.get ((ah t.S t.i)+2)) (!(decide (M.get ((ah t.S t.i)+2)=0))) M).M,0,⟨(cJ t (M.get ((ah t.S t.i)+2)) (!(decide (M.get ((ah t.S t.i)+2)=0))) M).e.t,(cJ t (M.get ((ah t.S t.i)+2)) (!(decide (M.get ((ah t.S t.i)+2)=0))) M).e.i,(cJ t (M.get ((ah t.S t.i)+2)) (!(decide (M.get ((ah t.S t.i)+2)=0))) M).e.k,(cJ t (M.get ((ah t.S t.i)+2)) (!(decide (M.get ((ah t.S t.i)+2)=0))) M).e.v⟩,(cJ t (M.get ((ah t.S t.i)+2)) (!(decide (M.get ((ah t.S t.i)+2)=0))) M).em⟩:=by
   first | (simp only [eU,VR.z,if_neg h2];done) | (simp only [eU,VR.z,if_neg h2];rfl) | rfl
  refine ⟨T5,by rw [e] <;> rfl,?_⟩
  rw [e]
  exact hM6.weak (by omega)
theorem Kn (t:Stp)  (tb mb:Nat) (M:MemS) (k:Nat) (T F:HL) (hM:MemH mb M (k+9) T) (hS:SetIn F t.S) (hE:ck F) (hC:CodeIn F t.code t.cA t.cn) :Sp Tryz.prog 51 #[vP tb 0] (ap [(tb,.lit (Stp.l t mb) 140 (0,0))] [T]) F (λ u H'=>∃ x,H'=ap [(tb,.lit ((Stp.lp t mb)++[vI ((cS t M).e.t),vI ((cS t M).e.i),vI ((cS t M).e.k),vI ((cS t M).e.v),.bool ((cS t M).em)]) 140 (0,0))] [x] /\ (MemH mb (cS t M).M k x)):=by
 have hp:=hS.pl
 have hn:=hS.nb
 have hr:=hS.room
 refine Sp.run Tryz.func51 rfl (mc hS.blk mn) (A:=[(tb,.lit (Stp.l t mb) 140 (0,0))]) (Ts:=[T]) rfl λ w0=>?_
 refine ae 3 [] λ _=>RN.ct [0] [0] (Km t 0 0 tb mb M (k+3) T _ hM hS.up (au hE) hC.up) ?_
 rintro _ T1 ⟨hM2,rfl⟩
 refine ae 2 [] λ _=>fT (jq t 0 0 M) 3 (λ h3=>?_) λ h3=>?_
 ·refine ae 3 [] λ _=>RN.ct [0] [0] (bH (t.upd (cX t 0 0 M)) 3 0 tb mb ((cX t 0 0 M).M) k T1 _ hM2 hS.up ) ?_
  rintro _ T4 hM5
  refine ae 1 [] λ _=>RN.ret [] [0] [0] (v:=.tuple #[]) (H':=(ap [(tb,.lit ((Stp.lp t mb)++[vI ((cX t 0 0 M).e.t),vI ((cX t 0 0 M).e.i),vI ((cX t 0 0 M).e.k),vI ((cX t 0 0 M).e.v),.bool ((cX t 0 0 M).em)]) 140 (0,0))] [T4])) ?_
  have e:(cS t M)=⟨(aM (t.upd (cX t 0 0 M)) 3 0 ((cX t 0 0 M).M)),0,⟨(cX t 0 0 M).e.t,(cX t 0 0 M).e.i,(cX t 0 0 M).e.k,(cX t 0 0 M).e.v⟩,(cX t 0 0 M).em⟩:=by
   first | (simp only [cS,VR.z,if_pos h3];done) | (simp only [cS,VR.z,if_pos h3];rfl) | rfl
  refine ⟨T4,by rw [e] <;> rfl,?_⟩
  rw [e]
  exact hM5.weak (by omega)
 ·refine ae 2 [] λ _=>RN.ret [] [0] [0] (v:=.tuple #[]) (H':=(ap [(tb,.lit ((Stp.lp t mb)++[vI ((cX t 0 0 M).e.t),vI ((cX t 0 0 M).e.i),vI ((cX t 0 0 M).e.k),vI ((cX t 0 0 M).e.v),.bool ((cX t 0 0 M).em)]) 140 (0,0))] [T1])) ?_
  have e:(cS t M)=⟨(cX t 0 0 M).M,0,⟨(cX t 0 0 M).e.t,(cX t 0 0 M).e.i,(cX t 0 0 M).e.k,(cX t 0 0 M).e.v⟩,(cX t 0 0 M).em⟩:=by
   first | (simp only [cS,VR.z,if_neg h3];done) | (simp only [cS,VR.z,if_neg h3];rfl) | rfl
  refine ⟨T1,by rw [e] <;> rfl,?_⟩
  rw [e]
  exact hM2.weak (by omega)
theorem Mp (t:Stp)  (tb mb:Nat) (M:MemS) (k:Nat) (T F:HL) (hM:MemH mb M (k+9) T) (hS:SetIn F t.S) (hE:ck F) (hC:CodeIn F t.code t.cA t.cn) :Sp Tryz.prog 55 #[vP tb 0] (ap [(tb,.lit (Stp.l t mb) 140 (0,0))] [T]) F (λ u H'=>∃ x,H'=ap [(tb,.lit ((Stp.lp t mb)++[vI ((eV t M).e.t),vI ((eV t M).e.i),vI ((eV t M).e.k),vI ((eV t M).e.v),.bool ((eV t M).em)]) 140 (0,0))] [x] /\ (MemH mb (eV t M).M k x)):=by
 have hp:=hS.pl
 have hn:=hS.nb
 have hr:=hS.room
 refine Sp.run Tryz.func55 rfl (mc hS.blk mn) (A:=[(tb,.lit (Stp.l t mb) 140 (0,0))]) (Ts:=[T]) rfl λ w0=>?_
 refine ae 1 [] λ _=>RN.draw [] []<|ag [] [0,4,1,5,2,6,3,7] (ow 0 17)<|ar [] 8 (λ X_=>(bS t.S t.i _ hS.toSetN)) ?_
 have hb1:=cB hS.toSetN t.i
 refine ag [] [9] []<|RD.fin<|ae 8 [] λ _=>RN.em (af t.S t.i < 0) 14 (λ h2=>?_) λ h2=>?_
 ·refine ae 4 [] λ _=>RN.ct [0] [0] (bH t 7 0 tb mb M (k+6) T _ hM hS.up ) ?_
  rintro _ T3 hM4
  refine ae 2 [] λ _=>RN.ret [] [0] [0] (v:=.tuple #[]) (H':=(ap [(tb,.lit (Stp.l t mb) 140 (0,0))] [T3])) ?_
  have e:(eV t M)=⟨(aM t 7 0 M),0,⟨t.f0,t.f1,t.f2,t.f3⟩,t.emitted⟩:=by
   first | (simp only [eV,VR.z,if_pos h2];done) | (simp only [eV,VR.z,if_pos h2];rfl) | rfl
  refine ⟨T3,by rw [e] <;> rfl,?_⟩
  rw [e]
  exact hM4.weak (by omega)
 ·refine al 11 [.own 0,.nw] [br ((af t.S t.i)+6)] λ _=>aj (aw ((af t.S t.i)+6) hM (aA 0))<|ae 9 [] λ _=>RN.ct [0] [0] (Hv t (IntKind.i64.wrap ((M.get ((af t.S t.i)+6)) - 1)) (!(decide (M.get ((af t.S t.i)+6)=0))) tb mb M (k+1) T _ hM hS.up (au hE) hC.up) ?_
  rintro _ T5 hM6
  refine ae 1 [] λ _=>RN.ret [] [0] [0] (v:=.tuple #[]) (H':=(ap [(tb,.lit ((Stp.lp t mb)++[vI ((cK t (IntKind.i64.wrap ((M.get ((af t.S t.i)+6)) - 1)) (!(decide (M.get ((af t.S t.i)+6)=0))) M).e.t),vI ((cK t (IntKind.i64.wrap ((M.get ((af t.S t.i)+6)) - 1)) (!(decide (M.get ((af t.S t.i)+6)=0))) M).e.i),vI ((cK t (IntKind.i64.wrap ((M.get ((af t.S t.i)+6)) - 1)) (!(decide (M.get ((af t.S t.i)+6)=0))) M).e.k),vI ((cK t (IntKind.i64.wrap ((M.get ((af t.S t.i)+6)) - 1)) (!(decide (M.get ((af t.S t.i)+6)=0))) M).e.v),.bool ((cK t (IntKind.i64.wrap ((M.get ((af t.S t.i)+6)) - 1)) (!(decide (M.get ((af t.S t.i)+6)=0))) M).em)]) 140 (0,0))] [T5])) ?_
  have e:(eV t M)=⟨(cK t (IntKind.i64.wrap ((M.get ((af t.S t.i)+6)) - 1)) (!(decide (M.get ((af t.S t.i)+6)=0))) M).M,0,⟨(cK t (IntKind.i64.wrap ((M.get ((af t.S t.i)+6)) - 1)) (!(decide (M.get ((af t.S t.i)+6)=0))) M).e.t,(cK t (IntKind.i64.wrap ((M.get ((af t.S t.i)+6)) - 1)) (!(decide (M.get ((af t.S t.i)+6)=0))) M).e.i,(cK t (IntKind.i64.wrap ((M.get ((af t.S t.i)+6)) - 1)) (!(decide (M.get ((af t.S t.i)+6)=0))) M).e.k,(cK t (IntKind.i64.wrap ((M.get ((af t.S t.i)+6)) - 1)) (!(decide (M.get ((af t.S t.i)+6)=0))) M).e.v⟩,(cK t (IntKind.i64.wrap ((M.get ((af t.S t.i)+6)) - 1)) (!(decide (M.get ((af t.S t.i)+6)=0))) M).em⟩:=by
   first | (simp only [eV,VR.z,if_neg h2];done) | (simp only [eV,VR.z,if_neg h2];rfl) | rfl
  refine ⟨T5,by rw [e] <;> rfl,?_⟩
  rw [e]
  exact hM6.weak (by omega)
end Go.Proofs.YtghjbimijeinfaaGreatDoor
