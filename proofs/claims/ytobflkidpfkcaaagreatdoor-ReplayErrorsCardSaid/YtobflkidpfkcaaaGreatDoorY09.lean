import Derived.Test.YtobflkidpfkcaaaGreatDoorY08
set_option maxHeartbeats 4000000
set_option maxRecDepth 100000
set_option linter.unusedSimpArgs false
set_option linter.unusedVariables false
namespace Go.Proofs.YtobflkidpfkcaaaGreatDoor
open Go.RowKit
def VR.z (r:VR):VR:=⟨r.M,0,r.e,r.em⟩
abbrev Stp.f (t:Stp):Eff:=⟨t.f0,t.f1,t.f2,t.f3⟩
def Stp.upd (t:Stp) (r:VR):Stp:={ t with f0:=r.e.t,f1:=r.e.i,f2:=r.e.k,f3:=r.e.v,emitted:=r.em }
def eG (e:Int) (t:Stp) (self other:Int) (M:MemS):VR:=if t.j=0 then (if e < 0 then ⟨aN e t.S.fuel self other M,0,t.f,t.emitted⟩ else ⟨(aN e t.S.fuel self other M).set 3 1,0,t.f,t.emitted⟩) else ⟨(al t.S t.code t.cn M).M,0,(al t.S t.code t.cn M).e,(al t.S t.code t.cn M).em⟩
def di (e:Int) (t:Stp) (self other:Int) (M:MemS):Bool:=if t.j=0 then decide (e < 0) else bu t.code t.cn M
abbrev b8 (t:Stp) (a b:Int) (M:MemS):VR:=eG t.e0 t a b M
abbrev cX (t:Stp) (a b:Int) (M:MemS):VR:=eG t.e1 t a b M
abbrev b9 (t:Stp) (a b:Int) (M:MemS):VR:=eG t.e2 t a b M
abbrev jk (t:Stp) (a b:Int) (M:MemS):Bool:=di t.e0 t a b M
abbrev jD (t:Stp) (a b:Int) (M:MemS):Bool:=di t.e1 t a b M
abbrev jl (t:Stp) (a b:Int) (M:MemS):Bool:=di t.e2 t a b M
def dz (r:VR) (over:Bool) (t:Stp) (cause:Bool) (M:MemS):VR:=if t.j=0 then (if cause=true then (if over=true then ⟨r.M.set 2 (bd (t.i+1)),0,r.e,r.em⟩ else ⟨r.M,0,r.e,r.em⟩) else ⟨M.set 2 (bd (t.i+1)),0,t.f,t.emitted⟩) else (if over=true then ⟨(r.M.set 3 0).set 2 (bd (t.i+1)),0,r.e,r.em⟩ else ⟨r.M,0,r.e,r.em⟩)
abbrev cM (t:Stp) (b:Int) (c:Bool) (M:MemS):VR:=dz (b8 t t.i b M) (jk t t.i b M) t c M
abbrev cN (t:Stp) (b:Int) (c:Bool) (M:MemS):VR:=dz (b9 t t.i b M) (jl t t.i b M) t c M
def eT (t:Stp) (M:MemS):VR:=if ah t.S t.i < 0 then ⟨aM t 2 0 M,0,t.f,t.emitted⟩ else (cM t (M.get (ah t.S t.i+2)) (!decide (M.get (ah t.S t.i+2)=0)) M).z
def cU (t:Stp) (M:MemS):VR:=if jD t 0 0 M=true then ⟨aM t 3 0 (cX t 0 0 M).M,0,(cX t 0 0 M).e,(cX t 0 0 M).em⟩ else ⟨(cX t 0 0 M).M,0,(cX t 0 0 M).e,(cX t 0 0 M).em⟩
def eU (t:Stp) (M:MemS):VR:=if af t.S t.i < 0 then ⟨aM t 7 0 M,0,t.f,t.emitted⟩ else (cN t (bd (M.get (af t.S t.i+6) - 1)) (!decide (M.get (af t.S t.i+6)=0)) M).z
theorem Eg (t:Stp) (a:Int) (b:Int) (tb mb:Nat) (M:MemS) (k:Nat) (T F:HL) (hM:MemH mb M (k+6) T) (hS:SetIn F t.S) (hE:¬ t.j=0 -> dg F) (hC:CodeIn F t.code t.cA t.cn) :Sp Tryz.prog 180 #[vP tb 0,vI 0,vI a,vI b] (ap [(tb,.lit (Stp.l t mb) 267 (0,0))] [T]) F (λ u H'=>∃ x,H'=ap [(tb,.lit ((Stp.lp t mb)++[vI ((b8 t a b M).e.t),vI ((b8 t a b M).e.i),vI ((b8 t a b M).e.k),vI ((b8 t a b M).e.v),.bool ((b8 t a b M).em)]) 267 (0,0))] [x] /\ (MemH mb (b8 t a b M).M k x /\ u=.bool (jk t a b M))):=by
 have hp:=hS.pl
 have hn:=hS.nb
 have hr:=hS.room
 refine Sp.run Tryz.func180 rfl (mc hS.blk mn) (A:=[(tb,.lit (Stp.l t mb) 267 (0,0))]) (Ts:=[T]) rfl λ w0=>?_
 refine ae 15 [.own 0] λ _=>RN.em (t.j=0) 16 (λ h1=>?_) λ h1=>?_
 ·refine ae 3 [] λ _=>RN.draw [16] []<|ag [] [0,4,8,9,10,11,1,5,12,2,6,13,3,7,14,15] (ow 0 6)<|RD.one 16 (RDO.ct [] [] [0] (Eb mb M (k+1) T t.cA t.cn t.cc t.e0 t.e1 t.e2 a b t.S.fuel _ hM) ?_)
  rintro _ T2 ⟨hM3,rfl⟩
  refine ag [] [17] []<|RD.fin<|ae 1 [] λ _=>?_
  rcases Decidable.em (t.e0 < 0) with h4 | h4
  ·refine RN.fx 34 (nf (nt (decide_eq_true h4)))<|ae 6 [] λ _=>RN.ret [] [0] [0] (v:=.bool true) (H':=(ap [(tb,.lit (Stp.l t mb) 267 (0,0))] [T2])) ?_
   have e:(b8 t a b M)=⟨(aN t.e0 t.S.fuel a b M),0,⟨t.f0,t.f1,t.f2,t.f3⟩,t.emitted⟩:=by
    first | (simp only [b8,eG,if_pos h1,if_pos h4];done) | (simp only [b8,eG,if_pos h1,if_pos h4];rfl) | rfl
   have er:(jk t a b M)=true:=by
    first | (simp only [jk,di,if_pos h1,if_pos h4];done) | (simp only [jk,di,if_pos h1,if_pos h4];simp [*];done) | (simp only [jk,di,if_pos h1,if_pos h4];rfl)
   refine ⟨T2,by rw [e] <;> rfl,?_,by rw [er]⟩
   rw [e]
   exact hM3.weak (by omega)
  ·refine RN.fx 34 (nt (nf (decide_eq_false h4)))<|ae 9 [.own 0] λ _=>RN.ct [] [0] (ak 3 1 hM3) ?_
   rintro _ T5 hM6
   refine ae 7 [] λ _=>RN.ret [] [0] [0] (v:=.bool false) (H':=(ap [(tb,.lit (Stp.l t mb) 267 (0,0))] [T5])) ?_
   have e:(b8 t a b M)=⟨((aN t.e0 t.S.fuel a b M).set 3 1),0,⟨t.f0,t.f1,t.f2,t.f3⟩,t.emitted⟩:=by
    first | (simp only [b8,eG,if_pos h1,if_neg h4];done) | (simp only [b8,eG,if_pos h1,if_neg h4];rfl) | rfl
   have er:(jk t a b M)=false:=by
    first | (simp only [jk,di,if_pos h1,if_neg h4];done) | (simp only [jk,di,if_pos h1,if_neg h4];simp [*];done) | (simp only [jk,di,if_pos h1,if_neg h4];rfl)
   refine ⟨T5,by rw [e] <;> rfl,?_,by rw [er]⟩
   rw [e]
   exact hM6.weak (by omega)
 ·refine ae 4 [] λ _=>RN.draw [12,19] []<|ag [] [0,4,8,1,5,9,2,6,10,3,7,11] (ow 0 21)<|fH 12 17 ?_ ?_
  ·refine RDO.ct [] [] [0] (gZ mb M k T t.S t.code t.cA t.cn t.cc t.e0 t.e1 t.e2 _ hM hS.toSetN (aw (hE h1)) hC.up) ?_
   rintro _ T7 ⟨hM8,rfl⟩
   refine ag [] [13,14,15,16] []<|RD.one 17 (RDO.ev [] [] λ n9=>?_)
   refine ag [] [18] []<|RD.one 19 (RDO.ev [] [.own 0,.own 0,.own 0,.own 0] λ _=>?_)
   refine ag [] [20] []<|RD.fin<|ae 21 ([.own 0,.own 0,.own 0,.own 0]++ow 1 5) λ _=>RN.ret [] [1] [0] (v:=.bool (bu t.code t.cn M)) (H':=(ap [(tb,.lit ((Stp.lp t mb)++[vI ((al t.S t.code t.cn M).e.t),vI ((al t.S t.code t.cn M).e.i),vI ((al t.S t.code t.cn M).e.k),vI ((al t.S t.code t.cn M).e.v),.bool ((al t.S t.code t.cn M).em)]) 267 (0,0))] [T7])) ?_
   have e:(b8 t a b M)=⟨(al t.S t.code t.cn M).M,0,⟨(al t.S t.code t.cn M).e.t,(al t.S t.code t.cn M).e.i,(al t.S t.code t.cn M).e.k,(al t.S t.code t.cn M).e.v⟩,(al t.S t.code t.cn M).em⟩:=by
    first | (simp only [b8,eG,if_neg h1];done) | (simp only [b8,eG,if_neg h1];rfl) | rfl
   have er:(jk t a b M)=bu t.code t.cn M:=by
    first | (simp only [jk,di,if_neg h1];done) | (simp only [jk,di,if_neg h1];simp [*];done) | (simp only [jk,di,if_neg h1];rfl)
   refine ⟨T7,by rw [e] <;> rfl,?_,by rw [er]⟩
   rw [e]
   exact hM8.weak (by omega)
  ·refine RDO.ev [] [] λ n10=>RD.one 12 (RDO.ct [] [] [0] (gZ mb M k T t.S t.code t.cA t.cn t.cc t.e0 t.e1 t.e2 _ hM hS.toSetN (aw (hE h1)) hC.up) ?_)
   rintro _ T11 ⟨hM12,rfl⟩
   refine ag [] [13,14,15,16,18] []<|RD.one 19 (RDO.ev [] [.own 0,.own 0,.own 0,.own 0] λ _=>?_)
   refine ag [] [20] []<|RD.fin<|ae 21 ([.own 0,.own 0,.own 0,.own 0]++ow 1 5) λ _=>RN.ret [] [1] [0] (v:=.bool (bu t.code t.cn M)) (H':=(ap [(tb,.lit ((Stp.lp t mb)++[vI ((al t.S t.code t.cn M).e.t),vI ((al t.S t.code t.cn M).e.i),vI ((al t.S t.code t.cn M).e.k),vI ((al t.S t.code t.cn M).e.v),.bool ((al t.S t.code t.cn M).em)]) 267 (0,0))] [T11])) ?_
   have e:(b8 t a b M)=⟨(al t.S t.code t.cn M).M,0,⟨(al t.S t.code t.cn M).e.t,(al t.S t.code t.cn M).e.i,(al t.S t.code t.cn M).e.k,(al t.S t.code t.cn M).e.v⟩,(al t.S t.code t.cn M).em⟩:=by
    first | (simp only [b8,eG,if_neg h1];done) | (simp only [b8,eG,if_neg h1];rfl) | rfl
   have er:(jk t a b M)=bu t.code t.cn M:=by
    first | (simp only [jk,di,if_neg h1];done) | (simp only [jk,di,if_neg h1];simp [*];done) | (simp only [jk,di,if_neg h1];rfl)
   refine ⟨T11,by rw [e] <;> rfl,?_,by rw [er]⟩
   rw [e]
   exact hM12.weak (by omega)
theorem KH (t:Stp) (a:Int) (b:Int) (tb mb:Nat) (M:MemS) (k:Nat) (T F:HL) (hM:MemH mb M (k+6) T) (hS:SetIn F t.S) (hE:¬ t.j=0 -> dg F) (hC:CodeIn F t.code t.cA t.cn) :Sp Tryz.prog 180 #[vP tb 0,vI 1,vI a,vI b] (ap [(tb,.lit (Stp.l t mb) 267 (0,0))] [T]) F (λ u H'=>∃ x,H'=ap [(tb,.lit ((Stp.lp t mb)++[vI ((cX t a b M).e.t),vI ((cX t a b M).e.i),vI ((cX t a b M).e.k),vI ((cX t a b M).e.v),.bool ((cX t a b M).em)]) 267 (0,0))] [x] /\ (MemH mb (cX t a b M).M k x /\ u=.bool (jD t a b M))):=by
 have hp:=hS.pl
 have hn:=hS.nb
 have hr:=hS.room
 refine Sp.run Tryz.func180 rfl (mc hS.blk mn) (A:=[(tb,.lit (Stp.l t mb) 267 (0,0))]) (Ts:=[T]) rfl λ w0=>?_
 refine ae 15 [.own 0] λ _=>RN.em (t.j=0) 16 (λ h1=>?_) λ h1=>?_
 ·refine ae 3 [] λ _=>RN.draw [16] []<|ag [] [0,4,8,9,10,11,1,5,12,2,6,13,3,7,14,15] (ow 0 6)<|RD.one 16 (RDO.ct [] [] [0] (Ec mb M (k+1) T t.cA t.cn t.cc t.e0 t.e1 t.e2 a b t.S.fuel _ hM) ?_)
  rintro _ T2 ⟨hM3,rfl⟩
  refine ag [] [17] []<|RD.fin<|ae 1 [] λ _=>?_
  rcases Decidable.em (t.e1 < 0) with h4 | h4
  ·refine RN.fx 34 (nf (nt (decide_eq_true h4)))<|ae 6 [] λ _=>RN.ret [] [0] [0] (v:=.bool true) (H':=(ap [(tb,.lit (Stp.l t mb) 267 (0,0))] [T2])) ?_
   have e:(cX t a b M)=⟨(aN t.e1 t.S.fuel a b M),0,⟨t.f0,t.f1,t.f2,t.f3⟩,t.emitted⟩:=by
    first | (simp only [cX,eG,if_pos h1,if_pos h4];done) | (simp only [cX,eG,if_pos h1,if_pos h4];rfl) | rfl
   have er:(jD t a b M)=true:=by
    first | (simp only [jD,di,if_pos h1,if_pos h4];done) | (simp only [jD,di,if_pos h1,if_pos h4];simp [*];done) | (simp only [jD,di,if_pos h1,if_pos h4];rfl)
   refine ⟨T2,by rw [e] <;> rfl,?_,by rw [er]⟩
   rw [e]
   exact hM3.weak (by omega)
  ·refine RN.fx 34 (nt (nf (decide_eq_false h4)))<|ae 9 [.own 0] λ _=>RN.ct [] [0] (ak 3 1 hM3) ?_
   rintro _ T5 hM6
   refine ae 7 [] λ _=>RN.ret [] [0] [0] (v:=.bool false) (H':=(ap [(tb,.lit (Stp.l t mb) 267 (0,0))] [T5])) ?_
   have e:(cX t a b M)=⟨((aN t.e1 t.S.fuel a b M).set 3 1),0,⟨t.f0,t.f1,t.f2,t.f3⟩,t.emitted⟩:=by
    first | (simp only [cX,eG,if_pos h1,if_neg h4];done) | (simp only [cX,eG,if_pos h1,if_neg h4];rfl) | rfl
   have er:(jD t a b M)=false:=by
    first | (simp only [jD,di,if_pos h1,if_neg h4];done) | (simp only [jD,di,if_pos h1,if_neg h4];simp [*];done) | (simp only [jD,di,if_pos h1,if_neg h4];rfl)
   refine ⟨T5,by rw [e] <;> rfl,?_,by rw [er]⟩
   rw [e]
   exact hM6.weak (by omega)
 ·refine ae 4 [] λ _=>RN.draw [12,19] []<|ag [] [0,4,8,1,5,9,2,6,10,3,7,11] (ow 0 21)<|fH 12 17 ?_ ?_
  ·refine RDO.ct [] [] [0] (gZ mb M k T t.S t.code t.cA t.cn t.cc t.e0 t.e1 t.e2 _ hM hS.toSetN (aw (hE h1)) hC.up) ?_
   rintro _ T7 ⟨hM8,rfl⟩
   refine ag [] [13,14,15,16] []<|RD.one 17 (RDO.ev [] [] λ n9=>?_)
   refine ag [] [18] []<|RD.one 19 (RDO.ev [] [.own 0,.own 0,.own 0,.own 0] λ _=>?_)
   refine ag [] [20] []<|RD.fin<|ae 21 ([.own 0,.own 0,.own 0,.own 0]++ow 1 5) λ _=>RN.ret [] [1] [0] (v:=.bool (bu t.code t.cn M)) (H':=(ap [(tb,.lit ((Stp.lp t mb)++[vI ((al t.S t.code t.cn M).e.t),vI ((al t.S t.code t.cn M).e.i),vI ((al t.S t.code t.cn M).e.k),vI ((al t.S t.code t.cn M).e.v),.bool ((al t.S t.code t.cn M).em)]) 267 (0,0))] [T7])) ?_
   have e:(cX t a b M)=⟨(al t.S t.code t.cn M).M,0,⟨(al t.S t.code t.cn M).e.t,(al t.S t.code t.cn M).e.i,(al t.S t.code t.cn M).e.k,(al t.S t.code t.cn M).e.v⟩,(al t.S t.code t.cn M).em⟩:=by
    first | (simp only [cX,eG,if_neg h1];done) | (simp only [cX,eG,if_neg h1];rfl) | rfl
   have er:(jD t a b M)=bu t.code t.cn M:=by
    first | (simp only [jD,di,if_neg h1];done) | (simp only [jD,di,if_neg h1];simp [*];done) | (simp only [jD,di,if_neg h1];rfl)
   refine ⟨T7,by rw [e] <;> rfl,?_,by rw [er]⟩
   rw [e]
   exact hM8.weak (by omega)
  ·refine RDO.ev [] [] λ n10=>RD.one 12 (RDO.ct [] [] [0] (gZ mb M k T t.S t.code t.cA t.cn t.cc t.e0 t.e1 t.e2 _ hM hS.toSetN (aw (hE h1)) hC.up) ?_)
   rintro _ T11 ⟨hM12,rfl⟩
   refine ag [] [13,14,15,16,18] []<|RD.one 19 (RDO.ev [] [.own 0,.own 0,.own 0,.own 0] λ _=>?_)
   refine ag [] [20] []<|RD.fin<|ae 21 ([.own 0,.own 0,.own 0,.own 0]++ow 1 5) λ _=>RN.ret [] [1] [0] (v:=.bool (bu t.code t.cn M)) (H':=(ap [(tb,.lit ((Stp.lp t mb)++[vI ((al t.S t.code t.cn M).e.t),vI ((al t.S t.code t.cn M).e.i),vI ((al t.S t.code t.cn M).e.k),vI ((al t.S t.code t.cn M).e.v),.bool ((al t.S t.code t.cn M).em)]) 267 (0,0))] [T11])) ?_
   have e:(cX t a b M)=⟨(al t.S t.code t.cn M).M,0,⟨(al t.S t.code t.cn M).e.t,(al t.S t.code t.cn M).e.i,(al t.S t.code t.cn M).e.k,(al t.S t.code t.cn M).e.v⟩,(al t.S t.code t.cn M).em⟩:=by
    first | (simp only [cX,eG,if_neg h1];done) | (simp only [cX,eG,if_neg h1];rfl) | rfl
   have er:(jD t a b M)=bu t.code t.cn M:=by
    first | (simp only [jD,di,if_neg h1];done) | (simp only [jD,di,if_neg h1];simp [*];done) | (simp only [jD,di,if_neg h1];rfl)
   refine ⟨T11,by rw [e] <;> rfl,?_,by rw [er]⟩
   rw [e]
   exact hM12.weak (by omega)
theorem Eh (t:Stp) (a:Int) (b:Int) (tb mb:Nat) (M:MemS) (k:Nat) (T F:HL) (hM:MemH mb M (k+6) T) (hS:SetIn F t.S) (hE:¬ t.j=0 -> dg F) (hC:CodeIn F t.code t.cA t.cn) :Sp Tryz.prog 180 #[vP tb 0,vI 2,vI a,vI b] (ap [(tb,.lit (Stp.l t mb) 267 (0,0))] [T]) F (λ u H'=>∃ x,H'=ap [(tb,.lit ((Stp.lp t mb)++[vI ((b9 t a b M).e.t),vI ((b9 t a b M).e.i),vI ((b9 t a b M).e.k),vI ((b9 t a b M).e.v),.bool ((b9 t a b M).em)]) 267 (0,0))] [x] /\ (MemH mb (b9 t a b M).M k x /\ u=.bool (jl t a b M))):=by
 have hp:=hS.pl
 have hn:=hS.nb
 have hr:=hS.room
 refine Sp.run Tryz.func180 rfl (mc hS.blk mn) (A:=[(tb,.lit (Stp.l t mb) 267 (0,0))]) (Ts:=[T]) rfl λ w0=>?_
 refine ae 15 [.own 0] λ _=>RN.em (t.j=0) 16 (λ h1=>?_) λ h1=>?_
 ·refine ae 3 [] λ _=>RN.draw [16] []<|ag [] [0,4,8,9,10,11,1,5,12,2,6,13,3,7,14,15] (ow 0 6)<|RD.one 16 (RDO.ct [] [] [0] (Ed mb M (k+1) T t.cA t.cn t.cc t.e0 t.e1 t.e2 a b t.S.fuel _ hM) ?_)
  rintro _ T2 ⟨hM3,rfl⟩
  refine ag [] [17] []<|RD.fin<|ae 1 [] λ _=>?_
  rcases Decidable.em (t.e2 < 0) with h4 | h4
  ·refine RN.fx 34 (nf (nt (decide_eq_true h4)))<|ae 6 [] λ _=>RN.ret [] [0] [0] (v:=.bool true) (H':=(ap [(tb,.lit (Stp.l t mb) 267 (0,0))] [T2])) ?_
   have e:(b9 t a b M)=⟨(aN t.e2 t.S.fuel a b M),0,⟨t.f0,t.f1,t.f2,t.f3⟩,t.emitted⟩:=by
    first | (simp only [b9,eG,if_pos h1,if_pos h4];done) | (simp only [b9,eG,if_pos h1,if_pos h4];rfl) | rfl
   have er:(jl t a b M)=true:=by
    first | (simp only [jl,di,if_pos h1,if_pos h4];done) | (simp only [jl,di,if_pos h1,if_pos h4];simp [*];done) | (simp only [jl,di,if_pos h1,if_pos h4];rfl)
   refine ⟨T2,by rw [e] <;> rfl,?_,by rw [er]⟩
   rw [e]
   exact hM3.weak (by omega)
  ·refine RN.fx 34 (nt (nf (decide_eq_false h4)))<|ae 9 [.own 0] λ _=>RN.ct [] [0] (ak 3 1 hM3) ?_
   rintro _ T5 hM6
   refine ae 7 [] λ _=>RN.ret [] [0] [0] (v:=.bool false) (H':=(ap [(tb,.lit (Stp.l t mb) 267 (0,0))] [T5])) ?_
   have e:(b9 t a b M)=⟨((aN t.e2 t.S.fuel a b M).set 3 1),0,⟨t.f0,t.f1,t.f2,t.f3⟩,t.emitted⟩:=by
    first | (simp only [b9,eG,if_pos h1,if_neg h4];done) | (simp only [b9,eG,if_pos h1,if_neg h4];rfl) | rfl
   have er:(jl t a b M)=false:=by
    first | (simp only [jl,di,if_pos h1,if_neg h4];done) | (simp only [jl,di,if_pos h1,if_neg h4];simp [*];done) | (simp only [jl,di,if_pos h1,if_neg h4];rfl)
   refine ⟨T5,by rw [e] <;> rfl,?_,by rw [er]⟩
   rw [e]
   exact hM6.weak (by omega)
 ·refine ae 4 [] λ _=>RN.draw [12,19] []<|ag [] [0,4,8,1,5,9,2,6,10,3,7,11] (ow 0 21)<|fH 12 17 ?_ ?_
  ·refine RDO.ct [] [] [0] (gZ mb M k T t.S t.code t.cA t.cn t.cc t.e0 t.e1 t.e2 _ hM hS.toSetN (aw (hE h1)) hC.up) ?_
   rintro _ T7 ⟨hM8,rfl⟩
   refine ag [] [13,14,15,16] []<|RD.one 17 (RDO.ev [] [] λ n9=>?_)
   refine ag [] [18] []<|RD.one 19 (RDO.ev [] [.own 0,.own 0,.own 0,.own 0] λ _=>?_)
   refine ag [] [20] []<|RD.fin<|ae 21 ([.own 0,.own 0,.own 0,.own 0]++ow 1 5) λ _=>RN.ret [] [1] [0] (v:=.bool (bu t.code t.cn M)) (H':=(ap [(tb,.lit ((Stp.lp t mb)++[vI ((al t.S t.code t.cn M).e.t),vI ((al t.S t.code t.cn M).e.i),vI ((al t.S t.code t.cn M).e.k),vI ((al t.S t.code t.cn M).e.v),.bool ((al t.S t.code t.cn M).em)]) 267 (0,0))] [T7])) ?_
   have e:(b9 t a b M)=⟨(al t.S t.code t.cn M).M,0,⟨(al t.S t.code t.cn M).e.t,(al t.S t.code t.cn M).e.i,(al t.S t.code t.cn M).e.k,(al t.S t.code t.cn M).e.v⟩,(al t.S t.code t.cn M).em⟩:=by
    first | (simp only [b9,eG,if_neg h1];done) | (simp only [b9,eG,if_neg h1];rfl) | rfl
   have er:(jl t a b M)=bu t.code t.cn M:=by
    first | (simp only [jl,di,if_neg h1];done) | (simp only [jl,di,if_neg h1];simp [*];done) | (simp only [jl,di,if_neg h1];rfl)
   refine ⟨T7,by rw [e] <;> rfl,?_,by rw [er]⟩
   rw [e]
   exact hM8.weak (by omega)
  ·refine RDO.ev [] [] λ n10=>RD.one 12 (RDO.ct [] [] [0] (gZ mb M k T t.S t.code t.cA t.cn t.cc t.e0 t.e1 t.e2 _ hM hS.toSetN (aw (hE h1)) hC.up) ?_)
   rintro _ T11 ⟨hM12,rfl⟩
   refine ag [] [13,14,15,16,18] []<|RD.one 19 (RDO.ev [] [.own 0,.own 0,.own 0,.own 0] λ _=>?_)
   refine ag [] [20] []<|RD.fin<|ae 21 ([.own 0,.own 0,.own 0,.own 0]++ow 1 5) λ _=>RN.ret [] [1] [0] (v:=.bool (bu t.code t.cn M)) (H':=(ap [(tb,.lit ((Stp.lp t mb)++[vI ((al t.S t.code t.cn M).e.t),vI ((al t.S t.code t.cn M).e.i),vI ((al t.S t.code t.cn M).e.k),vI ((al t.S t.code t.cn M).e.v),.bool ((al t.S t.code t.cn M).em)]) 267 (0,0))] [T11])) ?_
   have e:(b9 t a b M)=⟨(al t.S t.code t.cn M).M,0,⟨(al t.S t.code t.cn M).e.t,(al t.S t.code t.cn M).e.i,(al t.S t.code t.cn M).e.k,(al t.S t.code t.cn M).e.v⟩,(al t.S t.code t.cn M).em⟩:=by
    first | (simp only [b9,eG,if_neg h1];done) | (simp only [b9,eG,if_neg h1];rfl) | rfl
   have er:(jl t a b M)=bu t.code t.cn M:=by
    first | (simp only [jl,di,if_neg h1];done) | (simp only [jl,di,if_neg h1];simp [*];done) | (simp only [jl,di,if_neg h1];rfl)
   refine ⟨T11,by rw [e] <;> rfl,?_,by rw [er]⟩
   rw [e]
   exact hM12.weak (by omega)
theorem H4 (t:Stp) (b:Int) (c:Bool) (tb mb:Nat) (M:MemS) (k:Nat) (T F:HL) (hM:MemH mb M (k+8) T) (hS:SetIn F t.S) (hE:¬ t.j=0 -> dg F) (hC:CodeIn F t.code t.cA t.cn) :Sp Tryz.prog 179 #[vP tb 0,vI 0,vI b,.bool c] (ap [(tb,.lit (Stp.l t mb) 267 (0,0))] [T]) F (λ u H'=>∃ x,H'=ap [(tb,.lit ((Stp.lp t mb)++[vI ((cM t b c M).e.t),vI ((cM t b c M).e.i),vI ((cM t b c M).e.k),vI ((cM t b c M).e.v),.bool ((cM t b c M).em)]) 267 (0,0))] [x] /\ (MemH mb (cM t b c M).M k x)):=by
 have hp:=hS.pl
 have hn:=hS.nb
 have hr:=hS.room
 refine Sp.run Tryz.func179 rfl (mc hS.blk mn) (A:=[(tb,.lit (Stp.l t mb) 267 (0,0))]) (Ts:=[T]) rfl λ w0=>?_
 refine ae 8 [.own 0] λ _=>RN.em (t.j=0) 13 (λ h1=>?_) λ h1=>?_
 ·refine ae 5 [] λ _=>uO (c) 16 (λ h2=>?_) λ h2=>?_
  ·refine ae 10 [.own 0] λ _=>RN.ct [0] [0] (Eg t t.i b tb mb M (k+2) T _ hM hS.up (λ h_=>aw (hE h_)) hC.up) ?_
   rintro _ T3 ⟨hM4,rfl⟩
   refine ae 2 [] λ _=>i0 (jk t t.i b M) 36 (λ h5=>?_) λ h5=>?_
   ·refine ae 11 [.own 0] λ _=>RN.fx 41 (nt (decide_eq_true h1))<|ae 3 [] λ _=>RN.draw [11] []<|ag [] [0,4,1,5,2,6,3,7,8,9,10] [.own 0,.own 0]<|RD.one 11 (RDO.ct [] [] [0] (ak 2 (IntKind.i64.wrap (t.i+1)) hM4) ?_)
    rintro _ T6 hM7
    refine RD.fin<|RN.ret [] [0] [0] (v:=.tuple #[]) (H':=(ap [(tb,.lit ((Stp.lp t mb)++[vI ((b8 t t.i b M).e.t),vI ((b8 t t.i b M).e.i),vI ((b8 t t.i b M).e.k),vI ((b8 t t.i b M).e.v),.bool ((b8 t t.i b M).em)]) 267 (0,0))] [T6])) ?_
    have e:(cM t b c M)=⟨(((b8 t t.i b M).M).set 2 (IntKind.i64.wrap (t.i+1))),0,⟨(b8 t t.i b M).e.t,(b8 t t.i b M).e.i,(b8 t t.i b M).e.k,(b8 t t.i b M).e.v⟩,(b8 t t.i b M).em⟩:=by
     first | (simp only [cM,dz,if_pos h1,if_pos h2,if_pos h5];done) | (simp only [cM,dz,if_pos h1,if_pos h2,if_pos h5];rfl) | rfl
    refine ⟨T6,by rw [e] <;> rfl,?_⟩
    rw [e]
    exact hM7.weak (by omega)
   ·refine ae 2 [] λ _=>RN.ret [] [0] [0] (v:=.tuple #[]) (H':=(ap [(tb,.lit ((Stp.lp t mb)++[vI ((b8 t t.i b M).e.t),vI ((b8 t t.i b M).e.i),vI ((b8 t t.i b M).e.k),vI ((b8 t t.i b M).e.v),.bool ((b8 t t.i b M).em)]) 267 (0,0))] [T3])) ?_
    have e:(cM t b c M)=⟨(b8 t t.i b M).M,0,⟨(b8 t t.i b M).e.t,(b8 t t.i b M).e.i,(b8 t t.i b M).e.k,(b8 t t.i b M).e.v⟩,(b8 t t.i b M).em⟩:=by
     first | (simp only [cM,dz,if_pos h1,if_pos h2,if_neg h5];done) | (simp only [cM,dz,if_pos h1,if_pos h2,if_neg h5];rfl) | rfl
    refine ⟨T3,by rw [e] <;> rfl,?_⟩
    rw [e]
    exact hM4.weak (by omega)
  ·refine ae 1 [] λ _=>RN.draw [11] []<|ag [] [0,4,1,5,2,6,3,7,8,9,10] [.own 0,.own 0]<|RD.one 11 (RDO.ct [] [] [0] (ak 2 (IntKind.i64.wrap (t.i+1)) hM) ?_)
   rintro _ T8 hM9
   refine RD.fin<|RN.ret [] [0] [0] (v:=.tuple #[]) (H':=(ap [(tb,.lit (Stp.l t mb) 267 (0,0))] [T8])) ?_
   have e:(cM t b c M)=⟨(M.set 2 (IntKind.i64.wrap (t.i+1))),0,⟨t.f0,t.f1,t.f2,t.f3⟩,t.emitted⟩:=by
    first | (simp only [cM,dz,if_pos h1,if_neg h2];done) | (simp only [cM,dz,if_pos h1,if_neg h2];rfl) | rfl
   refine ⟨T8,by rw [e] <;> rfl,?_⟩
   rw [e]
   exact hM9.weak (by omega)
 ·refine ae 15 [.own 0] λ _=>RN.ct [0] [0] (Eg t t.i b tb mb M (k+2) T _ hM hS.up (λ h_=>aw (hE h_)) hC.up) ?_
  rintro _ T10 ⟨hM11,rfl⟩
  refine ae 2 [] λ _=>i0 (jk t t.i b M) 36 (λ h12=>?_) λ h12=>?_
  ·refine ae 11 [.own 0] λ _=>RN.fx 41 (nf (decide_eq_false h1))<|ae 6 [.own 0] λ _=>RN.ct [] [0] (ak 3 0 hM11) ?_
   rintro _ T13 hM14
   refine ae 2 [] λ _=>RN.draw [11] []<|ag [] [0,4,1,5,2,6,3,7,8,9,10] [.own 0,.own 0]<|RD.one 11 (RDO.ct [] [] [0] (ak 2 (IntKind.i64.wrap (t.i+1)) hM14) ?_)
   rintro _ T15 hM16
   refine RD.fin<|RN.ret [] [0] [0] (v:=.tuple #[]) (H':=(ap [(tb,.lit ((Stp.lp t mb)++[vI ((b8 t t.i b M).e.t),vI ((b8 t t.i b M).e.i),vI ((b8 t t.i b M).e.k),vI ((b8 t t.i b M).e.v),.bool ((b8 t t.i b M).em)]) 267 (0,0))] [T15])) ?_
   have e:(cM t b c M)=⟨((((b8 t t.i b M).M).set 3 0).set 2 (IntKind.i64.wrap (t.i+1))),0,⟨(b8 t t.i b M).e.t,(b8 t t.i b M).e.i,(b8 t t.i b M).e.k,(b8 t t.i b M).e.v⟩,(b8 t t.i b M).em⟩:=by
    first | (simp only [cM,dz,if_neg h1,if_pos h12];done) | (simp only [cM,dz,if_neg h1,if_pos h12];rfl) | rfl
   refine ⟨T15,by rw [e] <;> rfl,?_⟩
   rw [e]
   exact hM16.weak (by omega)
  ·refine ae 2 [] λ _=>RN.ret [] [0] [0] (v:=.tuple #[]) (H':=(ap [(tb,.lit ((Stp.lp t mb)++[vI ((b8 t t.i b M).e.t),vI ((b8 t t.i b M).e.i),vI ((b8 t t.i b M).e.k),vI ((b8 t t.i b M).e.v),.bool ((b8 t t.i b M).em)]) 267 (0,0))] [T10])) ?_
   have e:(cM t b c M)=⟨(b8 t t.i b M).M,0,⟨(b8 t t.i b M).e.t,(b8 t t.i b M).e.i,(b8 t t.i b M).e.k,(b8 t t.i b M).e.v⟩,(b8 t t.i b M).em⟩:=by
    first | (simp only [cM,dz,if_neg h1,if_neg h12];done) | (simp only [cM,dz,if_neg h1,if_neg h12];rfl) | rfl
   refine ⟨T10,by rw [e] <;> rfl,?_⟩
   rw [e]
   exact hM11.weak (by omega)
theorem H5 (t:Stp) (b:Int) (c:Bool) (tb mb:Nat) (M:MemS) (k:Nat) (T F:HL) (hM:MemH mb M (k+8) T) (hS:SetIn F t.S) (hE:¬ t.j=0 -> dg F) (hC:CodeIn F t.code t.cA t.cn) :Sp Tryz.prog 179 #[vP tb 0,vI 2,vI b,.bool c] (ap [(tb,.lit (Stp.l t mb) 267 (0,0))] [T]) F (λ u H'=>∃ x,H'=ap [(tb,.lit ((Stp.lp t mb)++[vI ((cN t b c M).e.t),vI ((cN t b c M).e.i),vI ((cN t b c M).e.k),vI ((cN t b c M).e.v),.bool ((cN t b c M).em)]) 267 (0,0))] [x] /\ (MemH mb (cN t b c M).M k x)):=by
 have hp:=hS.pl
 have hn:=hS.nb
 have hr:=hS.room
 refine Sp.run Tryz.func179 rfl (mc hS.blk mn) (A:=[(tb,.lit (Stp.l t mb) 267 (0,0))]) (Ts:=[T]) rfl λ w0=>?_
 refine ae 8 [.own 0] λ _=>RN.em (t.j=0) 13 (λ h1=>?_) λ h1=>?_
 ·refine ae 5 [] λ _=>uO (c) 16 (λ h2=>?_) λ h2=>?_
  ·refine ae 10 [.own 0] λ _=>RN.ct [0] [0] (Eh t t.i b tb mb M (k+2) T _ hM hS.up (λ h_=>aw (hE h_)) hC.up) ?_
   rintro _ T3 ⟨hM4,rfl⟩
   refine ae 2 [] λ _=>i0 (jl t t.i b M) 36 (λ h5=>?_) λ h5=>?_
   ·refine ae 11 [.own 0] λ _=>RN.fx 41 (nt (decide_eq_true h1))<|ae 3 [] λ _=>RN.draw [11] []<|ag [] [0,4,1,5,2,6,3,7,8,9,10] [.own 0,.own 0]<|RD.one 11 (RDO.ct [] [] [0] (ak 2 (IntKind.i64.wrap (t.i+1)) hM4) ?_)
    rintro _ T6 hM7
    refine RD.fin<|RN.ret [] [0] [0] (v:=.tuple #[]) (H':=(ap [(tb,.lit ((Stp.lp t mb)++[vI ((b9 t t.i b M).e.t),vI ((b9 t t.i b M).e.i),vI ((b9 t t.i b M).e.k),vI ((b9 t t.i b M).e.v),.bool ((b9 t t.i b M).em)]) 267 (0,0))] [T6])) ?_
    have e:(cN t b c M)=⟨(((b9 t t.i b M).M).set 2 (IntKind.i64.wrap (t.i+1))),0,⟨(b9 t t.i b M).e.t,(b9 t t.i b M).e.i,(b9 t t.i b M).e.k,(b9 t t.i b M).e.v⟩,(b9 t t.i b M).em⟩:=by
     first | (simp only [cN,dz,if_pos h1,if_pos h2,if_pos h5];done) | (simp only [cN,dz,if_pos h1,if_pos h2,if_pos h5];rfl) | rfl
    refine ⟨T6,by rw [e] <;> rfl,?_⟩
    rw [e]
    exact hM7.weak (by omega)
   ·refine ae 2 [] λ _=>RN.ret [] [0] [0] (v:=.tuple #[]) (H':=(ap [(tb,.lit ((Stp.lp t mb)++[vI ((b9 t t.i b M).e.t),vI ((b9 t t.i b M).e.i),vI ((b9 t t.i b M).e.k),vI ((b9 t t.i b M).e.v),.bool ((b9 t t.i b M).em)]) 267 (0,0))] [T3])) ?_
    have e:(cN t b c M)=⟨(b9 t t.i b M).M,0,⟨(b9 t t.i b M).e.t,(b9 t t.i b M).e.i,(b9 t t.i b M).e.k,(b9 t t.i b M).e.v⟩,(b9 t t.i b M).em⟩:=by
     first | (simp only [cN,dz,if_pos h1,if_pos h2,if_neg h5];done) | (simp only [cN,dz,if_pos h1,if_pos h2,if_neg h5];rfl) | rfl
    refine ⟨T3,by rw [e] <;> rfl,?_⟩
    rw [e]
    exact hM4.weak (by omega)
  ·refine ae 1 [] λ _=>RN.draw [11] []<|ag [] [0,4,1,5,2,6,3,7,8,9,10] [.own 0,.own 0]<|RD.one 11 (RDO.ct [] [] [0] (ak 2 (IntKind.i64.wrap (t.i+1)) hM) ?_)
   rintro _ T8 hM9
   refine RD.fin<|RN.ret [] [0] [0] (v:=.tuple #[]) (H':=(ap [(tb,.lit (Stp.l t mb) 267 (0,0))] [T8])) ?_
   have e:(cN t b c M)=⟨(M.set 2 (IntKind.i64.wrap (t.i+1))),0,⟨t.f0,t.f1,t.f2,t.f3⟩,t.emitted⟩:=by
    first | (simp only [cN,dz,if_pos h1,if_neg h2];done) | (simp only [cN,dz,if_pos h1,if_neg h2];rfl) | rfl
   refine ⟨T8,by rw [e] <;> rfl,?_⟩
   rw [e]
   exact hM9.weak (by omega)
 ·refine ae 15 [.own 0] λ _=>RN.ct [0] [0] (Eh t t.i b tb mb M (k+2) T _ hM hS.up (λ h_=>aw (hE h_)) hC.up) ?_
  rintro _ T10 ⟨hM11,rfl⟩
  refine ae 2 [] λ _=>i0 (jl t t.i b M) 36 (λ h12=>?_) λ h12=>?_
  ·refine ae 11 [.own 0] λ _=>RN.fx 41 (nf (decide_eq_false h1))<|ae 6 [.own 0] λ _=>RN.ct [] [0] (ak 3 0 hM11) ?_
   rintro _ T13 hM14
   refine ae 2 [] λ _=>RN.draw [11] []<|ag [] [0,4,1,5,2,6,3,7,8,9,10] [.own 0,.own 0]<|RD.one 11 (RDO.ct [] [] [0] (ak 2 (IntKind.i64.wrap (t.i+1)) hM14) ?_)
   rintro _ T15 hM16
   refine RD.fin<|RN.ret [] [0] [0] (v:=.tuple #[]) (H':=(ap [(tb,.lit ((Stp.lp t mb)++[vI ((b9 t t.i b M).e.t),vI ((b9 t t.i b M).e.i),vI ((b9 t t.i b M).e.k),vI ((b9 t t.i b M).e.v),.bool ((b9 t t.i b M).em)]) 267 (0,0))] [T15])) ?_
   have e:(cN t b c M)=⟨((((b9 t t.i b M).M).set 3 0).set 2 (IntKind.i64.wrap (t.i+1))),0,⟨(b9 t t.i b M).e.t,(b9 t t.i b M).e.i,(b9 t t.i b M).e.k,(b9 t t.i b M).e.v⟩,(b9 t t.i b M).em⟩:=by
    first | (simp only [cN,dz,if_neg h1,if_pos h12];done) | (simp only [cN,dz,if_neg h1,if_pos h12];rfl) | rfl
   refine ⟨T15,by rw [e] <;> rfl,?_⟩
   rw [e]
   exact hM16.weak (by omega)
  ·refine ae 2 [] λ _=>RN.ret [] [0] [0] (v:=.tuple #[]) (H':=(ap [(tb,.lit ((Stp.lp t mb)++[vI ((b9 t t.i b M).e.t),vI ((b9 t t.i b M).e.i),vI ((b9 t t.i b M).e.k),vI ((b9 t t.i b M).e.v),.bool ((b9 t t.i b M).em)]) 267 (0,0))] [T10])) ?_
   have e:(cN t b c M)=⟨(b9 t t.i b M).M,0,⟨(b9 t t.i b M).e.t,(b9 t t.i b M).e.i,(b9 t t.i b M).e.k,(b9 t t.i b M).e.v⟩,(b9 t t.i b M).em⟩:=by
    first | (simp only [cN,dz,if_neg h1,if_neg h12];done) | (simp only [cN,dz,if_neg h1,if_neg h12];rfl) | rfl
   refine ⟨T10,by rw [e] <;> rfl,?_⟩
   rw [e]
   exact hM11.weak (by omega)
theorem ML (t:Stp)  (tb mb:Nat) (M:MemS) (k:Nat) (T F:HL) (hM:MemH mb M (k+9) T) (hS:SetIn F t.S) (hE:¬ t.j=0 -> dg F) (hC:CodeIn F t.code t.cA t.cn) :Sp Tryz.prog 141 #[vP tb 0] (ap [(tb,.lit (Stp.l t mb) 267 (0,0))] [T]) F (λ u H'=>∃ x,H'=ap [(tb,.lit ((Stp.lp t mb)++[vI ((eT t M).e.t),vI ((eT t M).e.i),vI ((eT t M).e.k),vI ((eT t M).e.v),.bool ((eT t M).em)]) 267 (0,0))] [x] /\ (MemH mb (eT t M).M k x)):=by
 have hp:=hS.pl
 have hn:=hS.nb
 have hr:=hS.room
 refine Sp.run Tryz.func141 rfl (mc hS.blk mn) (A:=[(tb,.lit (Stp.l t mb) 267 (0,0))]) (Ts:=[T]) rfl λ w0=>?_
 refine ae 1 [] λ _=>RN.draw [] []<|ag [] [0,4,1,5,2,6,3,7] (ow 0 17)<|au [] 8 (λ X_=>(gm t.S t.i _ hS.toSetN)) ?_
 have hb1:=gl hS.toSetN t.i
 refine ag [] [9] []<|RD.fin<|ae 8 [] λ _=>RN.em (ah t.S t.i < 0) 14 (λ h2=>?_) λ h2=>?_
 ·refine ae 4 [] λ _=>RN.ct [0] [0] (bK t 2 0 tb mb M (k+6) T _ hM hS.up ) ?_
  rintro _ T3 hM4
  refine ae 2 [] λ _=>RN.ret [] [0] [0] (v:=.tuple #[]) (H':=(ap [(tb,.lit (Stp.l t mb) 267 (0,0))] [T3])) ?_
  have e:(eT t M)=⟨(aM t 2 0 M),0,⟨t.f0,t.f1,t.f2,t.f3⟩,t.emitted⟩:=by
   first | (simp only [eT,VR.z,if_pos h2];done) | (simp only [eT,VR.z,if_pos h2];rfl) | rfl
  refine ⟨T3,by rw [e] <;> rfl,?_⟩
  rw [e]
  exact hM4.weak (by omega)
 ·refine ai 11 [.own 0,.nw] [bg ((ah t.S t.i)+2)] λ _=>aj (az ((ah t.S t.i)+2) hM (av 0))<|ae 8 [] λ _=>RN.ct [0] [0] (H4 t (M.get ((ah t.S t.i)+2)) (!(decide (M.get ((ah t.S t.i)+2)=0))) tb mb M (k+1) T _ hM hS.up (λ h_=>aw (hE h_)) hC.up) ?_
  rintro _ T5 hM6
  refine ae 1 [] λ _=>RN.ret [] [0] [0] (v:=.tuple #[]) (H':=(ap [(tb,.lit ((Stp.lp t mb)++[vI ((cM t (M.get ((ah t.S t.i)+2)) (!(decide (M.get ((ah t.S t.i)+2)=0))) M).e.t),vI ((cM t (M.get ((ah t.S t.i)+2)) (!(decide (M.get ((ah t.S t.i)+2)=0))) M).e.i),vI ((cM t (M.get ((ah t.S t.i)+2)) (!(decide (M.get ((ah t.S t.i)+2)=0))) M).e.k),vI ((cM t (M.get ((ah t.S t.i)+2)) (!(decide (M.get ((ah t.S t.i)+2)=0))) M).e.v),.bool ((cM t (M.get ((ah t.S t.i)+2)) (!(decide (M.get ((ah t.S t.i)+2)=0))) M).em)]) 267 (0,0))] [T5])) ?_
  have e:(eT t M)=⟨(cM t (M.get ((ah t.S t.i)+2)) (!(decide (M.get ((ah t.S t.i)+2)=0))) M).M,0,⟨(cM t (M.get ((ah t.S t.i)+2)) (!(decide (M.get ((ah t.S t.i)+2)=0))) M).e.t,(cM t (M.get ((ah t.S t.i)+2)) (!(decide (M.get ((ah t.S t.i)+2)=0))) M).e.i,(cM t (M.get ((ah t.S t.i)+2)) (!(decide (M.get ((ah t.S t.i)+2)=0))) M).e.k,(cM t (M.get ((ah t.S t.i)+2)) (!(decide (M.get ((ah t.S t.i)+2)=0))) M).e.v⟩,(cM t (M.get ((ah t.S t.i)+2)) (!(decide (M.get ((ah t.S t.i)+2)=0))) M).em⟩:=by
   first | (simp only [eT,VR.z,if_neg h2];done) | (simp only [eT,VR.z,if_neg h2];rfl) | rfl
  refine ⟨T5,by rw [e] <;> rfl,?_⟩
  rw [e]
  exact hM6.weak (by omega)
theorem KJ (t:Stp)  (tb mb:Nat) (M:MemS) (k:Nat) (T F:HL) (hM:MemH mb M (k+9) T) (hS:SetIn F t.S) (hE:¬ t.j=0 -> dg F) (hC:CodeIn F t.code t.cA t.cn) :Sp Tryz.prog 142 #[vP tb 0] (ap [(tb,.lit (Stp.l t mb) 267 (0,0))] [T]) F (λ u H'=>∃ x,H'=ap [(tb,.lit ((Stp.lp t mb)++[vI ((cU t M).e.t),vI ((cU t M).e.i),vI ((cU t M).e.k),vI ((cU t M).e.v),.bool ((cU t M).em)]) 267 (0,0))] [x] /\ (MemH mb (cU t M).M k x)):=by
 have hp:=hS.pl
 have hn:=hS.nb
 have hr:=hS.room
 refine Sp.run Tryz.func142 rfl (mc hS.blk mn) (A:=[(tb,.lit (Stp.l t mb) 267 (0,0))]) (Ts:=[T]) rfl λ w0=>?_
 refine ae 3 [] λ _=>RN.ct [0] [0] (KH t 0 0 tb mb M (k+3) T _ hM hS.up (λ h_=>aw (hE h_)) hC.up) ?_
 rintro _ T1 ⟨hM2,rfl⟩
 refine ae 2 [] λ _=>i0 (jD t 0 0 M) 3 (λ h3=>?_) λ h3=>?_
 ·refine ae 3 [] λ _=>RN.ct [0] [0] (bK (t.upd (cX t 0 0 M)) 3 0 tb mb ((cX t 0 0 M).M) k T1 _ hM2 hS.up ) ?_
  rintro _ T4 hM5
  refine ae 1 [] λ _=>RN.ret [] [0] [0] (v:=.tuple #[]) (H':=(ap [(tb,.lit ((Stp.lp t mb)++[vI ((cX t 0 0 M).e.t),vI ((cX t 0 0 M).e.i),vI ((cX t 0 0 M).e.k),vI ((cX t 0 0 M).e.v),.bool ((cX t 0 0 M).em)]) 267 (0,0))] [T4])) ?_
  have e:(cU t M)=⟨(aM (t.upd (cX t 0 0 M)) 3 0 ((cX t 0 0 M).M)),0,⟨(cX t 0 0 M).e.t,(cX t 0 0 M).e.i,(cX t 0 0 M).e.k,(cX t 0 0 M).e.v⟩,(cX t 0 0 M).em⟩:=by
   first | (simp only [cU,VR.z,if_pos h3];done) | (simp only [cU,VR.z,if_pos h3];rfl) | rfl
  refine ⟨T4,by rw [e] <;> rfl,?_⟩
  rw [e]
  exact hM5.weak (by omega)
 ·refine ae 2 [] λ _=>RN.ret [] [0] [0] (v:=.tuple #[]) (H':=(ap [(tb,.lit ((Stp.lp t mb)++[vI ((cX t 0 0 M).e.t),vI ((cX t 0 0 M).e.i),vI ((cX t 0 0 M).e.k),vI ((cX t 0 0 M).e.v),.bool ((cX t 0 0 M).em)]) 267 (0,0))] [T1])) ?_
  have e:(cU t M)=⟨(cX t 0 0 M).M,0,⟨(cX t 0 0 M).e.t,(cX t 0 0 M).e.i,(cX t 0 0 M).e.k,(cX t 0 0 M).e.v⟩,(cX t 0 0 M).em⟩:=by
   first | (simp only [cU,VR.z,if_neg h3];done) | (simp only [cU,VR.z,if_neg h3];rfl) | rfl
  refine ⟨T1,by rw [e] <;> rfl,?_⟩
  rw [e]
  exact hM2.weak (by omega)
theorem MM (t:Stp)  (tb mb:Nat) (M:MemS) (k:Nat) (T F:HL) (hM:MemH mb M (k+9) T) (hS:SetIn F t.S) (hE:¬ t.j=0 -> dg F) (hC:CodeIn F t.code t.cA t.cn) :Sp Tryz.prog 146 #[vP tb 0] (ap [(tb,.lit (Stp.l t mb) 267 (0,0))] [T]) F (λ u H'=>∃ x,H'=ap [(tb,.lit ((Stp.lp t mb)++[vI ((eU t M).e.t),vI ((eU t M).e.i),vI ((eU t M).e.k),vI ((eU t M).e.v),.bool ((eU t M).em)]) 267 (0,0))] [x] /\ (MemH mb (eU t M).M k x)):=by
 have hp:=hS.pl
 have hn:=hS.nb
 have hr:=hS.room
 refine Sp.run Tryz.func146 rfl (mc hS.blk mn) (A:=[(tb,.lit (Stp.l t mb) 267 (0,0))]) (Ts:=[T]) rfl λ w0=>?_
 refine ae 1 [] λ _=>RN.draw [] []<|ag [] [0,4,1,5,2,6,3,7] (ow 0 17)<|au [] 8 (λ X_=>(cI t.S t.i _ hS.toSetN)) ?_
 have hb1:=cH hS.toSetN t.i
 refine ag [] [9] []<|RD.fin<|ae 8 [] λ _=>RN.em (af t.S t.i < 0) 14 (λ h2=>?_) λ h2=>?_
 ·refine ae 4 [] λ _=>RN.ct [0] [0] (bK t 7 0 tb mb M (k+6) T _ hM hS.up ) ?_
  rintro _ T3 hM4
  refine ae 2 [] λ _=>RN.ret [] [0] [0] (v:=.tuple #[]) (H':=(ap [(tb,.lit (Stp.l t mb) 267 (0,0))] [T3])) ?_
  have e:(eU t M)=⟨(aM t 7 0 M),0,⟨t.f0,t.f1,t.f2,t.f3⟩,t.emitted⟩:=by
   first | (simp only [eU,VR.z,if_pos h2];done) | (simp only [eU,VR.z,if_pos h2];rfl) | rfl
  refine ⟨T3,by rw [e] <;> rfl,?_⟩
  rw [e]
  exact hM4.weak (by omega)
 ·refine ai 11 [.own 0,.nw] [bg ((af t.S t.i)+6)] λ _=>aj (az ((af t.S t.i)+6) hM (av 0))<|ae 9 [] λ _=>RN.ct [0] [0] (H5 t (IntKind.i64.wrap ((M.get ((af t.S t.i)+6)) - 1)) (!(decide (M.get ((af t.S t.i)+6)=0))) tb mb M (k+1) T _ hM hS.up (λ h_=>aw (hE h_)) hC.up) ?_
  rintro _ T5 hM6
  refine ae 1 [] λ _=>RN.ret [] [0] [0] (v:=.tuple #[]) (H':=(ap [(tb,.lit ((Stp.lp t mb)++[vI ((cN t (IntKind.i64.wrap ((M.get ((af t.S t.i)+6)) - 1)) (!(decide (M.get ((af t.S t.i)+6)=0))) M).e.t),vI ((cN t (IntKind.i64.wrap ((M.get ((af t.S t.i)+6)) - 1)) (!(decide (M.get ((af t.S t.i)+6)=0))) M).e.i),vI ((cN t (IntKind.i64.wrap ((M.get ((af t.S t.i)+6)) - 1)) (!(decide (M.get ((af t.S t.i)+6)=0))) M).e.k),vI ((cN t (IntKind.i64.wrap ((M.get ((af t.S t.i)+6)) - 1)) (!(decide (M.get ((af t.S t.i)+6)=0))) M).e.v),.bool ((cN t (IntKind.i64.wrap ((M.get ((af t.S t.i)+6)) - 1)) (!(decide (M.get ((af t.S t.i)+6)=0))) M).em)]) 267 (0,0))] [T5])) ?_
  have e:(eU t M)=⟨(cN t (IntKind.i64.wrap ((M.get ((af t.S t.i)+6)) - 1)) (!(decide (M.get ((af t.S t.i)+6)=0))) M).M,0,⟨(cN t (IntKind.i64.wrap ((M.get ((af t.S t.i)+6)) - 1)) (!(decide (M.get ((af t.S t.i)+6)=0))) M).e.t,(cN t (IntKind.i64.wrap ((M.get ((af t.S t.i)+6)) - 1)) (!(decide (M.get ((af t.S t.i)+6)=0))) M).e.i,(cN t (IntKind.i64.wrap ((M.get ((af t.S t.i)+6)) - 1)) (!(decide (M.get ((af t.S t.i)+6)=0))) M).e.k,(cN t (IntKind.i64.wrap ((M.get ((af t.S t.i)+6)) - 1)) (!(decide (M.get ((af t.S t.i)+6)=0))) M).e.v⟩,(cN t (IntKind.i64.wrap ((M.get ((af t.S t.i)+6)) - 1)) (!(decide (M.get ((af t.S t.i)+6)=0))) M).em⟩:=by
   first | (simp only [eU,VR.z,if_neg h2];done) | (simp only [eU,VR.z,if_neg h2];rfl) | rfl
  refine ⟨T5,by rw [e] <;> rfl,?_⟩
  rw [e]
  exact hM6.weak (by omega)
end Go.Proofs.YtobflkidpfkcaaaGreatDoor
