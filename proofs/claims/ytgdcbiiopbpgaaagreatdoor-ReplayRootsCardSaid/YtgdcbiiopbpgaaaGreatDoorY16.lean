import Derived.Test.YtgdcbiiopbpgaaaGreatDoorY15
set_option maxHeartbeats 4000000
set_option maxRecDepth 100000
set_option linter.unusedSimpArgs false
set_option linter.unusedVariables false
namespace Go.Proofs.YtgdcbiiopbpgaaaGreatDoor
open Go.RowKit
def VR.z (r:VR):VR:=⟨r.M,0,r.e,r.em⟩
abbrev Stp.f (t:Stp):Eff:=⟨t.f0,t.f1,t.f2,t.f3⟩
def Stp.upd (t:Stp) (r:VR):Stp:={ t with f0:=r.e.t,f1:=r.e.i,f2:=r.e.k,f3:=r.e.v,emitted:=r.em }
def eG (e:Int) (t:Stp) (self other:Int) (M:MemS):VR:=if t.j=0 then (if e < 0 then ⟨aN e t.S.fuel self other M,0,t.f,t.emitted⟩ else ⟨(aN e t.S.fuel self other M).set 3 1,0,t.f,t.emitted⟩) else ⟨(al t.S t.code t.cn M).M,0,(al t.S t.code t.cn M).e,(al t.S t.code t.cn M).em⟩
def dj (e:Int) (t:Stp) (self other:Int) (M:MemS):Bool:=if t.j=0 then decide (e < 0) else bn t.code t.cn M
abbrev b6 (t:Stp) (a b:Int) (M:MemS):VR:=eG t.e0 t a b M
abbrev cX (t:Stp) (a b:Int) (M:MemS):VR:=eG t.e1 t a b M
abbrev b7 (t:Stp) (a b:Int) (M:MemS):VR:=eG t.e2 t a b M
abbrev jl (t:Stp) (a b:Int) (M:MemS):Bool:=dj t.e0 t a b M
abbrev jC (t:Stp) (a b:Int) (M:MemS):Bool:=dj t.e1 t a b M
abbrev jm (t:Stp) (a b:Int) (M:MemS):Bool:=dj t.e2 t a b M
def dw (r:VR) (over:Bool) (t:Stp) (cause:Bool) (M:MemS):VR:=if t.j=0 then (if cause=true then (if over=true then ⟨r.M.set 2 (aY (t.i+1)),0,r.e,r.em⟩ else ⟨r.M,0,r.e,r.em⟩) else ⟨M.set 2 (aY (t.i+1)),0,t.f,t.emitted⟩) else (if over=true then ⟨(r.M.set 3 0).set 2 (aY (t.i+1)),0,r.e,r.em⟩ else ⟨r.M,0,r.e,r.em⟩)
abbrev cM (t:Stp) (b:Int) (c:Bool) (M:MemS):VR:=dw (b6 t t.i b M) (jl t t.i b M) t c M
abbrev cN (t:Stp) (b:Int) (c:Bool) (M:MemS):VR:=dw (b7 t t.i b M) (jm t t.i b M) t c M
def eV (t:Stp) (M:MemS):VR:=if ah t.S t.i < 0 then ⟨aM t 2 0 M,0,t.f,t.emitted⟩ else (cM t (M.get (ah t.S t.i+2)) (!decide (M.get (ah t.S t.i+2)=0)) M).z
def cU (t:Stp) (M:MemS):VR:=if jC t 0 0 M=true then ⟨aM t 3 0 (cX t 0 0 M).M,0,(cX t 0 0 M).e,(cX t 0 0 M).em⟩ else ⟨(cX t 0 0 M).M,0,(cX t 0 0 M).e,(cX t 0 0 M).em⟩
def eX (t:Stp) (M:MemS):VR:=if af t.S t.i < 0 then ⟨aM t 7 0 M,0,t.f,t.emitted⟩ else (cN t (aY (M.get (af t.S t.i+6) - 1)) (!decide (M.get (af t.S t.i+6)=0)) M).z
theorem DU (t:Stp) (a:Int) (b:Int) (tb mb:Nat) (M:MemS) (k:Nat) (T F:HL) (hM:MemH mb M (k+6) T) (hS:SetIn F t.S) (hE:dh F) (hC:CodeIn F t.code t.cA t.cn) :Sp Tryz.prog 186 #[vP tb 0,vI 0,vI a,vI b] (ap [(tb,.lit (Stp.l t mb) 275 (0,0))] [T]) F (λ u H'=>∃ x,H'=ap [(tb,.lit ((Stp.lp t mb)++[vI ((b6 t a b M).e.t),vI ((b6 t a b M).e.i),vI ((b6 t a b M).e.k),vI ((b6 t a b M).e.v),.bool ((b6 t a b M).em)]) 275 (0,0))] [x] /\ (MemH mb (b6 t a b M).M k x /\ u=.bool (jl t a b M))):=by
 have hp:=hS.pl
 have hn:=hS.nb
 have hr:=hS.room
 refine Sp.run Tryz.func186 rfl (mc hS.blk mn) (A:=[(tb,.lit (Stp.l t mb) 275 (0,0))]) (Ts:=[T]) rfl λ w0=>?_
 refine ae 15 [.own 0] λ _=>RN.em (t.j=0) 16 (λ h1=>?_) λ h1=>?_
 ·refine ae 3 [] λ _=>RN.draw [16] []<|ag [] [0,4,8,9,10,11,1,5,12,2,6,13,3,7,14,15] (ow 0 6)<|RD.one 16 (RDO.ct [] [] [0] (DP mb M (k+1) T t.cA t.cn t.cc t.e0 t.e1 t.e2 a b t.S.fuel _ hM) ?_)
  rintro _ T2 ⟨hM3,rfl⟩
  refine ag [] [17] []<|RD.fin<|ae 1 [] λ _=>?_
  rcases Decidable.em (t.e0 < 0) with h4 | h4
  ·refine cT 34 (nf (nt (decide_eq_true h4)))<|ae 6 [] λ _=>RN.ret [] [0] [0] (v:=.bool true) (H':=(ap [(tb,.lit (Stp.l t mb) 275 (0,0))] [T2])) ?_
   have e:(b6 t a b M)=⟨(aN t.e0 t.S.fuel a b M),0,⟨t.f0,t.f1,t.f2,t.f3⟩,t.emitted⟩:=by
    first | (simp only [b6,eG,if_pos h1,if_pos h4];done) | (simp only [b6,eG,if_pos h1,if_pos h4];rfl) | rfl
   have er:(jl t a b M)=true:=by
    first | (simp only [jl,dj,if_pos h1,if_pos h4];done) | (simp only [jl,dj,if_pos h1,if_pos h4];simp [*];done) | (simp only [jl,dj,if_pos h1,if_pos h4];rfl)
   refine ⟨T2,by rw [e] <;> rfl,?_,by rw [er]⟩
   rw [e]
   exact hM3.weak (by omega)
  ·refine cT 34 (nt (nf (decide_eq_false h4)))<|ae 9 [.own 0] λ _=>RN.ct [] [0] (ak 3 1 hM3) ?_
   rintro _ T5 hM6
   refine ae 7 [] λ _=>RN.ret [] [0] [0] (v:=.bool false) (H':=(ap [(tb,.lit (Stp.l t mb) 275 (0,0))] [T5])) ?_
   have e:(b6 t a b M)=⟨((aN t.e0 t.S.fuel a b M).set 3 1),0,⟨t.f0,t.f1,t.f2,t.f3⟩,t.emitted⟩:=by
    first | (simp only [b6,eG,if_pos h1,if_neg h4];done) | (simp only [b6,eG,if_pos h1,if_neg h4];rfl) | rfl
   have er:(jl t a b M)=false:=by
    first | (simp only [jl,dj,if_pos h1,if_neg h4];done) | (simp only [jl,dj,if_pos h1,if_neg h4];simp [*];done) | (simp only [jl,dj,if_pos h1,if_neg h4];rfl)
   refine ⟨T5,by rw [e] <;> rfl,?_,by rw [er]⟩
   rw [e]
   exact hM6.weak (by omega)
 ·refine ae 4 [] λ _=>RN.draw [12,19] []<|ag [] [0,4,8,1,5,9,2,6,10,3,7,11] (ow 0 21)<|fH 12 17 ?_ ?_
  ·refine RDO.ct [] [] [0] (g9 mb M k T t.S t.code t.cA t.cn t.cc t.e0 t.e1 t.e2 _ hM hS.toSetN (aw hE) hC.up) ?_
   rintro _ T7 ⟨hM8,rfl⟩
   refine ag [] [13,14,15,16] []<|RD.one 17 (RDO.ev [] [] λ n9=>?_)
   refine ag [] [18] []<|RD.one 19 (RDO.ev [] [.own 0,.own 0,.own 0,.own 0] λ _=>?_)
   refine ag [] [20] []<|RD.fin<|ae 21 ([.own 0,.own 0,.own 0,.own 0]++ow 1 5) λ _=>RN.ret [] [1] [0] (v:=.bool (bn t.code t.cn M)) (H':=(ap [(tb,.lit ((Stp.lp t mb)++[vI ((al t.S t.code t.cn M).e.t),vI ((al t.S t.code t.cn M).e.i),vI ((al t.S t.code t.cn M).e.k),vI ((al t.S t.code t.cn M).e.v),.bool ((al t.S t.code t.cn M).em)]) 275 (0,0))] [T7])) ?_
   have e:(b6 t a b M)=⟨(al t.S t.code t.cn M).M,0,⟨(al t.S t.code t.cn M).e.t,(al t.S t.code t.cn M).e.i,(al t.S t.code t.cn M).e.k,(al t.S t.code t.cn M).e.v⟩,(al t.S t.code t.cn M).em⟩:=by
    first | (simp only [b6,eG,if_neg h1];done) | (simp only [b6,eG,if_neg h1];rfl) | rfl
   have er:(jl t a b M)=bn t.code t.cn M:=by
    first | (simp only [jl,dj,if_neg h1];done) | (simp only [jl,dj,if_neg h1];simp [*];done) | (simp only [jl,dj,if_neg h1];rfl)
   refine ⟨T7,by rw [e] <;> rfl,?_,by rw [er]⟩
   rw [e]
   exact hM8.weak (by omega)
  ·refine RDO.ev [] [] λ n10=>RD.one 12 (RDO.ct [] [] [0] (g9 mb M k T t.S t.code t.cA t.cn t.cc t.e0 t.e1 t.e2 _ hM hS.toSetN (aw hE) hC.up) ?_)
   rintro _ T11 ⟨hM12,rfl⟩
   refine ag [] [13,14,15,16,18] []<|RD.one 19 (RDO.ev [] [.own 0,.own 0,.own 0,.own 0] λ _=>?_)
   refine ag [] [20] []<|RD.fin<|ae 21 ([.own 0,.own 0,.own 0,.own 0]++ow 1 5) λ _=>RN.ret [] [1] [0] (v:=.bool (bn t.code t.cn M)) (H':=(ap [(tb,.lit ((Stp.lp t mb)++[vI ((al t.S t.code t.cn M).e.t),vI ((al t.S t.code t.cn M).e.i),vI ((al t.S t.code t.cn M).e.k),vI ((al t.S t.code t.cn M).e.v),.bool ((al t.S t.code t.cn M).em)]) 275 (0,0))] [T11])) ?_
   have e:(b6 t a b M)=⟨(al t.S t.code t.cn M).M,0,⟨(al t.S t.code t.cn M).e.t,(al t.S t.code t.cn M).e.i,(al t.S t.code t.cn M).e.k,(al t.S t.code t.cn M).e.v⟩,(al t.S t.code t.cn M).em⟩:=by
    first | (simp only [b6,eG,if_neg h1];done) | (simp only [b6,eG,if_neg h1];rfl) | rfl
   have er:(jl t a b M)=bn t.code t.cn M:=by
    first | (simp only [jl,dj,if_neg h1];done) | (simp only [jl,dj,if_neg h1];simp [*];done) | (simp only [jl,dj,if_neg h1];rfl)
   refine ⟨T11,by rw [e] <;> rfl,?_,by rw [er]⟩
   rw [e]
   exact hM12.weak (by omega)
theorem Ku (t:Stp) (a:Int) (b:Int) (tb mb:Nat) (M:MemS) (k:Nat) (T F:HL) (hM:MemH mb M (k+6) T) (hS:SetIn F t.S) (hE:dh F) (hC:CodeIn F t.code t.cA t.cn) :Sp Tryz.prog 186 #[vP tb 0,vI 1,vI a,vI b] (ap [(tb,.lit (Stp.l t mb) 275 (0,0))] [T]) F (λ u H'=>∃ x,H'=ap [(tb,.lit ((Stp.lp t mb)++[vI ((cX t a b M).e.t),vI ((cX t a b M).e.i),vI ((cX t a b M).e.k),vI ((cX t a b M).e.v),.bool ((cX t a b M).em)]) 275 (0,0))] [x] /\ (MemH mb (cX t a b M).M k x /\ u=.bool (jC t a b M))):=by
 have hp:=hS.pl
 have hn:=hS.nb
 have hr:=hS.room
 refine Sp.run Tryz.func186 rfl (mc hS.blk mn) (A:=[(tb,.lit (Stp.l t mb) 275 (0,0))]) (Ts:=[T]) rfl λ w0=>?_
 refine ae 15 [.own 0] λ _=>RN.em (t.j=0) 16 (λ h1=>?_) λ h1=>?_
 ·refine ae 3 [] λ _=>RN.draw [16] []<|ag [] [0,4,8,9,10,11,1,5,12,2,6,13,3,7,14,15] (ow 0 6)<|RD.one 16 (RDO.ct [] [] [0] (DQ mb M (k+1) T t.cA t.cn t.cc t.e0 t.e1 t.e2 a b t.S.fuel _ hM) ?_)
  rintro _ T2 ⟨hM3,rfl⟩
  refine ag [] [17] []<|RD.fin<|ae 1 [] λ _=>?_
  rcases Decidable.em (t.e1 < 0) with h4 | h4
  ·refine cT 34 (nf (nt (decide_eq_true h4)))<|ae 6 [] λ _=>RN.ret [] [0] [0] (v:=.bool true) (H':=(ap [(tb,.lit (Stp.l t mb) 275 (0,0))] [T2])) ?_
   have e:(cX t a b M)=⟨(aN t.e1 t.S.fuel a b M),0,⟨t.f0,t.f1,t.f2,t.f3⟩,t.emitted⟩:=by
    first | (simp only [cX,eG,if_pos h1,if_pos h4];done) | (simp only [cX,eG,if_pos h1,if_pos h4];rfl) | rfl
   have er:(jC t a b M)=true:=by
    first | (simp only [jC,dj,if_pos h1,if_pos h4];done) | (simp only [jC,dj,if_pos h1,if_pos h4];simp [*];done) | (simp only [jC,dj,if_pos h1,if_pos h4];rfl)
   refine ⟨T2,by rw [e] <;> rfl,?_,by rw [er]⟩
   rw [e]
   exact hM3.weak (by omega)
  ·refine cT 34 (nt (nf (decide_eq_false h4)))<|ae 9 [.own 0] λ _=>RN.ct [] [0] (ak 3 1 hM3) ?_
   rintro _ T5 hM6
   refine ae 7 [] λ _=>RN.ret [] [0] [0] (v:=.bool false) (H':=(ap [(tb,.lit (Stp.l t mb) 275 (0,0))] [T5])) ?_
   have e:(cX t a b M)=⟨((aN t.e1 t.S.fuel a b M).set 3 1),0,⟨t.f0,t.f1,t.f2,t.f3⟩,t.emitted⟩:=by
    first | (simp only [cX,eG,if_pos h1,if_neg h4];done) | (simp only [cX,eG,if_pos h1,if_neg h4];rfl) | rfl
   have er:(jC t a b M)=false:=by
    first | (simp only [jC,dj,if_pos h1,if_neg h4];done) | (simp only [jC,dj,if_pos h1,if_neg h4];simp [*];done) | (simp only [jC,dj,if_pos h1,if_neg h4];rfl)
   refine ⟨T5,by rw [e] <;> rfl,?_,by rw [er]⟩
   rw [e]
   exact hM6.weak (by omega)
 ·refine ae 4 [] λ _=>RN.draw [12,19] []<|ag [] [0,4,8,1,5,9,2,6,10,3,7,11] (ow 0 21)<|fH 12 17 ?_ ?_
  ·refine RDO.ct [] [] [0] (g9 mb M k T t.S t.code t.cA t.cn t.cc t.e0 t.e1 t.e2 _ hM hS.toSetN (aw hE) hC.up) ?_
   rintro _ T7 ⟨hM8,rfl⟩
   refine ag [] [13,14,15,16] []<|RD.one 17 (RDO.ev [] [] λ n9=>?_)
   refine ag [] [18] []<|RD.one 19 (RDO.ev [] [.own 0,.own 0,.own 0,.own 0] λ _=>?_)
   refine ag [] [20] []<|RD.fin<|ae 21 ([.own 0,.own 0,.own 0,.own 0]++ow 1 5) λ _=>RN.ret [] [1] [0] (v:=.bool (bn t.code t.cn M)) (H':=(ap [(tb,.lit ((Stp.lp t mb)++[vI ((al t.S t.code t.cn M).e.t),vI ((al t.S t.code t.cn M).e.i),vI ((al t.S t.code t.cn M).e.k),vI ((al t.S t.code t.cn M).e.v),.bool ((al t.S t.code t.cn M).em)]) 275 (0,0))] [T7])) ?_
   have e:(cX t a b M)=⟨(al t.S t.code t.cn M).M,0,⟨(al t.S t.code t.cn M).e.t,(al t.S t.code t.cn M).e.i,(al t.S t.code t.cn M).e.k,(al t.S t.code t.cn M).e.v⟩,(al t.S t.code t.cn M).em⟩:=by
    first | (simp only [cX,eG,if_neg h1];done) | (simp only [cX,eG,if_neg h1];rfl) | rfl
   have er:(jC t a b M)=bn t.code t.cn M:=by
    first | (simp only [jC,dj,if_neg h1];done) | (simp only [jC,dj,if_neg h1];simp [*];done) | (simp only [jC,dj,if_neg h1];rfl)
   refine ⟨T7,by rw [e] <;> rfl,?_,by rw [er]⟩
   rw [e]
   exact hM8.weak (by omega)
  ·refine RDO.ev [] [] λ n10=>RD.one 12 (RDO.ct [] [] [0] (g9 mb M k T t.S t.code t.cA t.cn t.cc t.e0 t.e1 t.e2 _ hM hS.toSetN (aw hE) hC.up) ?_)
   rintro _ T11 ⟨hM12,rfl⟩
   refine ag [] [13,14,15,16,18] []<|RD.one 19 (RDO.ev [] [.own 0,.own 0,.own 0,.own 0] λ _=>?_)
   refine ag [] [20] []<|RD.fin<|ae 21 ([.own 0,.own 0,.own 0,.own 0]++ow 1 5) λ _=>RN.ret [] [1] [0] (v:=.bool (bn t.code t.cn M)) (H':=(ap [(tb,.lit ((Stp.lp t mb)++[vI ((al t.S t.code t.cn M).e.t),vI ((al t.S t.code t.cn M).e.i),vI ((al t.S t.code t.cn M).e.k),vI ((al t.S t.code t.cn M).e.v),.bool ((al t.S t.code t.cn M).em)]) 275 (0,0))] [T11])) ?_
   have e:(cX t a b M)=⟨(al t.S t.code t.cn M).M,0,⟨(al t.S t.code t.cn M).e.t,(al t.S t.code t.cn M).e.i,(al t.S t.code t.cn M).e.k,(al t.S t.code t.cn M).e.v⟩,(al t.S t.code t.cn M).em⟩:=by
    first | (simp only [cX,eG,if_neg h1];done) | (simp only [cX,eG,if_neg h1];rfl) | rfl
   have er:(jC t a b M)=bn t.code t.cn M:=by
    first | (simp only [jC,dj,if_neg h1];done) | (simp only [jC,dj,if_neg h1];simp [*];done) | (simp only [jC,dj,if_neg h1];rfl)
   refine ⟨T11,by rw [e] <;> rfl,?_,by rw [er]⟩
   rw [e]
   exact hM12.weak (by omega)
theorem DV (t:Stp) (a:Int) (b:Int) (tb mb:Nat) (M:MemS) (k:Nat) (T F:HL) (hM:MemH mb M (k+6) T) (hS:SetIn F t.S) (hE:dh F) (hC:CodeIn F t.code t.cA t.cn) :Sp Tryz.prog 186 #[vP tb 0,vI 2,vI a,vI b] (ap [(tb,.lit (Stp.l t mb) 275 (0,0))] [T]) F (λ u H'=>∃ x,H'=ap [(tb,.lit ((Stp.lp t mb)++[vI ((b7 t a b M).e.t),vI ((b7 t a b M).e.i),vI ((b7 t a b M).e.k),vI ((b7 t a b M).e.v),.bool ((b7 t a b M).em)]) 275 (0,0))] [x] /\ (MemH mb (b7 t a b M).M k x /\ u=.bool (jm t a b M))):=by
 have hp:=hS.pl
 have hn:=hS.nb
 have hr:=hS.room
 refine Sp.run Tryz.func186 rfl (mc hS.blk mn) (A:=[(tb,.lit (Stp.l t mb) 275 (0,0))]) (Ts:=[T]) rfl λ w0=>?_
 refine ae 15 [.own 0] λ _=>RN.em (t.j=0) 16 (λ h1=>?_) λ h1=>?_
 ·refine ae 3 [] λ _=>RN.draw [16] []<|ag [] [0,4,8,9,10,11,1,5,12,2,6,13,3,7,14,15] (ow 0 6)<|RD.one 16 (RDO.ct [] [] [0] (DS mb M (k+1) T t.cA t.cn t.cc t.e0 t.e1 t.e2 a b t.S.fuel _ hM) ?_)
  rintro _ T2 ⟨hM3,rfl⟩
  refine ag [] [17] []<|RD.fin<|ae 1 [] λ _=>?_
  rcases Decidable.em (t.e2 < 0) with h4 | h4
  ·refine cT 34 (nf (nt (decide_eq_true h4)))<|ae 6 [] λ _=>RN.ret [] [0] [0] (v:=.bool true) (H':=(ap [(tb,.lit (Stp.l t mb) 275 (0,0))] [T2])) ?_
   have e:(b7 t a b M)=⟨(aN t.e2 t.S.fuel a b M),0,⟨t.f0,t.f1,t.f2,t.f3⟩,t.emitted⟩:=by
    first | (simp only [b7,eG,if_pos h1,if_pos h4];done) | (simp only [b7,eG,if_pos h1,if_pos h4];rfl) | rfl
   have er:(jm t a b M)=true:=by
    first | (simp only [jm,dj,if_pos h1,if_pos h4];done) | (simp only [jm,dj,if_pos h1,if_pos h4];simp [*];done) | (simp only [jm,dj,if_pos h1,if_pos h4];rfl)
   refine ⟨T2,by rw [e] <;> rfl,?_,by rw [er]⟩
   rw [e]
   exact hM3.weak (by omega)
  ·refine cT 34 (nt (nf (decide_eq_false h4)))<|ae 9 [.own 0] λ _=>RN.ct [] [0] (ak 3 1 hM3) ?_
   rintro _ T5 hM6
   refine ae 7 [] λ _=>RN.ret [] [0] [0] (v:=.bool false) (H':=(ap [(tb,.lit (Stp.l t mb) 275 (0,0))] [T5])) ?_
   have e:(b7 t a b M)=⟨((aN t.e2 t.S.fuel a b M).set 3 1),0,⟨t.f0,t.f1,t.f2,t.f3⟩,t.emitted⟩:=by
    first | (simp only [b7,eG,if_pos h1,if_neg h4];done) | (simp only [b7,eG,if_pos h1,if_neg h4];rfl) | rfl
   have er:(jm t a b M)=false:=by
    first | (simp only [jm,dj,if_pos h1,if_neg h4];done) | (simp only [jm,dj,if_pos h1,if_neg h4];simp [*];done) | (simp only [jm,dj,if_pos h1,if_neg h4];rfl)
   refine ⟨T5,by rw [e] <;> rfl,?_,by rw [er]⟩
   rw [e]
   exact hM6.weak (by omega)
 ·refine ae 4 [] λ _=>RN.draw [12,19] []<|ag [] [0,4,8,1,5,9,2,6,10,3,7,11] (ow 0 21)<|fH 12 17 ?_ ?_
  ·refine RDO.ct [] [] [0] (g9 mb M k T t.S t.code t.cA t.cn t.cc t.e0 t.e1 t.e2 _ hM hS.toSetN (aw hE) hC.up) ?_
   rintro _ T7 ⟨hM8,rfl⟩
   refine ag [] [13,14,15,16] []<|RD.one 17 (RDO.ev [] [] λ n9=>?_)
   refine ag [] [18] []<|RD.one 19 (RDO.ev [] [.own 0,.own 0,.own 0,.own 0] λ _=>?_)
   refine ag [] [20] []<|RD.fin<|ae 21 ([.own 0,.own 0,.own 0,.own 0]++ow 1 5) λ _=>RN.ret [] [1] [0] (v:=.bool (bn t.code t.cn M)) (H':=(ap [(tb,.lit ((Stp.lp t mb)++[vI ((al t.S t.code t.cn M).e.t),vI ((al t.S t.code t.cn M).e.i),vI ((al t.S t.code t.cn M).e.k),vI ((al t.S t.code t.cn M).e.v),.bool ((al t.S t.code t.cn M).em)]) 275 (0,0))] [T7])) ?_
   have e:(b7 t a b M)=⟨(al t.S t.code t.cn M).M,0,⟨(al t.S t.code t.cn M).e.t,(al t.S t.code t.cn M).e.i,(al t.S t.code t.cn M).e.k,(al t.S t.code t.cn M).e.v⟩,(al t.S t.code t.cn M).em⟩:=by
    first | (simp only [b7,eG,if_neg h1];done) | (simp only [b7,eG,if_neg h1];rfl) | rfl
   have er:(jm t a b M)=bn t.code t.cn M:=by
    first | (simp only [jm,dj,if_neg h1];done) | (simp only [jm,dj,if_neg h1];simp [*];done) | (simp only [jm,dj,if_neg h1];rfl)
   refine ⟨T7,by rw [e] <;> rfl,?_,by rw [er]⟩
   rw [e]
   exact hM8.weak (by omega)
  ·refine RDO.ev [] [] λ n10=>RD.one 12 (RDO.ct [] [] [0] (g9 mb M k T t.S t.code t.cA t.cn t.cc t.e0 t.e1 t.e2 _ hM hS.toSetN (aw hE) hC.up) ?_)
   rintro _ T11 ⟨hM12,rfl⟩
   refine ag [] [13,14,15,16,18] []<|RD.one 19 (RDO.ev [] [.own 0,.own 0,.own 0,.own 0] λ _=>?_)
   refine ag [] [20] []<|RD.fin<|ae 21 ([.own 0,.own 0,.own 0,.own 0]++ow 1 5) λ _=>RN.ret [] [1] [0] (v:=.bool (bn t.code t.cn M)) (H':=(ap [(tb,.lit ((Stp.lp t mb)++[vI ((al t.S t.code t.cn M).e.t),vI ((al t.S t.code t.cn M).e.i),vI ((al t.S t.code t.cn M).e.k),vI ((al t.S t.code t.cn M).e.v),.bool ((al t.S t.code t.cn M).em)]) 275 (0,0))] [T11])) ?_
   have e:(b7 t a b M)=⟨(al t.S t.code t.cn M).M,0,⟨(al t.S t.code t.cn M).e.t,(al t.S t.code t.cn M).e.i,(al t.S t.code t.cn M).e.k,(al t.S t.code t.cn M).e.v⟩,(al t.S t.code t.cn M).em⟩:=by
    first | (simp only [b7,eG,if_neg h1];done) | (simp only [b7,eG,if_neg h1];rfl) | rfl
   have er:(jm t a b M)=bn t.code t.cn M:=by
    first | (simp only [jm,dj,if_neg h1];done) | (simp only [jm,dj,if_neg h1];simp [*];done) | (simp only [jm,dj,if_neg h1];rfl)
   refine ⟨T11,by rw [e] <;> rfl,?_,by rw [er]⟩
   rw [e]
   exact hM12.weak (by omega)
theorem HM (t:Stp) (b:Int) (c:Bool) (tb mb:Nat) (M:MemS) (k:Nat) (T F:HL) (hM:MemH mb M (k+8) T) (hS:SetIn F t.S) (hE:dh F) (hC:CodeIn F t.code t.cA t.cn) :Sp Tryz.prog 185 #[vP tb 0,vI 0,vI b,.bool c] (ap [(tb,.lit (Stp.l t mb) 275 (0,0))] [T]) F (λ u H'=>∃ x,H'=ap [(tb,.lit ((Stp.lp t mb)++[vI ((cM t b c M).e.t),vI ((cM t b c M).e.i),vI ((cM t b c M).e.k),vI ((cM t b c M).e.v),.bool ((cM t b c M).em)]) 275 (0,0))] [x] /\ (MemH mb (cM t b c M).M k x)):=by
 have hp:=hS.pl
 have hn:=hS.nb
 have hr:=hS.room
 refine Sp.run Tryz.func185 rfl (mc hS.blk mn) (A:=[(tb,.lit (Stp.l t mb) 275 (0,0))]) (Ts:=[T]) rfl λ w0=>?_
 refine ae 8 [.own 0] λ _=>RN.em (t.j=0) 13 (λ h1=>?_) λ h1=>?_
 ·refine ae 5 [] λ _=>uS (c) 16 (λ h2=>?_) λ h2=>?_
  ·refine ae 10 [.own 0] λ _=>RN.ct [0] [0] (DU t t.i b tb mb M (k+2) T _ hM hS.up (aw hE) hC.up) ?_
   rintro _ T3 ⟨hM4,rfl⟩
   refine ae 2 [] λ _=>iZ (jl t t.i b M) 36 (λ h5=>?_) λ h5=>?_
   ·refine ae 11 [.own 0] λ _=>cT 41 (nt (decide_eq_true h1))<|ae 3 [] λ _=>RN.draw [11] []<|ag [] [0,4,1,5,2,6,3,7,8,9,10] [.own 0,.own 0]<|RD.one 11 (RDO.ct [] [] [0] (ak 2 (IntKind.i64.wrap (t.i+1)) hM4) ?_)
    rintro _ T6 hM7
    refine RD.fin<|RN.ret [] [0] [0] (v:=.tuple #[]) (H':=(ap [(tb,.lit ((Stp.lp t mb)++[vI ((b6 t t.i b M).e.t),vI ((b6 t t.i b M).e.i),vI ((b6 t t.i b M).e.k),vI ((b6 t t.i b M).e.v),.bool ((b6 t t.i b M).em)]) 275 (0,0))] [T6])) ?_
    have e:(cM t b c M)=⟨(((b6 t t.i b M).M).set 2 (IntKind.i64.wrap (t.i+1))),0,⟨(b6 t t.i b M).e.t,(b6 t t.i b M).e.i,(b6 t t.i b M).e.k,(b6 t t.i b M).e.v⟩,(b6 t t.i b M).em⟩:=by
     first | (simp only [cM,dw,if_pos h1,if_pos h2,if_pos h5];done) | (simp only [cM,dw,if_pos h1,if_pos h2,if_pos h5];rfl) | rfl
    refine ⟨T6,by rw [e] <;> rfl,?_⟩
    rw [e]
    exact hM7.weak (by omega)
   ·refine ae 2 [] λ _=>RN.ret [] [0] [0] (v:=.tuple #[]) (H':=(ap [(tb,.lit ((Stp.lp t mb)++[vI ((b6 t t.i b M).e.t),vI ((b6 t t.i b M).e.i),vI ((b6 t t.i b M).e.k),vI ((b6 t t.i b M).e.v),.bool ((b6 t t.i b M).em)]) 275 (0,0))] [T3])) ?_
    have e:(cM t b c M)=⟨(b6 t t.i b M).M,0,⟨(b6 t t.i b M).e.t,(b6 t t.i b M).e.i,(b6 t t.i b M).e.k,(b6 t t.i b M).e.v⟩,(b6 t t.i b M).em⟩:=by
     first | (simp only [cM,dw,if_pos h1,if_pos h2,if_neg h5];done) | (simp only [cM,dw,if_pos h1,if_pos h2,if_neg h5];rfl) | rfl
    refine ⟨T3,by rw [e] <;> rfl,?_⟩
    rw [e]
    exact hM4.weak (by omega)
  ·refine ae 1 [] λ _=>RN.draw [11] []<|ag [] [0,4,1,5,2,6,3,7,8,9,10] [.own 0,.own 0]<|RD.one 11 (RDO.ct [] [] [0] (ak 2 (IntKind.i64.wrap (t.i+1)) hM) ?_)
   rintro _ T8 hM9
   refine RD.fin<|RN.ret [] [0] [0] (v:=.tuple #[]) (H':=(ap [(tb,.lit (Stp.l t mb) 275 (0,0))] [T8])) ?_
   have e:(cM t b c M)=⟨(M.set 2 (IntKind.i64.wrap (t.i+1))),0,⟨t.f0,t.f1,t.f2,t.f3⟩,t.emitted⟩:=by
    first | (simp only [cM,dw,if_pos h1,if_neg h2];done) | (simp only [cM,dw,if_pos h1,if_neg h2];rfl) | rfl
   refine ⟨T8,by rw [e] <;> rfl,?_⟩
   rw [e]
   exact hM9.weak (by omega)
 ·refine ae 15 [.own 0] λ _=>RN.ct [0] [0] (DU t t.i b tb mb M (k+2) T _ hM hS.up (aw hE) hC.up) ?_
  rintro _ T10 ⟨hM11,rfl⟩
  refine ae 2 [] λ _=>iZ (jl t t.i b M) 36 (λ h12=>?_) λ h12=>?_
  ·refine ae 11 [.own 0] λ _=>cT 41 (nf (decide_eq_false h1))<|ae 6 [.own 0] λ _=>RN.ct [] [0] (ak 3 0 hM11) ?_
   rintro _ T13 hM14
   refine ae 2 [] λ _=>RN.draw [11] []<|ag [] [0,4,1,5,2,6,3,7,8,9,10] [.own 0,.own 0]<|RD.one 11 (RDO.ct [] [] [0] (ak 2 (IntKind.i64.wrap (t.i+1)) hM14) ?_)
   rintro _ T15 hM16
   refine RD.fin<|RN.ret [] [0] [0] (v:=.tuple #[]) (H':=(ap [(tb,.lit ((Stp.lp t mb)++[vI ((b6 t t.i b M).e.t),vI ((b6 t t.i b M).e.i),vI ((b6 t t.i b M).e.k),vI ((b6 t t.i b M).e.v),.bool ((b6 t t.i b M).em)]) 275 (0,0))] [T15])) ?_
   have e:(cM t b c M)=⟨((((b6 t t.i b M).M).set 3 0).set 2 (IntKind.i64.wrap (t.i+1))),0,⟨(b6 t t.i b M).e.t,(b6 t t.i b M).e.i,(b6 t t.i b M).e.k,(b6 t t.i b M).e.v⟩,(b6 t t.i b M).em⟩:=by
    first | (simp only [cM,dw,if_neg h1,if_pos h12];done) | (simp only [cM,dw,if_neg h1,if_pos h12];rfl) | rfl
   refine ⟨T15,by rw [e] <;> rfl,?_⟩
   rw [e]
   exact hM16.weak (by omega)
  ·refine ae 2 [] λ _=>RN.ret [] [0] [0] (v:=.tuple #[]) (H':=(ap [(tb,.lit ((Stp.lp t mb)++[vI ((b6 t t.i b M).e.t),vI ((b6 t t.i b M).e.i),vI ((b6 t t.i b M).e.k),vI ((b6 t t.i b M).e.v),.bool ((b6 t t.i b M).em)]) 275 (0,0))] [T10])) ?_
   have e:(cM t b c M)=⟨(b6 t t.i b M).M,0,⟨(b6 t t.i b M).e.t,(b6 t t.i b M).e.i,(b6 t t.i b M).e.k,(b6 t t.i b M).e.v⟩,(b6 t t.i b M).em⟩:=by
    first | (simp only [cM,dw,if_neg h1,if_neg h12];done) | (simp only [cM,dw,if_neg h1,if_neg h12];rfl) | rfl
   refine ⟨T10,by rw [e] <;> rfl,?_⟩
   rw [e]
   exact hM11.weak (by omega)
theorem HN (t:Stp) (b:Int) (c:Bool) (tb mb:Nat) (M:MemS) (k:Nat) (T F:HL) (hM:MemH mb M (k+8) T) (hS:SetIn F t.S) (hE:dh F) (hC:CodeIn F t.code t.cA t.cn) :Sp Tryz.prog 185 #[vP tb 0,vI 2,vI b,.bool c] (ap [(tb,.lit (Stp.l t mb) 275 (0,0))] [T]) F (λ u H'=>∃ x,H'=ap [(tb,.lit ((Stp.lp t mb)++[vI ((cN t b c M).e.t),vI ((cN t b c M).e.i),vI ((cN t b c M).e.k),vI ((cN t b c M).e.v),.bool ((cN t b c M).em)]) 275 (0,0))] [x] /\ (MemH mb (cN t b c M).M k x)):=by
 have hp:=hS.pl
 have hn:=hS.nb
 have hr:=hS.room
 refine Sp.run Tryz.func185 rfl (mc hS.blk mn) (A:=[(tb,.lit (Stp.l t mb) 275 (0,0))]) (Ts:=[T]) rfl λ w0=>?_
 refine ae 8 [.own 0] λ _=>RN.em (t.j=0) 13 (λ h1=>?_) λ h1=>?_
 ·refine ae 5 [] λ _=>uS (c) 16 (λ h2=>?_) λ h2=>?_
  ·refine ae 10 [.own 0] λ _=>RN.ct [0] [0] (DV t t.i b tb mb M (k+2) T _ hM hS.up (aw hE) hC.up) ?_
   rintro _ T3 ⟨hM4,rfl⟩
   refine ae 2 [] λ _=>iZ (jm t t.i b M) 36 (λ h5=>?_) λ h5=>?_
   ·refine ae 11 [.own 0] λ _=>cT 41 (nt (decide_eq_true h1))<|ae 3 [] λ _=>RN.draw [11] []<|ag [] [0,4,1,5,2,6,3,7,8,9,10] [.own 0,.own 0]<|RD.one 11 (RDO.ct [] [] [0] (ak 2 (IntKind.i64.wrap (t.i+1)) hM4) ?_)
    rintro _ T6 hM7
    refine RD.fin<|RN.ret [] [0] [0] (v:=.tuple #[]) (H':=(ap [(tb,.lit ((Stp.lp t mb)++[vI ((b7 t t.i b M).e.t),vI ((b7 t t.i b M).e.i),vI ((b7 t t.i b M).e.k),vI ((b7 t t.i b M).e.v),.bool ((b7 t t.i b M).em)]) 275 (0,0))] [T6])) ?_
    have e:(cN t b c M)=⟨(((b7 t t.i b M).M).set 2 (IntKind.i64.wrap (t.i+1))),0,⟨(b7 t t.i b M).e.t,(b7 t t.i b M).e.i,(b7 t t.i b M).e.k,(b7 t t.i b M).e.v⟩,(b7 t t.i b M).em⟩:=by
     first | (simp only [cN,dw,if_pos h1,if_pos h2,if_pos h5];done) | (simp only [cN,dw,if_pos h1,if_pos h2,if_pos h5];rfl) | rfl
    refine ⟨T6,by rw [e] <;> rfl,?_⟩
    rw [e]
    exact hM7.weak (by omega)
   ·refine ae 2 [] λ _=>RN.ret [] [0] [0] (v:=.tuple #[]) (H':=(ap [(tb,.lit ((Stp.lp t mb)++[vI ((b7 t t.i b M).e.t),vI ((b7 t t.i b M).e.i),vI ((b7 t t.i b M).e.k),vI ((b7 t t.i b M).e.v),.bool ((b7 t t.i b M).em)]) 275 (0,0))] [T3])) ?_
    have e:(cN t b c M)=⟨(b7 t t.i b M).M,0,⟨(b7 t t.i b M).e.t,(b7 t t.i b M).e.i,(b7 t t.i b M).e.k,(b7 t t.i b M).e.v⟩,(b7 t t.i b M).em⟩:=by
     first | (simp only [cN,dw,if_pos h1,if_pos h2,if_neg h5];done) | (simp only [cN,dw,if_pos h1,if_pos h2,if_neg h5];rfl) | rfl
    refine ⟨T3,by rw [e] <;> rfl,?_⟩
    rw [e]
    exact hM4.weak (by omega)
  ·refine ae 1 [] λ _=>RN.draw [11] []<|ag [] [0,4,1,5,2,6,3,7,8,9,10] [.own 0,.own 0]<|RD.one 11 (RDO.ct [] [] [0] (ak 2 (IntKind.i64.wrap (t.i+1)) hM) ?_)
   rintro _ T8 hM9
   refine RD.fin<|RN.ret [] [0] [0] (v:=.tuple #[]) (H':=(ap [(tb,.lit (Stp.l t mb) 275 (0,0))] [T8])) ?_
   have e:(cN t b c M)=⟨(M.set 2 (IntKind.i64.wrap (t.i+1))),0,⟨t.f0,t.f1,t.f2,t.f3⟩,t.emitted⟩:=by
    first | (simp only [cN,dw,if_pos h1,if_neg h2];done) | (simp only [cN,dw,if_pos h1,if_neg h2];rfl) | rfl
   refine ⟨T8,by rw [e] <;> rfl,?_⟩
   rw [e]
   exact hM9.weak (by omega)
 ·refine ae 15 [.own 0] λ _=>RN.ct [0] [0] (DV t t.i b tb mb M (k+2) T _ hM hS.up (aw hE) hC.up) ?_
  rintro _ T10 ⟨hM11,rfl⟩
  refine ae 2 [] λ _=>iZ (jm t t.i b M) 36 (λ h12=>?_) λ h12=>?_
  ·refine ae 11 [.own 0] λ _=>cT 41 (nf (decide_eq_false h1))<|ae 6 [.own 0] λ _=>RN.ct [] [0] (ak 3 0 hM11) ?_
   rintro _ T13 hM14
   refine ae 2 [] λ _=>RN.draw [11] []<|ag [] [0,4,1,5,2,6,3,7,8,9,10] [.own 0,.own 0]<|RD.one 11 (RDO.ct [] [] [0] (ak 2 (IntKind.i64.wrap (t.i+1)) hM14) ?_)
   rintro _ T15 hM16
   refine RD.fin<|RN.ret [] [0] [0] (v:=.tuple #[]) (H':=(ap [(tb,.lit ((Stp.lp t mb)++[vI ((b7 t t.i b M).e.t),vI ((b7 t t.i b M).e.i),vI ((b7 t t.i b M).e.k),vI ((b7 t t.i b M).e.v),.bool ((b7 t t.i b M).em)]) 275 (0,0))] [T15])) ?_
   have e:(cN t b c M)=⟨((((b7 t t.i b M).M).set 3 0).set 2 (IntKind.i64.wrap (t.i+1))),0,⟨(b7 t t.i b M).e.t,(b7 t t.i b M).e.i,(b7 t t.i b M).e.k,(b7 t t.i b M).e.v⟩,(b7 t t.i b M).em⟩:=by
    first | (simp only [cN,dw,if_neg h1,if_pos h12];done) | (simp only [cN,dw,if_neg h1,if_pos h12];rfl) | rfl
   refine ⟨T15,by rw [e] <;> rfl,?_⟩
   rw [e]
   exact hM16.weak (by omega)
  ·refine ae 2 [] λ _=>RN.ret [] [0] [0] (v:=.tuple #[]) (H':=(ap [(tb,.lit ((Stp.lp t mb)++[vI ((b7 t t.i b M).e.t),vI ((b7 t t.i b M).e.i),vI ((b7 t t.i b M).e.k),vI ((b7 t t.i b M).e.v),.bool ((b7 t t.i b M).em)]) 275 (0,0))] [T10])) ?_
   have e:(cN t b c M)=⟨(b7 t t.i b M).M,0,⟨(b7 t t.i b M).e.t,(b7 t t.i b M).e.i,(b7 t t.i b M).e.k,(b7 t t.i b M).e.v⟩,(b7 t t.i b M).em⟩:=by
    first | (simp only [cN,dw,if_neg h1,if_neg h12];done) | (simp only [cN,dw,if_neg h1,if_neg h12];rfl) | rfl
   refine ⟨T10,by rw [e] <;> rfl,?_⟩
   rw [e]
   exact hM11.weak (by omega)
theorem Ms (t:Stp)  (tb mb:Nat) (M:MemS) (k:Nat) (T F:HL) (hM:MemH mb M (k+9) T) (hS:SetIn F t.S) (hE:dh F) (hC:CodeIn F t.code t.cA t.cn) :Sp Tryz.prog 149 #[vP tb 0] (ap [(tb,.lit (Stp.l t mb) 275 (0,0))] [T]) F (λ u H'=>∃ x,H'=ap [(tb,.lit ((Stp.lp t mb)++[vI ((eV t M).e.t),vI ((eV t M).e.i),vI ((eV t M).e.k),vI ((eV t M).e.v),.bool ((eV t M).em)]) 275 (0,0))] [x] /\ (MemH mb (eV t M).M k x)):=by
 have hp:=hS.pl
 have hn:=hS.nb
 have hr:=hS.room
 refine Sp.run Tryz.func149 rfl (mc hS.blk mn) (A:=[(tb,.lit (Stp.l t mb) 275 (0,0))]) (Ts:=[T]) rfl λ w0=>?_
 refine ae 1 [] λ _=>RN.draw [] []<|ag [] [0,4,1,5,2,6,3,7] (ow 0 17)<|ar [] 8 (λ X_=>(gn t.S t.i _ hS.toSetN)) ?_
 have hb1:=gm hS.toSetN t.i
 refine ag [] [9] []<|RD.fin<|ae 8 [] λ _=>RN.em (ah t.S t.i < 0) 14 (λ h2=>?_) λ h2=>?_
 ·refine ae 4 [] λ _=>RN.ct [0] [0] (bI t 2 0 tb mb M (k+6) T _ hM hS.up ) ?_
  rintro _ T3 hM4
  refine ae 2 [] λ _=>RN.ret [] [0] [0] (v:=.tuple #[]) (H':=(ap [(tb,.lit (Stp.l t mb) 275 (0,0))] [T3])) ?_
  have e:(eV t M)=⟨(aM t 2 0 M),0,⟨t.f0,t.f1,t.f2,t.f3⟩,t.emitted⟩:=by
   first | (simp only [eV,VR.z,if_pos h2];done) | (simp only [eV,VR.z,if_pos h2];rfl) | rfl
  refine ⟨T3,by rw [e] <;> rfl,?_⟩
  rw [e]
  exact hM4.weak (by omega)
 ·refine ai 11 [.own 0,.nw] [bd ((ah t.S t.i)+2)] λ _=>aj (av ((ah t.S t.i)+2) hM (aA 0))<|ae 8 [] λ _=>RN.ct [0] [0] (HM t (M.get ((ah t.S t.i)+2)) (!(decide (M.get ((ah t.S t.i)+2)=0))) tb mb M (k+1) T _ hM hS.up (aw hE) hC.up) ?_
  rintro _ T5 hM6
  refine ae 1 [] λ _=>RN.ret [] [0] [0] (v:=.tuple #[]) (H':=(ap [(tb,.lit ((Stp.lp t mb)++[vI ((cM t (M.get ((ah t.S t.i)+2)) (!(decide (M.get ((ah t.S t.i)+2)=0))) M).e.t),vI ((cM t (M.get ((ah t.S t.i)+2)) (!(decide (M.get ((ah t.S t.i)+2)=0))) M).e.i),vI ((cM t (M.get ((ah t.S t.i)+2)) (!(decide (M.get ((ah t.S t.i)+2)=0))) M).e.k),vI ((cM t (M.get ((ah t.S t.i)+2)) (!(decide (M.get ((ah t.S t.i)+2)=0))) M).e.v),.bool ((cM t (M.get ((ah t.S t.i)+2)) (!(decide (M.get ((ah t.S t.i)+2)=0))) M).em)]) 275 (0,0))] [T5])) ?_
  have e:(eV t M)=⟨(cM t (M.get ((ah t.S t.i)+2)) (!(decide (M.get ((ah t.S t.i)+2)=0))) M).M,0,⟨(cM t (M.get ((ah t.S t.i)+2)) (!(decide (M.get ((ah t.S t.i)+2)=0))) M).e.t,(cM t (M.get ((ah t.S t.i)+2)) (!(decide (M.get ((ah t.S t.i)+2)=0))) M).e.i,(cM t (M.get ((ah t.S t.i)+2)) (!(decide (M.get ((ah t.S t.i)+2)=0))) M).e.k,(cM t (M.get ((ah t.S t.i)+2)) (!(decide (M.get ((ah t.S t.i)+2)=0))) M).e.v⟩,(cM t (M.get ((ah t.S t.i)+2)) (!(decide (M.get ((ah t.S t.i)+2)=0))) M).em⟩:=by
   first | (simp only [eV,VR.z,if_neg h2];done) | (simp only [eV,VR.z,if_neg h2];rfl) | rfl
  refine ⟨T5,by rw [e] <;> rfl,?_⟩
  rw [e]
  exact hM6.weak (by omega)
theorem Kv (t:Stp)  (tb mb:Nat) (M:MemS) (k:Nat) (T F:HL) (hM:MemH mb M (k+9) T) (hS:SetIn F t.S) (hE:dh F) (hC:CodeIn F t.code t.cA t.cn) :Sp Tryz.prog 150 #[vP tb 0] (ap [(tb,.lit (Stp.l t mb) 275 (0,0))] [T]) F (λ u H'=>∃ x,H'=ap [(tb,.lit ((Stp.lp t mb)++[vI ((cU t M).e.t),vI ((cU t M).e.i),vI ((cU t M).e.k),vI ((cU t M).e.v),.bool ((cU t M).em)]) 275 (0,0))] [x] /\ (MemH mb (cU t M).M k x)):=by
 have hp:=hS.pl
 have hn:=hS.nb
 have hr:=hS.room
 refine Sp.run Tryz.func150 rfl (mc hS.blk mn) (A:=[(tb,.lit (Stp.l t mb) 275 (0,0))]) (Ts:=[T]) rfl λ w0=>?_
 refine ae 3 [] λ _=>RN.ct [0] [0] (Ku t 0 0 tb mb M (k+3) T _ hM hS.up (aw hE) hC.up) ?_
 rintro _ T1 ⟨hM2,rfl⟩
 refine ae 2 [] λ _=>iZ (jC t 0 0 M) 3 (λ h3=>?_) λ h3=>?_
 ·refine ae 3 [] λ _=>RN.ct [0] [0] (bI (t.upd (cX t 0 0 M)) 3 0 tb mb ((cX t 0 0 M).M) k T1 _ hM2 hS.up ) ?_
  rintro _ T4 hM5
  refine ae 1 [] λ _=>RN.ret [] [0] [0] (v:=.tuple #[]) (H':=(ap [(tb,.lit ((Stp.lp t mb)++[vI ((cX t 0 0 M).e.t),vI ((cX t 0 0 M).e.i),vI ((cX t 0 0 M).e.k),vI ((cX t 0 0 M).e.v),.bool ((cX t 0 0 M).em)]) 275 (0,0))] [T4])) ?_
  have e:(cU t M)=⟨(aM (t.upd (cX t 0 0 M)) 3 0 ((cX t 0 0 M).M)),0,⟨(cX t 0 0 M).e.t,(cX t 0 0 M).e.i,(cX t 0 0 M).e.k,(cX t 0 0 M).e.v⟩,(cX t 0 0 M).em⟩:=by
   first | (simp only [cU,VR.z,if_pos h3];done) | (simp only [cU,VR.z,if_pos h3];rfl) | rfl
  refine ⟨T4,by rw [e] <;> rfl,?_⟩
  rw [e]
  exact hM5.weak (by omega)
 ·refine ae 2 [] λ _=>RN.ret [] [0] [0] (v:=.tuple #[]) (H':=(ap [(tb,.lit ((Stp.lp t mb)++[vI ((cX t 0 0 M).e.t),vI ((cX t 0 0 M).e.i),vI ((cX t 0 0 M).e.k),vI ((cX t 0 0 M).e.v),.bool ((cX t 0 0 M).em)]) 275 (0,0))] [T1])) ?_
  have e:(cU t M)=⟨(cX t 0 0 M).M,0,⟨(cX t 0 0 M).e.t,(cX t 0 0 M).e.i,(cX t 0 0 M).e.k,(cX t 0 0 M).e.v⟩,(cX t 0 0 M).em⟩:=by
   first | (simp only [cU,VR.z,if_neg h3];done) | (simp only [cU,VR.z,if_neg h3];rfl) | rfl
  refine ⟨T1,by rw [e] <;> rfl,?_⟩
  rw [e]
  exact hM2.weak (by omega)
theorem Mt (t:Stp)  (tb mb:Nat) (M:MemS) (k:Nat) (T F:HL) (hM:MemH mb M (k+9) T) (hS:SetIn F t.S) (hE:dh F) (hC:CodeIn F t.code t.cA t.cn) :Sp Tryz.prog 154 #[vP tb 0] (ap [(tb,.lit (Stp.l t mb) 275 (0,0))] [T]) F (λ u H'=>∃ x,H'=ap [(tb,.lit ((Stp.lp t mb)++[vI ((eX t M).e.t),vI ((eX t M).e.i),vI ((eX t M).e.k),vI ((eX t M).e.v),.bool ((eX t M).em)]) 275 (0,0))] [x] /\ (MemH mb (eX t M).M k x)):=by
 have hp:=hS.pl
 have hn:=hS.nb
 have hr:=hS.room
 refine Sp.run Tryz.func154 rfl (mc hS.blk mn) (A:=[(tb,.lit (Stp.l t mb) 275 (0,0))]) (Ts:=[T]) rfl λ w0=>?_
 refine ae 1 [] λ _=>RN.draw [] []<|ag [] [0,4,1,5,2,6,3,7] (ow 0 17)<|ar [] 8 (λ X_=>(cG t.S t.i _ hS.toSetN)) ?_
 have hb1:=cF hS.toSetN t.i
 refine ag [] [9] []<|RD.fin<|ae 8 [] λ _=>RN.em (af t.S t.i < 0) 14 (λ h2=>?_) λ h2=>?_
 ·refine ae 4 [] λ _=>RN.ct [0] [0] (bI t 7 0 tb mb M (k+6) T _ hM hS.up ) ?_
  rintro _ T3 hM4
  refine ae 2 [] λ _=>RN.ret [] [0] [0] (v:=.tuple #[]) (H':=(ap [(tb,.lit (Stp.l t mb) 275 (0,0))] [T3])) ?_
  have e:(eX t M)=⟨(aM t 7 0 M),0,⟨t.f0,t.f1,t.f2,t.f3⟩,t.emitted⟩:=by
   first | (simp only [eX,VR.z,if_pos h2];done) | (simp only [eX,VR.z,if_pos h2];rfl) | rfl
  refine ⟨T3,by rw [e] <;> rfl,?_⟩
  rw [e]
  exact hM4.weak (by omega)
 ·refine ai 11 [.own 0,.nw] [bd ((af t.S t.i)+6)] λ _=>aj (av ((af t.S t.i)+6) hM (aA 0))<|ae 9 [] λ _=>RN.ct [0] [0] (HN t (IntKind.i64.wrap ((M.get ((af t.S t.i)+6)) - 1)) (!(decide (M.get ((af t.S t.i)+6)=0))) tb mb M (k+1) T _ hM hS.up (aw hE) hC.up) ?_
  rintro _ T5 hM6
  refine ae 1 [] λ _=>RN.ret [] [0] [0] (v:=.tuple #[]) (H':=(ap [(tb,.lit ((Stp.lp t mb)++[vI ((cN t (IntKind.i64.wrap ((M.get ((af t.S t.i)+6)) - 1)) (!(decide (M.get ((af t.S t.i)+6)=0))) M).e.t),vI ((cN t (IntKind.i64.wrap ((M.get ((af t.S t.i)+6)) - 1)) (!(decide (M.get ((af t.S t.i)+6)=0))) M).e.i),vI ((cN t (IntKind.i64.wrap ((M.get ((af t.S t.i)+6)) - 1)) (!(decide (M.get ((af t.S t.i)+6)=0))) M).e.k),vI ((cN t (IntKind.i64.wrap ((M.get ((af t.S t.i)+6)) - 1)) (!(decide (M.get ((af t.S t.i)+6)=0))) M).e.v),.bool ((cN t (IntKind.i64.wrap ((M.get ((af t.S t.i)+6)) - 1)) (!(decide (M.get ((af t.S t.i)+6)=0))) M).em)]) 275 (0,0))] [T5])) ?_
  have e:(eX t M)=⟨(cN t (IntKind.i64.wrap ((M.get ((af t.S t.i)+6)) - 1)) (!(decide (M.get ((af t.S t.i)+6)=0))) M).M,0,⟨(cN t (IntKind.i64.wrap ((M.get ((af t.S t.i)+6)) - 1)) (!(decide (M.get ((af t.S t.i)+6)=0))) M).e.t,(cN t (IntKind.i64.wrap ((M.get ((af t.S t.i)+6)) - 1)) (!(decide (M.get ((af t.S t.i)+6)=0))) M).e.i,(cN t (IntKind.i64.wrap ((M.get ((af t.S t.i)+6)) - 1)) (!(decide (M.get ((af t.S t.i)+6)=0))) M).e.k,(cN t (IntKind.i64.wrap ((M.get ((af t.S t.i)+6)) - 1)) (!(decide (M.get ((af t.S t.i)+6)=0))) M).e.v⟩,(cN t (IntKind.i64.wrap ((M.get ((af t.S t.i)+6)) - 1)) (!(decide (M.get ((af t.S t.i)+6)=0))) M).em⟩:=by
   first | (simp only [eX,VR.z,if_neg h2];done) | (simp only [eX,VR.z,if_neg h2];rfl) | rfl
  refine ⟨T5,by rw [e] <;> rfl,?_⟩
  rw [e]
  exact hM6.weak (by omega)
end Go.Proofs.YtgdcbiiopbpgaaaGreatDoor
