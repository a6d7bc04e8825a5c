import Derived.Test.YtcfajdgeejeieaaGreatDoorY15
set_option maxHeartbeats 4000000
set_option maxRecDepth 100000
set_option linter.unusedSimpArgs false
set_option linter.unusedVariables false
namespace Go.Proofs.YtcfajdgeejeieaaGreatDoor
open Go.RowKit
def VR.z (r:VR):VR:=⟨r.M,0,r.e,r.em⟩
abbrev Stp.f (t:Stp):Eff:=⟨t.f0,t.f1,t.f2,t.f3⟩
def Stp.upd (t:Stp) (r:VR):Stp:={ t with f0:=r.e.t,f1:=r.e.i,f2:=r.e.k,f3:=r.e.v,emitted:=r.em }
def eC (e:Int) (t:Stp) (self other:Int) (M:MemS):VR:=if t.j=0 then (if e < 0 then ⟨aM e t.S.fuel self other M,0,t.f,t.emitted⟩ else ⟨(aM e t.S.fuel self other M).set 3 1,0,t.f,t.emitted⟩) else ⟨(al t.S t.code t.cn M).M,0,(al t.S t.code t.cn M).e,(al t.S t.code t.cn M).em⟩
def dg (e:Int) (t:Stp) (self other:Int) (M:MemS):Bool:=if t.j=0 then decide (e < 0) else bg t.code t.cn M
abbrev bZ (t:Stp) (a b:Int) (M:MemS):VR:=eC t.e0 t a b M
abbrev cW (t:Stp) (a b:Int) (M:MemS):VR:=eC t.e1 t a b M
abbrev b6 (t:Stp) (a b:Int) (M:MemS):VR:=eC t.e2 t a b M
abbrev i4 (t:Stp) (a b:Int) (M:MemS):Bool:=dg t.e0 t a b M
abbrev jn (t:Stp) (a b:Int) (M:MemS):Bool:=dg t.e1 t a b M
abbrev i8 (t:Stp) (a b:Int) (M:MemS):Bool:=dg t.e2 t a b M
def dq (r:VR) (over:Bool) (t:Stp) (cause:Bool) (M:MemS):VR:=if t.j=0 then (if cause=true then (if over=true then ⟨r.M.set 2 (aY (t.i+1)),0,r.e,r.em⟩ else ⟨r.M,0,r.e,r.em⟩) else ⟨M.set 2 (aY (t.i+1)),0,t.f,t.emitted⟩) else (if over=true then ⟨(r.M.set 3 0).set 2 (aY (t.i+1)),0,r.e,r.em⟩ else ⟨r.M,0,r.e,r.em⟩)
abbrev cL (t:Stp) (b:Int) (c:Bool) (M:MemS):VR:=dq (bZ t t.i b M) (i4 t t.i b M) t c M
abbrev cM (t:Stp) (b:Int) (c:Bool) (M:MemS):VR:=dq (b6 t t.i b M) (i8 t t.i b M) t c M
def eT (t:Stp) (M:MemS):VR:=if ah t.S t.i < 0 then ⟨aL t 2 0 M,0,t.f,t.emitted⟩ else (cL t (M.get (ah t.S t.i+2)) (!decide (M.get (ah t.S t.i+2)=0)) M).z
def cT (t:Stp) (M:MemS):VR:=if jn t 0 0 M=true then ⟨aL t 3 0 (cW t 0 0 M).M,0,(cW t 0 0 M).e,(cW t 0 0 M).em⟩ else ⟨(cW t 0 0 M).M,0,(cW t 0 0 M).e,(cW t 0 0 M).em⟩
def eU (t:Stp) (M:MemS):VR:=if af t.S t.i < 0 then ⟨aL t 7 0 M,0,t.f,t.emitted⟩ else (cM t (aY (M.get (af t.S t.i+6) - 1)) (!decide (M.get (af t.S t.i+6)=0)) M).z
theorem Dl (t:Stp) (a:Int) (b:Int) (tb mb:Nat) (M:MemS) (k:Nat) (T F:HL) (hM:MemH mb M (k+6) T) (hS:SetIn F t.S) (hE:cK F) (hC:CodeIn F t.code t.cA t.cn) :Sp Tryz.prog 152 #[vP tb 0,vI 0,vI a,vI b] (ap [(tb,.lit (Stp.l t mb) 213 (0,0))] [T]) F (λ u H'=>∃ x,H'=ap [(tb,.lit ((Stp.lp t mb)++[vI ((bZ t a b M).e.t),vI ((bZ t a b M).e.i),vI ((bZ t a b M).e.k),vI ((bZ t a b M).e.v),.bool ((bZ t a b M).em)]) 213 (0,0))] [x] /\ (MemH mb (bZ t a b M).M k x /\ u=.bool (i4 t a b M))):=by
 have hp:=hS.pl
 have hn:=hS.nb
 have hr:=hS.room
 refine Sp.run Tryz.func152 rfl (mc hS.blk mn) (A:=[(tb,.lit (Stp.l t mb) 213 (0,0))]) (Ts:=[T]) rfl λ w0=>?_
 refine ae 15 [.own 0] λ _=>RN.em (t.j=0) 16 (λ h1=>?_) λ h1=>?_
 ·refine ae 3 [] λ _=>RN.draw [16] []<|ag [] [0,4,8,9,10,11,1,5,12,2,6,13,3,7,14,15] (ow 0 6)<|RD.one 16 (RDO.ct [] [] [0] (Dh mb M (k+1) T t.cA t.cn t.cc t.e0 t.e1 t.e2 a b t.S.fuel _ hM) ?_)
  rintro _ T2 ⟨hM3,rfl⟩
  refine ag [] [17] []<|RD.fin<|ae 1 [] λ _=>?_
  rcases Decidable.em (t.e0 < 0) with h4 | h4
  ·refine cR 34 (nf (nt (decide_eq_true h4)))<|ae 6 [] λ _=>RN.ret [] [0] [0] (v:=.bool true) (H':=(ap [(tb,.lit (Stp.l t mb) 213 (0,0))] [T2])) ?_
   have e:(bZ t a b M)=⟨(aM t.e0 t.S.fuel a b M),0,⟨t.f0,t.f1,t.f2,t.f3⟩,t.emitted⟩:=by
    first | (simp only [bZ,eC,if_pos h1,if_pos h4];done) | (simp only [bZ,eC,if_pos h1,if_pos h4];rfl) | rfl
   have er:(i4 t a b M)=true:=by
    first | (simp only [i4,dg,if_pos h1,if_pos h4];done) | (simp only [i4,dg,if_pos h1,if_pos h4];simp [*];done) | (simp only [i4,dg,if_pos h1,if_pos h4];rfl)
   refine ⟨T2,by rw [e] <;> rfl,?_,by rw [er]⟩
   rw [e]
   exact hM3.weak (by omega)
  ·refine cR 34 (nt (nf (decide_eq_false h4)))<|ae 9 [.own 0] λ _=>RN.ct [] [0] (aj 3 1 hM3) ?_
   rintro _ T5 hM6
   refine ae 7 [] λ _=>RN.ret [] [0] [0] (v:=.bool false) (H':=(ap [(tb,.lit (Stp.l t mb) 213 (0,0))] [T5])) ?_
   have e:(bZ t a b M)=⟨((aM t.e0 t.S.fuel a b M).set 3 1),0,⟨t.f0,t.f1,t.f2,t.f3⟩,t.emitted⟩:=by
    first | (simp only [bZ,eC,if_pos h1,if_neg h4];done) | (simp only [bZ,eC,if_pos h1,if_neg h4];rfl) | rfl
   have er:(i4 t a b M)=false:=by
    first | (simp only [i4,dg,if_pos h1,if_neg h4];done) | (simp only [i4,dg,if_pos h1,if_neg h4];simp [*];done) | (simp only [i4,dg,if_pos h1,if_neg h4];rfl)
   refine ⟨T5,by rw [e] <;> rfl,?_,by rw [er]⟩
   rw [e]
   exact hM6.weak (by omega)
 ·refine ae 4 [] λ _=>RN.draw [12,19] []<|ag [] [0,4,8,1,5,9,2,6,10,3,7,11] (ow 0 21)<|fB 12 17 ?_ ?_
  ·refine RDO.ct [] [] [0] (gR mb M k T t.S t.code t.cA t.cn t.cc t.e0 t.e1 t.e2 _ hM hS.toSetN (aw hE) hC.up) ?_
   rintro _ T7 ⟨hM8,rfl⟩
   refine ag [] [13,14,15,16] []<|RD.one 17 (RDO.ev [] [] λ n9=>?_)
   refine ag [] [18] []<|RD.one 19 (RDO.ev [] [.own 0,.own 0,.own 0,.own 0] λ _=>?_)
   refine ag [] [20] []<|RD.fin<|ae 21 ([.own 0,.own 0,.own 0,.own 0]++ow 1 5) λ _=>RN.ret [] [1] [0] (v:=.bool (bg t.code t.cn M)) (H':=(ap [(tb,.lit ((Stp.lp t mb)++[vI ((al t.S t.code t.cn M).e.t),vI ((al t.S t.code t.cn M).e.i),vI ((al t.S t.code t.cn M).e.k),vI ((al t.S t.code t.cn M).e.v),.bool ((al t.S t.code t.cn M).em)]) 213 (0,0))] [T7])) ?_
   have e:(bZ t a b M)=⟨(al t.S t.code t.cn M).M,0,⟨(al t.S t.code t.cn M).e.t,(al t.S t.code t.cn M).e.i,(al t.S t.code t.cn M).e.k,(al t.S t.code t.cn M).e.v⟩,(al t.S t.code t.cn M).em⟩:=by
    first | (simp only [bZ,eC,if_neg h1];done) | (simp only [bZ,eC,if_neg h1];rfl) | rfl
   have er:(i4 t a b M)=bg t.code t.cn M:=by
    first | (simp only [i4,dg,if_neg h1];done) | (simp only [i4,dg,if_neg h1];simp [*];done) | (simp only [i4,dg,if_neg h1];rfl)
   refine ⟨T7,by rw [e] <;> rfl,?_,by rw [er]⟩
   rw [e]
   exact hM8.weak (by omega)
  ·refine RDO.ev [] [] λ n10=>RD.one 12 (RDO.ct [] [] [0] (gR mb M k T t.S t.code t.cA t.cn t.cc t.e0 t.e1 t.e2 _ hM hS.toSetN (aw hE) hC.up) ?_)
   rintro _ T11 ⟨hM12,rfl⟩
   refine ag [] [13,14,15,16,18] []<|RD.one 19 (RDO.ev [] [.own 0,.own 0,.own 0,.own 0] λ _=>?_)
   refine ag [] [20] []<|RD.fin<|ae 21 ([.own 0,.own 0,.own 0,.own 0]++ow 1 5) λ _=>RN.ret [] [1] [0] (v:=.bool (bg t.code t.cn M)) (H':=(ap [(tb,.lit ((Stp.lp t mb)++[vI ((al t.S t.code t.cn M).e.t),vI ((al t.S t.code t.cn M).e.i),vI ((al t.S t.code t.cn M).e.k),vI ((al t.S t.code t.cn M).e.v),.bool ((al t.S t.code t.cn M).em)]) 213 (0,0))] [T11])) ?_
   have e:(bZ t a b M)=⟨(al t.S t.code t.cn M).M,0,⟨(al t.S t.code t.cn M).e.t,(al t.S t.code t.cn M).e.i,(al t.S t.code t.cn M).e.k,(al t.S t.code t.cn M).e.v⟩,(al t.S t.code t.cn M).em⟩:=by
    first | (simp only [bZ,eC,if_neg h1];done) | (simp only [bZ,eC,if_neg h1];rfl) | rfl
   have er:(i4 t a b M)=bg t.code t.cn M:=by
    first | (simp only [i4,dg,if_neg h1];done) | (simp only [i4,dg,if_neg h1];simp [*];done) | (simp only [i4,dg,if_neg h1];rfl)
   refine ⟨T11,by rw [e] <;> rfl,?_,by rw [er]⟩
   rw [e]
   exact hM12.weak (by omega)
theorem JP (t:Stp) (a:Int) (b:Int) (tb mb:Nat) (M:MemS) (k:Nat) (T F:HL) (hM:MemH mb M (k+6) T) (hS:SetIn F t.S) (hE:cK F) (hC:CodeIn F t.code t.cA t.cn) :Sp Tryz.prog 152 #[vP tb 0,vI 1,vI a,vI b] (ap [(tb,.lit (Stp.l t mb) 213 (0,0))] [T]) F (λ u H'=>∃ x,H'=ap [(tb,.lit ((Stp.lp t mb)++[vI ((cW t a b M).e.t),vI ((cW t a b M).e.i),vI ((cW t a b M).e.k),vI ((cW t a b M).e.v),.bool ((cW t a b M).em)]) 213 (0,0))] [x] /\ (MemH mb (cW t a b M).M k x /\ u=.bool (jn t a b M))):=by
 have hp:=hS.pl
 have hn:=hS.nb
 have hr:=hS.room
 refine Sp.run Tryz.func152 rfl (mc hS.blk mn) (A:=[(tb,.lit (Stp.l t mb) 213 (0,0))]) (Ts:=[T]) rfl λ w0=>?_
 refine ae 15 [.own 0] λ _=>RN.em (t.j=0) 16 (λ h1=>?_) λ h1=>?_
 ·refine ae 3 [] λ _=>RN.draw [16] []<|ag [] [0,4,8,9,10,11,1,5,12,2,6,13,3,7,14,15] (ow 0 6)<|RD.one 16 (RDO.ct [] [] [0] (Di mb M (k+1) T t.cA t.cn t.cc t.e0 t.e1 t.e2 a b t.S.fuel _ hM) ?_)
  rintro _ T2 ⟨hM3,rfl⟩
  refine ag [] [17] []<|RD.fin<|ae 1 [] λ _=>?_
  rcases Decidable.em (t.e1 < 0) with h4 | h4
  ·refine cR 34 (nf (nt (decide_eq_true h4)))<|ae 6 [] λ _=>RN.ret [] [0] [0] (v:=.bool true) (H':=(ap [(tb,.lit (Stp.l t mb) 213 (0,0))] [T2])) ?_
   have e:(cW t a b M)=⟨(aM t.e1 t.S.fuel a b M),0,⟨t.f0,t.f1,t.f2,t.f3⟩,t.emitted⟩:=by
    first | (simp only [cW,eC,if_pos h1,if_pos h4];done) | (simp only [cW,eC,if_pos h1,if_pos h4];rfl) | rfl
   have er:(jn t a b M)=true:=by
    first | (simp only [jn,dg,if_pos h1,if_pos h4];done) | (simp only [jn,dg,if_pos h1,if_pos h4];simp [*];done) | (simp only [jn,dg,if_pos h1,if_pos h4];rfl)
   refine ⟨T2,by rw [e] <;> rfl,?_,by rw [er]⟩
   rw [e]
   exact hM3.weak (by omega)
  ·refine cR 34 (nt (nf (decide_eq_false h4)))<|ae 9 [.own 0] λ _=>RN.ct [] [0] (aj 3 1 hM3) ?_
   rintro _ T5 hM6
   refine ae 7 [] λ _=>RN.ret [] [0] [0] (v:=.bool false) (H':=(ap [(tb,.lit (Stp.l t mb) 213 (0,0))] [T5])) ?_
   have e:(cW t a b M)=⟨((aM t.e1 t.S.fuel a b M).set 3 1),0,⟨t.f0,t.f1,t.f2,t.f3⟩,t.emitted⟩:=by
    first | (simp only [cW,eC,if_pos h1,if_neg h4];done) | (simp only [cW,eC,if_pos h1,if_neg h4];rfl) | rfl
   have er:(jn t a b M)=false:=by
    first | (simp only [jn,dg,if_pos h1,if_neg h4];done) | (simp only [jn,dg,if_pos h1,if_neg h4];simp [*];done) | (simp only [jn,dg,if_pos h1,if_neg h4];rfl)
   refine ⟨T5,by rw [e] <;> rfl,?_,by rw [er]⟩
   rw [e]
   exact hM6.weak (by omega)
 ·refine ae 4 [] λ _=>RN.draw [12,19] []<|ag [] [0,4,8,1,5,9,2,6,10,3,7,11] (ow 0 21)<|fB 12 17 ?_ ?_
  ·refine RDO.ct [] [] [0] (gR mb M k T t.S t.code t.cA t.cn t.cc t.e0 t.e1 t.e2 _ hM hS.toSetN (aw hE) hC.up) ?_
   rintro _ T7 ⟨hM8,rfl⟩
   refine ag [] [13,14,15,16] []<|RD.one 17 (RDO.ev [] [] λ n9=>?_)
   refine ag [] [18] []<|RD.one 19 (RDO.ev [] [.own 0,.own 0,.own 0,.own 0] λ _=>?_)
   refine ag [] [20] []<|RD.fin<|ae 21 ([.own 0,.own 0,.own 0,.own 0]++ow 1 5) λ _=>RN.ret [] [1] [0] (v:=.bool (bg t.code t.cn M)) (H':=(ap [(tb,.lit ((Stp.lp t mb)++[vI ((al t.S t.code t.cn M).e.t),vI ((al t.S t.code t.cn M).e.i),vI ((al t.S t.code t.cn M).e.k),vI ((al t.S t.code t.cn M).e.v),.bool ((al t.S t.code t.cn M).em)]) 213 (0,0))] [T7])) ?_
   have e:(cW t a b M)=⟨(al t.S t.code t.cn M).M,0,⟨(al t.S t.code t.cn M).e.t,(al t.S t.code t.cn M).e.i,(al t.S t.code t.cn M).e.k,(al t.S t.code t.cn M).e.v⟩,(al t.S t.code t.cn M).em⟩:=by
    first | (simp only [cW,eC,if_neg h1];done) | (simp only [cW,eC,if_neg h1];rfl) | rfl
   have er:(jn t a b M)=bg t.code t.cn M:=by
    first | (simp only [jn,dg,if_neg h1];done) | (simp only [jn,dg,if_neg h1];simp [*];done) | (simp only [jn,dg,if_neg h1];rfl)
   refine ⟨T7,by rw [e] <;> rfl,?_,by rw [er]⟩
   rw [e]
   exact hM8.weak (by omega)
  ·refine RDO.ev [] [] λ n10=>RD.one 12 (RDO.ct [] [] [0] (gR mb M k T t.S t.code t.cA t.cn t.cc t.e0 t.e1 t.e2 _ hM hS.toSetN (aw hE) hC.up) ?_)
   rintro _ T11 ⟨hM12,rfl⟩
   refine ag [] [13,14,15,16,18] []<|RD.one 19 (RDO.ev [] [.own 0,.own 0,.own 0,.own 0] λ _=>?_)
   refine ag [] [20] []<|RD.fin<|ae 21 ([.own 0,.own 0,.own 0,.own 0]++ow 1 5) λ _=>RN.ret [] [1] [0] (v:=.bool (bg t.code t.cn M)) (H':=(ap [(tb,.lit ((Stp.lp t mb)++[vI ((al t.S t.code t.cn M).e.t),vI ((al t.S t.code t.cn M).e.i),vI ((al t.S t.code t.cn M).e.k),vI ((al t.S t.code t.cn M).e.v),.bool ((al t.S t.code t.cn M).em)]) 213 (0,0))] [T11])) ?_
   have e:(cW t a b M)=⟨(al t.S t.code t.cn M).M,0,⟨(al t.S t.code t.cn M).e.t,(al t.S t.code t.cn M).e.i,(al t.S t.code t.cn M).e.k,(al t.S t.code t.cn M).e.v⟩,(al t.S t.code t.cn M).em⟩:=by
    first | (simp only [cW,eC,if_neg h1];done) | (simp only [cW,eC,if_neg h1];rfl) | rfl
   have er:(jn t a b M)=bg t.code t.cn M:=by
    first | (simp only [jn,dg,if_neg h1];done) | (simp only [jn,dg,if_neg h1];simp [*];done) | (simp only [jn,dg,if_neg h1];rfl)
   refine ⟨T11,by rw [e] <;> rfl,?_,by rw [er]⟩
   rw [e]
   exact hM12.weak (by omega)
theorem Dm (t:Stp) (a:Int) (b:Int) (tb mb:Nat) (M:MemS) (k:Nat) (T F:HL) (hM:MemH mb M (k+6) T) (hS:SetIn F t.S) (hE:cK F) (hC:CodeIn F t.code t.cA t.cn) :Sp Tryz.prog 152 #[vP tb 0,vI 2,vI a,vI b] (ap [(tb,.lit (Stp.l t mb) 213 (0,0))] [T]) F (λ u H'=>∃ x,H'=ap [(tb,.lit ((Stp.lp t mb)++[vI ((b6 t a b M).e.t),vI ((b6 t a b M).e.i),vI ((b6 t a b M).e.k),vI ((b6 t a b M).e.v),.bool ((b6 t a b M).em)]) 213 (0,0))] [x] /\ (MemH mb (b6 t a b M).M k x /\ u=.bool (i8 t a b M))):=by
 have hp:=hS.pl
 have hn:=hS.nb
 have hr:=hS.room
 refine Sp.run Tryz.func152 rfl (mc hS.blk mn) (A:=[(tb,.lit (Stp.l t mb) 213 (0,0))]) (Ts:=[T]) rfl λ w0=>?_
 refine ae 15 [.own 0] λ _=>RN.em (t.j=0) 16 (λ h1=>?_) λ h1=>?_
 ·refine ae 3 [] λ _=>RN.draw [16] []<|ag [] [0,4,8,9,10,11,1,5,12,2,6,13,3,7,14,15] (ow 0 6)<|RD.one 16 (RDO.ct [] [] [0] (Dj mb M (k+1) T t.cA t.cn t.cc t.e0 t.e1 t.e2 a b t.S.fuel _ hM) ?_)
  rintro _ T2 ⟨hM3,rfl⟩
  refine ag [] [17] []<|RD.fin<|ae 1 [] λ _=>?_
  rcases Decidable.em (t.e2 < 0) with h4 | h4
  ·refine cR 34 (nf (nt (decide_eq_true h4)))<|ae 6 [] λ _=>RN.ret [] [0] [0] (v:=.bool true) (H':=(ap [(tb,.lit (Stp.l t mb) 213 (0,0))] [T2])) ?_
   have e:(b6 t a b M)=⟨(aM t.e2 t.S.fuel a b M),0,⟨t.f0,t.f1,t.f2,t.f3⟩,t.emitted⟩:=by
    first | (simp only [b6,eC,if_pos h1,if_pos h4];done) | (simp only [b6,eC,if_pos h1,if_pos h4];rfl) | rfl
   have er:(i8 t a b M)=true:=by
    first | (simp only [i8,dg,if_pos h1,if_pos h4];done) | (simp only [i8,dg,if_pos h1,if_pos h4];simp [*];done) | (simp only [i8,dg,if_pos h1,if_pos h4];rfl)
   refine ⟨T2,by rw [e] <;> rfl,?_,by rw [er]⟩
   rw [e]
   exact hM3.weak (by omega)
  ·refine cR 34 (nt (nf (decide_eq_false h4)))<|ae 9 [.own 0] λ _=>RN.ct [] [0] (aj 3 1 hM3) ?_
   rintro _ T5 hM6
   refine ae 7 [] λ _=>RN.ret [] [0] [0] (v:=.bool false) (H':=(ap [(tb,.lit (Stp.l t mb) 213 (0,0))] [T5])) ?_
   have e:(b6 t a b M)=⟨((aM t.e2 t.S.fuel a b M).set 3 1),0,⟨t.f0,t.f1,t.f2,t.f3⟩,t.emitted⟩:=by
    first | (simp only [b6,eC,if_pos h1,if_neg h4];done) | (simp only [b6,eC,if_pos h1,if_neg h4];rfl) | rfl
   have er:(i8 t a b M)=false:=by
    first | (simp only [i8,dg,if_pos h1,if_neg h4];done) | (simp only [i8,dg,if_pos h1,if_neg h4];simp [*];done) | (simp only [i8,dg,if_pos h1,if_neg h4];rfl)
   refine ⟨T5,by rw [e] <;> rfl,?_,by rw [er]⟩
   rw [e]
   exact hM6.weak (by omega)
 ·refine ae 4 [] λ _=>RN.draw [12,19] []<|ag [] [0,4,8,1,5,9,2,6,10,3,7,11] (ow 0 21)<|fB 12 17 ?_ ?_
  ·refine RDO.ct [] [] [0] (gR mb M k T t.S t.code t.cA t.cn t.cc t.e0 t.e1 t.e2 _ hM hS.toSetN (aw hE) hC.up) ?_
   rintro _ T7 ⟨hM8,rfl⟩
   refine ag [] [13,14,15,16] []<|RD.one 17 (RDO.ev [] [] λ n9=>?_)
   refine ag [] [18] []<|RD.one 19 (RDO.ev [] [.own 0,.own 0,.own 0,.own 0] λ _=>?_)
   refine ag [] [20] []<|RD.fin<|ae 21 ([.own 0,.own 0,.own 0,.own 0]++ow 1 5) λ _=>RN.ret [] [1] [0] (v:=.bool (bg t.code t.cn M)) (H':=(ap [(tb,.lit ((Stp.lp t mb)++[vI ((al t.S t.code t.cn M).e.t),vI ((al t.S t.code t.cn M).e.i),vI ((al t.S t.code t.cn M).e.k),vI ((al t.S t.code t.cn M).e.v),.bool ((al t.S t.code t.cn M).em)]) 213 (0,0))] [T7])) ?_
   have e:(b6 t a b M)=⟨(al t.S t.code t.cn M).M,0,⟨(al t.S t.code t.cn M).e.t,(al t.S t.code t.cn M).e.i,(al t.S t.code t.cn M).e.k,(al t.S t.code t.cn M).e.v⟩,(al t.S t.code t.cn M).em⟩:=by
    first | (simp only [b6,eC,if_neg h1];done) | (simp only [b6,eC,if_neg h1];rfl) | rfl
   have er:(i8 t a b M)=bg t.code t.cn M:=by
    first | (simp only [i8,dg,if_neg h1];done) | (simp only [i8,dg,if_neg h1];simp [*];done) | (simp only [i8,dg,if_neg h1];rfl)
   refine ⟨T7,by rw [e] <;> rfl,?_,by rw [er]⟩
   rw [e]
   exact hM8.weak (by omega)
  ·refine RDO.ev [] [] λ n10=>RD.one 12 (RDO.ct [] [] [0] (gR mb M k T t.S t.code t.cA t.cn t.cc t.e0 t.e1 t.e2 _ hM hS.toSetN (aw hE) hC.up) ?_)
   rintro _ T11 ⟨hM12,rfl⟩
   refine ag [] [13,14,15,16,18] []<|RD.one 19 (RDO.ev [] [.own 0,.own 0,.own 0,.own 0] λ _=>?_)
   refine ag [] [20] []<|RD.fin<|ae 21 ([.own 0,.own 0,.own 0,.own 0]++ow 1 5) λ _=>RN.ret [] [1] [0] (v:=.bool (bg t.code t.cn M)) (H':=(ap [(tb,.lit ((Stp.lp t mb)++[vI ((al t.S t.code t.cn M).e.t),vI ((al t.S t.code t.cn M).e.i),vI ((al t.S t.code t.cn M).e.k),vI ((al t.S t.code t.cn M).e.v),.bool ((al t.S t.code t.cn M).em)]) 213 (0,0))] [T11])) ?_
   have e:(b6 t a b M)=⟨(al t.S t.code t.cn M).M,0,⟨(al t.S t.code t.cn M).e.t,(al t.S t.code t.cn M).e.i,(al t.S t.code t.cn M).e.k,(al t.S t.code t.cn M).e.v⟩,(al t.S t.code t.cn M).em⟩:=by
    first | (simp only [b6,eC,if_neg h1];done) | (simp only [b6,eC,if_neg h1];rfl) | rfl
   have er:(i8 t a b M)=bg t.code t.cn M:=by
    first | (simp only [i8,dg,if_neg h1];done) | (simp only [i8,dg,if_neg h1];simp [*];done) | (simp only [i8,dg,if_neg h1];rfl)
   refine ⟨T11,by rw [e] <;> rfl,?_,by rw [er]⟩
   rw [e]
   exact hM12.weak (by omega)
theorem GZ (t:Stp) (b:Int) (c:Bool) (tb mb:Nat) (M:MemS) (k:Nat) (T F:HL) (hM:MemH mb M (k+8) T) (hS:SetIn F t.S) (hE:cK F) (hC:CodeIn F t.code t.cA t.cn) :Sp Tryz.prog 151 #[vP tb 0,vI 0,vI b,.bool c] (ap [(tb,.lit (Stp.l t mb) 213 (0,0))] [T]) F (λ u H'=>∃ x,H'=ap [(tb,.lit ((Stp.lp t mb)++[vI ((cL t b c M).e.t),vI ((cL t b c M).e.i),vI ((cL t b c M).e.k),vI ((cL t b c M).e.v),.bool ((cL t b c M).em)]) 213 (0,0))] [x] /\ (MemH mb (cL t b c M).M k x)):=by
 have hp:=hS.pl
 have hn:=hS.nb
 have hr:=hS.room
 refine Sp.run Tryz.func151 rfl (mc hS.blk mn) (A:=[(tb,.lit (Stp.l t mb) 213 (0,0))]) (Ts:=[T]) rfl λ w0=>?_
 refine ae 8 [.own 0] λ _=>RN.em (t.j=0) 13 (λ h1=>?_) λ h1=>?_
 ·refine ae 5 [] λ _=>ur (c) 16 (λ h2=>?_) λ h2=>?_
  ·refine ae 10 [.own 0] λ _=>RN.ct [0] [0] (Dl t t.i b tb mb M (k+2) T _ hM hS.up (aw hE) hC.up) ?_
   rintro _ T3 ⟨hM4,rfl⟩
   refine ae 2 [] λ _=>iE (i4 t t.i b M) 36 (λ h5=>?_) λ h5=>?_
   ·refine ae 11 [.own 0] λ _=>cR 41 (nt (decide_eq_true h1))<|ae 3 [] λ _=>RN.draw [11] []<|ag [] [0,4,1,5,2,6,3,7,8,9,10] [.own 0,.own 0]<|RD.one 11 (RDO.ct [] [] [0] (aj 2 (IntKind.i64.wrap (t.i+1)) hM4) ?_)
    rintro _ T6 hM7
    refine RD.fin<|RN.ret [] [0] [0] (v:=.tuple #[]) (H':=(ap [(tb,.lit ((Stp.lp t mb)++[vI ((bZ t t.i b M).e.t),vI ((bZ t t.i b M).e.i),vI ((bZ t t.i b M).e.k),vI ((bZ t t.i b M).e.v),.bool ((bZ t t.i b M).em)]) 213 (0,0))] [T6])) ?_
    have e:(cL t b c M)=⟨(((bZ t t.i b M).M).set 2 (IntKind.i64.wrap (t.i+1))),0,⟨(bZ t t.i b M).e.t,(bZ t t.i b M).e.i,(bZ t t.i b M).e.k,(bZ t t.i b M).e.v⟩,(bZ t t.i b M).em⟩:=by
     first | (simp only [cL,dq,if_pos h1,if_pos h2,if_pos h5];done) | (simp only [cL,dq,if_pos h1,if_pos h2,if_pos h5];rfl) | rfl
    refine ⟨T6,by rw [e] <;> rfl,?_⟩
    rw [e]
    exact hM7.weak (by omega)
   ·refine ae 2 [] λ _=>RN.ret [] [0] [0] (v:=.tuple #[]) (H':=(ap [(tb,.lit ((Stp.lp t mb)++[vI ((bZ t t.i b M).e.t),vI ((bZ t t.i b M).e.i),vI ((bZ t t.i b M).e.k),vI ((bZ t t.i b M).e.v),.bool ((bZ t t.i b M).em)]) 213 (0,0))] [T3])) ?_
    have e:(cL t b c M)=⟨(bZ t t.i b M).M,0,⟨(bZ t t.i b M).e.t,(bZ t t.i b M).e.i,(bZ t t.i b M).e.k,(bZ t t.i b M).e.v⟩,(bZ t t.i b M).em⟩:=by
     first | (simp only [cL,dq,if_pos h1,if_pos h2,if_neg h5];done) | (simp only [cL,dq,if_pos h1,if_pos h2,if_neg h5];rfl) | rfl
    refine ⟨T3,by rw [e] <;> rfl,?_⟩
    rw [e]
    exact hM4.weak (by omega)
  ·refine ae 1 [] λ _=>RN.draw [11] []<|ag [] [0,4,1,5,2,6,3,7,8,9,10] [.own 0,.own 0]<|RD.one 11 (RDO.ct [] [] [0] (aj 2 (IntKind.i64.wrap (t.i+1)) hM) ?_)
   rintro _ T8 hM9
   refine RD.fin<|RN.ret [] [0] [0] (v:=.tuple #[]) (H':=(ap [(tb,.lit (Stp.l t mb) 213 (0,0))] [T8])) ?_
   have e:(cL t b c M)=⟨(M.set 2 (IntKind.i64.wrap (t.i+1))),0,⟨t.f0,t.f1,t.f2,t.f3⟩,t.emitted⟩:=by
    first | (simp only [cL,dq,if_pos h1,if_neg h2];done) | (simp only [cL,dq,if_pos h1,if_neg h2];rfl) | rfl
   refine ⟨T8,by rw [e] <;> rfl,?_⟩
   rw [e]
   exact hM9.weak (by omega)
 ·refine ae 15 [.own 0] λ _=>RN.ct [0] [0] (Dl t t.i b tb mb M (k+2) T _ hM hS.up (aw hE) hC.up) ?_
  rintro _ T10 ⟨hM11,rfl⟩
  refine ae 2 [] λ _=>iE (i4 t t.i b M) 36 (λ h12=>?_) λ h12=>?_
  ·refine ae 11 [.own 0] λ _=>cR 41 (nf (decide_eq_false h1))<|ae 6 [.own 0] λ _=>RN.ct [] [0] (aj 3 0 hM11) ?_
   rintro _ T13 hM14
   refine ae 2 [] λ _=>RN.draw [11] []<|ag [] [0,4,1,5,2,6,3,7,8,9,10] [.own 0,.own 0]<|RD.one 11 (RDO.ct [] [] [0] (aj 2 (IntKind.i64.wrap (t.i+1)) hM14) ?_)
   rintro _ T15 hM16
   refine RD.fin<|RN.ret [] [0] [0] (v:=.tuple #[]) (H':=(ap [(tb,.lit ((Stp.lp t mb)++[vI ((bZ t t.i b M).e.t),vI ((bZ t t.i b M).e.i),vI ((bZ t t.i b M).e.k),vI ((bZ t t.i b M).e.v),.bool ((bZ t t.i b M).em)]) 213 (0,0))] [T15])) ?_
   have e:(cL t b c M)=⟨((((bZ t t.i b M).M).set 3 0).set 2 (IntKind.i64.wrap (t.i+1))),0,⟨(bZ t t.i b M).e.t,(bZ t t.i b M).e.i,(bZ t t.i b M).e.k,(bZ t t.i b M).e.v⟩,(bZ t t.i b M).em⟩:=by
    first | (simp only [cL,dq,if_neg h1,if_pos h12];done) | (simp only [cL,dq,if_neg h1,if_pos h12];rfl) | rfl
   refine ⟨T15,by rw [e] <;> rfl,?_⟩
   rw [e]
   exact hM16.weak (by omega)
  ·refine ae 2 [] λ _=>RN.ret [] [0] [0] (v:=.tuple #[]) (H':=(ap [(tb,.lit ((Stp.lp t mb)++[vI ((bZ t t.i b M).e.t),vI ((bZ t t.i b M).e.i),vI ((bZ t t.i b M).e.k),vI ((bZ t t.i b M).e.v),.bool ((bZ t t.i b M).em)]) 213 (0,0))] [T10])) ?_
   have e:(cL t b c M)=⟨(bZ t t.i b M).M,0,⟨(bZ t t.i b M).e.t,(bZ t t.i b M).e.i,(bZ t t.i b M).e.k,(bZ t t.i b M).e.v⟩,(bZ t t.i b M).em⟩:=by
    first | (simp only [cL,dq,if_neg h1,if_neg h12];done) | (simp only [cL,dq,if_neg h1,if_neg h12];rfl) | rfl
   refine ⟨T10,by rw [e] <;> rfl,?_⟩
   rw [e]
   exact hM11.weak (by omega)
theorem G1 (t:Stp) (b:Int) (c:Bool) (tb mb:Nat) (M:MemS) (k:Nat) (T F:HL) (hM:MemH mb M (k+8) T) (hS:SetIn F t.S) (hE:cK F) (hC:CodeIn F t.code t.cA t.cn) :Sp Tryz.prog 151 #[vP tb 0,vI 2,vI b,.bool c] (ap [(tb,.lit (Stp.l t mb) 213 (0,0))] [T]) F (λ u H'=>∃ x,H'=ap [(tb,.lit ((Stp.lp t mb)++[vI ((cM t b c M).e.t),vI ((cM t b c M).e.i),vI ((cM t b c M).e.k),vI ((cM t b c M).e.v),.bool ((cM t b c M).em)]) 213 (0,0))] [x] /\ (MemH mb (cM t b c M).M k x)):=by
 have hp:=hS.pl
 have hn:=hS.nb
 have hr:=hS.room
 refine Sp.run Tryz.func151 rfl (mc hS.blk mn) (A:=[(tb,.lit (Stp.l t mb) 213 (0,0))]) (Ts:=[T]) rfl λ w0=>?_
 refine ae 8 [.own 0] λ _=>RN.em (t.j=0) 13 (λ h1=>?_) λ h1=>?_
 ·refine ae 5 [] λ _=>ur (c) 16 (λ h2=>?_) λ h2=>?_
  ·refine ae 10 [.own 0] λ _=>RN.ct [0] [0] (Dm t t.i b tb mb M (k+2) T _ hM hS.up (aw hE) hC.up) ?_
   rintro _ T3 ⟨hM4,rfl⟩
   refine ae 2 [] λ _=>iE (i8 t t.i b M) 36 (λ h5=>?_) λ h5=>?_
   ·refine ae 11 [.own 0] λ _=>cR 41 (nt (decide_eq_true h1))<|ae 3 [] λ _=>RN.draw [11] []<|ag [] [0,4,1,5,2,6,3,7,8,9,10] [.own 0,.own 0]<|RD.one 11 (RDO.ct [] [] [0] (aj 2 (IntKind.i64.wrap (t.i+1)) hM4) ?_)
    rintro _ T6 hM7
    refine RD.fin<|RN.ret [] [0] [0] (v:=.tuple #[]) (H':=(ap [(tb,.lit ((Stp.lp t mb)++[vI ((b6 t t.i b M).e.t),vI ((b6 t t.i b M).e.i),vI ((b6 t t.i b M).e.k),vI ((b6 t t.i b M).e.v),.bool ((b6 t t.i b M).em)]) 213 (0,0))] [T6])) ?_
    have e:(cM t b c M)=⟨(((b6 t t.i b M).M).set 2 (IntKind.i64.wrap (t.i+1))),0,⟨(b6 t t.i b M).e.t,(b6 t t.i b M).e.i,(b6 t t.i b M).e.k,(b6 t t.i b M).e.v⟩,(b6 t t.i b M).em⟩:=by
     first | (simp only [cM,dq,if_pos h1,if_pos h2,if_pos h5];done) | (simp only [cM,dq,if_pos h1,if_pos h2,if_pos h5];rfl) | rfl
    refine ⟨T6,by rw [e] <;> rfl,?_⟩
    rw [e]
    exact hM7.weak (by omega)
   ·refine ae 2 [] λ _=>RN.ret [] [0] [0] (v:=.tuple #[]) (H':=(ap [(tb,.lit ((Stp.lp t mb)++[vI ((b6 t t.i b M).e.t),vI ((b6 t t.i b M).e.i),vI ((b6 t t.i b M).e.k),vI ((b6 t t.i b M).e.v),.bool ((b6 t t.i b M).em)]) 213 (0,0))] [T3])) ?_
    have e:(cM t b c M)=⟨(b6 t t.i b M).M,0,⟨(b6 t t.i b M).e.t,(b6 t t.i b M).e.i,(b6 t t.i b M).e.k,(b6 t t.i b M).e.v⟩,(b6 t t.i b M).em⟩:=by
     first | (simp only [cM,dq,if_pos h1,if_pos h2,if_neg h5];done) | (simp only [cM,dq,if_pos h1,if_pos h2,if_neg h5];rfl) | rfl
    refine ⟨T3,by rw [e] <;> rfl,?_⟩
    rw [e]
    exact hM4.weak (by omega)
  ·refine ae 1 [] λ _=>RN.draw [11] []<|ag [] [0,4,1,5,2,6,3,7,8,9,10] [.own 0,.own 0]<|RD.one 11 (RDO.ct [] [] [0] (aj 2 (IntKind.i64.wrap (t.i+1)) hM) ?_)
   rintro _ T8 hM9
   refine RD.fin<|RN.ret [] [0] [0] (v:=.tuple #[]) (H':=(ap [(tb,.lit (Stp.l t mb) 213 (0,0))] [T8])) ?_
   have e:(cM t b c M)=⟨(M.set 2 (IntKind.i64.wrap (t.i+1))),0,⟨t.f0,t.f1,t.f2,t.f3⟩,t.emitted⟩:=by
    first | (simp only [cM,dq,if_pos h1,if_neg h2];done) | (simp only [cM,dq,if_pos h1,if_neg h2];rfl) | rfl
   refine ⟨T8,by rw [e] <;> rfl,?_⟩
   rw [e]
   exact hM9.weak (by omega)
 ·refine ae 15 [.own 0] λ _=>RN.ct [0] [0] (Dm t t.i b tb mb M (k+2) T _ hM hS.up (aw hE) hC.up) ?_
  rintro _ T10 ⟨hM11,rfl⟩
  refine ae 2 [] λ _=>iE (i8 t t.i b M) 36 (λ h12=>?_) λ h12=>?_
  ·refine ae 11 [.own 0] λ _=>cR 41 (nf (decide_eq_false h1))<|ae 6 [.own 0] λ _=>RN.ct [] [0] (aj 3 0 hM11) ?_
   rintro _ T13 hM14
   refine ae 2 [] λ _=>RN.draw [11] []<|ag [] [0,4,1,5,2,6,3,7,8,9,10] [.own 0,.own 0]<|RD.one 11 (RDO.ct [] [] [0] (aj 2 (IntKind.i64.wrap (t.i+1)) hM14) ?_)
   rintro _ T15 hM16
   refine RD.fin<|RN.ret [] [0] [0] (v:=.tuple #[]) (H':=(ap [(tb,.lit ((Stp.lp t mb)++[vI ((b6 t t.i b M).e.t),vI ((b6 t t.i b M).e.i),vI ((b6 t t.i b M).e.k),vI ((b6 t t.i b M).e.v),.bool ((b6 t t.i b M).em)]) 213 (0,0))] [T15])) ?_
   have e:(cM t b c M)=⟨((((b6 t t.i b M).M).set 3 0).set 2 (IntKind.i64.wrap (t.i+1))),0,⟨(b6 t t.i b M).e.t,(b6 t t.i b M).e.i,(b6 t t.i b M).e.k,(b6 t t.i b M).e.v⟩,(b6 t t.i b M).em⟩:=by
    first | (simp only [cM,dq,if_neg h1,if_pos h12];done) | (simp only [cM,dq,if_neg h1,if_pos h12];rfl) | rfl
   refine ⟨T15,by rw [e] <;> rfl,?_⟩
   rw [e]
   exact hM16.weak (by omega)
  ·refine ae 2 [] λ _=>RN.ret [] [0] [0] (v:=.tuple #[]) (H':=(ap [(tb,.lit ((Stp.lp t mb)++[vI ((b6 t t.i b M).e.t),vI ((b6 t t.i b M).e.i),vI ((b6 t t.i b M).e.k),vI ((b6 t t.i b M).e.v),.bool ((b6 t t.i b M).em)]) 213 (0,0))] [T10])) ?_
   have e:(cM t b c M)=⟨(b6 t t.i b M).M,0,⟨(b6 t t.i b M).e.t,(b6 t t.i b M).e.i,(b6 t t.i b M).e.k,(b6 t t.i b M).e.v⟩,(b6 t t.i b M).em⟩:=by
    first | (simp only [cM,dq,if_neg h1,if_neg h12];done) | (simp only [cM,dq,if_neg h1,if_neg h12];rfl) | rfl
   refine ⟨T10,by rw [e] <;> rfl,?_⟩
   rw [e]
   exact hM11.weak (by omega)
theorem LG (t:Stp)  (tb mb:Nat) (M:MemS) (k:Nat) (T F:HL) (hM:MemH mb M (k+9) T) (hS:SetIn F t.S) (hE:cK F) (hC:CodeIn F t.code t.cA t.cn) :Sp Tryz.prog 119 #[vP tb 0] (ap [(tb,.lit (Stp.l t mb) 213 (0,0))] [T]) F (λ u H'=>∃ x,H'=ap [(tb,.lit ((Stp.lp t mb)++[vI ((eT t M).e.t),vI ((eT t M).e.i),vI ((eT t M).e.k),vI ((eT t M).e.v),.bool ((eT t M).em)]) 213 (0,0))] [x] /\ (MemH mb (eT t M).M k x)):=by
 have hp:=hS.pl
 have hn:=hS.nb
 have hr:=hS.room
 refine Sp.run Tryz.func119 rfl (mc hS.blk mn) (A:=[(tb,.lit (Stp.l t mb) 213 (0,0))]) (Ts:=[T]) rfl λ w0=>?_
 refine ae 1 [] λ _=>RN.draw [] []<|ag [] [0,4,1,5,2,6,3,7] (ow 0 17)<|ar [] 8 (λ X_=>(gh t.S t.i _ hS.toSetN)) ?_
 have hb1:=ge hS.toSetN t.i
 refine ag [] [9] []<|RD.fin<|ae 8 [] λ _=>RN.em (ah t.S t.i < 0) 14 (λ h2=>?_) λ h2=>?_
 ·refine ae 4 [] λ _=>RN.ct [0] [0] (bI t 2 0 tb mb M (k+6) T _ hM hS.up ) ?_
  rintro _ T3 hM4
  refine ae 2 [] λ _=>RN.ret [] [0] [0] (v:=.tuple #[]) (H':=(ap [(tb,.lit (Stp.l t mb) 213 (0,0))] [T3])) ?_
  have e:(eT t M)=⟨(aL t 2 0 M),0,⟨t.f0,t.f1,t.f2,t.f3⟩,t.emitted⟩:=by
   first | (simp only [eT,VR.z,if_pos h2];done) | (simp only [eT,VR.z,if_pos h2];rfl) | rfl
  refine ⟨T3,by rw [e] <;> rfl,?_⟩
  rw [e]
  exact hM4.weak (by omega)
 ·refine ak 11 [.own 0,.nw] [bn ((ah t.S t.i)+2)] λ _=>ai (ay ((ah t.S t.i)+2) hM (au 0))<|ae 8 [] λ _=>RN.ct [0] [0] (GZ t (M.get ((ah t.S t.i)+2)) (!(decide (M.get ((ah t.S t.i)+2)=0))) tb mb M (k+1) T _ hM hS.up (aw hE) hC.up) ?_
  rintro _ T5 hM6
  refine ae 1 [] λ _=>RN.ret [] [0] [0] (v:=.tuple #[]) (H':=(ap [(tb,.lit ((Stp.lp t mb)++[vI ((cL t (M.get ((ah t.S t.i)+2)) (!(decide (M.get ((ah t.S t.i)+2)=0))) M).e.t),vI ((cL t (M.get ((ah t.S t.i)+2)) (!(decide (M.get ((ah t.S t.i)+2)=0))) M).e.i),vI ((cL t (M.get ((ah t.S t.i)+2)) (!(decide (M.get ((ah t.S t.i)+2)=0))) M).e.k),vI ((cL t (M.get ((ah t.S t.i)+2)) (!(decide (M.get ((ah t.S t.i)+2)=0))) M).e.v),.bool ((cL t (M.get ((ah t.S t.i)+2)) (!(decide (M.get ((ah t.S t.i)+2)=0))) M).em)]) 213 (0,0))] [T5])) ?_
  have e:(eT t M)=⟨(cL t (M.get ((ah t.S t.i)+2)) (!(decide (M.get ((ah t.S t.i)+2)=0))) M).M,0,⟨(cL t (M.get ((ah t.S t.i)+2)) (!(decide (M.get ((ah t.S t.i)+2)=0))) M).e.t,(cL t (M.get ((ah t.S t.i)+2)) (!(decide (M.get ((ah t.S t.i)+2)=0))) M).e.i,(cL t (M.get ((ah t.S t.i)+2)) (!(decide (M.get ((ah t.S t.i)+2)=0))) M).e.k,(cL t (M.get ((ah t.S t.i)+2)) (!(decide (M.get ((ah t.S t.i)+2)=0))) M).e.v⟩,(cL t (M.get ((ah t.S t.i)+2)) (!(decide (M.get ((ah t.S t.i)+2)=0))) M).em⟩:=by
   first | (simp only [eT,VR.z,if_neg h2];done) | (simp only [eT,VR.z,if_neg h2];rfl) | rfl
  refine ⟨T5,by rw [e] <;> rfl,?_⟩
  rw [e]
  exact hM6.weak (by omega)
theorem JQ (t:Stp)  (tb mb:Nat) (M:MemS) (k:Nat) (T F:HL) (hM:MemH mb M (k+9) T) (hS:SetIn F t.S) (hE:cK F) (hC:CodeIn F t.code t.cA t.cn) :Sp Tryz.prog 120 #[vP tb 0] (ap [(tb,.lit (Stp.l t mb) 213 (0,0))] [T]) F (λ u H'=>∃ x,H'=ap [(tb,.lit ((Stp.lp t mb)++[vI ((cT t M).e.t),vI ((cT t M).e.i),vI ((cT t M).e.k),vI ((cT t M).e.v),.bool ((cT t M).em)]) 213 (0,0))] [x] /\ (MemH mb (cT t M).M k x)):=by
 have hp:=hS.pl
 have hn:=hS.nb
 have hr:=hS.room
 refine Sp.run Tryz.func120 rfl (mc hS.blk mn) (A:=[(tb,.lit (Stp.l t mb) 213 (0,0))]) (Ts:=[T]) rfl λ w0=>?_
 refine ae 3 [] λ _=>RN.ct [0] [0] (JP t 0 0 tb mb M (k+3) T _ hM hS.up (aw hE) hC.up) ?_
 rintro _ T1 ⟨hM2,rfl⟩
 refine ae 2 [] λ _=>iE (jn t 0 0 M) 3 (λ h3=>?_) λ h3=>?_
 ·refine ae 3 [] λ _=>RN.ct [0] [0] (bI (t.upd (cW t 0 0 M)) 3 0 tb mb ((cW t 0 0 M).M) k T1 _ hM2 hS.up ) ?_
  rintro _ T4 hM5
  refine ae 1 [] λ _=>RN.ret [] [0] [0] (v:=.tuple #[]) (H':=(ap [(tb,.lit ((Stp.lp t mb)++[vI ((cW t 0 0 M).e.t),vI ((cW t 0 0 M).e.i),vI ((cW t 0 0 M).e.k),vI ((cW t 0 0 M).e.v),.bool ((cW t 0 0 M).em)]) 213 (0,0))] [T4])) ?_
  have e:(cT t M)=⟨(aL (t.upd (cW t 0 0 M)) 3 0 ((cW t 0 0 M).M)),0,⟨(cW t 0 0 M).e.t,(cW t 0 0 M).e.i,(cW t 0 0 M).e.k,(cW t 0 0 M).e.v⟩,(cW t 0 0 M).em⟩:=by
   first | (simp only [cT,VR.z,if_pos h3];done) | (simp only [cT,VR.z,if_pos h3];rfl) | rfl
  refine ⟨T4,by rw [e] <;> rfl,?_⟩
  rw [e]
  exact hM5.weak (by omega)
 ·refine ae 2 [] λ _=>RN.ret [] [0] [0] (v:=.tuple #[]) (H':=(ap [(tb,.lit ((Stp.lp t mb)++[vI ((cW t 0 0 M).e.t),vI ((cW t 0 0 M).e.i),vI ((cW t 0 0 M).e.k),vI ((cW t 0 0 M).e.v),.bool ((cW t 0 0 M).em)]) 213 (0,0))] [T1])) ?_
  have e:(cT t M)=⟨(cW t 0 0 M).M,0,⟨(cW t 0 0 M).e.t,(cW t 0 0 M).e.i,(cW t 0 0 M).e.k,(cW t 0 0 M).e.v⟩,(cW t 0 0 M).em⟩:=by
   first | (simp only [cT,VR.z,if_neg h3];done) | (simp only [cT,VR.z,if_neg h3];rfl) | rfl
  refine ⟨T1,by rw [e] <;> rfl,?_⟩
  rw [e]
  exact hM2.weak (by omega)
theorem LH (t:Stp)  (tb mb:Nat) (M:MemS) (k:Nat) (T F:HL) (hM:MemH mb M (k+9) T) (hS:SetIn F t.S) (hE:cK F) (hC:CodeIn F t.code t.cA t.cn) :Sp Tryz.prog 124 #[vP tb 0] (ap [(tb,.lit (Stp.l t mb) 213 (0,0))] [T]) F (λ u H'=>∃ x,H'=ap [(tb,.lit ((Stp.lp t mb)++[vI ((eU t M).e.t),vI ((eU t M).e.i),vI ((eU t M).e.k),vI ((eU t M).e.v),.bool ((eU t M).em)]) 213 (0,0))] [x] /\ (MemH mb (eU t M).M k x)):=by
 have hp:=hS.pl
 have hn:=hS.nb
 have hr:=hS.room
 refine Sp.run Tryz.func124 rfl (mc hS.blk mn) (A:=[(tb,.lit (Stp.l t mb) 213 (0,0))]) (Ts:=[T]) rfl λ w0=>?_
 refine ae 1 [] λ _=>RN.draw [] []<|ag [] [0,4,1,5,2,6,3,7] (ow 0 17)<|ar [] 8 (λ X_=>(cG t.S t.i _ hS.toSetN)) ?_
 have hb1:=cF hS.toSetN t.i
 refine ag [] [9] []<|RD.fin<|ae 8 [] λ _=>RN.em (af t.S t.i < 0) 14 (λ h2=>?_) λ h2=>?_
 ·refine ae 4 [] λ _=>RN.ct [0] [0] (bI t 7 0 tb mb M (k+6) T _ hM hS.up ) ?_
  rintro _ T3 hM4
  refine ae 2 [] λ _=>RN.ret [] [0] [0] (v:=.tuple #[]) (H':=(ap [(tb,.lit (Stp.l t mb) 213 (0,0))] [T3])) ?_
  have e:(eU t M)=⟨(aL t 7 0 M),0,⟨t.f0,t.f1,t.f2,t.f3⟩,t.emitted⟩:=by
   first | (simp only [eU,VR.z,if_pos h2];done) | (simp only [eU,VR.z,if_pos h2];rfl) | rfl
  refine ⟨T3,by rw [e] <;> rfl,?_⟩
  rw [e]
  exact hM4.weak (by omega)
 ·refine ak 11 [.own 0,.nw] [bn ((af t.S t.i)+6)] λ _=>ai (ay ((af t.S t.i)+6) hM (au 0))<|ae 9 [] λ _=>RN.ct [0] [0] (G1 t (IntKind.i64.wrap ((M.get ((af t.S t.i)+6)) - 1)) (!(decide (M.get ((af t.S t.i)+6)=0))) tb mb M (k+1) T _ hM hS.up (aw hE) hC.up) ?_
  rintro _ T5 hM6
  refine ae 1 [] λ _=>RN.ret [] [0] [0] (v:=.tuple #[]) (H':=(ap [(tb,.lit ((Stp.lp t mb)++[vI ((cM t (IntKind.i64.wrap ((M.get ((af t.S t.i)+6)) - 1)) (!(decide (M.get ((af t.S t.i)+6)=0))) M).e.t),vI ((cM t (IntKind.i64.wrap ((M.get ((af t.S t.i)+6)) - 1)) (!(decide (M.get ((af t.S t.i)+6)=0))) M).e.i),vI ((cM t (IntKind.i64.wrap ((M.get ((af t.S t.i)+6)) - 1)) (!(decide (M.get ((af t.S t.i)+6)=0))) M).e.k),vI ((cM t (IntKind.i64.wrap ((M.get ((af t.S t.i)+6)) - 1)) (!(decide (M.get ((af t.S t.i)+6)=0))) M).e.v),.bool ((cM t (IntKind.i64.wrap ((M.get ((af t.S t.i)+6)) - 1)) (!(decide (M.get ((af t.S t.i)+6)=0))) M).em)]) 213 (0,0))] [T5])) ?_
  have e:(eU t M)=⟨(cM t (IntKind.i64.wrap ((M.get ((af t.S t.i)+6)) - 1)) (!(decide (M.get ((af t.S t.i)+6)=0))) M).M,0,⟨(cM t (IntKind.i64.wrap ((M.get ((af t.S t.i)+6)) - 1)) (!(decide (M.get ((af t.S t.i)+6)=0))) M).e.t,(cM t (IntKind.i64.wrap ((M.get ((af t.S t.i)+6)) - 1)) (!(decide (M.get ((af t.S t.i)+6)=0))) M).e.i,(cM t (IntKind.i64.wrap ((M.get ((af t.S t.i)+6)) - 1)) (!(decide (M.get ((af t.S t.i)+6)=0))) M).e.k,(cM t (IntKind.i64.wrap ((M.get ((af t.S t.i)+6)) - 1)) (!(decide (M.get ((af t.S t.i)+6)=0))) M).e.v⟩,(cM t (IntKind.i64.wrap ((M.get ((af t.S t.i)+6)) - 1)) (!(decide (M.get ((af t.S t.i)+6)=0))) M).em⟩:=by
   first | (simp only [eU,VR.z,if_neg h2];done) | (simp only [eU,VR.z,if_neg h2];rfl) | rfl
  refine ⟨T5,by rw [e] <;> rfl,?_⟩
  rw [e]
  exact hM6.weak (by omega)
end Go.Proofs.YtcfajdgeejeieaaGreatDoor
