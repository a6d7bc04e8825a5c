import Derived.Test.YtkhifpbokgabbaaGreatDoorW15
set_option maxHeartbeats 4000000
set_option maxRecDepth 100000
set_option linter.unusedSimpArgs false
set_option linter.unusedVariables false
namespace Go.Proofs.YtkhifpbokgabbaaGreatDoor
open Go.RowKit
variable {K:Kd} {D:Int -> Prop}
def VR.z (r:VR):VR:=⟨r.M,0,r.e,r.em⟩
abbrev Stp.f (t:Stp):Eff:=⟨t.f0,t.f1,t.f2,t.f3⟩
def Stp.upd (t:Stp) (r:VR):Stp:={ t with f0:=r.e.t,f1:=r.e.i,f2:=r.e.k,f3:=r.e.v,emitted:=r.em }
def runV (e:Int) (t:Stp) (self other:Int) (M:MemS):VR:=if t.j=0 then (if e < 0 then ⟨startV e t.S.fuel self other M,0,t.f,t.emitted⟩ else ⟨(startV e t.S.fuel self other M).set 3 1,0,t.f,t.emitted⟩) else ⟨(stepV t.S t.code t.cn M).M,0,(stepV t.S t.code t.cn M).e,(stepV t.S t.code t.cn M).em⟩
def runE (e:Int) (t:Stp) (self other:Int) (M:MemS):Bool:=if t.j=0 then decide (e < 0) else endV t.code t.cn M
abbrev run0 (t:Stp) (a b:Int) (M:MemS):VR:=runV t.e0 t a b M
abbrev run1 (t:Stp) (a b:Int) (M:MemS):VR:=runV t.e1 t a b M
abbrev run2 (t:Stp) (a b:Int) (M:MemS):VR:=runV t.e2 t a b M
abbrev end0 (t:Stp) (a b:Int) (M:MemS):Bool:=runE t.e0 t a b M
abbrev end1 (t:Stp) (a b:Int) (M:MemS):Bool:=runE t.e1 t a b M
abbrev end2 (t:Stp) (a b:Int) (M:MemS):Bool:=runE t.e2 t a b M
def turnV (r:VR) (over:Bool) (t:Stp) (cause:Bool) (M:MemS):VR:=if t.j=0 then (if cause=true then (if over=true then ⟨r.M.set 2 (w64 (t.i+1)),0,r.e,r.em⟩ else ⟨r.M,0,r.e,r.em⟩) else ⟨M.set 2 (w64 (t.i+1)),0,t.f,t.emitted⟩) else (if over=true then ⟨(r.M.set 3 0).set 2 (w64 (t.i+1)),0,r.e,r.em⟩ else ⟨r.M,0,r.e,r.em⟩)
abbrev turn0 (t:Stp) (b:Int) (c:Bool) (M:MemS):VR:=turnV (run0 t t.i b M) (end0 t t.i b M) t c M
abbrev turn2 (t:Stp) (b:Int) (c:Bool) (M:MemS):VR:=turnV (run2 t t.i b M) (end2 t t.i b M) t c M
def actV (t:Stp) (M:MemS):VR:=if playerAt t.S t.i < 0 then ⟨beginM t 2 0 M,0,t.f,t.emitted⟩ else (turn0 t (M.get (playerAt t.S t.i+2)) (!decide (M.get (playerAt t.S t.i+2)=0)) M).z
def tickV (t:Stp) (M:MemS):VR:=if end1 t 0 0 M=true then ⟨beginM t 3 0 (run1 t 0 0 M).M,0,(run1 t 0 0 M).e,(run1 t 0 0 M).em⟩ else ⟨(run1 t 0 0 M).M,0,(run1 t 0 0 M).e,(run1 t 0 0 M).em⟩
def hitV (t:Stp) (M:MemS):VR:=if bodyAt t.S t.i < 0 then ⟨beginM t 7 0 M,0,t.f,t.emitted⟩ else (turn2 t (w64 (M.get (bodyAt t.S t.i+6) - 1)) (!decide (M.get (bodyAt t.S t.i+6)=0)) M).z
theorem run_v0 (t:Stp) (a:Int) (b:Int) (tb mb:Nat) (M:MemS) (k:Nat) (T F:HL) (hM:MemK K D mb M (k+6) T) (hS:SetIn F t.S) (hE:¬ t.j=0 -> EffIn F) (hC:CodeIn F t.code t.cA t.cn)  (hl:DLo D) (hst:¬ t.j=0 -> StD D t.S t.code t.cn M):Sp Tryz.prog 47 #[vP tb 0,vI 0,vI a,vI b] (ap [(tb,.lit (Stp.l K t mb) 94 (0,0))] [T]) F (λ u H'=>∃ x,H'=ap [(tb,.lit ((Stp.lp K t mb)++[vI ((run0 t a b M).e.t),vI ((run0 t a b M).e.i),vI ((run0 t a b M).e.k),vI ((run0 t a b M).e.v),.bool ((run0 t a b M).em)]) 94 (0,0))] [x] /\ (MemK K D mb (run0 t a b M).M k x /\ u=.bool (end0 t a b M))):=by
 have hp:=hS.pl
 have hn:=hS.nb
 have hr:=hS.room
 refine Sp.run Tryz.func47 rfl (mc hS.blk mn) (A:=[(tb,.lit (Stp.l K t mb) 94 (0,0))]) (Ts:=[T]) rfl λ w0=>?_
 refine RN.go 15 [.own 0] λ _=>RN.em (t.j=0) 16 (λ h1=>?_) λ h1=>?_
 ·refine RN.go 3 [] λ _=>RN.draw [16] []<|RD.go [] [0,4,8,9,10,11,1,5,12,2,6,13,3,7,14,15] (ow 0 6)<|RD.one 16 (RDO.ct [] [] [0] (start_v0 mb M (k+1) T t.cA t.cn t.cc t.e0 t.e1 t.e2 a b t.S.fuel _ hM hl) ?_)
  rintro _ T2 ⟨hM3,rfl⟩
  refine RD.go [] [17] []<|RD.fin<|RN.go 1 [] λ _=>?_
  rcases Decidable.em (t.e0 < 0) with h4 | h4
  ·refine RN.fx 34 (nf (nt (decide_eq_true h4)))<|RN.go 6 [] λ _=>RN.ret [] [0] [0] (v:=.bool true) (H':=(ap [(tb,.lit (Stp.l K t mb) 94 (0,0))] [T2])) ?_
   have e:(run0 t a b M)=⟨(startV t.e0 t.S.fuel a b M),0,⟨t.f0,t.f1,t.f2,t.f3⟩,t.emitted⟩:=by
    first | (simp only [run0,runV,if_pos h1,if_pos h4];done) | (simp only [run0,runV,if_pos h1,if_pos h4];rfl) | rfl
   have er:(end0 t a b M)=true:=by
    first | (simp only [end0,runE,if_pos h1,if_pos h4];done) | (simp only [end0,runE,if_pos h1,if_pos h4];simp [*];done) | (simp only [end0,runE,if_pos h1,if_pos h4];rfl)
   refine ⟨T2,by rw [e] <;> rfl,?_,by rw [er]⟩
   rw [e]
   exact hM3.weak (by omega)
  ·refine RN.fx 34 (nt (nf (decide_eq_false h4)))<|RN.go 9 [.own 0] λ _=>RN.ctK [] [0] (set_any 3 1 hM3 (hl 3 (by decide) (by decide))) ?_
   rintro _ T5 hM6
   refine RN.go 7 [] λ _=>RN.ret [] [0] [0] (v:=.bool false) (H':=(ap [(tb,.lit (Stp.l K t mb) 94 (0,0))] [T5])) ?_
   have e:(run0 t a b M)=⟨((startV t.e0 t.S.fuel a b M).set 3 1),0,⟨t.f0,t.f1,t.f2,t.f3⟩,t.emitted⟩:=by
    first | (simp only [run0,runV,if_pos h1,if_neg h4];done) | (simp only [run0,runV,if_pos h1,if_neg h4];rfl) | rfl
   have er:(end0 t a b M)=false:=by
    first | (simp only [end0,runE,if_pos h1,if_neg h4];done) | (simp only [end0,runE,if_pos h1,if_neg h4];simp [*];done) | (simp only [end0,runE,if_pos h1,if_neg h4];rfl)
   refine ⟨T5,by rw [e] <;> rfl,?_,by rw [er]⟩
   rw [e]
   exact hM6.weak (by omega)
 ·refine RN.go 4 [] λ _=>RN.draw [12,19] []<|RD.go [] [0,4,8,1,5,9,2,6,10,3,7,11] (ow 0 21)<|RD.two 12 17 ?_ ?_
  ·refine RDO.ct [] [] [0] (vstep_any mb M k T t.S t.code t.cA t.cn t.cc t.e0 t.e1 t.e2 _ hM hS.toSetN (ro_ap (hE h1)) hC.up (hst h1) hl) ?_
   rintro _ T7 ⟨hM8,rfl⟩
   refine RD.go [] [13,14,15,16] []<|RD.one 17 (RDO.ev [] [] λ n9=>?_)
   refine RD.go [] [18] []<|RD.one 19 (RDO.ev [] [.own 0,.own 0,.own 0,.own 0] λ _=>?_)
   refine RD.go [] [20] []<|RD.fin<|RN.go 21 ([.own 0,.own 0,.own 0,.own 0]++ow 1 5) λ _=>RN.ret [] [1] [0] (v:=.bool (endV t.code t.cn M)) (H':=(ap [(tb,.lit ((Stp.lp K t mb)++[vI ((stepV t.S t.code t.cn M).e.t),vI ((stepV t.S t.code t.cn M).e.i),vI ((stepV t.S t.code t.cn M).e.k),vI ((stepV t.S t.code t.cn M).e.v),.bool ((stepV t.S t.code t.cn M).em)]) 94 (0,0))] [T7])) ?_
   have e:(run0 t a b M)=⟨(stepV t.S t.code t.cn M).M,0,⟨(stepV t.S t.code t.cn M).e.t,(stepV t.S t.code t.cn M).e.i,(stepV t.S t.code t.cn M).e.k,(stepV t.S t.code t.cn M).e.v⟩,(stepV t.S t.code t.cn M).em⟩:=by
    first | (simp only [run0,runV,if_neg h1];done) | (simp only [run0,runV,if_neg h1];rfl) | rfl
   have er:(end0 t a b M)=endV t.code t.cn M:=by
    first | (simp only [end0,runE,if_neg h1];done) | (simp only [end0,runE,if_neg h1];simp [*];done) | (simp only [end0,runE,if_neg h1];rfl)
   refine ⟨T7,by rw [e] <;> rfl,?_,by rw [er]⟩
   rw [e]
   exact hM8.weak (by omega)
  ·refine RDO.ev [] [] λ n10=>RD.one 12 (RDO.ct [] [] [0] (vstep_any mb M k T t.S t.code t.cA t.cn t.cc t.e0 t.e1 t.e2 _ hM hS.toSetN (ro_ap (hE h1)) hC.up (hst h1) hl) ?_)
   rintro _ T11 ⟨hM12,rfl⟩
   refine RD.go [] [13,14,15,16,18] []<|RD.one 19 (RDO.ev [] [.own 0,.own 0,.own 0,.own 0] λ _=>?_)
   refine RD.go [] [20] []<|RD.fin<|RN.go 21 ([.own 0,.own 0,.own 0,.own 0]++ow 1 5) λ _=>RN.ret [] [1] [0] (v:=.bool (endV t.code t.cn M)) (H':=(ap [(tb,.lit ((Stp.lp K t mb)++[vI ((stepV t.S t.code t.cn M).e.t),vI ((stepV t.S t.code t.cn M).e.i),vI ((stepV t.S t.code t.cn M).e.k),vI ((stepV t.S t.code t.cn M).e.v),.bool ((stepV t.S t.code t.cn M).em)]) 94 (0,0))] [T11])) ?_
   have e:(run0 t a b M)=⟨(stepV t.S t.code t.cn M).M,0,⟨(stepV t.S t.code t.cn M).e.t,(stepV t.S t.code t.cn M).e.i,(stepV t.S t.code t.cn M).e.k,(stepV t.S t.code t.cn M).e.v⟩,(stepV t.S t.code t.cn M).em⟩:=by
    first | (simp only [run0,runV,if_neg h1];done) | (simp only [run0,runV,if_neg h1];rfl) | rfl
   have er:(end0 t a b M)=endV t.code t.cn M:=by
    first | (simp only [end0,runE,if_neg h1];done) | (simp only [end0,runE,if_neg h1];simp [*];done) | (simp only [end0,runE,if_neg h1];rfl)
   refine ⟨T11,by rw [e] <;> rfl,?_,by rw [er]⟩
   rw [e]
   exact hM12.weak (by omega)
theorem run_v1 (t:Stp) (a:Int) (b:Int) (tb mb:Nat) (M:MemS) (k:Nat) (T F:HL) (hM:MemK K D mb M (k+6) T) (hS:SetIn F t.S) (hE:¬ t.j=0 -> EffIn F) (hC:CodeIn F t.code t.cA t.cn)  (hl:DLo D) (hst:¬ t.j=0 -> StD D t.S t.code t.cn M):Sp Tryz.prog 47 #[vP tb 0,vI 1,vI a,vI b] (ap [(tb,.lit (Stp.l K t mb) 94 (0,0))] [T]) F (λ u H'=>∃ x,H'=ap [(tb,.lit ((Stp.lp K t mb)++[vI ((run1 t a b M).e.t),vI ((run1 t a b M).e.i),vI ((run1 t a b M).e.k),vI ((run1 t a b M).e.v),.bool ((run1 t a b M).em)]) 94 (0,0))] [x] /\ (MemK K D mb (run1 t a b M).M k x /\ u=.bool (end1 t a b M))):=by
 have hp:=hS.pl
 have hn:=hS.nb
 have hr:=hS.room
 refine Sp.run Tryz.func47 rfl (mc hS.blk mn) (A:=[(tb,.lit (Stp.l K t mb) 94 (0,0))]) (Ts:=[T]) rfl λ w0=>?_
 refine RN.go 15 [.own 0] λ _=>RN.em (t.j=0) 16 (λ h1=>?_) λ h1=>?_
 ·refine RN.go 3 [] λ _=>RN.draw [16] []<|RD.go [] [0,4,8,9,10,11,1,5,12,2,6,13,3,7,14,15] (ow 0 6)<|RD.one 16 (RDO.ct [] [] [0] (start_v1 mb M (k+1) T t.cA t.cn t.cc t.e0 t.e1 t.e2 a b t.S.fuel _ hM hl) ?_)
  rintro _ T2 ⟨hM3,rfl⟩
  refine RD.go [] [17] []<|RD.fin<|RN.go 1 [] λ _=>?_
  rcases Decidable.em (t.e1 < 0) with h4 | h4
  ·refine RN.fx 34 (nf (nt (decide_eq_true h4)))<|RN.go 6 [] λ _=>RN.ret [] [0] [0] (v:=.bool true) (H':=(ap [(tb,.lit (Stp.l K t mb) 94 (0,0))] [T2])) ?_
   have e:(run1 t a b M)=⟨(startV t.e1 t.S.fuel a b M),0,⟨t.f0,t.f1,t.f2,t.f3⟩,t.emitted⟩:=by
    first | (simp only [run1,runV,if_pos h1,if_pos h4];done) | (simp only [run1,runV,if_pos h1,if_pos h4];rfl) | rfl
   have er:(end1 t a b M)=true:=by
    first | (simp only [end1,runE,if_pos h1,if_pos h4];done) | (simp only [end1,runE,if_pos h1,if_pos h4];simp [*];done) | (simp only [end1,runE,if_pos h1,if_pos h4];rfl)
   refine ⟨T2,by rw [e] <;> rfl,?_,by rw [er]⟩
   rw [e]
   exact hM3.weak (by omega)
  ·refine RN.fx 34 (nt (nf (decide_eq_false h4)))<|RN.go 9 [.own 0] λ _=>RN.ctK [] [0] (set_any 3 1 hM3 (hl 3 (by decide) (by decide))) ?_
   rintro _ T5 hM6
   refine RN.go 7 [] λ _=>RN.ret [] [0] [0] (v:=.bool false) (H':=(ap [(tb,.lit (Stp.l K t mb) 94 (0,0))] [T5])) ?_
   have e:(run1 t a b M)=⟨((startV t.e1 t.S.fuel a b M).set 3 1),0,⟨t.f0,t.f1,t.f2,t.f3⟩,t.emitted⟩:=by
    first | (simp only [run1,runV,if_pos h1,if_neg h4];done) | (simp only [run1,runV,if_pos h1,if_neg h4];rfl) | rfl
   have er:(end1 t a b M)=false:=by
    first | (simp only [end1,runE,if_pos h1,if_neg h4];done) | (simp only [end1,runE,if_pos h1,if_neg h4];simp [*];done) | (simp only [end1,runE,if_pos h1,if_neg h4];rfl)
   refine ⟨T5,by rw [e] <;> rfl,?_,by rw [er]⟩
   rw [e]
   exact hM6.weak (by omega)
 ·refine RN.go 4 [] λ _=>RN.draw [12,19] []<|RD.go [] [0,4,8,1,5,9,2,6,10,3,7,11] (ow 0 21)<|RD.two 12 17 ?_ ?_
  ·refine RDO.ct [] [] [0] (vstep_any mb M k T t.S t.code t.cA t.cn t.cc t.e0 t.e1 t.e2 _ hM hS.toSetN (ro_ap (hE h1)) hC.up (hst h1) hl) ?_
   rintro _ T7 ⟨hM8,rfl⟩
   refine RD.go [] [13,14,15,16] []<|RD.one 17 (RDO.ev [] [] λ n9=>?_)
   refine RD.go [] [18] []<|RD.one 19 (RDO.ev [] [.own 0,.own 0,.own 0,.own 0] λ _=>?_)
   refine RD.go [] [20] []<|RD.fin<|RN.go 21 ([.own 0,.own 0,.own 0,.own 0]++ow 1 5) λ _=>RN.ret [] [1] [0] (v:=.bool (endV t.code t.cn M)) (H':=(ap [(tb,.lit ((Stp.lp K t mb)++[vI ((stepV t.S t.code t.cn M).e.t),vI ((stepV t.S t.code t.cn M).e.i),vI ((stepV t.S t.code t.cn M).e.k),vI ((stepV t.S t.code t.cn M).e.v),.bool ((stepV t.S t.code t.cn M).em)]) 94 (0,0))] [T7])) ?_
   have e:(run1 t a b M)=⟨(stepV t.S t.code t.cn M).M,0,⟨(stepV t.S t.code t.cn M).e.t,(stepV t.S t.code t.cn M).e.i,(stepV t.S t.code t.cn M).e.k,(stepV t.S t.code t.cn M).e.v⟩,(stepV t.S t.code t.cn M).em⟩:=by
    first | (simp only [run1,runV,if_neg h1];done) | (simp only [run1,runV,if_neg h1];rfl) | rfl
   have er:(end1 t a b M)=endV t.code t.cn M:=by
    first | (simp only [end1,runE,if_neg h1];done) | (simp only [end1,runE,if_neg h1];simp [*];done) | (simp only [end1,runE,if_neg h1];rfl)
   refine ⟨T7,by rw [e] <;> rfl,?_,by rw [er]⟩
   rw [e]
   exact hM8.weak (by omega)
  ·refine RDO.ev [] [] λ n10=>RD.one 12 (RDO.ct [] [] [0] (vstep_any mb M k T t.S t.code t.cA t.cn t.cc t.e0 t.e1 t.e2 _ hM hS.toSetN (ro_ap (hE h1)) hC.up (hst h1) hl) ?_)
   rintro _ T11 ⟨hM12,rfl⟩
   refine RD.go [] [13,14,15,16,18] []<|RD.one 19 (RDO.ev [] [.own 0,.own 0,.own 0,.own 0] λ _=>?_)
   refine RD.go [] [20] []<|RD.fin<|RN.go 21 ([.own 0,.own 0,.own 0,.own 0]++ow 1 5) λ _=>RN.ret [] [1] [0] (v:=.bool (endV t.code t.cn M)) (H':=(ap [(tb,.lit ((Stp.lp K t mb)++[vI ((stepV t.S t.code t.cn M).e.t),vI ((stepV t.S t.code t.cn M).e.i),vI ((stepV t.S t.code t.cn M).e.k),vI ((stepV t.S t.code t.cn M).e.v),.bool ((stepV t.S t.code t.cn M).em)]) 94 (0,0))] [T11])) ?_
   have e:(run1 t a b M)=⟨(stepV t.S t.code t.cn M).M,0,⟨(stepV t.S t.code t.cn M).e.t,(stepV t.S t.code t.cn M).e.i,(stepV t.S t.code t.cn M).e.k,(stepV t.S t.code t.cn M).e.v⟩,(stepV t.S t.code t.cn M).em⟩:=by
    first | (simp only [run1,runV,if_neg h1];done) | (simp only [run1,runV,if_neg h1];rfl) | rfl
   have er:(end1 t a b M)=endV t.code t.cn M:=by
    first | (simp only [end1,runE,if_neg h1];done) | (simp only [end1,runE,if_neg h1];simp [*];done) | (simp only [end1,runE,if_neg h1];rfl)
   refine ⟨T11,by rw [e] <;> rfl,?_,by rw [er]⟩
   rw [e]
   exact hM12.weak (by omega)
theorem run_v2 (t:Stp) (a:Int) (b:Int) (tb mb:Nat) (M:MemS) (k:Nat) (T F:HL) (hM:MemK K D mb M (k+6) T) (hS:SetIn F t.S) (hE:¬ t.j=0 -> EffIn F) (hC:CodeIn F t.code t.cA t.cn)  (hl:DLo D) (hst:¬ t.j=0 -> StD D t.S t.code t.cn M):Sp Tryz.prog 47 #[vP tb 0,vI 2,vI a,vI b] (ap [(tb,.lit (Stp.l K t mb) 94 (0,0))] [T]) F (λ u H'=>∃ x,H'=ap [(tb,.lit ((Stp.lp K t mb)++[vI ((run2 t a b M).e.t),vI ((run2 t a b M).e.i),vI ((run2 t a b M).e.k),vI ((run2 t a b M).e.v),.bool ((run2 t a b M).em)]) 94 (0,0))] [x] /\ (MemK K D mb (run2 t a b M).M k x /\ u=.bool (end2 t a b M))):=by
 have hp:=hS.pl
 have hn:=hS.nb
 have hr:=hS.room
 refine Sp.run Tryz.func47 rfl (mc hS.blk mn) (A:=[(tb,.lit (Stp.l K t mb) 94 (0,0))]) (Ts:=[T]) rfl λ w0=>?_
 refine RN.go 15 [.own 0] λ _=>RN.em (t.j=0) 16 (λ h1=>?_) λ h1=>?_
 ·refine RN.go 3 [] λ _=>RN.draw [16] []<|RD.go [] [0,4,8,9,10,11,1,5,12,2,6,13,3,7,14,15] (ow 0 6)<|RD.one 16 (RDO.ct [] [] [0] (start_v2 mb M (k+1) T t.cA t.cn t.cc t.e0 t.e1 t.e2 a b t.S.fuel _ hM hl) ?_)
  rintro _ T2 ⟨hM3,rfl⟩
  refine RD.go [] [17] []<|RD.fin<|RN.go 1 [] λ _=>?_
  rcases Decidable.em (t.e2 < 0) with h4 | h4
  ·refine RN.fx 34 (nf (nt (decide_eq_true h4)))<|RN.go 6 [] λ _=>RN.ret [] [0] [0] (v:=.bool true) (H':=(ap [(tb,.lit (Stp.l K t mb) 94 (0,0))] [T2])) ?_
   have e:(run2 t a b M)=⟨(startV t.e2 t.S.fuel a b M),0,⟨t.f0,t.f1,t.f2,t.f3⟩,t.emitted⟩:=by
    first | (simp only [run2,runV,if_pos h1,if_pos h4];done) | (simp only [run2,runV,if_pos h1,if_pos h4];rfl) | rfl
   have er:(end2 t a b M)=true:=by
    first | (simp only [end2,runE,if_pos h1,if_pos h4];done) | (simp only [end2,runE,if_pos h1,if_pos h4];simp [*];done) | (simp only [end2,runE,if_pos h1,if_pos h4];rfl)
   refine ⟨T2,by rw [e] <;> rfl,?_,by rw [er]⟩
   rw [e]
   exact hM3.weak (by omega)
  ·refine RN.fx 34 (nt (nf (decide_eq_false h4)))<|RN.go 9 [.own 0] λ _=>RN.ctK [] [0] (set_any 3 1 hM3 (hl 3 (by decide) (by decide))) ?_
   rintro _ T5 hM6
   refine RN.go 7 [] λ _=>RN.ret [] [0] [0] (v:=.bool false) (H':=(ap [(tb,.lit (Stp.l K t mb) 94 (0,0))] [T5])) ?_
   have e:(run2 t a b M)=⟨((startV t.e2 t.S.fuel a b M).set 3 1),0,⟨t.f0,t.f1,t.f2,t.f3⟩,t.emitted⟩:=by
    first | (simp only [run2,runV,if_pos h1,if_neg h4];done) | (simp only [run2,runV,if_pos h1,if_neg h4];rfl) | rfl
   have er:(end2 t a b M)=false:=by
    first | (simp only [end2,runE,if_pos h1,if_neg h4];done) | (simp only [end2,runE,if_pos h1,if_neg h4];simp [*];done) | (simp only [end2,runE,if_pos h1,if_neg h4];rfl)
   refine ⟨T5,by rw [e] <;> rfl,?_,by rw [er]⟩
   rw [e]
   exact hM6.weak (by omega)
 ·refine RN.go 4 [] λ _=>RN.draw [12,19] []<|RD.go [] [0,4,8,1,5,9,2,6,10,3,7,11] (ow 0 21)<|RD.two 12 17 ?_ ?_
  ·refine RDO.ct [] [] [0] (vstep_any mb M k T t.S t.code t.cA t.cn t.cc t.e0 t.e1 t.e2 _ hM hS.toSetN (ro_ap (hE h1)) hC.up (hst h1) hl) ?_
   rintro _ T7 ⟨hM8,rfl⟩
   refine RD.go [] [13,14,15,16] []<|RD.one 17 (RDO.ev [] [] λ n9=>?_)
   refine RD.go [] [18] []<|RD.one 19 (RDO.ev [] [.own 0,.own 0,.own 0,.own 0] λ _=>?_)
   refine RD.go [] [20] []<|RD.fin<|RN.go 21 ([.own 0,.own 0,.own 0,.own 0]++ow 1 5) λ _=>RN.ret [] [1] [0] (v:=.bool (endV t.code t.cn M)) (H':=(ap [(tb,.lit ((Stp.lp K t mb)++[vI ((stepV t.S t.code t.cn M).e.t),vI ((stepV t.S t.code t.cn M).e.i),vI ((stepV t.S t.code t.cn M).e.k),vI ((stepV t.S t.code t.cn M).e.v),.bool ((stepV t.S t.code t.cn M).em)]) 94 (0,0))] [T7])) ?_
   have e:(run2 t a b M)=⟨(stepV t.S t.code t.cn M).M,0,⟨(stepV t.S t.code t.cn M).e.t,(stepV t.S t.code t.cn M).e.i,(stepV t.S t.code t.cn M).e.k,(stepV t.S t.code t.cn M).e.v⟩,(stepV t.S t.code t.cn M).em⟩:=by
    first | (simp only [run2,runV,if_neg h1];done) | (simp only [run2,runV,if_neg h1];rfl) | rfl
   have er:(end2 t a b M)=endV t.code t.cn M:=by
    first | (simp only [end2,runE,if_neg h1];done) | (simp only [end2,runE,if_neg h1];simp [*];done) | (simp only [end2,runE,if_neg h1];rfl)
   refine ⟨T7,by rw [e] <;> rfl,?_,by rw [er]⟩
   rw [e]
   exact hM8.weak (by omega)
  ·refine RDO.ev [] [] λ n10=>RD.one 12 (RDO.ct [] [] [0] (vstep_any mb M k T t.S t.code t.cA t.cn t.cc t.e0 t.e1 t.e2 _ hM hS.toSetN (ro_ap (hE h1)) hC.up (hst h1) hl) ?_)
   rintro _ T11 ⟨hM12,rfl⟩
   refine RD.go [] [13,14,15,16,18] []<|RD.one 19 (RDO.ev [] [.own 0,.own 0,.own 0,.own 0] λ _=>?_)
   refine RD.go [] [20] []<|RD.fin<|RN.go 21 ([.own 0,.own 0,.own 0,.own 0]++ow 1 5) λ _=>RN.ret [] [1] [0] (v:=.bool (endV t.code t.cn M)) (H':=(ap [(tb,.lit ((Stp.lp K t mb)++[vI ((stepV t.S t.code t.cn M).e.t),vI ((stepV t.S t.code t.cn M).e.i),vI ((stepV t.S t.code t.cn M).e.k),vI ((stepV t.S t.code t.cn M).e.v),.bool ((stepV t.S t.code t.cn M).em)]) 94 (0,0))] [T11])) ?_
   have e:(run2 t a b M)=⟨(stepV t.S t.code t.cn M).M,0,⟨(stepV t.S t.code t.cn M).e.t,(stepV t.S t.code t.cn M).e.i,(stepV t.S t.code t.cn M).e.k,(stepV t.S t.code t.cn M).e.v⟩,(stepV t.S t.code t.cn M).em⟩:=by
    first | (simp only [run2,runV,if_neg h1];done) | (simp only [run2,runV,if_neg h1];rfl) | rfl
   have er:(end2 t a b M)=endV t.code t.cn M:=by
    first | (simp only [end2,runE,if_neg h1];done) | (simp only [end2,runE,if_neg h1];simp [*];done) | (simp only [end2,runE,if_neg h1];rfl)
   refine ⟨T11,by rw [e] <;> rfl,?_,by rw [er]⟩
   rw [e]
   exact hM12.weak (by omega)
theorem turn_v0 (t:Stp) (b:Int) (c:Bool) (tb mb:Nat) (M:MemS) (k:Nat) (T F:HL) (hM:MemK K D mb M (k+8) T) (hS:SetIn F t.S) (hE:¬ t.j=0 -> EffIn F) (hC:CodeIn F t.code t.cA t.cn)  (hl:DLo D) (hst:¬ t.j=0 -> StD D t.S t.code t.cn M):Sp Tryz.prog 46 #[vP tb 0,vI 0,vI b,.bool c] (ap [(tb,.lit (Stp.l K t mb) 94 (0,0))] [T]) F (λ u H'=>∃ x,H'=ap [(tb,.lit ((Stp.lp K t mb)++[vI ((turn0 t b c M).e.t),vI ((turn0 t b c M).e.i),vI ((turn0 t b c M).e.k),vI ((turn0 t b c M).e.v),.bool ((turn0 t b c M).em)]) 94 (0,0))] [x] /\ (MemK K D mb (turn0 t b c M).M k x)):=by
 have hp:=hS.pl
 have hn:=hS.nb
 have hr:=hS.room
 refine Sp.run Tryz.func46 rfl (mc hS.blk mn) (A:=[(tb,.lit (Stp.l K t mb) 94 (0,0))]) (Ts:=[T]) rfl λ w0=>?_
 refine RN.go 8 [.own 0] λ _=>RN.em (t.j=0) 13 (λ h1=>?_) λ h1=>?_
 ·refine RN.go 5 [] λ _=>RN.eB (c) 16 (λ h2=>?_) λ h2=>?_
  ·refine RN.go 10 [.own 0] λ _=>RN.ct [0] [0] (run_v0 t t.i b tb mb M (k+2) T _ hM hS.up (λ h_=>ro_ap (hE h_)) hC.up hl hst) ?_
   rintro _ T3 ⟨hM4,rfl⟩
   refine RN.go 2 [] λ _=>RN.eb (end0 t t.i b M) 36 (λ h5=>?_) λ h5=>?_
   ·refine RN.go 11 [.own 0] λ _=>RN.fx 41 (nt (decide_eq_true h1))<|RN.go 3 [] λ _=>RN.draw [11] []<|RD.go [] [0,4,1,5,2,6,3,7,8,9,10] [.own 0,.own 0]<|RD.one 11 (RDO.ctK [] [] [0] (set_any 2 (IntKind.i64.wrap (t.i+1)) hM4 (hl 2 (by decide) (by decide))) ?_)
    rintro _ T6 hM7
    refine RD.fin<|RN.ret [] [0] [0] (v:=.tuple #[]) (H':=(ap [(tb,.lit ((Stp.lp K t mb)++[vI ((run0 t t.i b M).e.t),vI ((run0 t t.i b M).e.i),vI ((run0 t t.i b M).e.k),vI ((run0 t t.i b M).e.v),.bool ((run0 t t.i b M).em)]) 94 (0,0))] [T6])) ?_
    have e:(turn0 t b c M)=⟨(((run0 t t.i b M).M).set 2 (IntKind.i64.wrap (t.i+1))),0,⟨(run0 t t.i b M).e.t,(run0 t t.i b M).e.i,(run0 t t.i b M).e.k,(run0 t t.i b M).e.v⟩,(run0 t t.i b M).em⟩:=by
     first | (simp only [turn0,turnV,if_pos h1,if_pos h2,if_pos h5];done) | (simp only [turn0,turnV,if_pos h1,if_pos h2,if_pos h5];rfl) | rfl
    refine ⟨T6,by rw [e] <;> rfl,?_⟩
    rw [e]
    exact hM7.weak (by omega)
   ·refine RN.go 2 [] λ _=>RN.ret [] [0] [0] (v:=.tuple #[]) (H':=(ap [(tb,.lit ((Stp.lp K t mb)++[vI ((run0 t t.i b M).e.t),vI ((run0 t t.i b M).e.i),vI ((run0 t t.i b M).e.k),vI ((run0 t t.i b M).e.v),.bool ((run0 t t.i b M).em)]) 94 (0,0))] [T3])) ?_
    have e:(turn0 t b c M)=⟨(run0 t t.i b M).M,0,⟨(run0 t t.i b M).e.t,(run0 t t.i b M).e.i,(run0 t t.i b M).e.k,(run0 t t.i b M).e.v⟩,(run0 t t.i b M).em⟩:=by
     first | (simp only [turn0,turnV,if_pos h1,if_pos h2,if_neg h5];done) | (simp only [turn0,turnV,if_pos h1,if_pos h2,if_neg h5];rfl) | rfl
    refine ⟨T3,by rw [e] <;> rfl,?_⟩
    rw [e]
    exact hM4.weak (by omega)
  ·refine RN.go 1 [] λ _=>RN.draw [11] []<|RD.go [] [0,4,1,5,2,6,3,7,8,9,10] [.own 0,.own 0]<|RD.one 11 (RDO.ctK [] [] [0] (set_any 2 (IntKind.i64.wrap (t.i+1)) hM (hl 2 (by decide) (by decide))) ?_)
   rintro _ T8 hM9
   refine RD.fin<|RN.ret [] [0] [0] (v:=.tuple #[]) (H':=(ap [(tb,.lit (Stp.l K t mb) 94 (0,0))] [T8])) ?_
   have e:(turn0 t b c M)=⟨(M.set 2 (IntKind.i64.wrap (t.i+1))),0,⟨t.f0,t.f1,t.f2,t.f3⟩,t.emitted⟩:=by
    first | (simp only [turn0,turnV,if_pos h1,if_neg h2];done) | (simp only [turn0,turnV,if_pos h1,if_neg h2];rfl) | rfl
   refine ⟨T8,by rw [e] <;> rfl,?_⟩
   rw [e]
   exact hM9.weak (by omega)
 ·refine RN.go 15 [.own 0] λ _=>RN.ct [0] [0] (run_v0 t t.i b tb mb M (k+2) T _ hM hS.up (λ h_=>ro_ap (hE h_)) hC.up hl hst) ?_
  rintro _ T10 ⟨hM11,rfl⟩
  refine RN.go 2 [] λ _=>RN.eb (end0 t t.i b M) 36 (λ h12=>?_) λ h12=>?_
  ·refine RN.go 11 [.own 0] λ _=>RN.fx 41 (nf (decide_eq_false h1))<|RN.go 6 [.own 0] λ _=>RN.ctK [] [0] (set_any 3 0 hM11 (hl 3 (by decide) (by decide))) ?_
   rintro _ T13 hM14
   refine RN.go 2 [] λ _=>RN.draw [11] []<|RD.go [] [0,4,1,5,2,6,3,7,8,9,10] [.own 0,.own 0]<|RD.one 11 (RDO.ctK [] [] [0] (set_any 2 (IntKind.i64.wrap (t.i+1)) hM14 (hl 2 (by decide) (by decide))) ?_)
   rintro _ T15 hM16
   refine RD.fin<|RN.ret [] [0] [0] (v:=.tuple #[]) (H':=(ap [(tb,.lit ((Stp.lp K t mb)++[vI ((run0 t t.i b M).e.t),vI ((run0 t t.i b M).e.i),vI ((run0 t t.i b M).e.k),vI ((run0 t t.i b M).e.v),.bool ((run0 t t.i b M).em)]) 94 (0,0))] [T15])) ?_
   have e:(turn0 t b c M)=⟨((((run0 t t.i b M).M).set 3 0).set 2 (IntKind.i64.wrap (t.i+1))),0,⟨(run0 t t.i b M).e.t,(run0 t t.i b M).e.i,(run0 t t.i b M).e.k,(run0 t t.i b M).e.v⟩,(run0 t t.i b M).em⟩:=by
    first | (simp only [turn0,turnV,if_neg h1,if_pos h12];done) | (simp only [turn0,turnV,if_neg h1,if_pos h12];rfl) | rfl
   refine ⟨T15,by rw [e] <;> rfl,?_⟩
   rw [e]
   exact hM16.weak (by omega)
  ·refine RN.go 2 [] λ _=>RN.ret [] [0] [0] (v:=.tuple #[]) (H':=(ap [(tb,.lit ((Stp.lp K t mb)++[vI ((run0 t t.i b M).e.t),vI ((run0 t t.i b M).e.i),vI ((run0 t t.i b M).e.k),vI ((run0 t t.i b M).e.v),.bool ((run0 t t.i b M).em)]) 94 (0,0))] [T10])) ?_
   have e:(turn0 t b c M)=⟨(run0 t t.i b M).M,0,⟨(run0 t t.i b M).e.t,(run0 t t.i b M).e.i,(run0 t t.i b M).e.k,(run0 t t.i b M).e.v⟩,(run0 t t.i b M).em⟩:=by
    first | (simp only [turn0,turnV,if_neg h1,if_neg h12];done) | (simp only [turn0,turnV,if_neg h1,if_neg h12];rfl) | rfl
   refine ⟨T10,by rw [e] <;> rfl,?_⟩
   rw [e]
   exact hM11.weak (by omega)
theorem turn_v2 (t:Stp) (b:Int) (c:Bool) (tb mb:Nat) (M:MemS) (k:Nat) (T F:HL) (hM:MemK K D mb M (k+8) T) (hS:SetIn F t.S) (hE:¬ t.j=0 -> EffIn F) (hC:CodeIn F t.code t.cA t.cn)  (hl:DLo D) (hst:¬ t.j=0 -> StD D t.S t.code t.cn M):Sp Tryz.prog 46 #[vP tb 0,vI 2,vI b,.bool c] (ap [(tb,.lit (Stp.l K t mb) 94 (0,0))] [T]) F (λ u H'=>∃ x,H'=ap [(tb,.lit ((Stp.lp K t mb)++[vI ((turn2 t b c M).e.t),vI ((turn2 t b c M).e.i),vI ((turn2 t b c M).e.k),vI ((turn2 t b c M).e.v),.bool ((turn2 t b c M).em)]) 94 (0,0))] [x] /\ (MemK K D mb (turn2 t b c M).M k x)):=by
 have hp:=hS.pl
 have hn:=hS.nb
 have hr:=hS.room
 refine Sp.run Tryz.func46 rfl (mc hS.blk mn) (A:=[(tb,.lit (Stp.l K t mb) 94 (0,0))]) (Ts:=[T]) rfl λ w0=>?_
 refine RN.go 8 [.own 0] λ _=>RN.em (t.j=0) 13 (λ h1=>?_) λ h1=>?_
 ·refine RN.go 5 [] λ _=>RN.eB (c) 16 (λ h2=>?_) λ h2=>?_
  ·refine RN.go 10 [.own 0] λ _=>RN.ct [0] [0] (run_v2 t t.i b tb mb M (k+2) T _ hM hS.up (λ h_=>ro_ap (hE h_)) hC.up hl hst) ?_
   rintro _ T3 ⟨hM4,rfl⟩
   refine RN.go 2 [] λ _=>RN.eb (end2 t t.i b M) 36 (λ h5=>?_) λ h5=>?_
   ·refine RN.go 11 [.own 0] λ _=>RN.fx 41 (nt (decide_eq_true h1))<|RN.go 3 [] λ _=>RN.draw [11] []<|RD.go [] [0,4,1,5,2,6,3,7,8,9,10] [.own 0,.own 0]<|RD.one 11 (RDO.ctK [] [] [0] (set_any 2 (IntKind.i64.wrap (t.i+1)) hM4 (hl 2 (by decide) (by decide))) ?_)
    rintro _ T6 hM7
    refine RD.fin<|RN.ret [] [0] [0] (v:=.tuple #[]) (H':=(ap [(tb,.lit ((Stp.lp K t mb)++[vI ((run2 t t.i b M).e.t),vI ((run2 t t.i b M).e.i),vI ((run2 t t.i b M).e.k),vI ((run2 t t.i b M).e.v),.bool ((run2 t t.i b M).em)]) 94 (0,0))] [T6])) ?_
    have e:(turn2 t b c M)=⟨(((run2 t t.i b M).M).set 2 (IntKind.i64.wrap (t.i+1))),0,⟨(run2 t t.i b M).e.t,(run2 t t.i b M).e.i,(run2 t t.i b M).e.k,(run2 t t.i b M).e.v⟩,(run2 t t.i b M).em⟩:=by
     first | (simp only [turn2,turnV,if_pos h1,if_pos h2,if_pos h5];done) | (simp only [turn2,turnV,if_pos h1,if_pos h2,if_pos h5];rfl) | rfl
    refine ⟨T6,by rw [e] <;> rfl,?_⟩
    rw [e]
    exact hM7.weak (by omega)
   ·refine RN.go 2 [] λ _=>RN.ret [] [0] [0] (v:=.tuple #[]) (H':=(ap [(tb,.lit ((Stp.lp K t mb)++[vI ((run2 t t.i b M).e.t),vI ((run2 t t.i b M).e.i),vI ((run2 t t.i b M).e.k),vI ((run2 t t.i b M).e.v),.bool ((run2 t t.i b M).em)]) 94 (0,0))] [T3])) ?_
    have e:(turn2 t b c M)=⟨(run2 t t.i b M).M,0,⟨(run2 t t.i b M).e.t,(run2 t t.i b M).e.i,(run2 t t.i b M).e.k,(run2 t t.i b M).e.v⟩,(run2 t t.i b M).em⟩:=by
     first | (simp only [turn2,turnV,if_pos h1,if_pos h2,if_neg h5];done) | (simp only [turn2,turnV,if_pos h1,if_pos h2,if_neg h5];rfl) | rfl
    refine ⟨T3,by rw [e] <;> rfl,?_⟩
    rw [e]
    exact hM4.weak (by omega)
  ·refine RN.go 1 [] λ _=>RN.draw [11] []<|RD.go [] [0,4,1,5,2,6,3,7,8,9,10] [.own 0,.own 0]<|RD.one 11 (RDO.ctK [] [] [0] (set_any 2 (IntKind.i64.wrap (t.i+1)) hM (hl 2 (by decide) (by decide))) ?_)
   rintro _ T8 hM9
   refine RD.fin<|RN.ret [] [0] [0] (v:=.tuple #[]) (H':=(ap [(tb,.lit (Stp.l K t mb) 94 (0,0))] [T8])) ?_
   have e:(turn2 t b c M)=⟨(M.set 2 (IntKind.i64.wrap (t.i+1))),0,⟨t.f0,t.f1,t.f2,t.f3⟩,t.emitted⟩:=by
    first | (simp only [turn2,turnV,if_pos h1,if_neg h2];done) | (simp only [turn2,turnV,if_pos h1,if_neg h2];rfl) | rfl
   refine ⟨T8,by rw [e] <;> rfl,?_⟩
   rw [e]
   exact hM9.weak (by omega)
 ·refine RN.go 15 [.own 0] λ _=>RN.ct [0] [0] (run_v2 t t.i b tb mb M (k+2) T _ hM hS.up (λ h_=>ro_ap (hE h_)) hC.up hl hst) ?_
  rintro _ T10 ⟨hM11,rfl⟩
  refine RN.go 2 [] λ _=>RN.eb (end2 t t.i b M) 36 (λ h12=>?_) λ h12=>?_
  ·refine RN.go 11 [.own 0] λ _=>RN.fx 41 (nf (decide_eq_false h1))<|RN.go 6 [.own 0] λ _=>RN.ctK [] [0] (set_any 3 0 hM11 (hl 3 (by decide) (by decide))) ?_
   rintro _ T13 hM14
   refine RN.go 2 [] λ _=>RN.draw [11] []<|RD.go [] [0,4,1,5,2,6,3,7,8,9,10] [.own 0,.own 0]<|RD.one 11 (RDO.ctK [] [] [0] (set_any 2 (IntKind.i64.wrap (t.i+1)) hM14 (hl 2 (by decide) (by decide))) ?_)
   rintro _ T15 hM16
   refine RD.fin<|RN.ret [] [0] [0] (v:=.tuple #[]) (H':=(ap [(tb,.lit ((Stp.lp K t mb)++[vI ((run2 t t.i b M).e.t),vI ((run2 t t.i b M).e.i),vI ((run2 t t.i b M).e.k),vI ((run2 t t.i b M).e.v),.bool ((run2 t t.i b M).em)]) 94 (0,0))] [T15])) ?_
   have e:(turn2 t b c M)=⟨((((run2 t t.i b M).M).set 3 0).set 2 (IntKind.i64.wrap (t.i+1))),0,⟨(run2 t t.i b M).e.t,(run2 t t.i b M).e.i,(run2 t t.i b M).e.k,(run2 t t.i b M).e.v⟩,(run2 t t.i b M).em⟩:=by
    first | (simp only [turn2,turnV,if_neg h1,if_pos h12];done) | (simp only [turn2,turnV,if_neg h1,if_pos h12];rfl) | rfl
   refine ⟨T15,by rw [e] <;> rfl,?_⟩
   rw [e]
   exact hM16.weak (by omega)
  ·refine RN.go 2 [] λ _=>RN.ret [] [0] [0] (v:=.tuple #[]) (H':=(ap [(tb,.lit ((Stp.lp K t mb)++[vI ((run2 t t.i b M).e.t),vI ((run2 t t.i b M).e.i),vI ((run2 t t.i b M).e.k),vI ((run2 t t.i b M).e.v),.bool ((run2 t t.i b M).em)]) 94 (0,0))] [T10])) ?_
   have e:(turn2 t b c M)=⟨(run2 t t.i b M).M,0,⟨(run2 t t.i b M).e.t,(run2 t t.i b M).e.i,(run2 t t.i b M).e.k,(run2 t t.i b M).e.v⟩,(run2 t t.i b M).em⟩:=by
    first | (simp only [turn2,turnV,if_neg h1,if_neg h12];done) | (simp only [turn2,turnV,if_neg h1,if_neg h12];rfl) | rfl
   refine ⟨T10,by rw [e] <;> rfl,?_⟩
   rw [e]
   exact hM11.weak (by omega)
theorem act_v (t:Stp)  (tb mb:Nat) (M:MemS) (k:Nat) (T F:HL) (hM:MemK K D mb M (k+9) T) (hS:SetIn F t.S) (hE:¬ t.j=0 -> EffIn F) (hC:CodeIn F t.code t.cA t.cn)  (hl:DLo D) (hpl:DPl D t.S t.i) (hst:¬ t.j=0 -> StD D t.S t.code t.cn M):Sp Tryz.prog 26 #[vP tb 0] (ap [(tb,.lit (Stp.l K t mb) 94 (0,0))] [T]) F (λ u H'=>∃ x,H'=ap [(tb,.lit ((Stp.lp K t mb)++[vI ((actV t M).e.t),vI ((actV t M).e.i),vI ((actV t M).e.k),vI ((actV t M).e.v),.bool ((actV t M).em)]) 94 (0,0))] [x] /\ (MemK K D mb (actV t M).M k x)):=by
 have hp:=hS.pl
 have hn:=hS.nb
 have hr:=hS.room
 refine Sp.run Tryz.func26 rfl (mc hS.blk mn) (A:=[(tb,.lit (Stp.l K t mb) 94 (0,0))]) (Ts:=[T]) rfl λ w0=>?_
 refine RN.go 1 [] λ _=>RN.draw [] []<|RD.go [] [0,4,1,5,2,6,3,7] (ow 0 17)<|RD.cp [] 8 (λ X_=>(lplayer_any t.S t.i _ hS.toSetN)) ?_
 have hb1:=playerAt_bd hS.toSetN t.i
 refine RD.go [] [9] []<|RD.fin<|RN.go 8 [] λ _=>RN.em (playerAt t.S t.i < 0) 14 (λ h2=>?_) λ h2=>?_
 ·refine RN.go 4 [] λ _=>RN.ct [0] [0] (begin_any t 2 0 tb mb M (k+6) T _ hM hS.up hl) ?_
  rintro _ T3 hM4
  refine RN.go 2 [] λ _=>RN.ret [] [0] [0] (v:=.tuple #[]) (H':=(ap [(tb,.lit (Stp.l K t mb) 94 (0,0))] [T3])) ?_
  have e:(actV t M)=⟨(beginM t 2 0 M),0,⟨t.f0,t.f1,t.f2,t.f3⟩,t.emitted⟩:=by
   first | (simp only [actV,VR.z,if_pos h2];done) | (simp only [actV,VR.z,if_pos h2];rfl) | rfl
  refine ⟨T3,by rw [e] <;> rfl,?_⟩
  rw [e]
  exact hM4.weak (by omega)
 ·refine RN.goP 11 [.own 0,.nw] [I64 ((playerAt t.S t.i)+2)] λ _=>RN.cpK (get_any ((playerAt t.S t.i)+2) hM (hpl (Int.not_lt.1 h2) 2 (by decide) (by decide)) (sub_ap 0))<|RN.go 8 [] λ _=>RN.ct [0] [0] (turn_v0 t (M.get ((playerAt t.S t.i)+2)) (!(decide (M.get ((playerAt t.S t.i)+2)=0))) tb mb M (k+1) T _ hM hS.up (λ h_=>ro_ap (hE h_)) hC.up hl hst) ?_
  rintro _ T5 hM6
  refine RN.go 1 [] λ _=>RN.ret [] [0] [0] (v:=.tuple #[]) (H':=(ap [(tb,.lit ((Stp.lp K t mb)++[vI ((turn0 t (M.get ((playerAt t.S t.i)+2)) (!(decide (M.get ((playerAt t.S t.i)+2)=0))) M).e.t),vI ((turn0 t (M.get ((playerAt t.S t.i)+2)) (!(decide (M.get ((playerAt t.S t.i)+2)=0))) M).e.i),vI ((turn0 t (M.get ((playerAt t.S t.i)+2)) (!(decide (M.get ((playerAt t.S t.i)+2)=0))) M).e.k),vI ((turn0 t (M.get ((playerAt t.S t.i)+2)) (!(decide (M.get ((playerAt t.S t.i)+2)=0))) M).e.v),.bool ((turn0 t (M.get ((playerAt t.S t.i)+2)) (!(decide (M.get ((playerAt t.S t.i)+2)=0))) M).em)]) 94 (0,0))] [T5])) ?_
  have e:(actV t M)=⟨(turn0 t (M.get ((playerAt t.S t.i)+2)) (!(decide (M.get ((playerAt t.S t.i)+2)=0))) M).M,0,⟨(turn0 t (M.get ((playerAt t.S t.i)+2)) (!(decide (M.get ((playerAt t.S t.i)+2)=0))) M).e.t,(turn0 t (M.get ((playerAt t.S t.i)+2)) (!(decide (M.get ((playerAt t.S t.i)+2)=0))) M).e.i,(turn0 t (M.get ((playerAt t.S t.i)+2)) (!(decide (M.get ((playerAt t.S t.i)+2)=0))) M).e.k,(turn0 t (M.get ((playerAt t.S t.i)+2)) (!(decide (M.get ((playerAt t.S t.i)+2)=0))) M).e.v⟩,(turn0 t (M.get ((playerAt t.S t.i)+2)) (!(decide (M.get ((playerAt t.S t.i)+2)=0))) M).em⟩:=by
   first | (simp only [actV,VR.z,if_neg h2];done) | (simp only [actV,VR.z,if_neg h2];rfl) | rfl
  refine ⟨T5,by rw [e] <;> rfl,?_⟩
  rw [e]
  exact hM6.weak (by omega)
theorem tick_v (t:Stp)  (tb mb:Nat) (M:MemS) (k:Nat) (T F:HL) (hM:MemK K D mb M (k+9) T) (hS:SetIn F t.S) (hE:¬ t.j=0 -> EffIn F) (hC:CodeIn F t.code t.cA t.cn)  (hl:DLo D) (hst:¬ t.j=0 -> StD D t.S t.code t.cn M):Sp Tryz.prog 27 #[vP tb 0] (ap [(tb,.lit (Stp.l K t mb) 94 (0,0))] [T]) F (λ u H'=>∃ x,H'=ap [(tb,.lit ((Stp.lp K t mb)++[vI ((tickV t M).e.t),vI ((tickV t M).e.i),vI ((tickV t M).e.k),vI ((tickV t M).e.v),.bool ((tickV t M).em)]) 94 (0,0))] [x] /\ (MemK K D mb (tickV t M).M k x)):=by
 have hp:=hS.pl
 have hn:=hS.nb
 have hr:=hS.room
 refine Sp.run Tryz.func27 rfl (mc hS.blk mn) (A:=[(tb,.lit (Stp.l K t mb) 94 (0,0))]) (Ts:=[T]) rfl λ w0=>?_
 refine RN.go 3 [] λ _=>RN.ct [0] [0] (run_v1 t 0 0 tb mb M (k+3) T _ hM hS.up (λ h_=>ro_ap (hE h_)) hC.up hl hst) ?_
 rintro _ T1 ⟨hM2,rfl⟩
 refine RN.go 2 [] λ _=>RN.eb (end1 t 0 0 M) 3 (λ h3=>?_) λ h3=>?_
 ·refine RN.go 3 [] λ _=>RN.ct [0] [0] (begin_any (t.upd (run1 t 0 0 M)) 3 0 tb mb ((run1 t 0 0 M).M) k T1 _ hM2 hS.up hl) ?_
  rintro _ T4 hM5
  refine RN.go 1 [] λ _=>RN.ret [] [0] [0] (v:=.tuple #[]) (H':=(ap [(tb,.lit ((Stp.lp K t mb)++[vI ((run1 t 0 0 M).e.t),vI ((run1 t 0 0 M).e.i),vI ((run1 t 0 0 M).e.k),vI ((run1 t 0 0 M).e.v),.bool ((run1 t 0 0 M).em)]) 94 (0,0))] [T4])) ?_
  have e:(tickV t M)=⟨(beginM (t.upd (run1 t 0 0 M)) 3 0 ((run1 t 0 0 M).M)),0,⟨(run1 t 0 0 M).e.t,(run1 t 0 0 M).e.i,(run1 t 0 0 M).e.k,(run1 t 0 0 M).e.v⟩,(run1 t 0 0 M).em⟩:=by
   first | (simp only [tickV,VR.z,if_pos h3];done) | (simp only [tickV,VR.z,if_pos h3];rfl) | rfl
  refine ⟨T4,by rw [e] <;> rfl,?_⟩
  rw [e]
  exact hM5.weak (by omega)
 ·refine RN.go 2 [] λ _=>RN.ret [] [0] [0] (v:=.tuple #[]) (H':=(ap [(tb,.lit ((Stp.lp K t mb)++[vI ((run1 t 0 0 M).e.t),vI ((run1 t 0 0 M).e.i),vI ((run1 t 0 0 M).e.k),vI ((run1 t 0 0 M).e.v),.bool ((run1 t 0 0 M).em)]) 94 (0,0))] [T1])) ?_
  have e:(tickV t M)=⟨(run1 t 0 0 M).M,0,⟨(run1 t 0 0 M).e.t,(run1 t 0 0 M).e.i,(run1 t 0 0 M).e.k,(run1 t 0 0 M).e.v⟩,(run1 t 0 0 M).em⟩:=by
   first | (simp only [tickV,VR.z,if_neg h3];done) | (simp only [tickV,VR.z,if_neg h3];rfl) | rfl
  refine ⟨T1,by rw [e] <;> rfl,?_⟩
  rw [e]
  exact hM2.weak (by omega)
theorem hit_v (t:Stp)  (tb mb:Nat) (M:MemS) (k:Nat) (T F:HL) (hM:MemK K D mb M (k+9) T) (hS:SetIn F t.S) (hE:¬ t.j=0 -> EffIn F) (hC:CodeIn F t.code t.cA t.cn)  (hl:DLo D) (hbi:DBd D t.S t.i) (hst:¬ t.j=0 -> StD D t.S t.code t.cn M):Sp Tryz.prog 31 #[vP tb 0] (ap [(tb,.lit (Stp.l K t mb) 94 (0,0))] [T]) F (λ u H'=>∃ x,H'=ap [(tb,.lit ((Stp.lp K t mb)++[vI ((hitV t M).e.t),vI ((hitV t M).e.i),vI ((hitV t M).e.k),vI ((hitV t M).e.v),.bool ((hitV t M).em)]) 94 (0,0))] [x] /\ (MemK K D mb (hitV t M).M k x)):=by
 have hp:=hS.pl
 have hn:=hS.nb
 have hr:=hS.room
 refine Sp.run Tryz.func31 rfl (mc hS.blk mn) (A:=[(tb,.lit (Stp.l K t mb) 94 (0,0))]) (Ts:=[T]) rfl λ w0=>?_
 refine RN.go 1 [] λ _=>RN.draw [] []<|RD.go [] [0,4,1,5,2,6,3,7] (ow 0 17)<|RD.cp [] 8 (λ X_=>(lbody_any t.S t.i _ hS.toSetN)) ?_
 have hb1:=bodyAt_bd hS.toSetN t.i
 refine RD.go [] [9] []<|RD.fin<|RN.go 8 [] λ _=>RN.em (bodyAt t.S t.i < 0) 14 (λ h2=>?_) λ h2=>?_
 ·refine RN.go 4 [] λ _=>RN.ct [0] [0] (begin_any t 7 0 tb mb M (k+6) T _ hM hS.up hl) ?_
  rintro _ T3 hM4
  refine RN.go 2 [] λ _=>RN.ret [] [0] [0] (v:=.tuple #[]) (H':=(ap [(tb,.lit (Stp.l K t mb) 94 (0,0))] [T3])) ?_
  have e:(hitV t M)=⟨(beginM t 7 0 M),0,⟨t.f0,t.f1,t.f2,t.f3⟩,t.emitted⟩:=by
   first | (simp only [hitV,VR.z,if_pos h2];done) | (simp only [hitV,VR.z,if_pos h2];rfl) | rfl
  refine ⟨T3,by rw [e] <;> rfl,?_⟩
  rw [e]
  exact hM4.weak (by omega)
 ·refine RN.goP 11 [.own 0,.nw] [I64 ((bodyAt t.S t.i)+6)] λ _=>RN.cpK (get_any ((bodyAt t.S t.i)+6) hM (hbi (Int.not_lt.1 h2) 6 (by decide) (by decide)) (sub_ap 0))<|RN.go 9 [] λ _=>RN.ct [0] [0] (turn_v2 t (IntKind.i64.wrap ((M.get ((bodyAt t.S t.i)+6)) - 1)) (!(decide (M.get ((bodyAt t.S t.i)+6)=0))) tb mb M (k+1) T _ hM hS.up (λ h_=>ro_ap (hE h_)) hC.up hl hst) ?_
  rintro _ T5 hM6
  refine RN.go 1 [] λ _=>RN.ret [] [0] [0] (v:=.tuple #[]) (H':=(ap [(tb,.lit ((Stp.lp K t mb)++[vI ((turn2 t (IntKind.i64.wrap ((M.get ((bodyAt t.S t.i)+6)) - 1)) (!(decide (M.get ((bodyAt t.S t.i)+6)=0))) M).e.t),vI ((turn2 t (IntKind.i64.wrap ((M.get ((bodyAt t.S t.i)+6)) - 1)) (!(decide (M.get ((bodyAt t.S t.i)+6)=0))) M).e.i),vI ((turn2 t (IntKind.i64.wrap ((M.get ((bodyAt t.S t.i)+6)) - 1)) (!(decide (M.get ((bodyAt t.S t.i)+6)=0))) M).e.k),vI ((turn2 t (IntKind.i64.wrap ((M.get ((bodyAt t.S t.i)+6)) - 1)) (!(decide (M.get ((bodyAt t.S t.i)+6)=0))) M).e.v),.bool ((turn2 t (IntKind.i64.wrap ((M.get ((bodyAt t.S t.i)+6)) - 1)) (!(decide (M.get ((bodyAt t.S t.i)+6)=0))) M).em)]) 94 (0,0))] [T5])) ?_
  have e:(hitV t M)=⟨(turn2 t (IntKind.i64.wrap ((M.get ((bodyAt t.S t.i)+6)) - 1)) (!(decide (M.get ((bodyAt t.S t.i)+6)=0))) M).M,0,⟨(turn2 t (IntKind.i64.wrap ((M.get ((bodyAt t.S t.i)+6)) - 1)) (!(decide (M.get ((bodyAt t.S t.i)+6)=0))) M).e.t,(turn2 t (IntKind.i64.wrap ((M.get ((bodyAt t.S t.i)+6)) - 1)) (!(decide (M.get ((bodyAt t.S t.i)+6)=0))) M).e.i,(turn2 t (IntKind.i64.wrap ((M.get ((bodyAt t.S t.i)+6)) - 1)) (!(decide (M.get ((bodyAt t.S t.i)+6)=0))) M).e.k,(turn2 t (IntKind.i64.wrap ((M.get ((bodyAt t.S t.i)+6)) - 1)) (!(decide (M.get ((bodyAt t.S t.i)+6)=0))) M).e.v⟩,(turn2 t (IntKind.i64.wrap ((M.get ((bodyAt t.S t.i)+6)) - 1)) (!(decide (M.get ((bodyAt t.S t.i)+6)=0))) M).em⟩:=by
   first | (simp only [hitV,VR.z,if_neg h2];done) | (simp only [hitV,VR.z,if_neg h2];rfl) | rfl
  refine ⟨T5,by rw [e] <;> rfl,?_⟩
  rw [e]
  exact hM6.weak (by omega)
end Go.Proofs.YtkhifpbokgabbaaGreatDoor
