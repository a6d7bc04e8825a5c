import Derived.Test.YtghjbimijeinfaaGreatDoorW32
import Derived.Test.YtghjbimijeinfaaGreatDoorProg
import Derived.Test.YtghjbimijeinfaaGreatDoorW23
import Derived.Test.YtghjbimijeinfaaGreatDoorW11
import Derived.RecoverIn
set_option maxHeartbeats 4000000
set_option maxRecDepth 100000
set_option linter.unusedSimpArgs false
set_option linter.unusedVariables false
namespace Go.Proofs.YtghjbimijeinfaaGreatDoor
open Go.RowKit
noncomputable section
def iv (x:Int):Value:=.int .i64 x
def cefV:List Value:=[iv 0,iv 0,iv 0,iv 1,iv 0,iv 1,iv 1,iv 0,iv 1,iv 1,iv 2,iv 0,iv 0,iv 1,iv 0,iv 1,iv 0,iv 1,iv 2,iv 1,iv 2,iv 1,iv 2,iv 1,iv 2,iv 1,iv 1,iv 1,iv 2,iv 1,iv 2,iv 1,iv 2,iv 1,iv 1,iv 1,iv 0,iv 0,iv 1,iv 0,iv 2,iv 0,iv 0,iv 0]
def tabsE:List PB:=[(0,cefV,302)]
def src1:String:="on tick { n = n + 1; if n >= 3 { effect 1, n; n = 0; } }"
def src2:String:="on act { vx[self] = vx[self] + 100 * other; effect 2, self; } on hit { a[self] = a[self] + 1; effect 3, other; }"
def src3:String:="on hit { if hit[other] == self + 1 && a[self] < a[other] { vx[self] = -vx[self]; b[self] = tick; } else { stop; } effect 4, a[self]; }"
def src4:String:="on tick { i = 0; while i < 4 { b[i] = b[i] + still[i]; i = i + 1; } s = s + x[0] / 100; effect 5, s; } on act { s = 0; }"
def cod1:List Value:=[iv 2,iv 0,iv 1,iv 1,iv 9,iv 0,iv 3,iv 0,iv 1,iv 3,iv 2,iv 0,iv 15,iv 0,iv 19,iv 14,iv 1,iv 1,iv 2,iv 0,iv 20,iv 0,iv 1,iv 0,iv 3,iv 0,iv 18,iv 14,iv 21,iv 0]
def cod2:List Value:=[iv 6,iv 0,iv 6,iv 0,iv 4,iv 2,iv 1,iv 100,iv 7,iv 0,iv 11,iv 0,iv 9,iv 0,iv 5,iv 2,iv 1,iv 2,iv 6,iv 0,iv 20,iv 0,iv 21,iv 0,iv 6,iv 0,iv 6,iv 0,iv 4,iv 4,iv 1,iv 1,iv 9,iv 0,iv 5,iv 4,iv 1,iv 3,iv 7,iv 0,iv 20,iv 0,iv 21,iv 0]
def cod3:List Value:=[iv 7,iv 0,iv 4,iv 6,iv 6,iv 0,iv 1,iv 1,iv 9,iv 0,iv 16,iv 0,iv 19,iv 13,iv 6,iv 0,iv 4,iv 4,iv 7,iv 0,iv 4,iv 4,iv 14,iv 0,iv 18,iv 14,iv 1,iv 0,iv 19,iv 24,iv 6,iv 0,iv 6,iv 0,iv 4,iv 2,iv 13,iv 0,iv 5,iv 2,iv 6,iv 0,iv 8,iv 0,iv 5,iv 5,iv 18,iv 25,iv 21,iv 0,iv 1,iv 4,iv 6,iv 0,iv 4,iv 4,iv 20,iv 0,iv 21,iv 0]
def cod4:List Value:=[iv 1,iv 0,iv 3,iv 0,iv 21,iv 0,iv 1,iv 0,iv 3,iv 1,iv 2,iv 1,iv 1,iv 4,iv 14,iv 0,iv 19,iv 21,iv 2,iv 1,iv 2,iv 1,iv 4,iv 5,iv 2,iv 1,iv 4,iv 7,iv 9,iv 0,iv 5,iv 5,iv 2,iv 1,iv 1,iv 1,iv 9,iv 0,iv 3,iv 1,iv 18,iv 5,iv 2,iv 0,iv 1,iv 0,iv 4,iv 0,iv 1,iv 100,iv 12,iv 0,iv 9,iv 0,iv 3,iv 0,iv 1,iv 5,iv 2,iv 0,iv 20,iv 0,iv 21,iv 0]
def resP (h len:Nat) (a b c:Int):Value:=.tuple ⟨[.agg ⟨[.slice (some ⟨h,0,none⟩) len unk,iv a,iv b,iv c]⟩,iv 0]⟩
def res0:Value:=.tuple ⟨[.agg ⟨[.slice none 0 0,iv (-1),iv (-1),iv (-1)]⟩,iv 0]⟩
def progQ (src:String) (picks:List PB) (v:Value):Bool:=resQ tabsE picks v (runK Tryz.prog 3 100000 (.fn 78 [.string src.toUTF8] (tabH tabsE) 3))
theorem mixed:Tryz.prog.follows .mixedOrders=true:=by kernel_rfl
theorem prog_sp {src:String} {h:Nat} {cod:List Value} {ty:TypeId} {v:Value} {F:HL} (hh:h ≠ 0) (hq:progQ src [(h,cod,ty)] v=true) :
    Sp Tryz.prog 78 #[.string src.toUTF8] (tabsE.map tabB) F λ v' H'=>∃ ν rest,v'=outV ν v /\ H'=tabsE.map tabB++[pickB ν rest (h,cod,ty)] :=
  closed_sp (G:=3) (tabs:=tabsE) (picks:=[(h,cod,ty)]) mixed rfl rfl rfl (by simp [tabsE,hh.symm]) hq
theorem prog_q0:progQ "" [] res0=true:=by kernel_rfl
end
theorem prog_q1:progQ src1 [(1095,cod1,129)] (resP 1095 15 (-1) 0 (-1))=true:=by kernel_rfl
theorem prog_q2:progQ src2 [(1804,cod2,129)] (resP 1804 22 0 (-1) 12)=true:=by kernel_rfl
theorem prog_q3:progQ src3 [(2348,cod3,129)] (resP 2348 30 (-1) (-1) 0)=true:=by kernel_rfl
theorem prog_q4:progQ src4 [(2279,cod4,129)] (resP 2279 32 0 3 (-1))=true:=by kernel_rfl
noncomputable section
def srcBi:Nat -> ByteArray
  | 0=>"".toUTF8
  | 1=>src1.toUTF8
  | 2=>src2.toUTF8
  | 3=>src3.toUTF8
  | _=>src4.toUTF8
def codB:Nat -> List Value
  | 0=>[]
  | 1=>cod1
  | 2=>cod2
  | 3=>cod3
  | _=>cod4
def lenB:Nat -> Nat
  | 0=>0
  | 1=>15
  | 2=>22
  | 3=>30
  | _=>32
def entB:Nat -> List Value
  | 0=>[iv (-1),iv (-1),iv (-1)]
  | 1=>[iv (-1),iv 0,iv (-1)]
  | 2=>[iv 0,iv (-1),iv 12]
  | 3=>[iv (-1),iv (-1),iv 0]
  | _=>[iv 0,iv 3,iv (-1)]
inductive PrgV (j:Nat):Value -> HL -> Prop
  | nil:j=0 -> PrgV j (.slice none 0 0) []
  | some (b cap:Nat) (rest:List Value):PrgV j (.slice (some ⟨b,0,none⟩) (lenB j) cap) [(b,.lit (codB j++rest) 129 (0,0))]
theorem outV_resP (ν:Nu) (h len:Nat) (a b c:Int):outV ν (resP h len a b c)=.tuple ⟨[.agg ⟨[.slice (some ⟨nub ν h,0,none⟩) len (kap ν h unk),iv a,iv b,iv c]⟩,iv 0]⟩:=by
  simp only [resP,outV,outA,outL,iv]
theorem prog_any {j:Nat} (hj:j < 5) {F:HL}:Sp Tryz.prog 78 #[.string (srcBi j)] (tabsE.map tabB) F λ u H'=>∃ s Hp,PrgV j s Hp /\ u=.tuple ⟨[.agg ⟨s :: entB j⟩,iv 0]⟩ /\ H'=tabsE.map tabB++Hp:=by
  match j,hj with
  | 0,_ =>
    refine (closed_sp (G:=3) (tabs:=tabsE) (picks:=[]) mixed rfl rfl rfl (by simp [tabsE]) prog_q0).mono ?_
    rintro u H' ⟨ν,rest,rfl,rfl⟩
    exact ⟨_,[],.nil rfl,rfl,rfl⟩
  | 1,_ =>
    refine (prog_sp (by decide) prog_q1).mono ?_
    rintro u H' ⟨ν,rest,rfl,rfl⟩
    exact ⟨_,_,.some _ _ _,outV_resP ..,rfl⟩
  | 2,_ =>
    refine (prog_sp (by decide) prog_q2).mono ?_
    rintro u H' ⟨ν,rest,rfl,rfl⟩
    exact ⟨_,_,.some _ _ _,outV_resP ..,rfl⟩
  | 3,_ =>
    refine (prog_sp (by decide) prog_q3).mono ?_
    rintro u H' ⟨ν,rest,rfl,rfl⟩
    exact ⟨_,_,.some _ _ _,outV_resP ..,rfl⟩
  | 4,_ =>
    refine (prog_sp (by decide) prog_q4).mono ?_
    rintro u H' ⟨ν,rest,rfl,rfl⟩
    exact ⟨_,_,.some _ _ _,outV_resP ..,rfl⟩
theorem prog_in {j:Nat} (hj:j < 5) {F:HL} (hF:(0,Blk.lit cefV 302 (0,0)) ∈ F):Sp Tryz.prog 78 #[.string (srcBi j)] [] F λ u H'=>∃ s,PrgV j s H' /\ u=.tuple ⟨[.agg ⟨s :: entB j⟩,iv 0]⟩ :=
  Sp.table hF λ F0=>(prog_any hj).mono λ u H' ⟨s,Hp,h1,h2,h3⟩=>⟨Hp,⟨s,h1,h2⟩,h3⟩
end
def entI (j k:Nat):Int:=match (entB j)[k]? with | some (.int _ x)=>x | _=>0
def insOf:List Value -> List Ins
 | .int _ a :: .int _ b :: r=>⟨a,b⟩ :: insOf r
 | _=>[]
def insB (j:Nat):List Ins:=insOf (codB j)
theorem insB_len:∀ {j:Nat},j < 5 -> (insB j).length=lenB j
 | 0,_=>by kernel_rfl
 | 1,_=>by kernel_rfl
 | 2,_=>by kernel_rfl
 | 3,_=>by kernel_rfl
 | 4,_=>by kernel_rfl
 | j+5,h=>absurd h (by omega)
theorem insB_cells:∀ {j:Nat},j < 5 -> codB j=cellsE insE (insB j)
 | 0,_=>by kernel_rfl
 | 1,_=>by kernel_rfl
 | 2,_=>by kernel_rfl
 | 3,_=>by kernel_rfl
 | 4,_=>by kernel_rfl
 | j+5,h=>absurd h (by omega)
theorem lenB_le:∀ {j:Nat},j < 5 -> lenB j <= 32
 | 0,_=>by decide
 | 1,_=>by decide
 | 2,_=>by decide
 | 3,_=>by decide
 | 4,_=>by decide
 | j+5,h=>absurd h (by omega)
theorem entB_eq:∀ {j:Nat},j < 5 -> entB j=[vI (entI j 0),vI (entI j 1),vI (entI j 2)]
 | 0,_=>by kernel_rfl
 | 1,_=>by kernel_rfl
 | 2,_=>by kernel_rfl
 | 3,_=>by kernel_rfl
 | 4,_=>by kernel_rfl
 | j+5,h=>absurd h (by omega)
abbrev TabIn (F:HL):Prop:=(0,Blk.lit cefV 302 (0,0)) ∈ F
def InsW (F:HL) (j:Nat) (A:Option Addr):Prop:=0 < lenB j -> ∃ b rest,A=some ⟨b,0,none⟩ /\ (b,Blk.lit (codB j++rest) 129 (0,0)) ∈ F
structure CodT (j:Nat) (A:Option Addr) (T:HL):Prop where
 src:∀ F,(∀ x ∈ T,x ∈ F) -> SrcIn Tryz.prog insE F A (lenB j) (insB j)
 wrd:∀ F,(∀ x ∈ T,x ∈ F) -> InsW F j A
theorem prog_w {j:Nat} (hj:j < 5) (F:HL) (hE:TabIn F):Sp Tryz.prog 78 #[.string (srcBi j)] (ap [] []) F (λ u H'=>∃ x:Option Addr × Nat × HL,H'=ap [] [x.2.2] /\ (u=.tuple #[.agg #[.slice x.1 (lenB j) x.2.1,vI (entI j 0),vI (entI j 1),vI (entI j 2)],vI 0] /\ CodT j x.1 x.2.2)):=by
 refine (prog_in hj hE).mono ?_
 rintro u H' ⟨s,hp,rfl⟩
 rw [entB_eq hj]
 cases hp with
 | nil h0 =>
  subst h0
  exact ⟨(none,0,[]),(ap_one _).symm,rfl,⟨λ F hF=>SrcIn.none,λ F hF h=>absurd h (by decide)⟩⟩
 | some b cap rest =>
  refine ⟨(some ⟨b,0,none⟩,cap,[(b,.lit (codB j++rest) 129 (0,0))]),(ap_one _).symm,rfl,⟨λ F hF=>?_,λ F hF h=>⟨b,rest,rfl,hF _ (List.mem_singleton.2 rfl)⟩⟩⟩
  have h:=SrcIn.lit insEOk (xs:=insB j) (rest:=rest) (ty:=129) (fz:=(0,0)) (F:=F) (q:=b) (by rw [<- insB_cells hj];exact hF _ (List.mem_singleton.2 rfl))
  rw [insB_len hj] at h
  exact h
inductive Book1 (j bp:Nat):HL -> Prop
 | mk (q:Nat) (A:Option Addr) (c:Nat) (T:HL) (h:CodT j A T):Book1 j bp (ap [(bp,.lit [vS q 0 1 1] 123 (0,0)),(q,.lit [vI 0,.slice A (lenB j) c,vI (entI j 0),vI (entI j 1),vI (entI j 2)] 125 (0,0))] [T])
def srcL:List Value:=[.string ⟨#[]⟩,.string ⟨#[111,110,32,116,105,99,107,32,123,32,110,32,61,32,110,32,43,32,49,59,32,105,102,32,110,32,62,61,32,51,32,123,32,101,102,102,101,99,116,32,49,44,32,110,59,32,110,32,61,32,48,59,32,125,32,125]⟩,.string ⟨#[111,110,32,97,99,116,32,123,32,118,120,91,115,101,108,102,93,32,61,32,118,120,91,115,101,108,102,93,32,43,32,49,48,48,32,42,32,111,116,104,101,114,59,32,101,102,102,101,99,116,32,50,44,32,115,101,108,102,59,32,125,32,111,110,32,104,105,116,32,123,32,97,91,115,101,108,102,93,32,61,32,97,91,115,101,108,102,93,32,43,32,49,59,32,101,102,102,101,99,116,32,51,44,32,111,116,104,101,114,59,32,125]⟩,.string ⟨#[111,110,32,104,105,116,32,123,32,105,102,32,104,105,116,91,111,116,104,101,114,93,32,61,61,32,115,101,108,102,32,43,32,49,32,38,38,32,97,91,115,101,108,102,93,32,60,32,97,91,111,116,104,101,114,93,32,123,32,118,120,91,115,101,108,102,93,32,61,32,45,118,120,91,115,101,108,102,93,59,32,98,91,115,101,108,102,93,32,61,32,116,105,99,107,59,32,125,32,101,108,115,101,32,123,32,115,116,111,112,59,32,125,32,101,102,102,101,99,116,32,52,44,32,97,91,115,101,108,102,93,59,32,125]⟩,.string ⟨#[111,110,32,116,105,99,107,32,123,32,105,32,61,32,48,59,32,119,104,105,108,101,32,105,32,60,32,52,32,123,32,98,91,105,93,32,61,32,98,91,105,93,32,43,32,115,116,105,108,108,91,105,93,59,32,105,32,61,32,105,32,43,32,49,59,32,125,32,115,32,61,32,115,32,43,32,120,91,48,93,32,47,32,49,48,48,59,32,101,102,102,101,99,116,32,53,44,32,115,59,32,125,32,111,110,32,97,99,116,32,123,32,115,32,61,32,48,59,32,125]⟩]
def srcRow:Nat -> Nat -> Value:=λ i k=>match k with | 0=>.string (srcBi i) | _=>default
theorem sources_run (F:HL):Sp Tryz.prog 79 #[] [] F (λ u H'=>∃ q:Nat,H'=ap [(q,.lit srcL 9 (0,0))] [] /\ u=vS q 0 5 5):=by
 refine Sp.run Tryz.func79 rfl mn (A:=[]) (Ts:=[]) rfl λ w0=>?_
 refine RN.go 11 [] λ n1=>RN.ret [] [0] [] (v:=vS (n1+0) 0 5 5) (H':=(ap [((n1+0),.lit srcL 9 (0,0))] [])) ?_
 exact ⟨_,rfl,rfl⟩
theorem sources_ap (F:HL):Sp Tryz.prog 79 #[] (ap [] []) F (λ u H'=>∃ q:Nat,H'=ap [(q,.lit srcL 9 (0,0))] [] /\ u=vS q 0 5 5):=sources_run F
theorem source_any (n:Int) (F:HL) (hn:i64r n):Sp Tryz.prog 36 #[vI n] [] F (λ u H'=>u=.string (srcBi (around n 5).toNat) /\ H'=[]):=by
 refine Sp.run Tryz.func36 rfl mn (A:=[]) (Ts:=[]) rfl λ w0=>?_
 refine RN.go 7 [] λ _=>RN.ct (Hp:=[]) (Tp:=[]) [] [] (sources_ap _) ?_
 rintro _ q1 rfl
 refine RN.go 1 [] λ _=>RN.cp (around_any n 5 (by decide) _) ?_
 have hA2:=around_bd (n:=n) hn 5 (by decide)
 refine RN.dn 0 (.rows 1 5 srcRow 9 (0,0))<|RN.goP 5 [.ix ((around n 5).toNat),.row 0 ((around n 5).toNat) 0] [(0+((around n 5).toNat) * 1)=((around n 5).toNat) * 1+0 /\ ((around n 5).toNat) < 5,around n 5=(((around n 5).toNat:Nat):Int) /\ (around n 5).toNat < 5] λ _=>?_
 exact RN.ret [] [] [] ⟨rfl,rfl⟩
theorem pnew_run (j:Nat) (F:HL) (hj:j < 5) (hE:TabIn F):Sp Tryz.prog 35 #[.string (srcBi j)] [] F (λ u H'=>∃ x:Nat × HL,H'=ap [] [x.2] /\ (u=.tuple #[vP x.1 0,vI 0] /\ Book1 j x.1 x.2)):=by
 refine Sp.run Tryz.func35 rfl mn (A:=[]) (Ts:=[]) rfl λ w0=>?_
 refine RN.go 9 [] λ _=>RN.ct (Hp:=[]) (Tp:=[]) [] [] (prog_w hj _ (ro_ap hE)) ?_
 rintro _ ⟨A1,c2,T3⟩ ⟨rfl,hC4⟩
 dsimp only at hC4
 refine RN.go 29 (ow 0 8) λ n5=>RN.ret [] [0,1] [0] (v:=.tuple #[vP (n5+2) 0,vI 0]) (H':=(ap [((n5+2),.lit [vS (n5+1) 0 1 1] 123 (0,0)),((n5+1),.lit [vI 0,.slice A1 (lenB j) c2,vI (entI j 0),vI (entI j 1),vI (entI j 2)] 125 (0,0))] [T3])) ?_
 exact ⟨((n5+2),ap [((n5+2),.lit [vS (n5+1) 0 1 1] 123 (0,0)),((n5+1),.lit [vI 0,.slice A1 (lenB j) c2,vI (entI j 0),vI (entI j 1),vI (entI j 2)] 125 (0,0))] [T3]),by simp [ap],rfl,.mk _ _ _ _ hC4⟩
theorem pnew_any (j:Nat) (F:HL) (hj:j < 5) (hE:TabIn F):Sp Tryz.prog 35 #[.string (srcBi j)] (ap [] []) F (λ u H'=>∃ x:Nat × HL,H'=ap [] [x.2] /\ (u=.tuple #[vP x.1 0,vI 0] /\ Book1 j x.1 x.2)):=pnew_run j F hj hE
theorem bookm_run (n:Int) (F:HL) (hn:i64r n) (hE:TabIn F):Sp Tryz.prog 8 #[vI n,vI (-1)] [] F (λ u H'=>∃ x:Nat × HL,H'=ap [] [x.2] /\ (u=vP x.1 0 /\ Book1 (around n 5).toNat x.1 x.2)):=by
 refine Sp.run Tryz.func8 rfl mn (A:=[]) (Ts:=[]) rfl λ w0=>?_
 refine RN.go 8 [] λ _=>RN.cp (source_any n _ hn) ?_
 have hA1:=around_bd (n:=n) hn 5 (by decide)
 refine RN.ct (Hp:=[]) (Tp:=[]) [] [] (pnew_any (around n 5).toNat _ (by omega) (ro_ap hE)) ?_
 rintro _ ⟨b2,T3⟩ ⟨rfl,hB4⟩
 dsimp only at hB4
 refine RN.go 44 [] λ _=>RN.ret [] [] [0] (v:=vP b2 0) (H':=(ap [] [T3])) ?_
 exact ⟨(b2,T3),rfl,rfl,hB4⟩
theorem bookm_any (n:Int) (F:HL) (hn:i64r n) (hE:TabIn F):Sp Tryz.prog 8 #[vI n,vI (-1)] (ap [] []) F (λ u H'=>∃ x:Nat × HL,H'=ap [] [x.2] /\ (u=vP x.1 0 /\ Book1 (around n 5).toNat x.1 x.2)):=bookm_run n F hn hE
theorem at1c_any (q2 q3 bp q j:Nat) (A:Option Addr) (c:Nat) (t:Int) (F:HL) (h2:(q2,.lit [vP bp 0] 33 (0,0)) ∈ F) (h3:(q3,.lit [vI t] 3 (0,0)) ∈ F) (hb:(bp,.lit [vS q 0 1 1] 123 (0,0)) ∈ F) (hq:(q,.lit [vI 0,.slice A (lenB j) c,vI (entI j 0),vI (entI j 1),vI (entI j 2)] 125 (0,0)) ∈ F) (ht:0 <= t):Sp Tryz.prog 42 #[vI 0,vP q2 0,vP q3 0] [] F (λ u H'=>u=.bool false /\ H'=[]):=by
 refine Sp.run Tryz.func42 rfl (mc h2 (mc h3 (mc hb (mc hq mn)))) (A:=[]) (Ts:=[]) rfl λ w0=>?_
 refine RN.go 6 [] λ _=>RN.draw [] []<|RD.go [] [0,4,8,1,2,3,5,6,7,9,10] [.ro 0,.ro 1,.ro 2,.ro 3]<|RD.fin<|RN.go 1 [] λ _=>RN.ret [] [] [] (v:=.bool (decide (0 > t))) (H':=[]) ?_
 exact ⟨congrArg Value.bool (decide_eq_false (by omega)),rfl⟩
theorem search1_any (q2 q3 bp q j:Nat) (A:Option Addr) (c:Nat) (t:Int) (F:HL) (h2:(q2,.lit [vP bp 0] 33 (0,0)) ∈ F) (h3:(q3,.lit [vI t] 3 (0,0)) ∈ F) (hb:(bp,.lit [vS q 0 1 1] 123 (0,0)) ∈ F) (hq:(q,.lit [vI 0,.slice A (lenB j) c,vI (entI j 0),vI (entI j 1),vI (entI j 2)] 125 (0,0)) ∈ F) (ht:0 <= t):Sp Tryz.prog 41 #[vI 1,.func (.func 42) #[] #[vP q2 0,vP q3 0]] [] F (λ u H'=>u=vI 1 /\ H'=[]):=by
 refine Sp.run Tryz.func41 rfl (mc h2 (mc h3 (mc hb (mc hq mn)))) (A:=[]) (Ts:=[]) rfl λ w0=>?_
 refine RN.go 14 [] λ _=>RN.rounds 3<|RN.go 27 [] λ _=>RN.cp (at1c_any q2 q3 bp q j A c t _ (ro_ap h2) (ro_ap h3) (ro_ap hb) (ro_ap hq) ht)<|RN.go 31 [] λ _=>?_
 exact RN.ret [] [] [] ⟨rfl,rfl⟩
theorem at1_run (bp q j:Nat) (A:Option Addr) (c:Nat) (t:Int) (F:HL) (hb:(bp,.lit [vS q 0 1 1] 123 (0,0)) ∈ F) (hq:(q,.lit [vI 0,.slice A (lenB j) c,vI (entI j 0),vI (entI j 1),vI (entI j 2)] 125 (0,0)) ∈ F) (ht:0 <= t) (hj:j < 5) (hC:SrcIn Tryz.prog insE F A (lenB j) (insB j)):Sp Tryz.prog 15 #[vP bp 0,vI t] [] F (λ u H'=>∃ x:Option Addr × Nat × HL,H'=ap [] [x.2.2] /\ (u=.tuple #[vI 0,.agg #[.slice x.1 (lenB j) x.2.1,vI (entI j 0),vI (entI j 1),vI (entI j 2)]] /\ ClS insE 129 (insB j) x.1 x.2.1 x.2.2)):=by
 refine Sp.run Tryz.func15 rfl (mc hb (mc hq mn)) (A:=[]) (Ts:=[]) rfl λ w0=>?_
 refine RN.go 16 [.own 2,.ro 0] λ n1=>RN.cp (search1_any (n1+0) (n1+1) bp q j A c t _ (in_ap 2) (in_ap 1) (ro_ap hb) (ro_ap hq) ht)<|RN.go 26 [.own 2,.ro 0,.ro 1,.ro 1,.ro 1,.ro 1,.own 0,.own 0,.own 0,.own 0] λ n2=>RN.draw [8] []<|RD.go [] [0,1,4,2,5] [.own 0,.own 0,.own 0,.own 0]<|RD.one 3 (RDO.ct [] (Hp:=[]) (Tp:=[]) [] [] (clone_Ins_any A (lenB j) c (insB j) _ hC.up (by have:=lenB_le hj;omega)) ?_)
 rintro _ ⟨A3,c4,T5⟩ ⟨rfl,hc6⟩
 dsimp only at hc6
 refine RD.go [] [6,7] []<|RD.one 8 (RDO.ev [] [.own 1,.own 1,.own 1,.own 1] λ _=>?_)
 refine RD.fin<|RN.go 1 [] λ _=>RN.ret [.own 1,.own 1,.own 1,.own 1] [] [0] (v:=.tuple #[vI 0,.agg #[.slice A3 (lenB j) c4,vI (entI j 0),vI (entI j 1),vI (entI j 2)]]) (H':=(ap [] [T5])) ?_
 exact ⟨(A3,c4,T5),rfl,rfl,hc6⟩
theorem at1_any {j bp:Nat} {TB F:HL} (hB:Book1 j bp TB) (hT:∀ x ∈ TB,x ∈ F) (hj:j < 5) (t:Int) (ht:0 <= t):Sp Tryz.prog 15 #[vP bp 0,vI t] (ap [] []) F (λ u H'=>∃ x:Option Addr × Nat × HL,H'=ap [] [x.2.2] /\ (u=.tuple #[vI 0,.agg #[.slice x.1 (lenB j) x.2.1,vI (entI j 0),vI (entI j 1),vI (entI j 2)]] /\ ClS insE 129 (insB j) x.1 x.2.1 x.2.2)):=by
 cases hB with
 | mk q A c T h=>exact at1_run bp q j A c t F (hT _ (by simp [ap])) (hT _ (by simp [ap])) ht hj (h.src F λ x hx=>hT x (by simp [ap,hx]))
open Go.Shelf
def SpD (P:Program) (f:FuncId) (args:Array Value) (H F:HL) (R:Value -> HL -> Prop):Prop :=
  ∀ w,Rel (H++F) w -> CallsDIn (Wr none) 0 P f args .returning w λ e u' w'=>u'=.returning /\ ∃ v H',e=.returned v /\ R v H' /\ Rel (H'++F) w' /\ Below 0 w w'
theorem SpD.mono {P:Program} {f:FuncId} {args:Array Value} {H F:HL} {R R':Value -> HL -> Prop} (h:SpD P f args H F R) (hr:∀ v H',R v H' -> R' v H'):SpD P f args H F R' :=
  λ w hR=>(h w hR).mono λ e u' w' ⟨h0,v,H',h1,h2,h3,h4⟩=>⟨h0,v,H',h1,hr _ _ h2,h3,h4⟩
section
variable {r:Option Nat} {P:Program} {N:Nat} {D:List Deferred} {F:HL} {w0:World} {R:HL} {s:Cfg} {Q:Exit -> Act -> World -> Prop}
def dfR (N:Nat) (s:Cfg):Option (FuncId × Array Value × Array Value):=match opAt s with
  | some o=>match o.guard,o.op,(putL N o.dst undef s.L).isSome with
    | none,.defer c,true=>match c.callee with
      | .value f=>match inL s.L f && c.args.toList.all (inL s.L) with
        | true=>match rho s.L f with
          | .func (.func g) first cap=>some (g,first++c.args.map (rho s.L),cap)
          | _=>none
        | false=>none
      | _=>none
    | _,_,_=>none
  | none=>none
abbrev dfD (g:FuncId) (args cap:Array Value):Deferred:={ target:=.fn (.func g) cap,args:=args }
theorem map_rho {L:FL} {a:Act} (hF:Fm N D L a):∀ (l:List Operand),l.all (inL L)=true -> l.map a.eval=l.map (rho L)
  | [],_=>rfl
  | x :: l,h=>by
    rw [List.all_cons,Bool.and_eq_true] at h
    rw [List.map_cons,List.map_cons,hF.eval h.1,map_rho hF l h.2]
theorem RN.df {g:FuncId} {args cap:Array Value} (hk:RN none P N (dfD g args cap :: D) F w0 R (putC N undef s) Q) (h:dfR N s=some (g,args,cap):=by kernel_rfl):RN none P N D F w0 R s Q:=by
  refine ⟨λ hR a w hF hRel hB=>?_⟩
  obtain ⟨cc,kk,L,A,Ts⟩:=s
  unfold dfR at h
  split at h
  case h_2=>cases h
  rename_i o q0
  split at h
  case h_2=>cases h
  rename_i c q1 q2 q3
  split at h
  case h_2=>cases h
  rename_i f q4
  split at h
  case h_2=>cases h
  rename_i q5
  split at h
  case h_2=>cases h
  rename_i g' first cap' q6
  simp only [Option.some.injEq,Prod.mk.injEq] at h
  obtain ⟨e1,e2,e3⟩:=h
  subst e1;subst e2;subst e3
  unfold opAt at q0
  cases cc with
  | code c=>cases q0
  | ex c=>cases q0
  | drw _ _=>cases q0
  | ops ops j =>
    simp only at q0 q3 q5 q6 hF hRel
    have hdrop:ops.toList.drop j=o :: ops.toList.drop (j+1):=by
      have hlt:j < ops.toList.length:=(List.getElem?_eq_some_iff.1 q0).1
      rw [List.drop_eq_getElem_cons hlt,(List.getElem?_eq_some_iff.1 q0).2]
    show wpListIn _ _ _ _ _ _ _ _
    rw [hdrop,wpListIn,if_pos (by simp [Region.wanted,q1])]
    refine ⟨λ _ _=>trivial,?_⟩
    rw [Bool.and_eq_true] at q5
    obtain ⟨L',hl⟩:=putL_some q3 undef
    have hpc:putC N undef ⟨.ops ops j,kk,L,A,Ts⟩=⟨.ops ops (j+1),kk,L',A,Ts⟩:=by
      unfold putC
      simp only [q0,hl]
    have hh:=hk.h hR
    rw [hpc] at hh
    have hargs:c.args.map a.eval=c.args.map (rho L):=by
      apply Array.ext'
      rw [Array.toList_map,Array.toList_map]
      exact map_rho hF _ q5.2
    have e1:a.eval f=.func (.func g') first cap':=(hF.eval q5.1).trans q6
    have hex:(o.semAt (Wr none).round a.eval).run P w=.ok (.defer (dfD g' (first++c.args.map (rho L)) cap')) w:=by
      show (Oper.semAt none a.eval o).run P w=_
      rw [Oper.semAt_none]
      simp only [execOp,q2,resolve,q4,e1,Deferred.ofValue,Sem.run_bind,hargs]
      rfl
    rw [hex,Oper.uponIn_defer]
    have hF':Fm N (dfD g' (first++c.args.map (rho L)) cap' :: D) L { a with defers:=dfD g' (first++c.args.map (rho L)) cap' :: a.defers }:=⟨hF.size,by rw [<- hF.defs],hF.has⟩
    exact hh _ w (hF'.put hl) hRel hB
def ctC (i:Nat) (s:Cfg):Cfg:=match s with
  | ⟨c,k,L,A,Ts⟩=>match A[i]? with
    | some x=>⟨c,k,L,(oth [i] A.length).filterMap (A[·]?),[x] :: Ts⟩
    | none=>⟨c,k,L,A,Ts⟩
theorem RN.ctl (i:Nat) (hk:RN r P N D F w0 R (ctC i s) Q) (h:([i]++oth [i] s.A.length).isPerm (List.range s.A.length)=true:=by kernel_rfl):RN r P N D F w0 R s Q:=by
  refine ⟨λ hR a w h1 h2 h3=>?_⟩
  have h4:=hk.h hR a w
  obtain ⟨c,k,L,A,Ts⟩:=s
  unfold ctC at h4
  simp only at h4 h h1 h2
  split at h4
  case h_2=>exact h4 h1 h2 h3
  rename_i x hx
  have hp:=pick_perm A [i] (oth [i] A.length) h
  simp only [List.filterMap_cons,hx,List.filterMap_nil,List.cons_append,List.nil_append] at hp
  refine h4 h1 (h2.perm (List.Perm.append_right F ?_)) h3
  show ((oth [i] A.length).filterMap (A[·]?)++([x]++Ts.flatten)).Perm (A++Ts.flatten)
  rw [<- List.append_assoc]
  refine List.Perm.append_right _ (List.Perm.trans ?_ hp)
  exact List.perm_append_comm
structure LV (P:Program) (N:Nat) (D:List Deferred) (F:HL) (w0:World) (R:HL) (fn:Func) (R':Value -> HL -> Prop) (s:Cfg):Prop where
  h:(∀ y ∈ R,y ∈ F) -> ∀ a w,Fm N D s.L a -> Rel (ap s.A s.Ts++F) w -> Below 0 w0 w -> LeavesInM (Wr none) 0 P fn a.tmps (SpR F w0 R') a.defers .returning w
theorem RN.lv {fn:Func} {R':Value -> HL -> Prop} (hk:LV P N D F w0 R fn R' s) (hc:isDone s=true:=by kernel_rfl):RN none P N D F w0 R s (bodyPostM (Wr none) 0 P fn (SpR F w0 R')):=by
  refine ⟨λ hR a w hF hRel hB=>?_⟩
  have key:=hk.h hR a w hF hRel hB
  exact isDone_wf hc key key
def aftD (ip jp:List Nat) (Hq:HL) (Tq:List HL) (s:Cfg):Cfg:=setH (λ A=>Hq++(oth ip A.length).filterMap (A[·]?)) (λ Ts=>Tq++(oth jp Ts.length).filterMap (Ts[·]?)) s
theorem LV.df {τ:Type} {fn:Func} {R':Value -> HL -> Prop} {g:FuncId} {args cap:Array Value} (eg:∀ args w,(callFunc g args).run P w=.ok (.enter g args) w) (ip jp:List Nat) {Hp:HL} {Tp:List HL} {Hq:τ -> HL} {Tq:τ -> List HL} {Rv:Value -> τ -> Prop}
    (hc:SpD P g (args++cap) (ap Hp Tp) (ap (othA ip s) (othT jp s)++F) (λ v H'=>∃ x,H'=ap (Hq x) (Tq x) /\ Rv v x)) (hk:∀ v x,Rv v x -> LV P N D F w0 R fn R' (aftD ip jp (Hq x) (Tq x) s))
    (hp:permOk ip jp s=true:=by kernel_rfl) (hH:picks ip jp s=(Hp,Tp):=by kernel_rfl):LV P N (dfD g args cap :: D) F w0 R fn R' s:=by
  unfold permOk at hp
  unfold picks at hH
  rw [Bool.and_eq_true] at hp
  simp only [Prod.mk.injEq] at hH
  obtain ⟨e1,e2⟩:=hH
  refine ⟨λ hR a w hF hRel hB=>?_⟩
  have hperm:(ap Hp Tp++ap (othA ip s) (othT jp s)).Perm (ap s.A s.Ts):=by
    have h1:=ap_perm s.A s.Ts ip (oth ip s.A.length) jp (oth jp s.Ts.length) hp.1 hp.2
    rw [e1,e2] at h1
    exact h1
  have hR1:Rel (ap Hp Tp++(ap (othA ip s) (othT jp s)++F)) w:=by rw [<- List.append_assoc];exact hRel.perm (hperm.append_right F)
  rw [hF.defs]
  refine ⟨by simp,.inr ⟨(λ h=>by cases h),.func g,cap,g,args++cap,rfl,?_,λ _ _=>trivial,?_⟩⟩
  · show (callFunc g (args++cap)).run P w=_
    exact eg _ _
  · refine (hc w hR1).mono ?_
    rintro e u' w' ⟨rfl,v,H',rfl,⟨x,rfl,hv⟩,hR2,hB2⟩
    have:=(hk v x hv).h hR { a with defers:=D } w' ⟨hF.size,rfl,hF.has⟩ ?_ (hB.trans hB2)
    · exact this
    · unfold aftD
      rw [setH_eq.1,setH_eq.2.1]
      refine hR2.perm ?_
      exact (ap_swap _ _ _ _ _).symm
theorem LV.retO {fn:Func} {R':Value -> HL -> Prop} (hints:List Hint) (Ob:List Prop) (hob:AllP Ob) (ip jp:List Nat) {v:Value} {H':HL} (hv:R' v H')
    (h:∀ n0,retV P n0 fn.results.toList R hints s=some (v,resX (retV P n0 fn.results.toList R hints s),resX (retV P n0 fn.results.toList R hints s),Ob):=by intro n0;kernel_rfl)
    (hp:permOk ip jp s=true:=by kernel_rfl) (hH:ap (picks ip jp s).1 (picks ip jp s).2=H':=by kernel_rfl):LV P N [] F w0 R fn R' s:=by
  unfold permOk at hp
  unfold picks at hH
  refine ⟨λ hR a w hF hRel hB=>?_⟩
  rw [Bool.and_eq_true] at hp
  have h':=h w.heap.size
  unfold retV resE at h'
  split at h'
  case h_2=>cases h'
  rename_i vs ss hs
  split at h'
  case h_2=>cases h'
  simp only [resX,Option.some.injEq,Prod.mk.injEq] at h'
  obtain ⟨e1,-,e3,e4⟩:=h'
  have hrun:=resL_run (P:=P) hF hRel fn.results.toList _ _ _ hs rfl rfl hR (λ e=>by cases e) (pairs_eq rfl e3) (by rw [e4];exact AllP.mem hob)
  subst e1
  rw [hF.defs]
  exact ⟨_,results_run (by simp) hrun,_,H',rfl,hv,hRel.takeT ip _ jp _ hp.1 hp.2 hH,hB⟩
theorem LV.ret {fn:Func} {R':Value -> HL -> Prop} (hints:List Hint) (ip jp:List Nat) {v:Value} {H':HL} (hv:R' v H')
    (h:∀ n0,retV P n0 fn.results.toList R hints s=some (v,resX (retV P n0 fn.results.toList R hints s),resX (retV P n0 fn.results.toList R hints s),[]):=by intro n0;kernel_rfl)
    (hp:permOk ip jp s=true:=by kernel_rfl) (hH:ap (picks ip jp s).1 (picks ip jp s).2=H':=by kernel_rfl):LV P N [] F w0 R fn R' s:=LV.retO hints [] trivial ip jp hv h hp hH
end
def ItO (P:Program) (g:FuncId) (lb:Array Value) (own:HL) (F:HL) {α:Type} (encs:α -> Array Value) (xs:List α) (Te Tx:HL -> Prop):Prop :=
  ∀ (X:HL) (l:Nat) (J:Nat -> HL -> Prop) (Jx:HL -> Prop) (H0:HL),
    (∀ i x H Y,xs[i]?=some x -> J i H -> YL P l (encs x) H (Y++(X++F)) (λ b H'=>(b=true /\ J (i+1) H') \/ (b=false /\ Jx H'))) -> J 0 H0 ->
    Sp P g (#[.func (.yield l) #[] #[]]++lb) (H0++own) (X++F) (λ _ H'=>∃ H1 T1,H'=H1++T1 /\ ((J xs.length H1 /\ Te T1) \/ (Jx H1 /\ Tx T1)))
section
variable {P:Program} {N:Nat} {D:List Deferred} {F:HL} {w0:World} {L:FL} {Q:Exit -> Act -> World -> Prop}
theorem TR.rangeO {α σ τ:Type} {g:Operand} {ps:Array Tmp} {assign body:Code} {encs:α -> Array Value} {xs:List α} {gf:FuncId} {lb:Array Value} (hi:inL L g=true) (hg:rho L g=.func (.func gf) #[] lb) (eg:∀ args w,(callFunc gf args).run P w=.ok (.enter gf args) w)
    (Hx:σ -> HL) (I:Nat -> σ -> Prop) (Ix:Code -> σ -> Prop) (La:τ -> FL) (Ha:τ -> HL) (Ia:Nat -> α -> τ -> Prop) (hps:∀ x,(encs x).size=ps.size) (hpN:(ps.toList.all λ p=>decide (p < N))=true)
    (x0:σ) (h0:I 0 x0) {A:HL} {Ts:List HL} (ip ir jp jr:List Nat) (hp:(ip++ir).isPerm (List.range A.length)=true) (hj:(jp++jr).isPerm (List.range Ts.length)=true) (Hr:HL) (Tr:List HL) (hHr:ir.filterMap (A[·]?)=Hr) (own:HL) {Te Tx:HL -> Prop} (hTr:jr.filterMap (Ts[·]?)=own :: Tr) (hH:ap (ip.filterMap (A[·]?)) (jp.filterMap (Ts[·]?))=Hx x0)
    (hit:ItO P gf lb own (ap Hr Tr++F) encs xs Te Tx)
    (hassign:∀ (l i:Nat) (x:α) (s:σ) (Y:HL) (w1:World),xs[i]?=some x -> I i s -> TR (some l) P N [] (Y++(ap Hr Tr++F)) w1 (zipP ps.toList (encs x).toList L) (Hx s) assign (Exit.then (MET N [] (Y++(ap Hr Tr++F)) w1 La Ha (Ia i x)) (λ _ _ _=>False)))
    (hbody:∀ (l i:Nat) (x:α) (t:τ) (Y:HL) (w1:World),xs[i]?=some x -> Ia i x t -> TR (some l) P N [] (Y++(ap Hr Tr++F)) w1 (La t) (Ha t) body (RQ (Y++(ap Hr Tr++F)) w1 Hx (I (i+1)) Ix))
    (hdone:∀ (d:Nat) (s:σ) (T1:HL),I xs.length s -> Te T1 -> EX N (coll d :: D) F w0 L (dblk d :: (Hx s++ap Hr (T1 :: Tr))) Q .normal)
    (hstop:∀ (d:Nat) (c:Code) (s:σ) (T1:HL),Ix c s -> Tx T1 -> TR none P N (coll d :: D) F w0 L (dblk d :: (Hx s++ap Hr (T1 :: Tr))) c Q) :
    TR none P N D F w0 L (ap A Ts) (.rangeFunc g ps assign body) Q:=by
  intro a w hF hR hB
  have hpo:∀ (X:HL) (T1:HL),((X++T1)++(ap Hr Tr++F)).Perm (X++(ap Hr (T1 :: Tr)++F)):=λ X T1=>by
    rw [List.append_assoc]
    refine List.Perm.append_left X ?_
    rw [<- List.append_assoc]
    refine List.Perm.append_right F ?_
    show (T1++(Hr++Tr.flatten)).Perm (Hr++(T1 :: Tr).flatten)
    rw [List.flatten_cons,<- List.append_assoc,<- List.append_assoc]
    exact List.Perm.append_right _ List.perm_append_comm
  have hR1:Rel ((Hx x0++own)++(ap Hr Tr++F)) w:=by
    have h1:=ap_perm A Ts ip ir jp jr hp hj
    rw [hHr,hTr,hH] at h1
    have h2:=hR.perm (h1.append_right F)
    rw [List.append_assoc] at h2
    exact h2.perm (hpo _ _)
  refine wpIn_rangeFunc ?_
  intro fn hfn
  obtain ⟨rec,hrec⟩:∃ rec:LoopState -> Option Code -> Loop,rec=λ st pe=>{ state:=st,pending:=pe,fn,tmps:=a.tmps,params:=ps,assign,body,defers:=w.heap.size }:=⟨_,rfl⟩
  obtain ⟨W1,hW1⟩:∃ W1,(w.alloc (.deferred (some []))).alloc (.loop (rec .ready none))=W1:=⟨_,rfl⟩
  have hB1:Below 0 w W1:=by rw [<- hW1];exact (below_alloc0 _).trans (below_alloc0 _)
  have hRW:Rel ((w.heap.size+1,Blk.obj (.loop (rec .ready none))) :: dblk w.heap.size :: ((Hx x0++own)++(ap Hr Tr++F))) W1:=by
    rw [<- hW1]
    have h1:=(hR1.alloc (.obj (.deferred (some [])))).alloc (.obj (.loop (rec .ready none)))
    rw [World.size_alloc] at h1
    exact h1
  refine ⟨w.heap.size+1,[coll w.heap.size],W1,{ target:=.fn (.func gf) lb,args:=#[.func (.yield (w.heap.size+1)) #[] #[]] },W1,gf,
    #[.func (.yield (w.heap.size+1)) #[] #[]]++lb,W1,?_,?_,?_,?_,λ h=>(by cases h),?_⟩
  · rw [<- hW1,hrec];exact run_enterLoop_outer _ _ _ _ _
  · have hge:a.eval g=.func (.func gf) #[] lb:=(hF.eval hi).trans hg
    simp only [resolve,hge]
    simp [Deferred.ofValue]
    rfl
  · intro f' _;trivial
  · simp [invoke,eg]
  · refine Wr.calls ?_
    obtain ⟨l,hl⟩:∃ l,w.heap.size+1=l:=⟨_,rfl⟩
    rw [hl] at hRW ⊢
    obtain ⟨d,hd⟩:∃ d,w.heap.size=d:=⟨_,rfl⟩
    rw [hd] at hRW hrec ⊢
    have key:=hit [] l (λ i H'=>∃ s,I i s /\ H'=(l,Blk.obj (.loop (rec .ready none))) :: dblk d :: Hx s) (λ H'=>∃ c s,Ix c s /\ H'=(l,Blk.obj (.loop (rec .done (some c)))) :: dblk d :: Hx s)
      ((l,Blk.obj (.loop (rec .ready none))) :: dblk d :: Hx x0) ?round ⟨x0,h0,rfl⟩ W1 hRW
    case round =>
      rintro i x H' Y hx ⟨s,hs,rfl⟩ W hRel
      have hRel':Rel ((l,Blk.obj (.loop (rec .ready none))) :: (dblk d :: (Hx s++(Y++(ap Hr Tr++F))))) W:=hRel
      have hlW:W.heap[l]?=some (.loop (rec .ready none)):=hRel'.holds _ List.mem_cons_self
      have hy:=run_yield (P:=P) (args:=encs x) hlW (by rw [hrec];exact hps x)
      rw [hrec] at hy
      refine ⟨fn,_,assign,body,hy,roundIn_of_wpIn (F:=Wr none) (n:=0) hfn ?_⟩
      have hFm:Fm N [] (zipP ps.toList (encs x).toList L) { tmps:=(ps.zip (encs x)).foldl (λ t (p,v)=>t.setIfInBounds p v) a.tmps,defers:=[] }:=by
        have h1:=Fm.zip (D:=[]) ps.toList (encs x).toList L a.tmps (λ p hp=>of_decide_eq_true (List.all_eq_true.1 hpN p hp)) ⟨hF.size,rfl,hF.has⟩
        have e:(ps.zip (encs x)).foldl (λ t (p,v)=>t.setIfInBounds p v) a.tmps=(ps.toList.zip (encs x).toList).foldl (λ t (p,v)=>t.setIfInBounds p v) a.tmps:=by
          rw [<- Array.foldl_toList,Array.toList_zip]
        rw [e]
        exact h1
      have hRA:Rel (Hx s++(((l,Blk.obj (.loop (rec .ready none))) :: dblk d :: Y)++(ap Hr Tr++F))) W:=by
        have:=hRel'
        refine this.perm ?_
        simp only [List.cons_append]
        refine List.perm_middle.trans ?_
        refine List.Perm.cons _ ?_
        exact List.perm_middle
      refine wpIn_mono (hassign l i x s ((l,Blk.obj (.loop (rec .ready none))) :: dblk d :: Y) W hx hs _ W hFm hRA (Below.refl _ _)) ?_
      intro e a1 Wa hq
      cases e with
      | normal =>
        obtain ⟨t,ht,m1,m2,m3⟩:=hq
        have hRb:Rel ((l,Blk.obj (.loop (rec .ready none))) :: (dblk d :: (Ha t++(Y++(ap Hr Tr++F))))) Wa:=by
          refine m2.perm ?_
          simp only [List.cons_append]
          refine (List.Perm.trans ?_ List.perm_middle.symm)
          refine List.Perm.cons _ ?_
          exact List.perm_middle.symm
        have hla:Wa.heap[l]?=some (.loop (rec .ready none)):=hRb.holds _ List.mem_cons_self
        refine ⟨_,run_beginRound hla (by rw [hrec]),?_⟩
        have hRc:=hRb.putObj (F:=[]) (.obj (.loop { rec .ready none with state:=.busy }))
        have hRd:Rel (Ha t++(((l,Blk.obj (.loop { rec .ready none with state:=.busy })) :: dblk d :: Y)++(ap Hr Tr++F))) (Wa.putObj l (.loop { rec .ready none with state:=.busy })):=by
          refine hRc.perm ?_
          simp only [List.cons_append]
          refine List.perm_middle.trans ?_
          refine List.Perm.cons _ ?_
          exact List.perm_middle
        refine wpIn_mono (hbody l i x t ((l,Blk.obj (.loop { rec .ready none with state:=.busy })) :: dblk d :: Y) W hx ht a1 _ m1 hRd (m3.trans (below_putObj _ _))) ?_
        have fin:∀ (jump:Option Code) (s':σ) (W3:World),Rel (Hx s'++(((l,Blk.obj (.loop { rec .ready none with state:=.busy })) :: dblk d :: Y)++(ap Hr Tr++F))) W3 -> Below 0 W W3 ->
            ∃ v w',(Instr.endRound l jump).run P W3=.ok v w' /\ v=.bool jump.isNone /\ Rel (((l,Blk.obj (.loop (rec (if jump.isNone then .ready else .done) jump))) :: dblk d :: Hx s')++(Y++([]++(ap Hr Tr++F)))) w' /\ Below 0 W w':=by
          intro jump s' W3 h3 hb3
          have h4:Rel ((l,Blk.obj (.loop { rec .ready none with state:=.busy })) :: (dblk d :: (Hx s'++(Y++(ap Hr Tr++F))))) W3:=by
            refine h3.perm ?_
            simp only [List.cons_append]
            refine (List.Perm.trans ?_ List.perm_middle.symm)
            refine List.Perm.cons _ ?_
            exact List.perm_middle.symm
          have hl3:W3.heap[l]?=some (.loop { rec .ready none with state:=.busy }):=h4.holds _ List.mem_cons_self
          have hrun:=run_endRound (P:=P) jump hl3
          refine ⟨_,_,hrun,rfl,?_,hb3.trans (below_putObj _ _)⟩
          have h5:=h4.putObj (F:=[]) (.obj (.loop (rec (if jump.isNone then .ready else .done) jump)))
          rw [hrec] at h5 ⊢
          exact h5
        intro e2 a2 W3 hq2
        cases e2 with
        | normal =>
          obtain ⟨s',hs',n2,n3⟩:=hq2
          obtain ⟨v,w',k1,k2,k3,k4⟩:=fin none s' W3 n2 n3
          exact ⟨v,w',k1,true,_,by rw [k2];rfl,.inl ⟨rfl,s',hs',rfl⟩,k3,k4⟩
        | ret =>
          obtain ⟨s',hs',n2,n3⟩:=hq2
          obtain ⟨v,w',k1,k2,k3,k4⟩:=fin (some .ret) s' W3 n2 n3
          exact ⟨v,w',k1,false,_,by rw [k2];rfl,.inr ⟨rfl,.ret,s',hs',rfl⟩,k3,k4⟩
        | exit id =>
          obtain ⟨s',hs',n2,n3⟩:=hq2
          obtain ⟨v,w',k1,k2,k3,k4⟩:=fin (some (.exit id)) s' W3 n2 n3
          exact ⟨v,w',k1,false,_,by rw [k2];rfl,.inr ⟨rfl,.exit id,s',hs',rfl⟩,k3,k4⟩
        | goto t=>exact hq2.elim
        | panic ch=>exact hq2.elim
        | outgrown=>exact hq2.elim
      | exit id=>exact hq.elim
      | goto t=>exact hq.elim
      | ret=>exact hq.elim
      | panic ch=>exact hq.elim
      | outgrown=>exact hq.elim
    refine key.mono ?_
    rintro e W2 ⟨v,H',rfl,hor,hR2,hB2⟩
    have fin:∀ (st:LoopState) (pe:Option Code) (s:σ) (T1:HL) (hst:st ≠ .busy),Rel ((((l,Blk.obj (.loop (rec st pe))) :: dblk d :: Hx s)++T1)++([]++(ap Hr Tr++F))) W2 ->
        ∃ w4,(Instr.endLoop l).run P W2=.ok pe w4 /\ Rel ((dblk d :: (Hx s++ap Hr (T1 :: Tr)))++F) w4 /\ Below 0 W1 w4:=by
      intro st pe s T1 hst h4
      have h5:Rel ((l,Blk.obj (.loop (rec st pe))) :: (dblk d :: (Hx s++(ap Hr (T1 :: Tr)++F)))) W2:=h4.perm (((hpo (Hx s) T1).symm.cons _).cons _)
      have hl2:W2.heap[l]?=some (.loop (rec st pe)):=h5.holds _ List.mem_cons_self
      have hrun:=run_endLoop (P:=P) hl2 (by rw [hrec];exact hst)
      refine ⟨W2.putObj l (.loop { rec st pe with state:=.exhausted }),?_,?_,hB2.trans (below_putObj _ _)⟩
      · rw [hrun,hrec]
      · have h6:=h5.putObj (F:=[]) (.obj (.loop { rec st pe with state:=.exhausted }))
        have h7:=Rel.drop (X:=[(l,Blk.obj (.loop { rec st pe with state:=.exhausted }))]) (H:=dblk d :: (Hx s++(ap Hr (T1 :: Tr)++F))) h6
        rw [<- List.append_assoc] at h7
        exact h7
    have hFd:Fm N (coll d :: D) L { a with defers:=[coll d]++a.defers }:=⟨hF.size,by rw [hF.defs];rfl,hF.has⟩
    rcases hor with ⟨H1,T1,rfl,⟨⟨s,hs,rfl⟩,hT⟩ | ⟨⟨c,s,hs,rfl⟩,hT⟩⟩
    · obtain ⟨w4,k1,k2,k3⟩:=fin .ready none s T1 (by simp) hR2
      exact ⟨none,w4,k1,hdone d s T1 hs hT _ w4 hFd k2 (hB.trans (hB1.trans k3))⟩
    · obtain ⟨w4,k1,k2,k3⟩:=fin .done (some c) s T1 (by simp) hR2
      exact ⟨some c,w4,k1,hstop d c s T1 hs hT _ w4 hFd k2 (hB.trans (hB1.trans k3))⟩
theorem TR.rangeOA {α σ τ:Type} {g:Operand} {ps:Array Tmp} {assign body:Code} {encs:α -> Array Value} {xs:List α} {gf:FuncId} {lb:Array Value} (hi:inL L g=true) (hg:rho L g=.func (.func gf) #[] lb) (eg:∀ args w,(callFunc gf args).run P w=.ok (.enter gf args) w)
    (Ax:σ -> HL) (Tx:σ -> List HL) (I:Nat -> σ -> Prop) (Ix:Code -> σ -> Prop) (La:τ -> FL) (Ha:τ -> HL) (Ia:Nat -> α -> τ -> Prop) (hps:∀ x,(encs x).size=ps.size) (hpN:(ps.toList.all λ p=>decide (p < N))=true)
    (x0:σ) (h0:I 0 x0) {A:HL} {Ts:List HL} (ip ir jp jr:List Nat) (hp:(ip++ir).isPerm (List.range A.length)=true) (hj:(jp++jr).isPerm (List.range Ts.length)=true) (Hr:HL) (Tr:List HL) (hHr:ir.filterMap (A[·]?)=Hr) (own:HL) {Te Tx':HL -> Prop} (hTr:jr.filterMap (Ts[·]?)=own :: Tr) (hA:ip.filterMap (A[·]?)=Ax x0) (hT:jp.filterMap (Ts[·]?)=Tx x0)
    (hit:ItO P gf lb own (ap Hr Tr++F) encs xs Te Tx')
    (hassign:∀ (l i:Nat) (x:α) (s:σ) (Y:HL) (w1:World),xs[i]?=some x -> I i s -> TR (some l) P N [] (Y++(ap Hr Tr++F)) w1 (zipP ps.toList (encs x).toList L) (ap (Ax s) (Tx s)) assign (Exit.then (MET N [] (Y++(ap Hr Tr++F)) w1 La Ha (Ia i x)) (λ _ _ _=>False)))
    (hbody:∀ (l i:Nat) (x:α) (t:τ) (Y:HL) (w1:World),xs[i]?=some x -> Ia i x t -> TR (some l) P N [] (Y++(ap Hr Tr++F)) w1 (La t) (Ha t) body (RQ (Y++(ap Hr Tr++F)) w1 (λ s=>ap (Ax s) (Tx s)) (I (i+1)) Ix))
    (hdone:∀ (d:Nat) (s:σ) (T1:HL),I xs.length s -> Te T1 -> EX N (coll d :: D) F w0 L (ap (dblk d :: (Ax s++Hr)) (Tx s++T1 :: Tr)) Q .normal)
    (hstop:∀ (d:Nat) (c:Code) (s:σ) (T1:HL),Ix c s -> Tx' T1 -> TR none P N (coll d :: D) F w0 L (ap (dblk d :: (Ax s++Hr)) (Tx s++T1 :: Tr)) c Q) :
    TR none P N D F w0 L (ap A Ts) (.rangeFunc g ps assign body) Q:=by
  have hpm:∀ (d:Nat) (s:σ) (Tr:List HL),(ap (dblk d :: (Ax s++Hr)) (Tx s++Tr)).Perm (dblk d :: (ap (Ax s) (Tx s)++ap Hr Tr)):=λ d s Tr=>by
    show (dblk d :: ((Ax s++Hr)++(Tx s++Tr).flatten)).Perm _
    refine List.Perm.cons _ ?_
    rw [List.flatten_append]
    show ((Ax s++Hr)++((Tx s).flatten++Tr.flatten)).Perm ((Ax s++(Tx s).flatten)++(Hr++Tr.flatten))
    rw [List.append_assoc,List.append_assoc]
    refine List.Perm.append_left _ ?_
    rw [<- List.append_assoc,<- List.append_assoc]
    exact List.Perm.append_right _ List.perm_append_comm
  exact TR.rangeO hi hg eg (λ s=>ap (Ax s) (Tx s)) I Ix La Ha Ia hps hpN x0 h0 ip ir jp jr hp hj Hr Tr hHr own hTr (by rw [hA,hT]) hit hassign hbody
    (λ d s T1 hs hT a w h1 h2 h3=>hdone d s T1 hs hT a w h1 (h2.perm ((hpm d s _).append_right F)) h3) (λ d c s T1 hs hT a w h1 h2 h3=>hstop d c s T1 hs hT a w h1 (h2.perm ((hpm d s _).append_right F)) h3)
end
section
variable {P:Program} {N:Nat} {D:List Deferred} {F:HL} {w0:World} {R:HL} {s:Cfg} {Q:Exit -> Act -> World -> Prop}
def donO (c:Fo) (d:Nat) (ip jp:List Nat) (A:HL) (Ts:List HL) (T1:HL) (s:Cfg):Cfg:=match s with
  | ⟨_,k,L,A',Ts'⟩=>⟨c,k,L,dblk d :: (A++(oth ip A'.length).filterMap (A'[·]?)),Ts++T1 :: ((oth jp Ts'.length).filterMap (Ts'[·]?)).tail⟩
theorem RN.rangeO {α σ τ:Type} {encs:α -> Array Value} {xs:List α} {gf:FuncId} {lb:Array Value} (eg:∀ args w,(callFunc gf args).run P w=.ok (.enter gf args) w)
    (S:σ -> HL × List HL) (I:Nat -> σ -> Prop) (Ix:Code -> σ -> Prop) (W:τ -> Inv) (Ia:Nat -> α -> τ -> Prop) (x0:σ) (h0:I 0 x0) (ip jp:List Nat)
    (own:HL) {Te Tx:HL -> Prop} (hit:ItO P gf lb own (ap (othA ip s) (othT jp s).tail++F) encs xs Te Tx)
    (hassign:∀ (l i:Nat) (x:α) (s1:σ) (Y:HL) (w1:World),xs[i]?=some x -> I i s1 ->
      (∀ {s':Cfg} {R':HL} (t:τ) (ip' jp':List Nat),Ia i x t -> (hm:metK s'=some (MV N [] (Y++(ap (othA ip s) (othT jp s).tail++F)) w1 W (Ia i x)):=by kernel_rfl) -> (h:fits (W t) ip' jp' s'=fitsV (W t):=by kernel_rfl) -> (hp:permOk ip' jp' s'=true:=by kernel_rfl) -> RN (some l) P N [] (Y++(ap (othA ip s) (othT jp s).tail++F)) w1 R' s' (λ _ _ _=>False)) ->
      RN (some l) P N [] (Y++(ap (othA ip s) (othT jp s).tail++F)) w1 (othA ip s++R) (asnC (MV N [] (Y++(ap (othA ip s) (othT jp s).tail++F)) w1 W (Ia i x)) (encs x).toList (S s1).1 (S s1).2 s) (λ _ _ _=>False))
    (hbody:∀ (l i:Nat) (x:α) (t:τ) (Y:HL) (w1:World),xs[i]?=some x -> Ia i x t -> RN (some l) P N [] (Y++(ap (othA ip s) (othT jp s).tail++F)) w1 (othA ip s++R) (bodC (W t) s) (RQ (Y++(ap (othA ip s) (othT jp s).tail++F)) w1 (λ s=>ap (S s).1 (S s).2) (I (i+1)) Ix))
    (hdone:∀ (d:Nat) (s1:σ) (T1:HL),I xs.length s1 -> Te T1 -> RN none P N (coll d :: D) F w0 R (donO (.ex .normal) d ip jp (S s1).1 (S s1).2 T1 s) Q)
    (hstop:∀ (d:Nat) (c:Code) (s1:σ) (T1:HL),Ix c s1 -> Tx T1 -> RN none P N (coll d :: D) F w0 R (donO (.code c) d ip jp (S s1).1 (S s1).2 T1 s) Q)
    (hpN:rngN N s=true:=by kernel_rfl) (hp:permOk ip jp s=true:=by kernel_rfl) (hH:picks ip jp s=((S x0).1,(S x0).2):=by kernel_rfl) (ho:(othT jp s).head?=some own:=by kernel_rfl) (hG:(rngG s).map (·.1)=some (.func (.func gf) #[] lb):=by kernel_rfl) (hne:∀ x:α,(rngG s).map (·.2)=some (encs x).size:=by intro x;kernel_rfl):RN none P N D F w0 R s Q:=by
  refine ⟨λ hR=>?_⟩
  obtain ⟨c,k,L,A,Ts⟩:=s
  unfold permOk at hp
  unfold picks at hH
  rw [Bool.and_eq_true] at hp
  simp only [Prod.mk.injEq] at hH
  cases c with
  | ops _ _=>simp [rngG] at hG
  | ex _=>simp [rngG] at hG
  | drw _ _=>simp [rngG] at hG
  | code c =>
  cases c with
  | rangeFunc g ps assign body =>
    have hi:inL L g=true:=by
      cases h:inL L g with
      | true=>rfl
      | false=>simp [rngG,h] at hG
    simp only [rngG,hi,Option.map_some,Option.some.injEq] at hG hne
    simp only [rngN] at hpN
    have hRo:∀ (Y:HL),∀ y ∈ othA ip ⟨.code (.rangeFunc g ps assign body),k,L,A,Ts⟩++R,y ∈ Y++(ap (othA ip ⟨.code (.rangeFunc g ps assign body),k,L,A,Ts⟩) (othT jp ⟨.code (.rangeFunc g ps assign body),k,L,A,Ts⟩).tail++F):=by
      intro Y y hy
      rcases List.mem_append.1 hy with hy | hy
      · exact List.mem_append_right _ (List.mem_append_left _ (List.mem_append_left _ hy))
      · exact List.mem_append_right _ (List.mem_append_right _ (hR y hy))
    have ho':(oth jp Ts.length).filterMap (Ts[·]?)=own :: ((oth jp Ts.length).filterMap (Ts[·]?)).tail:=by
      have h1:((oth jp Ts.length).filterMap (Ts[·]?)).head?=some own:=ho
      generalize (oth jp Ts.length).filterMap (Ts[·]?)=l at h1 ⊢
      cases l with
      | nil=>cases h1
      | cons x l=>simp only [List.head?_cons,Option.some.injEq] at h1;rw [h1];rfl
    exact TR.rangeOA (assign:=assign) (body:=body) hi hG eg (λ s=>(S s).1) (λ s=>(S s).2) I Ix (λ t=>(W t).L) (λ t=>ap (W t).A (W t).Ts) Ia (λ x=>(hne x).symm) hpN x0 h0 ip (oth ip A.length) jp (oth jp Ts.length) hp.1 hp.2 _ _ rfl own ho' hH.1 hH.2 hit
      (λ l i x s1 Y w1 hx hi=>(hassign l i x s1 Y w1 hx hi (λ t ip' jp' ht hm h hp=>RN.meet t ip' jp' ht hm h hp)).h (hRo Y))
      (λ l i x t Y w1 hx ht=>(hbody l i x t Y w1 hx ht).h (hRo Y))
      (λ d s1 T1 hs hT=>(hdone d s1 T1 hs hT).h hR) (λ d c s1 T1 hs hT=>(hstop d c s1 T1 hs hT).h hR)
  | _=>simp [rngG] at hG
def mkC (i:Nat) (s:Cfg):Cfg:=match s with
  | ⟨c,k,L,A,Ts⟩=>⟨c,k,L,(oth [i] A.length).filterMap (A[·]?),Ts⟩
theorem LV.mark {fn:Func} {R':Value -> HL -> Prop} {d:Nat} (i:Nat) (hk:LV P N D F w0 R fn R' (mkC i s)) (h:((s.A[i]?),([i]++oth [i] s.A.length).isPerm (List.range s.A.length))=(some (dblk d),true):=by kernel_rfl):LV P N (coll d :: D) F w0 R fn R' s:=by
  simp only [Prod.mk.injEq] at h
  refine ⟨λ hR a w hF hRel hB=>?_⟩
  obtain ⟨c,k,L,A,Ts⟩:=s
  simp only at h hF hRel
  have hp:=pick_perm A [i] (oth [i] A.length) h.2
  simp only [List.filterMap_cons,h.1,List.filterMap_nil,List.cons_append,List.nil_append] at hp
  have h1:Rel ((d,Blk.obj (.deferred (some []))) :: (ap ((oth [i] A.length).filterMap (A[·]?)) Ts++F)) w:=by
    refine hRel.perm ?_
    have h2:(dblk d :: ap ((oth [i] A.length).filterMap (A[·]?)) Ts).Perm (ap A Ts):=List.Perm.append_right Ts.flatten hp
    exact h2.append_right F
  have hd:w.heap[d]?=some (.deferred (some [])):=h1.holds (dblk d) (by simp)
  have h2:=(h1.putObj (F:=[]) (.obj (.deferred none)))
  rw [hF.defs]
  refine ⟨by simp,.inl ⟨d,_,rfl,run_takeDeferred hd,?_⟩⟩
  exact hk.h hR { a with defers:=D } _ ⟨hF.size,rfl,hF.has⟩ (Rel.drop (X:=[(d,Blk.obj (.deferred none))]) h2) (hB.trans (below_putObj _ _))
end
theorem tick1_sp (c0 c1 c2 c3 c4:Value) (F:HL):SpD Tryz.prog 59 #[c0,c1,c2,c3,c4] [] F (λ _ H'=>H'=[]):=by
  intro w hR
  refine callsDIn_of_wpSIn (F:=Wr none) (n:=0) Tryz.func59 rfl trivial λ c₀ cs hu=>?_
  have hrc:recoverD (c₀ :: cs)=none:=by simp [recoverD,hu]
  refine wpSIn_seq (wpSIn_region ?_)
  show wpOpsSIn _ _ _ _ _ [0,1] _ _ _
  simp only [wpOpsSIn,List.getElem?_toArray,List.getElem?_cons_zero,List.getElem?_cons_succ]
  simp [wpOpsSIn,go_sem,hrc,Tryz.ntmps59,Exit.thenS]
  refine wpSIn_cond (t:=false) (by simp [Act.eval,Array.replicate]) ?_
  refine wpSIn_of_wpIn rfl ?_
  refine wpIn_skip ?_
  simp [bodyPostS,results,Tryz.results59,hu]
  exact ⟨.returning,by cases c₀;simp at hu;subst hu;rfl,hu ▸ rfl,hR,Below.refl _ _⟩
end Go.Proofs.YtghjbimijeinfaaGreatDoor
