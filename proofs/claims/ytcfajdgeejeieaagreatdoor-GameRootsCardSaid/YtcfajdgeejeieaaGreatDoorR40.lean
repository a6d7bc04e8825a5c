import Derived.Test.YtcfajdgeejeieaaGreatDoorR39
import Derived.Test.YtcfajdgeejeieaaGreatDoorProg
import Derived.Test.YtcfajdgeejeieaaGreatDoorR28
import Derived.Test.YtcfajdgeejeieaaGreatDoorR12
set_option maxHeartbeats 4000000
set_option maxRecDepth 100000
set_option linter.unusedSimpArgs false
set_option linter.unusedVariables false
namespace Go.Proofs.YtcfajdgeejeieaaGreatDoor
open Go.RowKit
noncomputable section
def iv (x:Int):Value:=.int .i64 x
def cefV:List Value:=[iv 0,iv 0,iv 0,iv 1,iv 0,iv 1,iv 1,iv 0,iv 1,iv 1,iv 2,iv 0,iv 0,iv 1,iv 0,iv 1,iv 0,iv 1,iv 2,iv 1,iv 2,iv 1,iv 2,iv 1,iv 2,iv 1,iv 1,iv 1,iv 2,iv 1,iv 2,iv 1,iv 2,iv 1,iv 1,iv 1,iv 0,iv 0,iv 1,iv 0,iv 2,iv 0,iv 0,iv 0]
def tabsE:List PB:=[(0,cefV,293)]
def src1:String:="on tick { n = n + 1; if n >= 3 { effect 1, n; n = 0; } }"
def src2:String:="on act { vx[self] = vx[self] + 100 * other; effect 2, self; } on hit { a[self] = a[self] + 1; effect 3, other; }"
def src3:String:="on hit { if hit[other] == self + 1 && a[self] < a[other] { vx[self] = -vx[self]; b[self] = tick; } else { stop; } effect 4, a[self]; }"
def src4:String:="on tick { i = 0; while i < 4 { b[i] = b[i] + still[i]; i = i + 1; } s = s + x[0] / 100; effect 5, s; } on act { s = 0; }"
def cod1:List Value:=[iv 2,iv 0,iv 1,iv 1,iv 9,iv 0,iv 3,iv 0,iv 1,iv 3,iv 2,iv 0,iv 15,iv 0,iv 19,iv 14,iv 1,iv 1,iv 2,iv 0,iv 20,iv 0,iv 1,iv 0,iv 3,iv 0,iv 18,iv 14,iv 21,iv 0]
def cod2:List Value:=[iv 6,iv 0,iv 6,iv 0,iv 4,iv 2,iv 1,iv 100,iv 7,iv 0,iv 11,iv 0,iv 9,iv 0,iv 5,iv 2,iv 1,iv 2,iv 6,iv 0,iv 20,iv 0,iv 21,iv 0,iv 6,iv 0,iv 6,iv 0,iv 4,iv 4,iv 1,iv 1,iv 9,iv 0,iv 5,iv 4,iv 1,iv 3,iv 7,iv 0,iv 20,iv 0,iv 21,iv 0]
def cod3:List Value:=[iv 7,iv 0,iv 4,iv 6,iv 6,iv 0,iv 1,iv 1,iv 9,iv 0,iv 16,iv 0,iv 19,iv 13,iv 6,iv 0,iv 4,iv 4,iv 7,iv 0,iv 4,iv 4,iv 14,iv 0,iv 18,iv 14,iv 1,iv 0,iv 19,iv 24,iv 6,iv 0,iv 6,iv 0,iv 4,iv 2,iv 13,iv 0,iv 5,iv 2,iv 6,iv 0,iv 8,iv 0,iv 5,iv 5,iv 18,iv 25,iv 21,iv 0,iv 1,iv 4,iv 6,iv 0,iv 4,iv 4,iv 20,iv 0,iv 21,iv 0]
def cod4:List Value:=[iv 1,iv 0,iv 3,iv 0,iv 21,iv 0,iv 1,iv 0,iv 3,iv 1,iv 2,iv 1,iv 1,iv 4,iv 14,iv 0,iv 19,iv 21,iv 2,iv 1,iv 2,iv 1,iv 4,iv 5,iv 2,iv 1,iv 4,iv 7,iv 9,iv 0,iv 5,iv 5,iv 2,iv 1,iv 1,iv 1,iv 9,iv 0,iv 3,iv 1,iv 18,iv 5,iv 2,iv 0,iv 1,iv 0,iv 4,iv 0,iv 1,iv 100,iv 12,iv 0,iv 9,iv 0,iv 3,iv 0,iv 1,iv 5,iv 2,iv 0,iv 20,iv 0,iv 21,iv 0]
def resP (h len:Nat) (a b c:Int):Value:=.tuple ⟨[.agg ⟨[.slice (some ⟨h,0,none⟩) len unk,iv a,iv b,iv c]⟩,iv 0]⟩
def res0:Value:=.tuple ⟨[.agg ⟨[.slice none 0 0,iv (-1),iv (-1),iv (-1)]⟩,iv 0]⟩
def progQ (src:String) (picks:List PB) (v:Value):Bool:=resQ tabsE picks v (runK Tryz.prog 3 100000 (.fn 78 [.string src.toUTF8] (tabH tabsE) 3))
theorem mixed:Tryz.prog.follows .mixedOrders=true:=by kernel_rfl
theorem prog_sp {src:String} {h:Nat} {cod:List Value} {ty:TypeId} {v:Value} {F:HL} (hh:h ≠ 0) (hq:progQ src [(h,cod,ty)] v=true) :
    Sp Tryz.prog 78 #[.string src.toUTF8] (tabsE.map tabB) F λ v' H'=>∃ ν rest,v'=outV ν v /\ H'=tabsE.map tabB++[pickB ν rest (h,cod,ty)] :=
  closed_sp (G:=3) (tabs:=tabsE) (picks:=[(h,cod,ty)]) mixed rfl rfl rfl (by simp [tabsE,hh.symm]) hq
theorem prog_q0:progQ "" [] res0=true:=by kernel_rfl
end
theorem prog_q1:progQ src1 [(1095,cod1,206)] (resP 1095 15 (-1) 0 (-1))=true:=by kernel_rfl
theorem prog_q2:progQ src2 [(1804,cod2,206)] (resP 1804 22 0 (-1) 12)=true:=by kernel_rfl
theorem prog_q3:progQ src3 [(2348,cod3,206)] (resP 2348 30 (-1) (-1) 0)=true:=by kernel_rfl
theorem prog_q4:progQ src4 [(2279,cod4,206)] (resP 2279 32 0 3 (-1))=true:=by kernel_rfl
noncomputable section
def srcBi:Nat -> ByteArray
  | 0=>"".toUTF8
  | 1=>src1.toUTF8
  | 2=>src2.toUTF8
  | 3=>src3.toUTF8
  | _=>src4.toUTF8
def codB:Nat -> List Value
  | 0=>[]
  | 1=>cod1
  | 2=>cod2
  | 3=>cod3
  | _=>cod4
def lenB:Nat -> Nat
  | 0=>0
  | 1=>15
  | 2=>22
  | 3=>30
  | _=>32
def entB:Nat -> List Value
  | 0=>[iv (-1),iv (-1),iv (-1)]
  | 1=>[iv (-1),iv 0,iv (-1)]
  | 2=>[iv 0,iv (-1),iv 12]
  | 3=>[iv (-1),iv (-1),iv 0]
  | _=>[iv 0,iv 3,iv (-1)]
inductive PrgV (j:Nat):Value -> HL -> Prop
  | nil:j=0 -> PrgV j (.slice none 0 0) []
  | some (b cap:Nat) (rest:List Value):PrgV j (.slice (some ⟨b,0,none⟩) (lenB j) cap) [(b,.lit (codB j++rest) 206 (0,0))]
theorem outV_resP (ν:Nu) (h len:Nat) (a b c:Int):outV ν (resP h len a b c)=.tuple ⟨[.agg ⟨[.slice (some ⟨nub ν h,0,none⟩) len (kap ν h unk),iv a,iv b,iv c]⟩,iv 0]⟩:=by
  simp only [resP,outV,outA,outL,iv]
theorem prog_any {j:Nat} (hj:j < 5) {F:HL}:Sp Tryz.prog 78 #[.string (srcBi j)] (tabsE.map tabB) F λ u H'=>∃ s Hp,PrgV j s Hp /\ u=.tuple ⟨[.agg ⟨s :: entB j⟩,iv 0]⟩ /\ H'=tabsE.map tabB++Hp:=by
  match j,hj with
  | 0,_ =>
    refine (closed_sp (G:=3) (tabs:=tabsE) (picks:=[]) mixed rfl rfl rfl (by simp [tabsE]) prog_q0).mono ?_
    rintro u H' ⟨ν,rest,rfl,rfl⟩
    exact ⟨_,[],.nil rfl,rfl,rfl⟩
  | 1,_ =>
    refine (prog_sp (by decide) prog_q1).mono ?_
    rintro u H' ⟨ν,rest,rfl,rfl⟩
    exact ⟨_,_,.some _ _ _,outV_resP ..,rfl⟩
  | 2,_ =>
    refine (prog_sp (by decide) prog_q2).mono ?_
    rintro u H' ⟨ν,rest,rfl,rfl⟩
    exact ⟨_,_,.some _ _ _,outV_resP ..,rfl⟩
  | 3,_ =>
    refine (prog_sp (by decide) prog_q3).mono ?_
    rintro u H' ⟨ν,rest,rfl,rfl⟩
    exact ⟨_,_,.some _ _ _,outV_resP ..,rfl⟩
  | 4,_ =>
    refine (prog_sp (by decide) prog_q4).mono ?_
    rintro u H' ⟨ν,rest,rfl,rfl⟩
    exact ⟨_,_,.some _ _ _,outV_resP ..,rfl⟩
theorem prog_in {j:Nat} (hj:j < 5) {F:HL} (hF:(0,Blk.lit cefV 293 (0,0)) ∈ F):Sp Tryz.prog 78 #[.string (srcBi j)] [] F λ u H'=>∃ s,PrgV j s H' /\ u=.tuple ⟨[.agg ⟨s :: entB j⟩,iv 0]⟩ :=
  Sp.table hF λ F0=>(prog_any hj).mono λ u H' ⟨s,Hp,h1,h2,h3⟩=>⟨Hp,⟨s,h1,h2⟩,h3⟩
end
def entI (j k:Nat):Int:=match (entB j)[k]? with | some (.int _ x)=>x | _=>0
def insOf:List Value -> List Ins
 | .int _ a :: .int _ b :: r=>⟨a,b⟩ :: insOf r
 | _=>[]
def insB (j:Nat):List Ins:=insOf (codB j)
theorem insB_len:∀ {j:Nat},j < 5 -> (insB j).length=lenB j
 | 0,_=>by kernel_rfl
 | 1,_=>by kernel_rfl
 | 2,_=>by kernel_rfl
 | 3,_=>by kernel_rfl
 | 4,_=>by kernel_rfl
 | j+5,h=>absurd h (by omega)
theorem insB_cells:∀ {j:Nat},j < 5 -> codB j=cellsE insE (insB j)
 | 0,_=>by kernel_rfl
 | 1,_=>by kernel_rfl
 | 2,_=>by kernel_rfl
 | 3,_=>by kernel_rfl
 | 4,_=>by kernel_rfl
 | j+5,h=>absurd h (by omega)
theorem lenB_le:∀ {j:Nat},j < 5 -> lenB j <= 32
 | 0,_=>by decide
 | 1,_=>by decide
 | 2,_=>by decide
 | 3,_=>by decide
 | 4,_=>by decide
 | j+5,h=>absurd h (by omega)
theorem entB_eq:∀ {j:Nat},j < 5 -> entB j=[vI (entI j 0),vI (entI j 1),vI (entI j 2)]
 | 0,_=>by kernel_rfl
 | 1,_=>by kernel_rfl
 | 2,_=>by kernel_rfl
 | 3,_=>by kernel_rfl
 | 4,_=>by kernel_rfl
 | j+5,h=>absurd h (by omega)
abbrev TabIn (F:HL):Prop:=(0,Blk.lit cefV 293 (0,0)) ∈ F
def CodT (j:Nat) (A:Option Addr) (T:HL):Prop:=∀ F,(∀ x ∈ T,x ∈ F) -> SrcIn Tryz.prog insE F A (lenB j) (insB j)
theorem prog_w {j:Nat} (hj:j < 5) (F:HL) (hE:TabIn F):Sp Tryz.prog 78 #[.string (srcBi j)] (ap [] []) F (λ u H'=>∃ x:Option Addr × Nat × HL,H'=ap [] [x.2.2] /\ (u=.tuple #[.agg #[.slice x.1 (lenB j) x.2.1,vI (entI j 0),vI (entI j 1),vI (entI j 2)],vI 0] /\ CodT j x.1 x.2.2)):=by
 refine (prog_in hj hE).mono ?_
 rintro u H' ⟨s,hp,rfl⟩
 rw [entB_eq hj]
 cases hp with
 | nil h0 =>
  subst h0
  exact ⟨(none,0,[]),(ap_one _).symm,rfl,λ F hF=>SrcIn.none⟩
 | some b cap rest =>
  refine ⟨(some ⟨b,0,none⟩,cap,[(b,.lit (codB j++rest) 206 (0,0))]),(ap_one _).symm,rfl,λ F hF=>?_⟩
  have h:=SrcIn.lit insEOk (xs:=insB j) (rest:=rest) (ty:=206) (fz:=(0,0)) (F:=F) (q:=b) (by rw [<- insB_cells hj];exact hF _ (List.mem_singleton.2 rfl))
  rw [insB_len hj] at h
  exact h
inductive Book1 (j bp:Nat):HL -> Prop
 | mk (q:Nat) (A:Option Addr) (c:Nat) (T:HL) (h:CodT j A T):Book1 j bp (ap [(bp,.lit [vS q 0 1 1] 162 (0,0)),(q,.lit [vI 0,.slice A (lenB j) c,vI (entI j 0),vI (entI j 1),vI (entI j 2)] 159 (0,0))] [T])
def srcL:List Value:=[.string ⟨#[]⟩,.string ⟨#[111,110,32,116,105,99,107,32,123,32,110,32,61,32,110,32,43,32,49,59,32,105,102,32,110,32,62,61,32,51,32,123,32,101,102,102,101,99,116,32,49,44,32,110,59,32,110,32,61,32,48,59,32,125,32,125]⟩,.string ⟨#[111,110,32,97,99,116,32,123,32,118,120,91,115,101,108,102,93,32,61,32,118,120,91,115,101,108,102,93,32,43,32,49,48,48,32,42,32,111,116,104,101,114,59,32,101,102,102,101,99,116,32,50,44,32,115,101,108,102,59,32,125,32,111,110,32,104,105,116,32,123,32,97,91,115,101,108,102,93,32,61,32,97,91,115,101,108,102,93,32,43,32,49,59,32,101,102,102,101,99,116,32,51,44,32,111,116,104,101,114,59,32,125]⟩,.string ⟨#[111,110,32,104,105,116,32,123,32,105,102,32,104,105,116,91,111,116,104,101,114,93,32,61,61,32,115,101,108,102,32,43,32,49,32,38,38,32,97,91,115,101,108,102,93,32,60,32,97,91,111,116,104,101,114,93,32,123,32,118,120,91,115,101,108,102,93,32,61,32,45,118,120,91,115,101,108,102,93,59,32,98,91,115,101,108,102,93,32,61,32,116,105,99,107,59,32,125,32,101,108,115,101,32,123,32,115,116,111,112,59,32,125,32,101,102,102,101,99,116,32,52,44,32,97,91,115,101,108,102,93,59,32,125]⟩,.string ⟨#[111,110,32,116,105,99,107,32,123,32,105,32,61,32,48,59,32,119,104,105,108,101,32,105,32,60,32,52,32,123,32,98,91,105,93,32,61,32,98,91,105,93,32,43,32,115,116,105,108,108,91,105,93,59,32,105,32,61,32,105,32,43,32,49,59,32,125,32,115,32,61,32,115,32,43,32,120,91,48,93,32,47,32,49,48,48,59,32,101,102,102,101,99,116,32,53,44,32,115,59,32,125,32,111,110,32,97,99,116,32,123,32,115,32,61,32,48,59,32,125]⟩]
def srcRow:Nat -> Nat -> Value:=λ i k=>match k with | 0=>.string (srcBi i) | _=>default
theorem sources_run (F:HL):Sp Tryz.prog 79 #[] [] F (λ u H'=>∃ q:Nat,H'=ap [(q,.lit srcL 9 (0,0))] [] /\ u=vS q 0 5 5):=by
 refine Sp.run Tryz.func79 rfl mn (A:=[]) (Ts:=[]) rfl λ w0=>?_
 refine RN.go 11 [] λ n1=>RN.ret [] [0] [] (v:=vS (n1+0) 0 5 5) (H':=(ap [((n1+0),.lit srcL 9 (0,0))] [])) ?_
 exact ⟨_,rfl,rfl⟩
theorem sources_ap (F:HL):Sp Tryz.prog 79 #[] (ap [] []) F (λ u H'=>∃ q:Nat,H'=ap [(q,.lit srcL 9 (0,0))] [] /\ u=vS q 0 5 5):=sources_run F
theorem source_any (n:Int) (F:HL) (hn:i64r n):Sp Tryz.prog 39 #[vI n] [] F (λ u H'=>u=.string (srcBi (around n 5).toNat) /\ H'=[]):=by
 refine Sp.run Tryz.func39 rfl mn (A:=[]) (Ts:=[]) rfl λ w0=>?_
 refine RN.go 7 [] λ _=>RN.ct (Hp:=[]) (Tp:=[]) [] [] (sources_ap _) ?_
 rintro _ q1 rfl
 refine RN.go 1 [] λ _=>RN.cp (around_any n 5 (by decide) _) ?_
 have hA2:=around_bd (n:=n) hn 5 (by decide)
 refine RN.dn 0 (.rows 1 5 srcRow 9 (0,0))<|RN.goP 5 [.ix ((around n 5).toNat),.row 0 ((around n 5).toNat) 0] [(0+((around n 5).toNat) * 1)=((around n 5).toNat) * 1+0 /\ ((around n 5).toNat) < 5,around n 5=(((around n 5).toNat:Nat):Int) /\ (around n 5).toNat < 5] λ _=>?_
 exact RN.ret [] [] [] ⟨rfl,rfl⟩
theorem pnew_run (j:Nat) (F:HL) (hj:j < 5) (hE:TabIn F):Sp Tryz.prog 38 #[.string (srcBi j)] [] F (λ u H'=>∃ x:Nat × HL,H'=ap [] [x.2] /\ (u=.tuple #[vP x.1 0,vI 0] /\ Book1 j x.1 x.2)):=by
 refine Sp.run Tryz.func38 rfl mn (A:=[]) (Ts:=[]) rfl λ w0=>?_
 refine RN.go 9 [] λ _=>RN.ct (Hp:=[]) (Tp:=[]) [] [] (prog_w hj _ (ro_ap hE)) ?_
 rintro _ ⟨A1,c2,T3⟩ ⟨rfl,hC4⟩
 dsimp only at hC4
 refine RN.go 29 (ow 0 8) λ n5=>RN.ret [] [0,1] [0] (v:=.tuple #[vP (n5+2) 0,vI 0]) (H':=(ap [((n5+2),.lit [vS (n5+1) 0 1 1] 162 (0,0)),((n5+1),.lit [vI 0,.slice A1 (lenB j) c2,vI (entI j 0),vI (entI j 1),vI (entI j 2)] 159 (0,0))] [T3])) ?_
 exact ⟨((n5+2),ap [((n5+2),.lit [vS (n5+1) 0 1 1] 162 (0,0)),((n5+1),.lit [vI 0,.slice A1 (lenB j) c2,vI (entI j 0),vI (entI j 1),vI (entI j 2)] 159 (0,0))] [T3]),by simp [ap],rfl,.mk _ _ _ _ hC4⟩
theorem pnew_any (j:Nat) (F:HL) (hj:j < 5) (hE:TabIn F):Sp Tryz.prog 38 #[.string (srcBi j)] (ap [] []) F (λ u H'=>∃ x:Nat × HL,H'=ap [] [x.2] /\ (u=.tuple #[vP x.1 0,vI 0] /\ Book1 j x.1 x.2)):=pnew_run j F hj hE
open Go.Shelf
def SpD (P:Program) (f:FuncId) (args:Array Value) (H F:HL) (R:Value -> HL -> Prop):Prop :=
  ∀ w,Rel (H++F) w -> CallsDIn (Wr none) 0 P f args .returning w λ e u' w'=>u'=.returning /\ ∃ v H',e=.returned v /\ R v H' /\ Rel (H'++F) w' /\ Below 0 w w'
theorem SpD.mono {P:Program} {f:FuncId} {args:Array Value} {H F:HL} {R R':Value -> HL -> Prop} (h:SpD P f args H F R) (hr:∀ v H',R v H' -> R' v H'):SpD P f args H F R' :=
  λ w hR=>(h w hR).mono λ e u' w' ⟨h0,v,H',h1,h2,h3,h4⟩=>⟨h0,v,H',h1,hr _ _ h2,h3,h4⟩
section
variable {r:Option Nat} {P:Program} {N:Nat} {D:List Deferred} {F:HL} {w0:World} {R:HL} {s:Cfg} {Q:Exit -> Act -> World -> Prop}
def dfR (N:Nat) (s:Cfg):Option (FuncId × Array Value × Array Value):=match opAt s with
  | some o=>match o.guard,o.op,(putL N o.dst undef s.L).isSome with
    | none,.defer c,true=>match c.callee with
      | .value f=>match inL s.L f && c.args.toList.all (inL s.L) with
        | true=>match rho s.L f with
          | .func (.func g) first cap=>some (g,first++c.args.map (rho s.L),cap)
          | _=>none
        | false=>none
      | _=>none
    | _,_,_=>none
  | none=>none
abbrev dfD (g:FuncId) (args cap:Array Value):Deferred:={ target:=.fn (.func g) cap,args:=args }
theorem map_rho {L:FL} {a:Act} (hF:Fm N D L a):∀ (l:List Operand),l.all (inL L)=true -> l.map a.eval=l.map (rho L)
  | [],_=>rfl
  | x :: l,h=>by
    rw [List.all_cons,Bool.and_eq_true] at h
    rw [List.map_cons,List.map_cons,hF.eval h.1,map_rho hF l h.2]
theorem RN.df {g:FuncId} {args cap:Array Value} (hk:RN none P N (dfD g args cap :: D) F w0 R (putC N undef s) Q) (h:dfR N s=some (g,args,cap):=by kernel_rfl):RN none P N D F w0 R s Q:=by
  refine ⟨λ hR a w hF hRel hB=>?_⟩
  obtain ⟨cc,kk,L,A,Ts⟩:=s
  unfold dfR at h
  split at h
  case h_2=>cases h
  rename_i o q0
  split at h
  case h_2=>cases h
  rename_i c q1 q2 q3
  split at h
  case h_2=>cases h
  rename_i f q4
  split at h
  case h_2=>cases h
  rename_i q5
  split at h
  case h_2=>cases h
  rename_i g' first cap' q6
  simp only [Option.some.injEq,Prod.mk.injEq] at h
  obtain ⟨e1,e2,e3⟩:=h
  subst e1;subst e2;subst e3
  unfold opAt at q0
  cases cc with
  | code c=>cases q0
  | ex c=>cases q0
  | drw _ _=>cases q0
  | ops ops j =>
    simp only at q0 q3 q5 q6 hF hRel
    have hdrop:ops.toList.drop j=o :: ops.toList.drop (j+1):=by
      have hlt:j < ops.toList.length:=(List.getElem?_eq_some_iff.1 q0).1
      rw [List.drop_eq_getElem_cons hlt,(List.getElem?_eq_some_iff.1 q0).2]
    show wpListIn _ _ _ _ _ _ _ _
    rw [hdrop,wpListIn,if_pos (by simp [Region.wanted,q1])]
    refine ⟨λ _ _=>trivial,?_⟩
    rw [Bool.and_eq_true] at q5
    obtain ⟨L',hl⟩:=putL_some q3 undef
    have hpc:putC N undef ⟨.ops ops j,kk,L,A,Ts⟩=⟨.ops ops (j+1),kk,L',A,Ts⟩:=by
      unfold putC
      simp only [q0,hl]
    have hh:=hk.h hR
    rw [hpc] at hh
    have hargs:c.args.map a.eval=c.args.map (rho L):=by
      apply Array.ext'
      rw [Array.toList_map,Array.toList_map]
      exact map_rho hF _ q5.2
    have e1:a.eval f=.func (.func g') first cap':=(hF.eval q5.1).trans q6
    have hex:(o.semAt (Wr none).round a.eval).run P w=.ok (.defer (dfD g' (first++c.args.map (rho L)) cap')) w:=by
      show (Oper.semAt none a.eval o).run P w=_
      rw [Oper.semAt_none]
      simp only [execOp,q2,resolve,q4,e1,Deferred.ofValue,Sem.run_bind,hargs]
      rfl
    rw [hex,Oper.uponIn_defer]
    have hF':Fm N (dfD g' (first++c.args.map (rho L)) cap' :: D) L { a with defers:=dfD g' (first++c.args.map (rho L)) cap' :: a.defers }:=⟨hF.size,by rw [<- hF.defs],hF.has⟩
    exact hh _ w (hF'.put hl) hRel hB
structure LV (P:Program) (N:Nat) (D:List Deferred) (F:HL) (w0:World) (R:HL) (fn:Func) (R':Value -> HL -> Prop) (s:Cfg):Prop where
  h:(∀ y ∈ R,y ∈ F) -> ∀ a w,Fm N D s.L a -> Rel (ap s.A s.Ts++F) w -> Below 0 w0 w -> LeavesInM (Wr none) 0 P fn a.tmps (SpR F w0 R') a.defers .returning w
theorem RN.lv {fn:Func} {R':Value -> HL -> Prop} (hk:LV P N D F w0 R fn R' s) (hc:isDone s=true:=by kernel_rfl):RN none P N D F w0 R s (bodyPostM (Wr none) 0 P fn (SpR F w0 R')):=by
  refine ⟨λ hR a w hF hRel hB=>?_⟩
  have key:=hk.h hR a w hF hRel hB
  exact isDone_wf hc key key
def aftD (ip jp:List Nat) (Hq:HL) (Tq:List HL) (s:Cfg):Cfg:=setH (λ A=>Hq++(oth ip A.length).filterMap (A[·]?)) (λ Ts=>Tq++(oth jp Ts.length).filterMap (Ts[·]?)) s
theorem LV.df {τ:Type} {fn:Func} {R':Value -> HL -> Prop} {g:FuncId} {args cap:Array Value} (eg:∀ args w,(callFunc g args).run P w=.ok (.enter g args) w) (ip jp:List Nat) {Hp:HL} {Tp:List HL} {Hq:τ -> HL} {Tq:τ -> List HL} {Rv:Value -> τ -> Prop}
    (hc:SpD P g (args++cap) (ap Hp Tp) (ap (othA ip s) (othT jp s)++F) (λ v H'=>∃ x,H'=ap (Hq x) (Tq x) /\ Rv v x)) (hk:∀ v x,Rv v x -> LV P N D F w0 R fn R' (aftD ip jp (Hq x) (Tq x) s))
    (hp:permOk ip jp s=true:=by kernel_rfl) (hH:picks ip jp s=(Hp,Tp):=by kernel_rfl):LV P N (dfD g args cap :: D) F w0 R fn R' s:=by
  unfold permOk at hp
  unfold picks at hH
  rw [Bool.and_eq_true] at hp
  simp only [Prod.mk.injEq] at hH
  obtain ⟨e1,e2⟩:=hH
  refine ⟨λ hR a w hF hRel hB=>?_⟩
  have hperm:(ap Hp Tp++ap (othA ip s) (othT jp s)).Perm (ap s.A s.Ts):=by
    have h1:=ap_perm s.A s.Ts ip (oth ip s.A.length) jp (oth jp s.Ts.length) hp.1 hp.2
    rw [e1,e2] at h1
    exact h1
  have hR1:Rel (ap Hp Tp++(ap (othA ip s) (othT jp s)++F)) w:=by rw [<- List.append_assoc];exact hRel.perm (hperm.append_right F)
  rw [hF.defs]
  refine ⟨by simp,.inr ⟨(λ h=>by cases h),.func g,cap,g,args++cap,rfl,?_,λ _ _=>trivial,?_⟩⟩
  · show (callFunc g (args++cap)).run P w=_
    exact eg _ _
  · refine (hc w hR1).mono ?_
    rintro e u' w' ⟨rfl,v,H',rfl,⟨x,rfl,hv⟩,hR2,hB2⟩
    have:=(hk v x hv).h hR { a with defers:=D } w' ⟨hF.size,rfl,hF.has⟩ ?_ (hB.trans hB2)
    · exact this
    · unfold aftD
      rw [setH_eq.1,setH_eq.2.1]
      refine hR2.perm ?_
      exact (ap_swap _ _ _ _ _).symm
theorem LV.retO {fn:Func} {R':Value -> HL -> Prop} (hints:List Hint) (Ob:List Prop) (hob:AllP Ob) (ip jp:List Nat) {v:Value} {H':HL} (hv:R' v H')
    (h:∀ n0,retV P n0 fn.results.toList R hints s=some (v,resX (retV P n0 fn.results.toList R hints s),resX (retV P n0 fn.results.toList R hints s),Ob):=by intro n0;kernel_rfl)
    (hp:permOk ip jp s=true:=by kernel_rfl) (hH:ap (picks ip jp s).1 (picks ip jp s).2=H':=by kernel_rfl):LV P N [] F w0 R fn R' s:=by
  unfold permOk at hp
  unfold picks at hH
  refine ⟨λ hR a w hF hRel hB=>?_⟩
  rw [Bool.and_eq_true] at hp
  have h':=h w.heap.size
  unfold retV resE at h'
  split at h'
  case h_2=>cases h'
  rename_i vs ss hs
  split at h'
  case h_2=>cases h'
  simp only [resX,Option.some.injEq,Prod.mk.injEq] at h'
  obtain ⟨e1,-,e3,e4⟩:=h'
  have hrun:=resL_run (P:=P) hF hRel fn.results.toList _ _ _ hs rfl rfl hR (λ e=>by cases e) (pairs_eq rfl e3) (by rw [e4];exact AllP.mem hob)
  subst e1
  rw [hF.defs]
  exact ⟨_,results_run (by simp) hrun,_,H',rfl,hv,hRel.takeT ip _ jp _ hp.1 hp.2 hH,hB⟩
theorem LV.ret {fn:Func} {R':Value -> HL -> Prop} (hints:List Hint) (ip jp:List Nat) {v:Value} {H':HL} (hv:R' v H')
    (h:∀ n0,retV P n0 fn.results.toList R hints s=some (v,resX (retV P n0 fn.results.toList R hints s),resX (retV P n0 fn.results.toList R hints s),[]):=by intro n0;kernel_rfl)
    (hp:permOk ip jp s=true:=by kernel_rfl) (hH:ap (picks ip jp s).1 (picks ip jp s).2=H':=by kernel_rfl):LV P N [] F w0 R fn R' s:=LV.retO hints [] trivial ip jp hv h hp hH
end
end Go.Proofs.YtcfajdgeejeieaaGreatDoor
