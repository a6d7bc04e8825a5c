import Derived.Test.YtkhifpbokgabbaaGreatDoorW12
import Derived.Test.YtkhifpbokgabbaaGreatDoorW10
set_option maxHeartbeats 4000000
set_option maxRecDepth 100000
set_option linter.unusedSimpArgs false
set_option linter.unusedVariables false
namespace Go.Proofs.YtkhifpbokgabbaaGreatDoor
open Go.RowKit
def xorU (a b:Int):Int:=IntKind.u64.wrap ((BitVec.ofInt 64 a ^^^ BitVec.ofInt 64 b).toNat:Int)
def orU (a b:Int):Int:=IntKind.u64.wrap ((BitVec.ofInt 64 a ||| BitVec.ofInt 64 b).toNat:Int)
def mixH (a b:Int):Int:=xorU (IntKind.u64.wrap (xorU a b * 11400714819323198485)) ((IntKind.u64.wrap (xorU a b * 11400714819323198485)).fdiv 4294967296)
def wordK (b:ByteArray) (i:Nat):Nat -> Int
 | 0=>0
 | k+1=>orU (wordK b i k) (IntKind.u64.wrap (IntKind.u64.wrap (strAt b (8 * i+k)) * 2 ^ min (8 * (k:Int)).toNat 64))
def wk (b:ByteArray) (i:Nat):Nat:=min 8 (b.size - 8 * i)
def wn (b:ByteArray):Nat:=(b.size+7) / 8
def wordsL (b:ByteArray):List Int:=(List.range (wn b)).map λ i=>wordK b i (wk b i)
theorem wordsL_len (b:ByteArray):(wordsL b).length=wn b:=by simp [wordsL]
theorem wordsL_get {b:ByteArray} {i:Nat} (h:8 * i < b.size):(wordsL b)[i]?=some (wordK b i (wk b i)):=by
 have:i < wn b:=by unfold wn;omega
 simp [wordsL,this]
def beginK (b:ByteArray):Nat -> Int
 | 0=>0
 | m+1=>mixH (beginK b m) ((wordsL b).getD m 0)
def beginH (b:ByteArray) (n:Int):Int:=mixH (mixH (beginK b (wordsL b).length) (IntKind.u64.wrap (b.size:Int))) (IntKind.u64.wrap n)
def sumK (s:Int) (xs:List Int):Nat -> Int
 | 0=>s
 | k+1=>mixH (sumK s xs k) (IntKind.u64.wrap (xs.getD k 0))
def sumH (b:ByteArray) (xs:List Int):Int:=mixH (sumK (beginH b xs.length) xs xs.length) 0
abbrev encU (x:Int):Array Value:=#[.int .u64 x]
theorem getDi_of {xs:List Int} {i:Nat} {x:Int} (h:xs[i]?=some x):xs.getD i 0=x:=by rw [List.getD_eq_getElem?_getD,h];rfl
theorem mix_any (a b:Int) (F:HL):Sp Tryz.prog 184 #[.int .u64 a,.int .u64 b] [] F (λ u H'=>u=.int .u64 (mixH a b) /\ H'=[]):=by
 refine Sp.run Tryz.func184 rfl mn (A:=[]) (Ts:=[]) rfl λ w0=>?_
 refine RN.go 23 [] λ _=>?_
 exact RN.ret [] [] [] ⟨rfl,rfl⟩
theorem words_run (b:ByteArray) (q lp:Nat) (X F:HL) (J:Nat -> HL -> Prop) (Jx:HL -> Prop) (T0:HL) (hb:b.size <= 1000000) (hq:(q,.lit [.string b] 9 (0,0)) ∈ F) (hY:∀ i x H Y,(wordsL b)[i]?=some x -> J i H -> YL Tryz.prog lp (encU x) H (Y++(X++F)) (λ b H'=>(b=true /\ J (i+1) H') \/ (b=false /\ Jx H'))) (hJ0:J 0 T0):Sp Tryz.prog 187 #[.func (.yield lp) #[] #[],vP q 0] (ap [] [T0]) (X++F) (λ _ H'=>J (wordsL b).length H' \/ Jx H'):=by
 refine Sp.run Tryz.func187 rfl (mc (List.mem_append_right _ hq) mn) (A:=[]) (Ts:=[T0]) rfl λ w0=>?_
 refine RN.go 6 [] λ _=>RN.loop (σ:=Nat × HL) (λ ⟨i,T_⟩=>⟨[(0,.func (.yield lp) #[] #[]),(1,vP q 0),(3,vI (8 * (i:Int)))],[],[T_],i <= wn b /\ J i T_,wn b - i⟩) (0,T0) [] [0] (⟨Nat.zero_le _,hJ0⟩) ?_
 rintro ⟨i,T_⟩ ⟨hi_,hJ_⟩ mt2
 refine RN.go 9 [.ro 0] λ _=>RN.em (8 * (i:Int) < ((b).size:Int)) 9 (λ h3=>?_) λ h3=>?_
 ·refine RN.go 17 [] λ _=>RN.loop (σ:=Nat) (λ k=>⟨[(0,.func (.yield lp) #[] #[]),(1,vP q 0),(3,vI (8 * (i:Int))),(4,.int .u64 (wordK b i k)),(5,vI (k:Int))],[],[T_],k <= 8 /\ 8 * i+k <= b.size,8 - k⟩) 0 [] [0] (⟨by omega,by omega⟩) ?_
  rintro k ⟨hk_,hk2_⟩ mt5
  refine RN.go 6 [] λ _=>RN.em ((k:Int) < 8) 14 (λ h6=>?_) λ h6=>?_
  ·refine RN.goP 9 [.nw,.ro 0] [I64 ((8 * (i:Int))+(k:Int))] λ _=>RN.em ((8 * (i:Int))+(k:Int) < ((b).size:Int)) 21 (λ h7=>?_) λ h7=>?_
   ·refine RN.goP 26 [.ro 0,.nw,.ix (8 * i+k),.nw,.dv,.gen,.nw] [I64 ((k:Int)+1),0 <= 8 * (k:Int),I64 (8 * (k:Int)),(8 * (i:Int))+(k:Int)=(((8 * i+k):Nat):Int) /\ (8 * i+k) < (b).size,I64 ((8 * (i:Int))+(k:Int))] λ _=>?_
    refine mt5 (k+1) [] [0] ?_
    try dsimp only
    exact ⟨⟨by omega,by omega⟩,by omega⟩
   ·obtain rfl:k=wk b i:=by unfold wk;omega
    refine RN.go 10 [] λ _=>RN.yield 0 (hY i (wordK b i (wk b i)) _ _ (wordsL_get (by omega)) hJ_) ?_
    rintro b_ T8 (⟨rfl,hJ9⟩ | ⟨rfl,hJ9⟩)
    ·refine RN.goP 12 [.gen,.nw] [I64 ((8 * (i:Int))+8)] λ _=>RN.sv 3 (congrArg (λ v_=>(vI v_:Value)) (show (8 * (i:Int)+8)=8 * ((i+1:Nat):Int) by omega)) ?_
     refine mt2 (i+1,T8) [] [0] ?_
     try dsimp only
     exact ⟨⟨by unfold wn at *;omega,hJ9⟩,by unfold wn at *;omega⟩
    ·refine RN.go 4 [] λ _=>RN.ret [] [] [0] (v:=.tuple #[]) (H':=(ap [] [T8])) ?_
     rw [ap_one]
     exact .inr hJ9
  ·obtain rfl:k=wk b i:=by unfold wk;omega
   refine RN.go 19 [] λ _=>RN.yield 0 (hY i (wordK b i (wk b i)) _ _ (wordsL_get (by omega)) hJ_) ?_
   rintro b_ T10 (⟨rfl,hJ11⟩ | ⟨rfl,hJ11⟩)
   ·refine RN.goP 12 [.gen,.nw] [I64 ((8 * (i:Int))+8)] λ _=>RN.sv 3 (congrArg (λ v_=>(vI v_:Value)) (show (8 * (i:Int)+8)=8 * ((i+1:Nat):Int) by omega)) ?_
    refine mt2 (i+1,T10) [] [0] ?_
    try dsimp only
    exact ⟨⟨by unfold wn at *;omega,hJ11⟩,by unfold wn at *;omega⟩
   ·refine RN.go 4 [] λ _=>RN.ret [] [] [0] (v:=.tuple #[]) (H':=(ap [] [T10])) ?_
    rw [ap_one]
    exact .inr hJ11
 ·obtain rfl:i=wn b:=by unfold wn at *;omega
  refine RN.go 5 [] λ _=>RN.ret [] [] [0] (v:=.tuple #[]) (H':=(ap [] [T_])) ?_
  rw [ap_one]
  exact .inl (by rw [wordsL_len];exact hJ_)
theorem words_it (b:ByteArray) (q:Nat) (F:HL) (hb:b.size <= 1000000) (hq:(q,.lit [.string b] 9 (0,0)) ∈ F):It Tryz.prog 187 #[vP q 0] F encU (wordsL b):=by
 intro X l J Jx H0 hY h0
 have key:=words_run b q l X F J Jx H0 hb hq hY h0
 rw [ap_one] at key
 exact key
theorem words_any (b:ByteArray) (F:HL):Sp Tryz.prog 186 #[.string b] [] F (λ u H'=>∃ n:Nat,H'=ap [((n+0),.lit [.string b] 9 (0,0))] [] /\ u=.func (.func 187) #[] #[vP (n+0) 0]):=by
 refine Sp.run Tryz.func186 rfl mn (A:=[]) (Ts:=[]) rfl λ w0=>?_
 refine RN.go 12 [] λ n1=>RN.ret [] [0] [] (v:=.func (.func 187) #[] #[vP (n1+0) 0]) (H':=(ap [((n1+0),.lit [.string b] 9 (0,0))] [])) ?_
 exact ⟨_,rfl,rfl⟩
theorem words_ap (b:ByteArray) (F:HL):Sp Tryz.prog 186 #[.string b] (ap [] []) F (λ u H'=>∃ n:Nat,H'=ap [((n+0),.lit [.string b] 9 (0,0))] [] /\ u=.func (.func 187) #[] #[vP (n+0) 0]):=words_any b F
theorem hbegin_any (b:ByteArray) (n:Int) (F:HL) (hb:b.size <= 1000000):Sp Tryz.prog 183 #[.string b,vI n] [] F (λ u H'=>u=.int .u64 (beginH b n) /\ H'=[]):=by
 refine Sp.runM Tryz.func183 rfl mn (A:=[]) (Ts:=[]) rfl λ w0=>?_
 refine RN.go 14 [] λ n1=>RN.ct (Hp:=[]) (Tp:=[]) [] [] (words_ap b _) ?_
 rintro _ m2 rfl
 refine RN.go 3 [] λ _=>RN.range (σ:=Nat) (τ:=Nat × Int) (encs:=λ (x_:Int)=>#[.int .u64 x_]) (xs:=(wordsL b)) (enters_of Tryz.func187 (by kernel_rfl) rfl) (λ m_=>([((n1+0),.lit [.int .u64 (beginK b m_)] 152 (0,0))],[])) (λ i_ m_=>m_=i_) (λ c_ m_=>False) (λ ⟨m_,y_⟩=>⟨[(0,.string b),(1,vI n),(5,vP (n1+0) 0),(6,.int .u64 y_)],[((n1+0),.lit [.int .u64 (beginK b m_)] 152 (0,0))],[],True,0⟩) (λ i_ x_ ⟨m_,y_⟩=>m_=i_ /\ y_=x_) 0 rfl [1] [] (words_it b (m2+0) _ hb (in_ap 0)) ?_ ?_ ?_ ?_
 ·rintro l_ i_ x_ m_ Y3 w4 hx5 rfl mt6
  refine RN.go 3 [] λ _=>?_
  refine mt6 (m_,x_) [0] [] ?_
  try dsimp only
  exact ⟨rfl,rfl⟩
 ·rintro l_ i_ x_ ⟨m_,y_⟩ Y7 w8 hx9 ⟨rfl,ey_⟩
  refine RN.go 4 [.own 0] λ _=>RN.cp (mix_any (beginK b m_) y_ _)<|RN.go 3 [.own 0] λ _=>?_
  have e_:beginK b (m_+1)=mixH (beginK b m_) y_:=by rw [beginK,ey_,getDi_of hx9]
  refine RN.bv 0 (congrArg (λ v_=>(.lit [.int .u64 v_] 152 (0,0):Blk)) e_.symm)<|RN.rn (m_+1) [0] [] ?_
  try dsimp only
  first | done | rfl
 ·rintro d10 m_  rfl
  refine RN.go 8 [.own 1] λ _=>RN.cp (mix_any (beginK b (wordsL b).length) (IntKind.u64.wrap ((b).size:Int)) _)<|RN.go 2 [] λ _=>RN.cp (mix_any (mixH (beginK b (wordsL b).length) (IntKind.u64.wrap ((b).size:Int))) (IntKind.u64.wrap n) _)<|RN.go 3 [] λ _=>?_
  exact RN.retM [d10] [0] [] [] [] ⟨rfl,rfl⟩
 ·exact λ _ _ _ h=>h.elim
theorem hsum_any (b:ByteArray) (xs:List Int) (q c:Nat) (F:HL) (hb:b.size <= 1000000) (hl:xs.length <= c) (hl2:xs.length <= 1000000) (hq:(q,.rows 1 c (irow xs) 3 (0,0)) ∈ F):Sp Tryz.prog 181 #[.string b,vS q 0 xs.length c] [] F (λ u H'=>u=.int .u64 (sumH b xs) /\ H'=[]):=by
 refine Sp.run Tryz.func181 rfl (mc hq mn) (A:=[]) (Ts:=[]) rfl λ w0=>?_
 refine RN.go 10 [] λ _=>RN.cp (hbegin_any b (xs.length:Int) _ (by assumption))<|RN.go 12 [] λ _=>RN.loop (σ:=Nat) (λ k=>⟨[(5,.int .u64 (sumK (beginH b xs.length) xs k)),(12,vS q 0 xs.length c),(13,vI (xs.length:Int)),(14,vI (k:Int))],[],[],k <= xs.length,xs.length - k⟩) 0 [] [] (Nat.zero_le _) ?_
 rintro k hI1 mt2
 refine RN.go 6 [] λ _=>RN.em ((k:Int) < (xs.length:Int)) 15 (λ h3=>?_) λ h3=>?_
 ·refine RN.goP 16 [.ix k,.rorow 0 k 0] [(0+k * 1)=k * 1+0 /\ k < c,(k:Int)=((k:Nat):Int) /\ k < xs.length] λ _=>RN.cp (mix_any (sumK (beginH b xs.length) xs k) (IntKind.u64.wrap (xs.getD k 0)) _)<|RN.goP 8 [.nw] [I64 ((k:Int)+1)] λ _=>?_
  refine mt2 (k+1) [] [] ?_
  try dsimp only
  exact ⟨by omega,by omega⟩
 ·obtain rfl:k=xs.length:=by omega
  refine RN.go 9 [] λ _=>RN.cp (mix_any (sumK (beginH b xs.length) xs xs.length) 0 _)<|RN.go 3 [] λ _=>?_
  exact RN.ret [] [] [] ⟨rfl,rfl⟩
variable {K:Kd} {D:Int -> Prop}
structure VR where (M:MemS) (v:Int) (e:Eff) (em:Bool)
def effT:List (Int × Int × Int):=[(0,0,0),(0,1,0),(0,1,16),(1,0,16),(1,1,8),(2,0,8),(0,1,0),(0,1,0),(0,1,0),(2,1,0),(2,1,0),(2,1,0),(2,1,0),(1,1,0),(2,1,0),(2,1,0),(2,1,0),(1,1,0),(0,0,0),(1,0,0),(2,0,0),(0,0,0)]
abbrev eP (op:Int):Int:=(effT.getD op.toNat (0,0,0)).1
abbrev eQ (op:Int):Int:=(effT.getD op.toNat (0,0,0)).2.1
abbrev eN (op:Int):Int:=(effT.getD op.toNat (0,0,0)).2.2
def effrow:Nat -> Nat -> Value:=λ i k=>match k with | 0=>vI (effT.getD i (0,0,0)).1 | 1=>vI (effT.getD i (0,0,0)).2.1 | _=>vI (effT.getD i (0,0,0)).2.2
def satI (n:Int):Int:=clampI n (-2147483647) 2147483647
def boolI (b:Bool):Int:=if b=true then 1 else 0
def exeOk (op n sp:Int):Bool:=if op < 1 then false else if op > 21 then false else if sp > 16 then false else if sp < eP op then false else if w64 (w64 (sp - eP op)+eQ op) > 16 then false else if eN op=0 then true else if n >= 0 then decide (n < eN op) else false
def limF (f v:Int):Int:=if f=0 then clampI v (-1048576) 1048576 else if f=1 then clampI v (-1048576) 1048576 else if f=2 then clampI v (-16384) 16384 else if f=3 then clampI v (-16384) 16384 else v
abbrev effS:ByteArray:=⟨#[101,102,102,101,99,116]⟩
def emitV (k v:Int) (M:MemS):VR:=if M.get 11 >= 40 then ⟨M,0,eff0,false⟩ else ⟨(M.set 12 (w64 ((sumH effS [M.get 12,M.get 0,k,v]).fdiv 2))).set 11 (w64 (M.get 11+1)),0,⟨M.get 0,M.get 11,k,v⟩,true⟩
def execV (S:Setup) (op n a b:Int) (M:MemS):VR :=
 if op=1 then ⟨M,n,eff0,false⟩ else if op=2 then ⟨M,M.get (w64 (32+n)),eff0,false⟩ else if op=6 then ⟨M,M.get 9,eff0,false⟩ else if op=7 then ⟨M,M.get 10,eff0,false⟩ else if op=8 then ⟨M,M.get 0,eff0,false⟩
 else if op=9 then ⟨M,satI (w64 (a+b)),eff0,false⟩ else if op=10 then ⟨M,satI (w64 (a - b)),eff0,false⟩ else if op=11 then ⟨M,satI (w64 (a * b)),eff0,false⟩ else if op=12 then ⟨M,if b=0 then 0 else satI (w64 (a.tdiv b)),eff0,false⟩
 else if op=14 then ⟨M,boolI (decide (a < b)),eff0,false⟩ else if op=15 then ⟨M,boolI (decide (a <= b)),eff0,false⟩ else if op=16 then ⟨M,boolI (decide (a=b)),eff0,false⟩
 else if op=13 then ⟨M,satI (w64 (0 - a)),eff0,false⟩ else if op=17 then ⟨M,boolI (decide (a=0)),eff0,false⟩
 else if op=3 then ⟨M.set (w64 (32+n)) a,0,eff0,false⟩ else if op=4 then ⟨M,if bodyAt S a >= 0 then M.get (w64 (bodyAt S a+n)) else 0,eff0,false⟩ else if op=5 then ⟨if bodyAt S a >= 0 then M.set (w64 (bodyAt S a+n)) (limF n b) else M,0,eff0,false⟩
 else if op=18 then ⟨M.set 6 n,0,eff0,false⟩ else if op=19 then ⟨if a=0 then M.set 6 n else M,0,eff0,false⟩ else if op=20 then ⟨(emitV a b M).M,0,(emitV a b M).e,(emitV a b M).em⟩ else ⟨M,0,eff0,false⟩
def popA (op sp:Int) (M:MemS):Int:=if eP op=2 then M.get (w64 (w64 (16+sp) - eP op)) else if eP op=1 then M.get (w64 (w64 (16+sp) - eP op)) else 0
def popB (op sp:Int) (M:MemS):Int:=if eP op=2 then M.get (w64 (w64 (w64 (16+sp) - eP op)+1)) else 0
def memP (op sp pc fuel:Int) (M:MemS):MemS:=if eP op=eQ op then (M.set 8 (w64 (fuel - 1))).set 6 (w64 (pc+1)) else ((M.set 8 (w64 (fuel - 1))).set 6 (w64 (pc+1))).set 7 (w64 (w64 (sp - eP op)+eQ op))
def stepI (S:Setup) (op n sp pc fuel:Int) (M:MemS):VR:=execV S op n (popA op sp M) (popB op sp M) (memP op sp pc fuel M)
def pushV (op sp:Int) (r:VR):VR:=if eQ op > 0 then ⟨r.M.set (w64 (w64 (16+sp) - eP op)) r.v,r.v,r.e,r.em⟩ else r
abbrev codeA (code:List Ins) (M:MemS):Ins:=code.getD (M.get 6).toNat dIns
def runsV (code:List Ins) (n:Nat) (M:MemS):Prop:=¬ M.get 8 < 1 /\ ¬ M.get 6 < 0 /\ ¬ M.get 6 >= (n:Int) /\ exeOk (codeA code M).op (codeA code M).n (M.get 7)=true
instance (code:List Ins) (n:Nat) (M:MemS):Decidable (runsV code n M):=inferInstanceAs (Decidable (_ /\ _))
def stepV (S:Setup) (code:List Ins) (n:Nat) (M:MemS):VR:=if runsV code n M then pushV (codeA code M).op (M.get 7) (stepI S (codeA code M).op (codeA code M).n (M.get 7) (M.get 6) (M.get 8) M) else ⟨M,0,eff0,false⟩
def endV (code:List Ins) (n:Nat) (M:MemS):Bool:=if runsV code n M then decide ((codeA code M).op=21) else true
def startV (e fuel self other:Int) (M:MemS):MemS:=if e < 0 then M else ((((M.set 6 e).set 7 0).set 8 fuel).set 9 self).set 10 other
abbrev OpD (D:Int -> Prop) (S:Setup) (op n a:Int):Prop:=(op=2 \/ op=3 -> D (w64 (32+n))) /\ (op=4 \/ op=5 -> 0 <= bodyAt S a -> D (w64 (bodyAt S a+n)))
abbrev StD (D:Int -> Prop) (S:Setup) (code:List Ins) (n:Nat) (M:MemS):Prop:=runsV code n M -> (D (w64 (w64 (16+M.get 7) - eP (codeA code M).op)) /\ (eP (codeA code M).op=2 -> D (w64 (w64 (w64 (16+M.get 7) - eP (codeA code M).op)+1)))) /\ OpD D S (codeA code M).op (codeA code M).n (popA (codeA code M).op (M.get 7) M)
def insE:Enc Ins:=⟨2,λ p k=>match k with | 0=>vI p.op | 1=>vI p.n | _=>default,dIns⟩
noncomputable def insEI:TypeInfo:=match Tryz.prog.info? 136 with | some i=>i | none=>⟨.bool,"",0,0,false,0,0,none,false,#[]⟩
noncomputable def insEZ:Value:=match insEI.zero with | some z=>z | none=>.bool false
theorem insEOk:EncOk insE Tryz.prog 136 insEI insEZ where
 info:=by kernel_rfl
 zero:=by kernel_rfl
 size:=by kernel_rfl
 zsize:=by kernel_rfl
 zcell:=λ k hk=>by
  have h:∀ k < 2,insEZ.cells[k]?=some (insE.cell insE.dflt k):=by intro k hk;(iterate 2 (rcases k with _ | k;· kernel_rfl));omega
  exact h k hk
 one:=λ x k=>by unfold insE;dsimp only;split <;> rfl
 bytes:=Nat.le_of_ble_eq_true (by kernel_rfl)
abbrev crow (l:List Ins):Nat -> Nat -> Value:=rowE insE l
inductive CodeIn (F:HL) (code:List Ins):Option Addr -> Nat -> Prop
 | nil (A:Option Addr):CodeIn F code A 0
 | mk (b R n:Nat) (h:(b,.rows 2 R (crow code) 136 (0,0)) ∈ F) (hn:n <= R) (hn2:n <= 1000000):CodeIn F code (some ⟨b,0,none⟩) n
theorem CodeIn.up {F X:HL} {code:List Ins} {A:Option Addr} {n:Nat} (h:CodeIn F code A n):CodeIn (X++F) code A n:=by
 cases h with
 | nil=>exact .nil _
 | mk b R n h h1 h2=>exact .mk b R n (List.mem_append_right _ h) h1 h2
abbrev EffIn (F:HL):Prop:=(1,.rows 3 22 effrow 180 (0,0)) ∈ F
theorem sat_any (n:Int)  (F:HL):Sp Tryz.prog 159 #[vI n] [] F (λ u H'=>u=vI (satI n) /\ H'=[]):=by
 refine Sp.run Tryz.func159 rfl mn (A:=[]) (Ts:=[]) rfl λ w0=>?_
 refine RN.go 8 [] λ _=>RN.cp (clamp_any n (-2147483647) 2147483647  _)<|RN.go 3 [] λ _=>?_
 exact RN.ret [] [] [] ⟨rfl,rfl⟩
theorem truth_any (b:Bool) (F:HL):Sp Tryz.prog 164 #[.bool b] [] F (λ u H'=>u=vI (boolI b) /\ H'=[]):=by
 refine Sp.run Tryz.func164 rfl mn (A:=[]) (Ts:=[]) rfl λ w0=>?_
 refine RN.go 11 [] λ _=>RN.eb (b) 3 (λ h1=>?_) λ h1=>?_
 ·refine RN.go 6 [] λ _=>RN.ret [] [] [] (v:=vI 1) (H':=[]) ?_
  refine ⟨?_,rfl⟩
  first | (simp only [boolI,if_pos h1];done) | (simp only [boolI,if_pos h1];rfl) | rfl
 ·refine RN.go 8 [] λ _=>RN.ret [] [] [] (v:=vI 0) (H':=[]) ?_
  refine ⟨?_,rfl⟩
  first | (simp only [boolI,if_neg h1];done) | (simp only [boolI,if_neg h1];rfl) | rfl
theorem limited_v (f:Int) (v:Int)  (F:HL):Sp Tryz.prog 172 #[vI f,vI v] [] F (λ u H'=>u=vI (limF f v) /\ H'=[]):=by
 refine Sp.run Tryz.func172 rfl mn (A:=[]) (Ts:=[]) rfl λ w0=>?_
 refine RN.go 19 [] λ _=>RN.em (f=0) 6 (λ h1=>?_) λ h1=>?_
 ·refine RN.go 7 [] λ _=>RN.cp (clamp_any v (-1048576) 1048576  _)<|RN.go 3 [] λ _=>RN.ret [] [] [] (v:=vI (clampI v (-1048576) 1048576)) (H':=[]) ?_
  refine ⟨?_,rfl⟩
  first | (simp only [limF,if_pos h1];done) | (simp only [limF,if_pos h1];rfl) | rfl
 ·refine RN.go 6 [] λ _=>RN.em (f=1) 6 (λ h2=>?_) λ h2=>?_
  ·refine RN.go 4 [] λ _=>RN.cp (clamp_any v (-1048576) 1048576  _)<|RN.go 3 [] λ _=>RN.ret [] [] [] (v:=vI (clampI v (-1048576) 1048576)) (H':=[]) ?_
   refine ⟨?_,rfl⟩
   first | (simp only [limF,if_neg h1,if_pos h2];done) | (simp only [limF,if_neg h1,if_pos h2];rfl) | rfl
  ·refine RN.go 8 [] λ _=>RN.em (f=2) 11 (λ h3=>?_) λ h3=>?_
   ·refine RN.go 7 [] λ _=>RN.cp (clamp_any v (-16384) 16384  _)<|RN.go 3 [] λ _=>RN.ret [] [] [] (v:=vI (clampI v (-16384) 16384)) (H':=[]) ?_
    refine ⟨?_,rfl⟩
    first | (simp only [limF,if_neg h1,if_neg h2,if_pos h3];done) | (simp only [limF,if_neg h1,if_neg h2,if_pos h3];rfl) | rfl
   ·refine RN.go 6 [] λ _=>RN.em (f=3) 11 (λ h4=>?_) λ h4=>?_
    ·refine RN.go 4 [] λ _=>RN.cp (clamp_any v (-16384) 16384  _)<|RN.go 3 [] λ _=>RN.ret [] [] [] (v:=vI (clampI v (-16384) 16384)) (H':=[]) ?_
     refine ⟨?_,rfl⟩
     first | (simp only [limF,if_neg h1,if_neg h2,if_neg h3,if_pos h4];done) | (simp only [limF,if_neg h1,if_neg h2,if_neg h3,if_pos h4];rfl) | rfl
    ·refine RN.go 10 [] λ _=>RN.ret [] [] [] (v:=vI v) (H':=[]) ?_
     refine ⟨?_,rfl⟩
     first | (simp only [limF,if_neg h1,if_neg h2,if_neg h3,if_neg h4];done) | (simp only [limF,if_neg h1,if_neg h2,if_neg h3,if_neg h4];rfl) | rfl
theorem exe_any (op n sp:Int) (F:HL) (hE:EffIn F):Sp Tryz.prog 115 #[.agg #[vI op,vI n],vI sp] [] F (λ u H'=>u=.bool (exeOk op n sp) /\ H'=[]):=by
 refine Sp.run Tryz.func115 rfl (mc hE mn) (A:=[]) (Ts:=[]) rfl λ w0=>?_
 refine RN.go 13 [.own 0] λ n1=>RN.em (op < 1) 9 (λ h2=>?_) λ h2=>?_
 ·refine RN.go 16 [] λ _=>RN.ret [] [] [] (v:=.bool false) (H':=[]) ?_
  refine ⟨?_,rfl⟩
  first | (simp only [exeOk,if_pos h2];done) | (simp only [exeOk,if_pos h2];rfl) | rfl
 ·refine RN.go 5 [.own 0] λ _=>RN.em (op > 21) 14 (λ h3=>?_) λ h3=>?_
  ·refine RN.go 11 [] λ _=>RN.ret [] [] [] (v:=.bool false) (H':=[]) ?_
   refine ⟨?_,rfl⟩
   first | (simp only [exeOk,if_neg h2,if_pos h3];done) | (simp only [exeOk,if_neg h2,if_pos h3];rfl) | rfl
  ·refine RN.go 5 [] λ _=>RN.em (sp > 16) 17 (λ h4=>?_) λ h4=>?_
   ·refine RN.go 6 [] λ _=>RN.ret [] [] [] (v:=.bool false) (H':=[]) ?_
    refine ⟨?_,rfl⟩
    first | (simp only [exeOk,if_neg h2,if_neg h3,if_pos h4];done) | (simp only [exeOk,if_neg h2,if_neg h3,if_pos h4];rfl) | rfl
   ·refine RN.goP 21 [.own 0,.ix ((op).toNat),.rorow 0 ((op).toNat) 0,.rorow 0 ((op).toNat) 1,.rorow 0 ((op).toNat) 2,.own 0,.own 0,.own 0,.own 0] [((0+((op).toNat) * 3)+2)=((op).toNat) * 3+2 /\ ((op).toNat) < 22,((0+((op).toNat) * 3)+1)=((op).toNat) * 3+1 /\ ((op).toNat) < 22,(0+((op).toNat) * 3)=((op).toNat) * 3+0 /\ ((op).toNat) < 22,op=(((op).toNat:Nat):Int) /\ (op).toNat < 22] λ n5=>RN.em (sp < eP op) 26 (λ h6=>?_) λ h6=>?_
    ·refine RN.go 17 [] λ _=>RN.ret [] [] [] (v:=.bool false) (H':=[]) ?_
     refine ⟨?_,rfl⟩
     first | (simp only [exeOk,if_neg h2,if_neg h3,if_neg h4,if_pos h6];done) | (simp only [exeOk,if_neg h2,if_neg h3,if_neg h4,if_pos h6];rfl) | rfl
    ·refine RN.go 11 [.own 0,.own 0] λ _=>RN.em (IntKind.i64.wrap ((IntKind.i64.wrap (sp - (eP op)))+(eQ op)) > 16) 35 (λ h7=>?_) λ h7=>?_
     ·refine RN.go 6 [] λ _=>RN.ret [] [] [] (v:=.bool false) (H':=[]) ?_
      refine ⟨?_,rfl⟩
      first | (simp only [exeOk,if_neg h2,if_neg h3,if_neg h4,if_neg h6,if_pos h7];done) | (simp only [exeOk,if_neg h2,if_neg h3,if_neg h4,if_neg h6,if_pos h7];rfl) | rfl
     ·refine RN.go 9 [.own 0] λ _=>RN.em (eN op=0) 39 (λ h8=>?_) λ h8=>?_
      ·refine RN.go 14 [] λ _=>RN.ret [] [] [] (v:=.bool true) (H':=[]) ?_
       refine ⟨?_,rfl⟩
       first | (simp only [exeOk,if_neg h2,if_neg h3,if_neg h4,if_neg h6,if_neg h7,if_pos h8];done) | (simp only [exeOk,if_neg h2,if_neg h3,if_neg h4,if_neg h6,if_neg h7,if_pos h8];rfl) | rfl
      ·refine RN.go 4 [.own 1] λ _=>RN.em (n >= 0) 43 (λ h9=>?_) λ h9=>?_
       ·refine RN.go 10 [.own 1,.own 0] λ _=>RN.ret [] [] [] (v:=.bool (decide (n < eN op))) (H':=[]) ?_
        refine ⟨?_,rfl⟩
        first | (simp only [exeOk,if_neg h2,if_neg h3,if_neg h4,if_neg h6,if_neg h7,if_neg h8,if_pos h9];done) | (simp only [exeOk,if_neg h2,if_neg h3,if_neg h4,if_neg h6,if_neg h7,if_neg h8,if_pos h9];rfl) | rfl
       ·refine RN.go 10 [] λ _=>RN.ret [] [] [] (v:=.bool false) (H':=[]) ?_
        refine ⟨?_,rfl⟩
        first | (simp only [exeOk,if_neg h2,if_neg h3,if_neg h4,if_neg h6,if_neg h7,if_neg h8,if_neg h9];done) | (simp only [exeOk,if_neg h2,if_neg h3,if_neg h4,if_neg h6,if_neg h7,if_neg h8,if_neg h9];rfl) | rfl
theorem ld1 (mb:Nat) (M:MemS) (k:Nat) (T:HL) (n:Int) (F:HL) (hM:MemK K D mb M k T) (hs:∀ x ∈ T,x ∈ F):Sp Tryz.prog 153 #[.iface K.tid (vP mb 0),vI n] [] F (λ u H'=>u=vI (n) /\ H'=[]):=by
 refine Sp.run Tryz.func153 rfl mn (A:=[]) (Ts:=[]) rfl λ w0=>?_
 refine RN.go 11 [] λ _=>?_
 exact RN.ret [] [] [] ⟨rfl,rfl⟩
theorem ld2 (mb:Nat) (M:MemS) (k:Nat) (T:HL) (n:Int) (F:HL) (hM:MemK K D mb M k T) (hs:∀ x ∈ T,x ∈ F) (hO:D (w64 (32+n))):Sp Tryz.prog 154 #[.iface K.tid (vP mb 0),vI n] [] F (λ u H'=>u=vI (M.get (w64 (32+n))) /\ H'=[]):=by
 refine Sp.run Tryz.func154 rfl mn (A:=[]) (Ts:=[]) rfl λ w0=>?_
 refine RN.go 10 [] λ _=>RN.cpK (get_any (IntKind.i64.wrap (32+n)) hM hO λ x hx=>ro_ap (hs x hx))<|RN.go 3 [] λ _=>?_
 exact RN.ret [] [] [] ⟨rfl,rfl⟩
theorem ld3 (mb:Nat) (M:MemS) (k:Nat) (T:HL) (n:Int) (F:HL) (hM:MemK K D mb M k T) (hs:∀ x ∈ T,x ∈ F) (hl:DLo D):Sp Tryz.prog 155 #[.iface K.tid (vP mb 0),vI n] [] F (λ u H'=>u=vI (M.get 9) /\ H'=[]):=by
 refine Sp.run Tryz.func155 rfl mn (A:=[]) (Ts:=[]) rfl λ w0=>?_
 refine RN.go 8 [] λ _=>RN.cpK (get_any 9 hM (hl 9 (by decide) (by decide)) λ x hx=>ro_ap (hs x hx))<|RN.go 3 [] λ _=>?_
 exact RN.ret [] [] [] ⟨rfl,rfl⟩
theorem ld4 (mb:Nat) (M:MemS) (k:Nat) (T:HL) (n:Int) (F:HL) (hM:MemK K D mb M k T) (hs:∀ x ∈ T,x ∈ F) (hl:DLo D):Sp Tryz.prog 156 #[.iface K.tid (vP mb 0),vI n] [] F (λ u H'=>u=vI (M.get 10) /\ H'=[]):=by
 refine Sp.run Tryz.func156 rfl mn (A:=[]) (Ts:=[]) rfl λ w0=>?_
 refine RN.go 8 [] λ _=>RN.cpK (get_any 10 hM (hl 10 (by decide) (by decide)) λ x hx=>ro_ap (hs x hx))<|RN.go 3 [] λ _=>?_
 exact RN.ret [] [] [] ⟨rfl,rfl⟩
theorem ld5 (mb:Nat) (M:MemS) (k:Nat) (T:HL) (n:Int) (F:HL) (hM:MemK K D mb M k T) (hs:∀ x ∈ T,x ∈ F) (hl:DLo D):Sp Tryz.prog 157 #[.iface K.tid (vP mb 0),vI n] [] F (λ u H'=>u=vI (M.get 0) /\ H'=[]):=by
 refine Sp.run Tryz.func157 rfl mn (A:=[]) (Ts:=[]) rfl λ w0=>?_
 refine RN.go 8 [] λ _=>RN.cpK (get_any 0 hM (hl 0 (by decide) (by decide)) λ x hx=>ro_ap (hs x hx))<|RN.go 3 [] λ _=>?_
 exact RN.ret [] [] [] ⟨rfl,rfl⟩
theorem bin1 (a b:Int) (F:HL):Sp Tryz.prog 158 #[vI a,vI b] [] F (λ u H'=>u=vI (satI (w64 (a+b))) /\ H'=[]):=by
 refine Sp.run Tryz.func158 rfl mn (A:=[]) (Ts:=[]) rfl λ w0=>?_
 refine RN.go 10 [] λ _=>RN.cp (sat_any (IntKind.i64.wrap (a+b))  _)<|RN.go 3 [] λ _=>?_
 exact RN.ret [] [] [] ⟨rfl,rfl⟩
theorem bin2 (a b:Int) (F:HL):Sp Tryz.prog 160 #[vI a,vI b] [] F (λ u H'=>u=vI (satI (w64 (a - b))) /\ H'=[]):=by
 refine Sp.run Tryz.func160 rfl mn (A:=[]) (Ts:=[]) rfl λ w0=>?_
 refine RN.go 10 [] λ _=>RN.cp (sat_any (IntKind.i64.wrap (a - b))  _)<|RN.go 3 [] λ _=>?_
 exact RN.ret [] [] [] ⟨rfl,rfl⟩
theorem bin3 (a b:Int) (F:HL):Sp Tryz.prog 161 #[vI a,vI b] [] F (λ u H'=>u=vI (satI (w64 (a * b))) /\ H'=[]):=by
 refine Sp.run Tryz.func161 rfl mn (A:=[]) (Ts:=[]) rfl λ w0=>?_
 refine RN.go 10 [] λ _=>RN.cp (sat_any (IntKind.i64.wrap (a * b))  _)<|RN.go 3 [] λ _=>?_
 exact RN.ret [] [] [] ⟨rfl,rfl⟩
theorem bin4 (a b:Int) (F:HL):Sp Tryz.prog 162 #[vI a,vI b] [] F (λ u H'=>u=vI (if b=0 then 0 else satI (w64 (a.tdiv b))) /\ H'=[]):=by
 refine Sp.run Tryz.func162 rfl mn (A:=[]) (Ts:=[]) rfl λ w0=>?_
 refine RN.go 12 [] λ _=>RN.em (b=0) 6 (λ h1=>?_) λ h1=>?_
 ·refine RN.go 6 [] λ _=>RN.ret [] [] [] (v:=vI 0) (H':=[]) ?_
  exact ⟨by simp [*],rfl⟩
 ·refine RN.goP 8 [.dv] [b ≠ 0] λ _=>RN.cp (sat_any (IntKind.i64.wrap (a.tdiv b))  _)<|RN.go 3 [] λ _=>RN.ret [] [] [] (v:=vI (satI (IntKind.i64.wrap (a.tdiv b)))) (H':=[]) ?_
  exact ⟨by simp [*],rfl⟩
theorem bin5 (a b:Int) (F:HL):Sp Tryz.prog 163 #[vI a,vI b] [] F (λ u H'=>u=vI (boolI (decide (a < b))) /\ H'=[]):=by
 refine Sp.run Tryz.func163 rfl mn (A:=[]) (Ts:=[]) rfl λ w0=>?_
 refine RN.go 10 [] λ _=>RN.cp (truth_any (decide (a < b)) _)<|RN.go 3 [] λ _=>?_
 exact RN.ret [] [] [] ⟨rfl,rfl⟩
theorem bin6 (a b:Int) (F:HL):Sp Tryz.prog 165 #[vI a,vI b] [] F (λ u H'=>u=vI (boolI (decide (a <= b))) /\ H'=[]):=by
 refine Sp.run Tryz.func165 rfl mn (A:=[]) (Ts:=[]) rfl λ w0=>?_
 refine RN.go 10 [] λ _=>RN.cp (truth_any (decide (a <= b)) _)<|RN.go 3 [] λ _=>?_
 exact RN.ret [] [] [] ⟨rfl,rfl⟩
theorem bin7 (a b:Int) (F:HL):Sp Tryz.prog 166 #[vI a,vI b] [] F (λ u H'=>u=vI (boolI (decide (a=b))) /\ H'=[]):=by
 refine Sp.run Tryz.func166 rfl mn (A:=[]) (Ts:=[]) rfl λ w0=>?_
 refine RN.go 10 [] λ _=>RN.cp (truth_any (decide (a=b)) _)<|RN.go 3 [] λ _=>?_
 exact RN.ret [] [] [] ⟨rfl,rfl⟩
theorem un1 (a:Int) (F:HL):Sp Tryz.prog 167 #[vI a] [] F (λ u H'=>u=vI (satI (w64 (0 - a))) /\ H'=[]):=by
 refine Sp.run Tryz.func167 rfl mn (A:=[]) (Ts:=[]) rfl λ w0=>?_
 refine RN.go 9 [] λ _=>RN.cp (sat_any (IntKind.i64.wrap (0 - a))  _)<|RN.go 3 [] λ _=>?_
 exact RN.ret [] [] [] ⟨rfl,rfl⟩
theorem un2 (a:Int) (F:HL):Sp Tryz.prog 168 #[vI a] [] F (λ u H'=>u=vI (boolI (decide (a=0))) /\ H'=[]):=by
 refine Sp.run Tryz.func168 rfl mn (A:=[]) (Ts:=[]) rfl λ w0=>?_
 refine RN.go 9 [] λ _=>RN.cp (truth_any (decide (a=0)) _)<|RN.go 3 [] λ _=>?_
 exact RN.ret [] [] [] ⟨rfl,rfl⟩
theorem tab_1 (F:HL):Sp Tryz.prog 138 #[vI 1] [] F (λ u H'=>u=.func (.func 153) #[] #[] /\ H'=[]):=by
 refine Sp.run Tryz.func138 rfl mn (A:=[]) (Ts:=[]) rfl λ w0=>?_
 refine RN.go 19 (ow 0 11) λ n1=>?_
 exact RN.ret [] [] [] ⟨rfl,rfl⟩
theorem tab_2 (F:HL):Sp Tryz.prog 138 #[vI 2] [] F (λ u H'=>u=.func (.func 154) #[] #[] /\ H'=[]):=by
 refine Sp.run Tryz.func138 rfl mn (A:=[]) (Ts:=[]) rfl λ w0=>?_
 refine RN.go 19 (ow 0 11) λ n1=>?_
 exact RN.ret [] [] [] ⟨rfl,rfl⟩
theorem tab_6 (F:HL):Sp Tryz.prog 138 #[vI 6] [] F (λ u H'=>u=.func (.func 155) #[] #[] /\ H'=[]):=by
 refine Sp.run Tryz.func138 rfl mn (A:=[]) (Ts:=[]) rfl λ w0=>?_
 refine RN.go 19 (ow 0 11) λ n1=>?_
 exact RN.ret [] [] [] ⟨rfl,rfl⟩
theorem tab_7 (F:HL):Sp Tryz.prog 138 #[vI 7] [] F (λ u H'=>u=.func (.func 156) #[] #[] /\ H'=[]):=by
 refine Sp.run Tryz.func138 rfl mn (A:=[]) (Ts:=[]) rfl λ w0=>?_
 refine RN.go 19 (ow 0 11) λ n1=>?_
 exact RN.ret [] [] [] ⟨rfl,rfl⟩
theorem tab_8 (F:HL):Sp Tryz.prog 138 #[vI 8] [] F (λ u H'=>u=.func (.func 157) #[] #[] /\ H'=[]):=by
 refine Sp.run Tryz.func138 rfl mn (A:=[]) (Ts:=[]) rfl λ w0=>?_
 refine RN.go 19 (ow 0 11) λ n1=>?_
 exact RN.ret [] [] [] ⟨rfl,rfl⟩
theorem tab_9 (F:HL):Sp Tryz.prog 139 #[vI 9] [] F (λ u H'=>u=.func (.func 158) #[] #[] /\ H'=[]):=by
 refine Sp.run Tryz.func139 rfl mn (A:=[]) (Ts:=[]) rfl λ w0=>?_
 refine RN.go 21 (ow 0 15) λ n1=>?_
 exact RN.ret [] [] [] ⟨rfl,rfl⟩
theorem tab_10 (F:HL):Sp Tryz.prog 139 #[vI 10] [] F (λ u H'=>u=.func (.func 160) #[] #[] /\ H'=[]):=by
 refine Sp.run Tryz.func139 rfl mn (A:=[]) (Ts:=[]) rfl λ w0=>?_
 refine RN.go 21 (ow 0 15) λ n1=>?_
 exact RN.ret [] [] [] ⟨rfl,rfl⟩
theorem tab_11 (F:HL):Sp Tryz.prog 139 #[vI 11] [] F (λ u H'=>u=.func (.func 161) #[] #[] /\ H'=[]):=by
 refine Sp.run Tryz.func139 rfl mn (A:=[]) (Ts:=[]) rfl λ w0=>?_
 refine RN.go 21 (ow 0 15) λ n1=>?_
 exact RN.ret [] [] [] ⟨rfl,rfl⟩
theorem tab_12 (F:HL):Sp Tryz.prog 139 #[vI 12] [] F (λ u H'=>u=.func (.func 162) #[] #[] /\ H'=[]):=by
 refine Sp.run Tryz.func139 rfl mn (A:=[]) (Ts:=[]) rfl λ w0=>?_
 refine RN.go 21 (ow 0 15) λ n1=>?_
 exact RN.ret [] [] [] ⟨rfl,rfl⟩
theorem tab_14 (F:HL):Sp Tryz.prog 139 #[vI 14] [] F (λ u H'=>u=.func (.func 163) #[] #[] /\ H'=[]):=by
 refine Sp.run Tryz.func139 rfl mn (A:=[]) (Ts:=[]) rfl λ w0=>?_
 refine RN.go 21 (ow 0 15) λ n1=>?_
 exact RN.ret [] [] [] ⟨rfl,rfl⟩
theorem tab_15 (F:HL):Sp Tryz.prog 139 #[vI 15] [] F (λ u H'=>u=.func (.func 165) #[] #[] /\ H'=[]):=by
 refine Sp.run Tryz.func139 rfl mn (A:=[]) (Ts:=[]) rfl λ w0=>?_
 refine RN.go 21 (ow 0 15) λ n1=>?_
 exact RN.ret [] [] [] ⟨rfl,rfl⟩
theorem tab_16 (F:HL):Sp Tryz.prog 139 #[vI 16] [] F (λ u H'=>u=.func (.func 166) #[] #[] /\ H'=[]):=by
 refine Sp.run Tryz.func139 rfl mn (A:=[]) (Ts:=[]) rfl λ w0=>?_
 refine RN.go 21 (ow 0 15) λ n1=>?_
 exact RN.ret [] [] [] ⟨rfl,rfl⟩
theorem tab_13 (F:HL):Sp Tryz.prog 140 #[vI 13] [] F (λ u H'=>u=.func (.func 167) #[] #[] /\ H'=[]):=by
 refine Sp.run Tryz.func140 rfl mn (A:=[]) (Ts:=[]) rfl λ w0=>?_
 refine RN.go 16 (ow 0 5) λ n1=>?_
 exact RN.ret [] [] [] ⟨rfl,rfl⟩
theorem tab_17 (F:HL):Sp Tryz.prog 140 #[vI 17] [] F (λ u H'=>u=.func (.func 168) #[] #[] /\ H'=[]):=by
 refine Sp.run Tryz.func140 rfl mn (A:=[]) (Ts:=[]) rfl λ w0=>?_
 refine RN.go 16 (ow 0 5) λ n1=>?_
 exact RN.ret [] [] [] ⟨rfl,rfl⟩
theorem tab_3 (F:HL):Sp Tryz.prog 141 #[vI 3] [] F (λ u H'=>u=.func (.func 169) #[] #[] /\ H'=[]):=by
 refine Sp.run Tryz.func141 rfl mn (A:=[]) (Ts:=[]) rfl λ w0=>?_
 refine RN.go 21 (ow 0 15) λ n1=>?_
 exact RN.ret [] [] [] ⟨rfl,rfl⟩
theorem tab_4 (F:HL):Sp Tryz.prog 141 #[vI 4] [] F (λ u H'=>u=.func (.func 170) #[] #[] /\ H'=[]):=by
 refine Sp.run Tryz.func141 rfl mn (A:=[]) (Ts:=[]) rfl λ w0=>?_
 refine RN.go 21 (ow 0 15) λ n1=>?_
 exact RN.ret [] [] [] ⟨rfl,rfl⟩
theorem tab_5 (F:HL):Sp Tryz.prog 141 #[vI 5] [] F (λ u H'=>u=.func (.func 171) #[] #[] /\ H'=[]):=by
 refine Sp.run Tryz.func141 rfl mn (A:=[]) (Ts:=[]) rfl λ w0=>?_
 refine RN.go 21 (ow 0 15) λ n1=>?_
 exact RN.ret [] [] [] ⟨rfl,rfl⟩
theorem tab_18 (F:HL):Sp Tryz.prog 141 #[vI 18] [] F (λ u H'=>u=.func (.func 173) #[] #[] /\ H'=[]):=by
 refine Sp.run Tryz.func141 rfl mn (A:=[]) (Ts:=[]) rfl λ w0=>?_
 refine RN.go 21 (ow 0 15) λ n1=>?_
 exact RN.ret [] [] [] ⟨rfl,rfl⟩
theorem tab_19 (F:HL):Sp Tryz.prog 141 #[vI 19] [] F (λ u H'=>u=.func (.func 174) #[] #[] /\ H'=[]):=by
 refine Sp.run Tryz.func141 rfl mn (A:=[]) (Ts:=[]) rfl λ w0=>?_
 refine RN.go 21 (ow 0 15) λ n1=>?_
 exact RN.ret [] [] [] ⟨rfl,rfl⟩
theorem tab_20 (F:HL):Sp Tryz.prog 141 #[vI 20] [] F (λ u H'=>u=.func (.func 175) #[] #[] /\ H'=[]):=by
 refine Sp.run Tryz.func141 rfl mn (A:=[]) (Ts:=[]) rfl λ w0=>?_
 refine RN.go 21 (ow 0 15) λ n1=>?_
 exact RN.ret [] [] [] ⟨rfl,rfl⟩
theorem tab_21 (F:HL):Sp Tryz.prog 141 #[vI 21] [] F (λ u H'=>u=.func (.func 177) #[] #[] /\ H'=[]):=by
 refine Sp.run Tryz.func141 rfl mn (A:=[]) (Ts:=[]) rfl λ w0=>?_
 refine RN.go 21 (ow 0 15) λ n1=>?_
 exact RN.ret [] [] [] ⟨rfl,rfl⟩
end Go.Proofs.YtkhifpbokgabbaaGreatDoor
