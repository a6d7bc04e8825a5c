import Derived.Test.YtgdcbiiopbpgaaaGreatDoorY03
set_option maxHeartbeats 4000000
set_option maxRecDepth 100000
set_option linter.unusedSimpArgs false
set_option linter.unusedVariables false
namespace Go.Proofs.YtgdcbiiopbpgaaaGreatDoor
open IntKind
open Go.RowKit
def JG(a b:Int):Int:=u64.wrap ((BitVec.ofInt 64 a ^^^ BitVec.ofInt 64 b).toNat:Int)
def PX(a b:Int):Int:=u64.wrap ((BitVec.ofInt 64 a ||| BitVec.ofInt 64 b).toNat:Int)
def gl(a b:Int):Int:=JG (u64.wrap (JG a b*11400714819323198485)) ((u64.wrap (JG a b*11400714819323198485)).fdiv 4294967296)
def tD(b:ByteArray)(i:Nat):Nat -> Int
 | 0=>0
 | k+1=>PX (tD b i k) (u64.wrap (u64.wrap (EY b (8*i+k))*2 ^ min (8*(k:Int)).toNat 64))
def wk(b:ByteArray)(i:Nat):Nat:=min 8 (b.size-8*i)
def wn(b:ByteArray):Nat:=(b.size+7) / 8
def gU(b:ByteArray):List Int:=(List.range (wn b)).map λ i=>tD b i (wk b i)
theorem zj(b:ByteArray):(gU b).length=wn b:=by simp[gU]
theorem qU{b:ByteArray}{i:Nat}(h:8*i<b.size):(gU b)[i]?=some (tD b i (wk b i)):=by
 have:i<wn b:=by unfold wn;omega
 simp[gU,this]
def jL(b:ByteArray):Nat -> Int
 | 0=>0
 | m+1=>gl (jL b m) ((gU b).getD m 0)
def cL(b:ByteArray)(n:Int):Int:=gl (gl (jL b (gU b).length) (u64.wrap (b.size:Int))) (u64.wrap n)
def uV(s:Int)(xs:List Int):Nat -> Int
 | 0=>s
 | k+1=>gl (uV s xs k) (u64.wrap (xs.getD k 0))
def jW(b:ByteArray)(xs:List Int):Int:=gl (uV (cL b xs.length) xs xs.length) 0
abbrev JH(x:Int):Array Value:=#[.int .u64 x]
theorem qV{xs:List Int}{i:Nat}{x:Int}(h:xs[i]?=some x):xs.getD i 0=x:=by rw[List.getD_eq_getElem?_getD,h];rfl
theorem eM(a b:Int)(F:HL):Sp Tryz.prog 43 #[.int .u64 a,.int .u64 b] [] F (λ u H'=>u=.int .u64 (gl a b) /\ H'=[]):=by
 refine Sp.run Tryz.func43 rfl mn (A:=[]) (Ts:=[]) rfl λ w0=>?_
 refine ae 23 [] λ _=>?_
 exact RN.ret [] [] [] ⟨rfl,rfl⟩
theorem CY(b:ByteArray)(q lp:Nat)(X F:HL)(J:Nat -> HL -> Prop)(Jx:HL -> Prop)(T0:HL)(hb:b.size <= 1000000)(hq:(q,.lit [.string b] 9 (0,0))∈F)(hY:∀i x H Y,(gU b)[i]?=some x -> J i H -> YL Tryz.prog lp (JH x) H (Y++(X++F)) (λ b H'=>(b=true /\ J (i+1) H') \/ (b=false /\ Jx H')))(Sx:J 0 T0):Sp Tryz.prog 107 #[.func (.yield lp) #[] #[],vP q 0] (ap [] [T0]) (X++F) (λ _ H'=>J (gU b).length H' \/ Jx H'):=by
 refine Sp.run Tryz.func107 rfl (mc (List.mem_append_right _ hq) mn) (A:=[]) (Ts:=[T0]) rfl λ w0=>?_
 refine ae 6 [] λ _=>RN.loop (σ:=Nat × HL) (λ ⟨i,T_⟩=>⟨[(0,.func (.yield lp) #[] #[]),(1,vP q 0),(3,vI (8*(i:Int)))],[],[T_],i <= wn b /\ J i T_,wn b-i⟩) (0,T0) [] [0] (⟨Nat.zero_le _,Sx⟩) ?_
 rintro⟨i,T_⟩ ⟨WR,Q8⟩ Rx
 refine ae 9 [.ro 0] λ _=>RN.em (8*(i:Int)<((b).size:Int)) 9 (λ h3=>?_) λ h3=>?_
 ·refine ae 17 [] λ _=>RN.loop (σ:=Nat) (λ k=>⟨[(0,.func (.yield lp) #[] #[]),(1,vP q 0),(3,vI (8*(i:Int))),(4,.int .u64 (tD b i k)),(5,vI (k:Int))],[],[T_],k <= 8 /\ 8*i+k <= b.size,8-k⟩) 0 [] [0] (⟨by omega,by omega⟩) ?_
  rintro k ⟨TT,hk2_⟩ SQ
  refine ae 6 [] λ _=>RN.em ((k:Int)<8) 14 (λ h6=>?_) λ h6=>?_
  ·refine ai 9 [.nw,.ro 0] [aU ((8*(i:Int))+(k:Int))] λ _=>RN.em ((8*(i:Int))+(k:Int)<((b).size:Int)) 21 (λ h7=>?_) λ h7=>?_
   ·refine ai 26 [.ro 0,.nw,.ix (8*i+k),.nw,.dv,.gen,.nw] [aU ((k:Int)+1),0 <= 8*(k:Int),aU (8*(k:Int)),(8*(i:Int))+(k:Int)=(((8*i+k):Nat):Int) /\ (8*i+k)<(b).size,aU ((8*(i:Int))+(k:Int))] λ _=>?_
    refine SQ (k+1) [] [0] ?_
    try dsimp only
    exact⟨⟨by omega,by omega⟩,by omega⟩
   ·obtain rfl:k=wk b i:=by unfold wk;omega
    refine ae 10 [] λ _=>RN.yield 0 (hY i (tD b i (wk b i)) _ _ (qU (by omega)) Q8) ?_
    rintro b_ T8 (⟨rfl,VY⟩|⟨rfl,VY⟩)
    ·refine ai 12 [.gen,.nw] [aU ((8*(i:Int))+8)] λ _=>aB 3 (congrArg (λ v_=>(vI v_:Value)) (show (8*(i:Int)+8)=8*((i+1:Nat):Int) by omega)) ?_
     refine Rx (i+1,T8) [] [0] ?_
     try dsimp only
     exact⟨⟨by unfold wn at *;omega,VY⟩,by unfold wn at *;omega⟩
    ·refine ae 4 [] λ _=>RN.ret [] [] [0] (v:=.tuple #[]) (H':=(ap [] [T8])) ?_
     rw[bD]
     exact .inr VY
  ·obtain rfl:k=wk b i:=by unfold wk;omega
   refine ae 19 [] λ _=>RN.yield 0 (hY i (tD b i (wk b i)) _ _ (qU (by omega)) Q8) ?_
   rintro b_ TG (⟨rfl,YW⟩|⟨rfl,YW⟩)
   ·refine ai 12 [.gen,.nw] [aU ((8*(i:Int))+8)] λ _=>aB 3 (congrArg (λ v_=>(vI v_:Value)) (show (8*(i:Int)+8)=8*((i+1:Nat):Int) by omega)) ?_
    refine Rx (i+1,TG) [] [0] ?_
    try dsimp only
    exact⟨⟨by unfold wn at *;omega,YW⟩,by unfold wn at *;omega⟩
   ·refine ae 4 [] λ _=>RN.ret [] [] [0] (v:=.tuple #[]) (H':=(ap [] [TG])) ?_
    rw[bD]
    exact .inr YW
 ·obtain rfl:i=wn b:=by unfold wn at *;omega
  refine ae 5 [] λ _=>RN.ret [] [] [0] (v:=.tuple #[]) (H':=(ap [] [T_])) ?_
  rw[bD]
  exact .inl (by rw[zj];exact Q8)
theorem Fw(b:ByteArray)(q:Nat)(F:HL)(hb:b.size <= 1000000)(hq:(q,.lit [.string b] 9 (0,0))∈F):It Tryz.prog 107 #[vP q 0] F JH (gU b):=by
 intro X l J Jx H0 hY h0
 have key:=CY b q l X F J Jx H0 hb hq hY h0
 rw[bD] at key
 exact key
theorem CZ(b:ByteArray)(F:HL):Sp Tryz.prog 76 #[.string b] (ap [] []) F (λ u H'=>∃n:Nat,H'=ap [((n+0),.lit [.string b] 9 (0,0))] [] /\ u=.func (.func 107) #[] #[vP (n+0) 0]):=by
 refine Sp.run Tryz.func76 rfl mn (A:=[]) (Ts:=[]) rfl λ w0=>?_
 refine ae 12 [] λ n1=>RN.ret [] [0] [] (v:=.func (.func 107) #[] #[vP (n1+0) 0]) (H':=(ap [((n1+0),.lit [.string b] 9 (0,0))] [])) ?_
 exact⟨_,rfl,rfl⟩
theorem iX(b:ByteArray)(n:Int)(F:HL)(hb:b.size <= 1000000):Sp Tryz.prog 42 #[.string b,vI n] [] F (λ u H'=>u=.int .u64 (cL b n) /\ H'=[]):=by
 refine Sp.runM Tryz.func42 rfl mn (A:=[]) (Ts:=[]) rfl λ w0=>?_
 refine ae 14 [] λ n1=>RN.ct (Hp:=[]) (Tp:=[]) [] [] (CZ b _) ?_
 rintro _ m2 rfl
 refine ae 3 [] λ _=>RN.range (σ:=Nat) (τ:=Nat × Int) (encs:=λ (x_:Int)=>#[.int .u64 x_]) (xs:=(gU b)) (enters_of Tryz.func107 (by kernel_rfl) rfl) (λ m_=>([((n1+0),.lit [.int .u64 (jL b m_)] 45 (0,0))],[])) (λ i_ m_=>m_=i_) (λ c_ m_=>False) (λ ⟨m_,y_⟩=>⟨[(0,.string b),(1,vI n),(5,vP (n1+0) 0),(6,.int .u64 y_)],[((n1+0),.lit [.int .u64 (jL b m_)] 45 (0,0))],[],True,0⟩) (λ i_ x_ ⟨m_,y_⟩=>m_=i_ /\ y_=x_) 0 rfl [1] [] (Fw b (m2+0) _ hb (az 0)) ?_ ?_ ?_ ?_
 ·rintro l_ i_ x_ m_ Y3 w4 hx5 rfl X1
  refine ae 3 [] λ _=>?_
  refine X1 (m_,x_) [0] [] ?_
  try dsimp only
  exact⟨rfl,rfl⟩
 ·rintro l_ i_ x_ ⟨m_,y_⟩ Y7 w8 hx9 ⟨rfl,Xd⟩
  refine ae 4 [.own 0] λ _=>RN.cp (eM (jL b m_) y_ _)<|ae 3 [.own 0] λ _=>?_
  have e_:jL b (m_+1)=gl (jL b m_) y_:=by rw[jL,Xd,qV hx9]
  refine cj 0 (congrArg (λ v_=>(.lit [.int .u64 v_] 45 (0,0):Blk)) e_.symm)<|RN.rn (m_+1) [0] [] ?_
  try dsimp only
  first|done|rfl
 ·rintro d10 m_  rfl
  refine ae 8 [.own 1] λ _=>RN.cp (eM (jL b (gU b).length) (u64.wrap ((b).size:Int)) _)<|ae 2 [] λ _=>RN.cp (eM (gl (jL b (gU b).length) (u64.wrap ((b).size:Int))) (u64.wrap n) _)<|ae 3 [] λ _=>?_
  exact RN.retM [d10] [0] [] [] [] ⟨rfl,rfl⟩
 ·exact λ _ _ _ h=>h.elim
theorem nX(b:ByteArray)(xs:List Int)(q c:Nat)(F:HL)(hb:b.size <= 1000000)(hl:xs.length <= c)(Rg:xs.length <= 1000000)(hq:(q,.rows 1 c (aN xs) 3 (0,0))∈F):Sp Tryz.prog 16 #[.string b,vS q 0 xs.length c] [] F (λ u H'=>u=.int .u64 (jW b xs) /\ H'=[]):=by
 refine Sp.run Tryz.func16 rfl (mc hq mn) (A:=[]) (Ts:=[]) rfl λ w0=>?_
 refine ae 10 [] λ _=>RN.cp (iX b (xs.length:Int) _ (by assumption))<|ae 12 [] λ _=>RN.loop (σ:=Nat) (λ k=>⟨[(5,.int .u64 (uV (cL b xs.length) xs k)),(12,vS q 0 xs.length c),(13,vI (xs.length:Int)),(14,vI (k:Int))],[],[],k <= xs.length,xs.length-k⟩) 0 [] [] (Nat.zero_le _) ?_
 rintro k hI1 Rx
 refine ae 6 [] λ _=>RN.em ((k:Int)<(xs.length:Int)) 15 (λ h3=>?_) λ h3=>?_
 ·refine ai 16 [.ix k,.rorow 0 k 0] [(0+k*1)=k*1+0 /\ k<c,(k:Int)=((k:Nat):Int) /\ k<xs.length] λ _=>RN.cp (eM (uV (cL b xs.length) xs k) (u64.wrap (xs.getD k 0)) _)<|ai 8 [.nw] [aU ((k:Int)+1)] λ _=>?_
  refine Rx (k+1) [] [] ?_
  try dsimp only
  exact⟨by omega,by omega⟩
 ·obtain rfl:k=xs.length:=by omega
  refine ae 9 [] λ _=>RN.cp (eM (uV (cL b xs.length) xs xs.length) 0 _)<|ae 3 [] λ _=>?_
  exact RN.ret [] [] [] ⟨rfl,rfl⟩
structure VR where (M:MemS) (v:Int) (e:Eff) (em:Bool)
def nY:List (Int × Int × Int):=[(0,0,0),(0,1,0),(0,1,16),(1,0,16),(1,1,8),(2,0,8),(0,1,0),(0,1,0),(0,1,0),(2,1,0),(2,1,0),(2,1,0),(2,1,0),(1,1,0),(2,1,0),(2,1,0),(2,1,0),(1,1,0),(0,0,0),(1,0,0),(2,0,0),(0,0,0)]
abbrev eP(op:Int):Int:=(nY.getD op.toNat (0,0,0)).1
abbrev eQ(op:Int):Int:=(nY.getD op.toNat (0,0,0)).2.1
abbrev eN(op:Int):Int:=(nY.getD op.toNat (0,0,0)).2.2
def oT:Nat -> Nat -> Value:=λ i k=>match k with|0=>vI (nY.getD i (0,0,0)).1|1=>vI (nY.getD i (0,0,0)).2.1|_=>vI (nY.getD i (0,0,0)).2.2
def lz(n:Int):Int:=aF n (-2147483647) 2147483647
def gI(b:Bool):Int:=if b=true then 1 else 0
def eY(op n sp:Int):Bool:=if op<1 then false else if op>21 then false else if sp>16 then false else if sp<eP op then false else if bg (bg (sp-eP op)+eQ op)>16 then false else if eN op=0 then true else if n >= 0 then decide (n<eN op) else false
def nZ(f v:Int):Int:=if f=0 then aF v (-1048576) 1048576 else if f=1 then aF v (-1048576) 1048576 else if f=2 then aF v (-16384) 16384 else if f=3 then aF v (-16384) 16384 else v
abbrev Qh:ByteArray:=⟨#[101,102,102,101,99,116]⟩
def cR(k v:Int)(M:MemS):VR:=if M.get 11 >= 40 then ⟨M,0,bA,false⟩ else ⟨(M.set 12 (bg ((jW Qh [M.get 12,M.get 0,k,v]).fdiv 2))).set 11 (bg (M.get 11+1)),0,⟨M.get 0,M.get 11,k,v⟩,true⟩
def aE(S:Setup)(op n a b:Int)(M:MemS):VR :=
 if op=1 then ⟨M,n,bA,false⟩ else if op=2 then ⟨M,M.get (bg (32+n)),bA,false⟩ else if op=6 then ⟨M,M.get 9,bA,false⟩ else if op=7 then ⟨M,M.get 10,bA,false⟩ else if op=8 then ⟨M,M.get 0,bA,false⟩
 else if op=9 then ⟨M,lz (bg (a+b)),bA,false⟩ else if op=10 then ⟨M,lz (bg (a-b)),bA,false⟩ else if op=11 then ⟨M,lz (bg (a*b)),bA,false⟩ else if op=12 then ⟨M,if b=0 then 0 else lz (bg (a.tdiv b)),bA,false⟩
 else if op=14 then ⟨M,gI (decide (a<b)),bA,false⟩ else if op=15 then ⟨M,gI (decide (a <= b)),bA,false⟩ else if op=16 then ⟨M,gI (decide (a=b)),bA,false⟩
 else if op=13 then ⟨M,lz (bg (0-a)),bA,false⟩ else if op=17 then ⟨M,gI (decide (a=0)),bA,false⟩
 else if op=3 then ⟨M.set (bg (32+n)) a,0,bA,false⟩ else if op=4 then ⟨M,if af S a >= 0 then M.get (bg (af S a+n)) else 0,bA,false⟩ else if op=5 then ⟨if af S a >= 0 then M.set (bg (af S a+n)) (nZ n b) else M,0,bA,false⟩
 else if op=18 then ⟨M.set 6 n,0,bA,false⟩ else if op=19 then ⟨if a=0 then M.set 6 n else M,0,bA,false⟩ else if op=20 then ⟨(cR a b M).M,0,(cR a b M).e,(cR a b M).em⟩ else ⟨M,0,bA,false⟩
def d9(op sp:Int)(M:MemS):Int:=if eP op=2 then M.get (bg (bg (16+sp)-eP op)) else if eP op=1 then M.get (bg (bg (16+sp)-eP op)) else 0
def ee(op sp:Int)(M:MemS):Int:=if eP op=2 then M.get (bg (bg (bg (16+sp)-eP op)+1)) else 0
def dJ(op sp pc fuel:Int)(M:MemS):MemS:=if eP op=eQ op then (M.set 8 (bg (fuel-1))).set 6 (bg (pc+1)) else ((M.set 8 (bg (fuel-1))).set 6 (bg (pc+1))).set 7 (bg (bg (sp-eP op)+eQ op))
def bX(S:Setup)(op n sp pc fuel:Int)(M:MemS):VR:=aE S op n (d9 op sp M) (ee op sp M) (dJ op sp pc fuel M)
def cm(op sp:Int)(r:VR):VR:=if eQ op>0 then ⟨r.M.set (bg (bg (16+sp)-eP op)) r.v,r.v,r.e,r.em⟩ else r
abbrev bq(code:List Ins)(M:MemS):Ins:=code.getD (M.get 6).toNat dIns
def dX(code:List Ins)(n:Nat)(M:MemS):Prop:=¬ M.get 8<1 /\ ¬ M.get 6<0 /\ ¬ M.get 6 >= (n:Int) /\ eY (bq code M).op (bq code M).n (M.get 7)=true
instance (code:List Ins) (n:Nat) (M:MemS):Decidable (dX code n M):=inferInstanceAs (Decidable (_ /\ _))
def ak(S:Setup)(code:List Ins)(n:Nat)(M:MemS):VR:=if dX code n M then cm (bq code M).op (M.get 7) (bX S (bq code M).op (bq code M).n (M.get 7) (M.get 6) (M.get 8) M) else ⟨M,0,bA,false⟩
def bx(code:List Ins)(n:Nat)(M:MemS):Bool:=if dX code n M then decide ((bq code M).op=21) else true
def aM(e fuel self other:Int)(M:MemS):MemS:=if e<0 then M else ((((M.set 6 e).set 7 0).set 8 fuel).set 9 self).set 10 other
def iq:Enc Ins:=⟨2,λ p k=>match k with|0=>vI p.op|1=>vI p.n|_=>default,dIns⟩
noncomputable def LG:TypeInfo:=match Tryz.prog.info? 155 with | some i=>i | none=>⟨.bool,"",0,0,false,0,0,none,false,#[]⟩
noncomputable def LH:Value:=match LG.zero with|some z=>z|none=>.bool false
theorem Fx:EncOk iq Tryz.prog 155 LG LH where
 info:=by kernel_rfl
 zero:=by kernel_rfl
 size:=by kernel_rfl
 zsize:=by kernel_rfl
 zcell:=λ k hk=>by
  have h:∀k<2,LH.cells[k]?=some (iq.cell iq.dflt k):=by intro k hk;(iterate 2 (rcases k with _|k;· kernel_rfl));omega
  exact h k hk
 one:=λ x k=>by unfold iq;dsimp only;split <;> rfl
 bytes:=Nat.le_of_ble_eq_true (by kernel_rfl)
abbrev Oj(l:List Ins):Nat -> Nat -> Value:=aJ iq l
inductive CodeIn(F:HL)(code:List Ins):Option Addr -> Nat -> Prop
 | nil (A:Option Addr):CodeIn F code A 0
 | mk (b R n:Nat) (h:(b,.rows 2 R (Oj code) 155 (0,0))∈F) (hn:n <= R) (hn2:n <= 1000000):CodeIn F code (some ⟨b,0,none⟩) n
theorem CodeIn.up{F X:HL}{code:List Ins}{A:Option Addr}{n:Nat}(h:CodeIn F code A n):CodeIn (X++F) code A n:=by
 cases h with
 | nil=>exact .nil _
 | mk b R n h h1 h2=>exact .mk b R n (List.mem_append_right _ h) h1 h2
abbrev dh(F:HL):Prop:=(2,.rows 3 22 oT 325 (0,0))∈F
theorem oa(n:Int)  (F:HL):Sp Tryz.prog 273 #[vI n] [] F (λ u H'=>u=vI (lz n) /\ H'=[]):=by
 refine Sp.run Tryz.func273 rfl mn (A:=[]) (Ts:=[]) rfl λ w0=>?_
 refine ae 8 [] λ _=>RN.cp (cE n (-2147483647) 2147483647  _)<|ae 3 [] λ _=>?_
 exact RN.ret [] [] [] ⟨rfl,rfl⟩
theorem l7(b:Bool)(F:HL):Sp Tryz.prog 278 #[.bool b] [] F (λ u H'=>u=vI (gI b) /\ H'=[]):=by
 refine Sp.run Tryz.func278 rfl mn (A:=[]) (Ts:=[]) rfl λ w0=>?_
 refine ae 11 [] λ _=>jo (b) 3 (λ h1=>?_) λ h1=>?_
 ·refine ae 6 [] λ _=>RN.ret [] [] [] (v:=vI 1) (H':=[]) ?_
  refine⟨?_,rfl⟩
  first|(simp only[gI,if_pos h1];try rfl;done)|rfl
 ·refine ae 8 [] λ _=>RN.ret [] [] [] (v:=vI 0) (H':=[]) ?_
  refine⟨?_,rfl⟩
  first|(simp only[gI,if_neg h1];try rfl;done)|rfl
theorem C0(f:Int)(v:Int)  (F:HL):Sp Tryz.prog 286 #[vI f,vI v] [] F (λ u H'=>u=vI (nZ f v) /\ H'=[]):=by
 refine Sp.run Tryz.func286 rfl mn (A:=[]) (Ts:=[]) rfl λ w0=>?_
 refine ae 19 [] λ _=>RN.em (f=0) 6 (λ h1=>?_) λ h1=>?_
 ·refine ae 7 [] λ _=>RN.cp (cE v (-1048576) 1048576  _)<|ae 3 [] λ _=>RN.ret [] [] [] (v:=vI (aF v (-1048576) 1048576)) (H':=[]) ?_
  refine⟨?_,rfl⟩
  first|(simp only[nZ,if_pos h1];try rfl;done)|rfl
 ·refine ae 6 [] λ _=>RN.em (f=1) 6 (λ h2=>?_) λ h2=>?_
  ·refine ae 4 [] λ _=>RN.cp (cE v (-1048576) 1048576  _)<|ae 3 [] λ _=>RN.ret [] [] [] (v:=vI (aF v (-1048576) 1048576)) (H':=[]) ?_
   refine⟨?_,rfl⟩
   first|(simp only[nZ,if_neg h1,if_pos h2];try rfl;done)|rfl
  ·refine ae 8 [] λ _=>RN.em (f=2) 11 (λ h3=>?_) λ h3=>?_
   ·refine ae 7 [] λ _=>RN.cp (cE v (-16384) 16384  _)<|ae 3 [] λ _=>RN.ret [] [] [] (v:=vI (aF v (-16384) 16384)) (H':=[]) ?_
    refine⟨?_,rfl⟩
    first|(simp only[nZ,if_neg h1,if_neg h2,if_pos h3];try rfl;done)|rfl
   ·refine ae 6 [] λ _=>RN.em (f=3) 11 (λ h4=>?_) λ h4=>?_
    ·refine ae 4 [] λ _=>RN.cp (cE v (-16384) 16384  _)<|ae 3 [] λ _=>RN.ret [] [] [] (v:=vI (aF v (-16384) 16384)) (H':=[]) ?_
     refine⟨?_,rfl⟩
     first|(simp only[nZ,if_neg h1,if_neg h2,if_neg h3,if_pos h4];try rfl;done)|rfl
    ·refine ae 10 [] λ _=>RN.ret [] [] [] (v:=vI v) (H':=[]) ?_
     refine⟨?_,rfl⟩
     first|(simp only[nZ,if_neg h1,if_neg h2,if_neg h3,if_neg h4];try rfl;done)|rfl
theorem JI(op n sp:Int)(F:HL)(hE:dh F):Sp Tryz.prog 227 #[.agg #[vI op,vI n],vI sp] [] F (λ u H'=>u=.bool (eY op n sp) /\ H'=[]):=by
 refine Sp.run Tryz.func227 rfl (mc hE mn) (A:=[]) (Ts:=[]) rfl λ w0=>?_
 refine ae 13 [.own 0] λ n1=>RN.em (op<1) 9 (λ h2=>?_) λ h2=>?_
 ·refine ae 16 [] λ _=>RN.ret [] [] [] (v:=.bool false) (H':=[]) ?_
  refine⟨?_,rfl⟩
  first|(simp only[eY,if_pos h2];try rfl;done)|rfl
 ·refine ae 5 [.own 0] λ _=>RN.em (op>21) 14 (λ h3=>?_) λ h3=>?_
  ·refine ae 11 [] λ _=>RN.ret [] [] [] (v:=.bool false) (H':=[]) ?_
   refine⟨?_,rfl⟩
   first|(simp only[eY,if_neg h2,if_pos h3];try rfl;done)|rfl
  ·refine ae 5 [] λ _=>RN.em (sp>16) 17 (λ h4=>?_) λ h4=>?_
   ·refine ae 6 [] λ _=>RN.ret [] [] [] (v:=.bool false) (H':=[]) ?_
    refine⟨?_,rfl⟩
    first|(simp only[eY,if_neg h2,if_neg h3,if_pos h4];try rfl;done)|rfl
   ·refine ai 21 [.own 0,.ix ((op).toNat),.rorow 0 ((op).toNat) 0,.rorow 0 ((op).toNat) 1,.rorow 0 ((op).toNat) 2,.own 0,.own 0,.own 0,.own 0] [((0+((op).toNat)*3)+2)=((op).toNat)*3+2 /\ ((op).toNat)<22,((0+((op).toNat)*3)+1)=((op).toNat)*3+1 /\ ((op).toNat)<22,(0+((op).toNat)*3)=((op).toNat)*3+0 /\ ((op).toNat)<22,op=(((op).toNat:Nat):Int) /\ (op).toNat<22] λ n5=>RN.em (sp<eP op) 26 (λ h6=>?_) λ h6=>?_
    ·refine ae 17 [] λ _=>RN.ret [] [] [] (v:=.bool false) (H':=[]) ?_
     refine⟨?_,rfl⟩
     first|(simp only[eY,if_neg h2,if_neg h3,if_neg h4,if_pos h6];try rfl;done)|rfl
    ·refine ae 11 [.own 0,.own 0] λ _=>RN.em (i64.wrap ((i64.wrap (sp-(eP op)))+(eQ op))>16) 35 (λ h7=>?_) λ h7=>?_
     ·refine ae 6 [] λ _=>RN.ret [] [] [] (v:=.bool false) (H':=[]) ?_
      refine⟨?_,rfl⟩
      first|(simp only[eY,if_neg h2,if_neg h3,if_neg h4,if_neg h6,if_pos h7];try rfl;done)|rfl
     ·refine ae 9 [.own 0] λ _=>RN.em (eN op=0) 39 (λ h8=>?_) λ h8=>?_
      ·refine ae 14 [] λ _=>RN.ret [] [] [] (v:=.bool true) (H':=[]) ?_
       refine⟨?_,rfl⟩
       first|(simp only[eY,if_neg h2,if_neg h3,if_neg h4,if_neg h6,if_neg h7,if_pos h8];try rfl;done)|rfl
      ·refine ae 4 [.own 1] λ _=>RN.em (n >= 0) 43 (λ h9=>?_) λ h9=>?_
       ·refine ae 10 [.own 1,.own 0] λ _=>RN.ret [] [] [] (v:=.bool (decide (n<eN op))) (H':=[]) ?_
        refine⟨?_,rfl⟩
        first|(simp only[eY,if_neg h2,if_neg h3,if_neg h4,if_neg h6,if_neg h7,if_neg h8,if_pos h9];try rfl;done)|rfl
       ·refine ae 10 [] λ _=>RN.ret [] [] [] (v:=.bool false) (H':=[]) ?_
        refine⟨?_,rfl⟩
        first|(simp only[eY,if_neg h2,if_neg h3,if_neg h4,if_neg h6,if_neg h7,if_neg h8,if_neg h9];try rfl;done)|rfl
theorem ld1(mb:Nat)(M:MemS)(k:Nat)(T:HL)(n:Int)(F:HL)(hM:MemH mb M k T)(hs:∀x∈T,x∈F):Sp Tryz.prog 267 #[.iface 96 (vP mb 0),vI n] [] F (λ u H'=>u=vI (n) /\ H'=[]):=by
 refine Sp.run Tryz.func267 rfl mn (A:=[]) (Ts:=[]) rfl λ w0=>?_
 refine ae 11 [] λ _=>?_
 exact RN.ret [] [] [] ⟨rfl,rfl⟩
theorem ld2(mb:Nat)(M:MemS)(k:Nat)(T:HL)(n:Int)(F:HL)(hM:MemH mb M k T)(hs:∀x∈T,x∈F):Sp Tryz.prog 268 #[.iface 96 (vP mb 0),vI n] [] F (λ u H'=>u=vI (M.get (bg (32+n))) /\ H'=[]):=by
 refine Sp.run Tryz.func268 rfl mn (A:=[]) (Ts:=[]) rfl λ w0=>?_
 refine ae 10 [] λ _=>RN.cp (aw (i64.wrap (32+n)) hM λ x hx=>aq (hs x hx))<|ae 3 [] λ _=>?_
 exact RN.ret [] [] [] ⟨rfl,rfl⟩
theorem ld3(mb:Nat)(M:MemS)(k:Nat)(T:HL)(n:Int)(F:HL)(hM:MemH mb M k T)(hs:∀x∈T,x∈F):Sp Tryz.prog 269 #[.iface 96 (vP mb 0),vI n] [] F (λ u H'=>u=vI (M.get 9) /\ H'=[]):=by
 refine Sp.run Tryz.func269 rfl mn (A:=[]) (Ts:=[]) rfl λ w0=>?_
 refine ae 8 [] λ _=>RN.cp (aw 9 hM λ x hx=>aq (hs x hx))<|ae 3 [] λ _=>?_
 exact RN.ret [] [] [] ⟨rfl,rfl⟩
theorem ld4(mb:Nat)(M:MemS)(k:Nat)(T:HL)(n:Int)(F:HL)(hM:MemH mb M k T)(hs:∀x∈T,x∈F):Sp Tryz.prog 270 #[.iface 96 (vP mb 0),vI n] [] F (λ u H'=>u=vI (M.get 10) /\ H'=[]):=by
 refine Sp.run Tryz.func270 rfl mn (A:=[]) (Ts:=[]) rfl λ w0=>?_
 refine ae 8 [] λ _=>RN.cp (aw 10 hM λ x hx=>aq (hs x hx))<|ae 3 [] λ _=>?_
 exact RN.ret [] [] [] ⟨rfl,rfl⟩
theorem ld5(mb:Nat)(M:MemS)(k:Nat)(T:HL)(n:Int)(F:HL)(hM:MemH mb M k T)(hs:∀x∈T,x∈F):Sp Tryz.prog 271 #[.iface 96 (vP mb 0),vI n] [] F (λ u H'=>u=vI (M.get 0) /\ H'=[]):=by
 refine Sp.run Tryz.func271 rfl mn (A:=[]) (Ts:=[]) rfl λ w0=>?_
 refine ae 8 [] λ _=>RN.cp (aw 0 hM λ x hx=>aq (hs x hx))<|ae 3 [] λ _=>?_
 exact RN.ret [] [] [] ⟨rfl,rfl⟩
theorem Qi(a b:Int)(F:HL):Sp Tryz.prog 272 #[vI a,vI b] [] F (λ u H'=>u=vI (lz (bg (a+b))) /\ H'=[]):=by
 refine Sp.run Tryz.func272 rfl mn (A:=[]) (Ts:=[]) rfl λ w0=>?_
 refine ae 10 [] λ _=>RN.cp (oa (i64.wrap (a+b))  _)<|ae 3 [] λ _=>?_
 exact RN.ret [] [] [] ⟨rfl,rfl⟩
theorem Qj(a b:Int)(F:HL):Sp Tryz.prog 274 #[vI a,vI b] [] F (λ u H'=>u=vI (lz (bg (a-b))) /\ H'=[]):=by
 refine Sp.run Tryz.func274 rfl mn (A:=[]) (Ts:=[]) rfl λ w0=>?_
 refine ae 10 [] λ _=>RN.cp (oa (i64.wrap (a-b))  _)<|ae 3 [] λ _=>?_
 exact RN.ret [] [] [] ⟨rfl,rfl⟩
theorem Qk(a b:Int)(F:HL):Sp Tryz.prog 275 #[vI a,vI b] [] F (λ u H'=>u=vI (lz (bg (a*b))) /\ H'=[]):=by
 refine Sp.run Tryz.func275 rfl mn (A:=[]) (Ts:=[]) rfl λ w0=>?_
 refine ae 10 [] λ _=>RN.cp (oa (i64.wrap (a*b))  _)<|ae 3 [] λ _=>?_
 exact RN.ret [] [] [] ⟨rfl,rfl⟩
theorem Ql(a b:Int)(F:HL):Sp Tryz.prog 276 #[vI a,vI b] [] F (λ u H'=>u=vI (if b=0 then 0 else lz (bg (a.tdiv b))) /\ H'=[]):=by
 refine Sp.run Tryz.func276 rfl mn (A:=[]) (Ts:=[]) rfl λ w0=>?_
 refine ae 12 [] λ _=>RN.em (b=0) 6 (λ h1=>?_) λ h1=>?_
 ·refine ae 6 [] λ _=>RN.ret [] [] [] (v:=vI 0) (H':=[]) ?_
  exact⟨by simp[*],rfl⟩
 ·refine ai 8 [.dv] [b≠0] λ _=>RN.cp (oa (i64.wrap (a.tdiv b))  _)<|ae 3 [] λ _=>RN.ret [] [] [] (v:=vI (lz (i64.wrap (a.tdiv b)))) (H':=[]) ?_
  exact⟨by simp[*],rfl⟩
theorem Qm(a b:Int)(F:HL):Sp Tryz.prog 277 #[vI a,vI b] [] F (λ u H'=>u=vI (gI (decide (a<b))) /\ H'=[]):=by
 refine Sp.run Tryz.func277 rfl mn (A:=[]) (Ts:=[]) rfl λ w0=>?_
 refine ae 10 [] λ _=>RN.cp (l7 (decide (a<b)) _)<|ae 3 [] λ _=>?_
 exact RN.ret [] [] [] ⟨rfl,rfl⟩
theorem Qn(a b:Int)(F:HL):Sp Tryz.prog 279 #[vI a,vI b] [] F (λ u H'=>u=vI (gI (decide (a <= b))) /\ H'=[]):=by
 refine Sp.run Tryz.func279 rfl mn (A:=[]) (Ts:=[]) rfl λ w0=>?_
 refine ae 10 [] λ _=>RN.cp (l7 (decide (a <= b)) _)<|ae 3 [] λ _=>?_
 exact RN.ret [] [] [] ⟨rfl,rfl⟩
theorem Qo(a b:Int)(F:HL):Sp Tryz.prog 280 #[vI a,vI b] [] F (λ u H'=>u=vI (gI (decide (a=b))) /\ H'=[]):=by
 refine Sp.run Tryz.func280 rfl mn (A:=[]) (Ts:=[]) rfl λ w0=>?_
 refine ae 10 [] λ _=>RN.cp (l7 (decide (a=b)) _)<|ae 3 [] λ _=>?_
 exact RN.ret [] [] [] ⟨rfl,rfl⟩
theorem un1(a:Int)(F:HL):Sp Tryz.prog 281 #[vI a] [] F (λ u H'=>u=vI (lz (bg (0-a))) /\ H'=[]):=by
 refine Sp.run Tryz.func281 rfl mn (A:=[]) (Ts:=[]) rfl λ w0=>?_
 refine ae 9 [] λ _=>RN.cp (oa (i64.wrap (0-a))  _)<|ae 3 [] λ _=>?_
 exact RN.ret [] [] [] ⟨rfl,rfl⟩
theorem un2(a:Int)(F:HL):Sp Tryz.prog 282 #[vI a] [] F (λ u H'=>u=vI (gI (decide (a=0))) /\ H'=[]):=by
 refine Sp.run Tryz.func282 rfl mn (A:=[]) (Ts:=[]) rfl λ w0=>?_
 refine ae 9 [] λ _=>RN.cp (l7 (decide (a=0)) _)<|ae 3 [] λ _=>?_
 exact RN.ret [] [] [] ⟨rfl,rfl⟩
theorem Ok(F:HL):Sp Tryz.prog 252 #[vI 1] [] F (λ u H'=>u=.func (.func 267) #[] #[] /\ H'=[]):=by
 refine Sp.run Tryz.func252 rfl mn (A:=[]) (Ts:=[]) rfl λ w0=>?_
 refine ae 19 (ow 0 11) λ n1=>?_
 exact RN.ret [] [] [] ⟨rfl,rfl⟩
theorem Ol(F:HL):Sp Tryz.prog 252 #[vI 2] [] F (λ u H'=>u=.func (.func 268) #[] #[] /\ H'=[]):=by
 refine Sp.run Tryz.func252 rfl mn (A:=[]) (Ts:=[]) rfl λ w0=>?_
 refine ae 19 (ow 0 11) λ n1=>?_
 exact RN.ret [] [] [] ⟨rfl,rfl⟩
theorem Om(F:HL):Sp Tryz.prog 252 #[vI 6] [] F (λ u H'=>u=.func (.func 269) #[] #[] /\ H'=[]):=by
 refine Sp.run Tryz.func252 rfl mn (A:=[]) (Ts:=[]) rfl λ w0=>?_
 refine ae 19 (ow 0 11) λ n1=>?_
 exact RN.ret [] [] [] ⟨rfl,rfl⟩
theorem On(F:HL):Sp Tryz.prog 252 #[vI 7] [] F (λ u H'=>u=.func (.func 270) #[] #[] /\ H'=[]):=by
 refine Sp.run Tryz.func252 rfl mn (A:=[]) (Ts:=[]) rfl λ w0=>?_
 refine ae 19 (ow 0 11) λ n1=>?_
 exact RN.ret [] [] [] ⟨rfl,rfl⟩
theorem Oo(F:HL):Sp Tryz.prog 252 #[vI 8] [] F (λ u H'=>u=.func (.func 271) #[] #[] /\ H'=[]):=by
 refine Sp.run Tryz.func252 rfl mn (A:=[]) (Ts:=[]) rfl λ w0=>?_
 refine ae 19 (ow 0 11) λ n1=>?_
 exact RN.ret [] [] [] ⟨rfl,rfl⟩
theorem Oq(F:HL):Sp Tryz.prog 253 #[vI 9] [] F (λ u H'=>u=.func (.func 272) #[] #[] /\ H'=[]):=by
 refine Sp.run Tryz.func253 rfl mn (A:=[]) (Ts:=[]) rfl λ w0=>?_
 refine ae 21 (ow 0 15) λ n1=>?_
 exact RN.ret [] [] [] ⟨rfl,rfl⟩
theorem Mn(F:HL):Sp Tryz.prog 253 #[vI 10] [] F (λ u H'=>u=.func (.func 274) #[] #[] /\ H'=[]):=by
 refine Sp.run Tryz.func253 rfl mn (A:=[]) (Ts:=[]) rfl λ w0=>?_
 refine ae 21 (ow 0 15) λ n1=>?_
 exact RN.ret [] [] [] ⟨rfl,rfl⟩
theorem Mo(F:HL):Sp Tryz.prog 253 #[vI 11] [] F (λ u H'=>u=.func (.func 275) #[] #[] /\ H'=[]):=by
 refine Sp.run Tryz.func253 rfl mn (A:=[]) (Ts:=[]) rfl λ w0=>?_
 refine ae 21 (ow 0 15) λ n1=>?_
 exact RN.ret [] [] [] ⟨rfl,rfl⟩
theorem Mp(F:HL):Sp Tryz.prog 253 #[vI 12] [] F (λ u H'=>u=.func (.func 276) #[] #[] /\ H'=[]):=by
 refine Sp.run Tryz.func253 rfl mn (A:=[]) (Ts:=[]) rfl λ w0=>?_
 refine ae 21 (ow 0 15) λ n1=>?_
 exact RN.ret [] [] [] ⟨rfl,rfl⟩
theorem Mq(F:HL):Sp Tryz.prog 253 #[vI 14] [] F (λ u H'=>u=.func (.func 277) #[] #[] /\ H'=[]):=by
 refine Sp.run Tryz.func253 rfl mn (A:=[]) (Ts:=[]) rfl λ w0=>?_
 refine ae 21 (ow 0 15) λ n1=>?_
 exact RN.ret [] [] [] ⟨rfl,rfl⟩
theorem Mr(F:HL):Sp Tryz.prog 253 #[vI 15] [] F (λ u H'=>u=.func (.func 279) #[] #[] /\ H'=[]):=by
 refine Sp.run Tryz.func253 rfl mn (A:=[]) (Ts:=[]) rfl λ w0=>?_
 refine ae 21 (ow 0 15) λ n1=>?_
 exact RN.ret [] [] [] ⟨rfl,rfl⟩
theorem Ms(F:HL):Sp Tryz.prog 253 #[vI 16] [] F (λ u H'=>u=.func (.func 280) #[] #[] /\ H'=[]):=by
 refine Sp.run Tryz.func253 rfl mn (A:=[]) (Ts:=[]) rfl λ w0=>?_
 refine ae 21 (ow 0 15) λ n1=>?_
 exact RN.ret [] [] [] ⟨rfl,rfl⟩
theorem Mt(F:HL):Sp Tryz.prog 254 #[vI 13] [] F (λ u H'=>u=.func (.func 281) #[] #[] /\ H'=[]):=by
 refine Sp.run Tryz.func254 rfl mn (A:=[]) (Ts:=[]) rfl λ w0=>?_
 refine ae 16 (ow 0 5) λ n1=>?_
 exact RN.ret [] [] [] ⟨rfl,rfl⟩
theorem Mu(F:HL):Sp Tryz.prog 254 #[vI 17] [] F (λ u H'=>u=.func (.func 282) #[] #[] /\ H'=[]):=by
 refine Sp.run Tryz.func254 rfl mn (A:=[]) (Ts:=[]) rfl λ w0=>?_
 refine ae 16 (ow 0 5) λ n1=>?_
 exact RN.ret [] [] [] ⟨rfl,rfl⟩
theorem Ot(F:HL):Sp Tryz.prog 255 #[vI 3] [] F (λ u H'=>u=.func (.func 283) #[] #[] /\ H'=[]):=by
 refine Sp.run Tryz.func255 rfl mn (A:=[]) (Ts:=[]) rfl λ w0=>?_
 refine ae 21 (ow 0 15) λ n1=>?_
 exact RN.ret [] [] [] ⟨rfl,rfl⟩
theorem Ou(F:HL):Sp Tryz.prog 255 #[vI 4] [] F (λ u H'=>u=.func (.func 284) #[] #[] /\ H'=[]):=by
 refine Sp.run Tryz.func255 rfl mn (A:=[]) (Ts:=[]) rfl λ w0=>?_
 refine ae 21 (ow 0 15) λ n1=>?_
 exact RN.ret [] [] [] ⟨rfl,rfl⟩
theorem Ov(F:HL):Sp Tryz.prog 255 #[vI 5] [] F (λ u H'=>u=.func (.func 285) #[] #[] /\ H'=[]):=by
 refine Sp.run Tryz.func255 rfl mn (A:=[]) (Ts:=[]) rfl λ w0=>?_
 refine ae 21 (ow 0 15) λ n1=>?_
 exact RN.ret [] [] [] ⟨rfl,rfl⟩
theorem Mv(F:HL):Sp Tryz.prog 255 #[vI 18] [] F (λ u H'=>u=.func (.func 287) #[] #[] /\ H'=[]):=by
 refine Sp.run Tryz.func255 rfl mn (A:=[]) (Ts:=[]) rfl λ w0=>?_
 refine ae 21 (ow 0 15) λ n1=>?_
 exact RN.ret [] [] [] ⟨rfl,rfl⟩
theorem Mw(F:HL):Sp Tryz.prog 255 #[vI 19] [] F (λ u H'=>u=.func (.func 288) #[] #[] /\ H'=[]):=by
 refine Sp.run Tryz.func255 rfl mn (A:=[]) (Ts:=[]) rfl λ w0=>?_
 refine ae 21 (ow 0 15) λ n1=>?_
 exact RN.ret [] [] [] ⟨rfl,rfl⟩
theorem Mx(F:HL):Sp Tryz.prog 255 #[vI 20] [] F (λ u H'=>u=.func (.func 289) #[] #[] /\ H'=[]):=by
 refine Sp.run Tryz.func255 rfl mn (A:=[]) (Ts:=[]) rfl λ w0=>?_
 refine ae 21 (ow 0 15) λ n1=>?_
 exact RN.ret [] [] [] ⟨rfl,rfl⟩
theorem My(F:HL):Sp Tryz.prog 255 #[vI 21] [] F (λ u H'=>u=.func (.func 291) #[] #[] /\ H'=[]):=by
 refine Sp.run Tryz.func255 rfl mn (A:=[]) (Ts:=[]) rfl λ w0=>?_
 refine ae 21 (ow 0 15) λ n1=>?_
 exact RN.ret [] [] [] ⟨rfl,rfl⟩
theorem Mz(mb:Nat)(M:MemS)(k:Nat)(T:HL)(kd v:Int)(F:HL)(hM:MemH mb M (k+2) T) :Sp Tryz.prog 290 #[.iface 96 (vP mb 0),vI kd,vI v] (ap [] [T]) F (λ u H'=>∃x,H'=ap [] [x] /\ (MemH mb ((cR kd v M).M) k x /\ u=.tuple #[.agg #[vI ((cR kd v M).e.t),vI ((cR kd v M).e.i),vI ((cR kd v M).e.k),vI ((cR kd v M).e.v)],.bool ((cR kd v M).em)])):=by
 refine Sp.run Tryz.func290 rfl mn (A:=[]) (Ts:=[T]) rfl λ w0=>?_
 refine ae 9 [] λ n1=>RN.cp (aw 11 hM (ar 0))<|ae 10 [] λ _=>RN.em (M.get 11 >= 40) 14 (λ h2=>?_) λ h2=>?_
 ·refine ae 8 [.own 0,.own 0,.own 0,.own 0] λ _=>RN.ret [.own 0,.own 0,.own 0,.own 0] [] [0] (v:=.tuple #[.agg #[vI 0,vI 0,vI 0,vI 0],.bool false]) (H':=(ap [] [T])) ?_
  refine⟨T,rfl,?_⟩
  refine⟨?_,?_⟩
  ·simp only[cR,if_pos h2];exact hM.weak (by omega)
  ·simp only[cR,if_pos h2]
 ·refine ae 6 [] λ _=>RN.cp (aw 0 hM (ar 0))<|ae 6 [] λ _=>RN.cp (aw 12 hM (ar 0))<|ae 4 [] λ n3=>RN.dn 0 (.rows 1 4 (aN [M.get 12,M.get 0,kd,v]) 3 (0,0))<|RN.cp (nX (⟨#[101,102,102,101,99,116]⟩) ([M.get 12,M.get 0,kd,v]) (n3+0) 4 _ (by decide) (Nat.le_of_ble_eq_true rfl) (Nat.le_of_ble_eq_true rfl) (az 0))<|ae 9 [] λ _=>RN.ct [] [0] (aj 12 (i64.wrap ((jW (⟨#[101,102,102,101,99,116]⟩) ([M.get 12,M.get 0,kd,v])).fdiv 2)) hM) ?_
  rintro _ T4 SX
  refine ae 7 [] λ _=>RN.ct [] [0] (aj 11 (i64.wrap ((M.get 11)+1)) SX) ?_
  rintro _ T6 WW
  refine ae 13 [.own 1,.own 1,.own 1,.own 1] λ _=>RN.ret [.own 1,.own 1,.own 1,.own 1] [] [0] (v:=.tuple #[.agg #[vI (M.get 0),vI (M.get 11),vI kd,vI v],.bool true]) (H':=(ap [] [T6])) ?_
  refine⟨T6,rfl,?_⟩
  refine⟨?_,?_⟩
  ·simp only[cR,if_neg h2];exact WW.weak (by omega)
  ·simp only[cR,if_neg h2]
theorem Qp(mb:Nat)(M:MemS)(k:Nat)(T:HL)(S:Setup)(n a b:Int)(F:HL)(hM:MemH mb M (k+1) T)(hS:SetN S):Sp Tryz.prog 283 #[.iface 96 (vP mb 0),(Setup.v S),.agg #[vI n,vI a,vI b]] (ap [] [T]) F (λ u H'=>∃x,H'=ap [] [x] /\ (MemH mb (M.set (bg (32+n)) a) k x /\ u=.tuple #[vI 0,.agg #[vI 0,vI 0,vI 0,vI 0],.bool false])):=by
 have h1:=hS.pl
 have h2:=hS.nb
 refine Sp.run Tryz.func283 rfl mn (A:=[]) (Ts:=[T]) rfl λ w0=>?_
 refine ae 17 [.own 1,.own 1] λ n1=>RN.ct [] [0] (aj (i64.wrap (32+n)) a hM) ?_
 rintro _ T2 Sl
 refine ae 10 [.own 0,.own 0,.own 0,.own 0] λ _=>RN.ret [.own 0,.own 0,.own 0,.own 0] [] [0] (v:=.tuple #[vI 0,.agg #[vI 0,vI 0,vI 0,vI 0],.bool false]) (H':=(ap [] [T2])) ?_
 refine⟨T2,rfl,?_⟩
 refine⟨?_,?_⟩
 ·first|(simp only[];exact Sl.weak (by omega))|exact Sl.weak (by omega)
 ·first|rfl|(simp only[];done)|(simp only[];rfl)
theorem Qq(mb:Nat)(M:MemS)(k:Nat)(T:HL)(S:Setup)(n a b:Int)(F:HL)(hM:MemH mb M (k+0) T)(hS:SetN S):Sp Tryz.prog 284 #[.iface 96 (vP mb 0),(Setup.v S),.agg #[vI n,vI a,vI b]] (ap [] [T]) F (λ u H'=>∃x,H'=ap [] [x] /\ (MemH mb (M) k x /\ u=.tuple #[vI (if af S a >= 0 then M.get (bg (af S a+n)) else 0),.agg #[vI 0,vI 0,vI 0,vI 0],.bool false])):=by
 have h1:=hS.pl
 have h2:=hS.nb
 refine Sp.run Tryz.func284 rfl mn (A:=[]) (Ts:=[T]) rfl λ w0=>?_
 refine ae 15 (ow 2 16++[.own 1]) λ n1=>RN.cp (cO S a _ hS) ?_
 have Uu:=cN hS a
 refine ae 9 [] λ _=>RN.em (af S a >= 0) 15 (λ h3=>?_) λ h3=>?_
 ·refine ae 8 [.own 1] λ _=>RN.cp (aw (i64.wrap ((af S a)+n)) hM (ar 0))<|ae 6 [.own 0,.own 0,.own 0,.own 0] λ _=>RN.ret [.own 0,.own 0,.own 0,.own 0] [] [0] (v:=.tuple #[vI (M.get (i64.wrap ((af S a)+n))),.agg #[vI 0,vI 0,vI 0,vI 0],.bool false]) (H':=(ap [] [T])) ?_
  refine⟨T,rfl,?_⟩
  refine⟨?_,?_⟩
  ·first|(simp only[if_pos h3];exact hM.weak (by omega))|exact hM.weak (by omega)
  ·first|rfl|(simp only[if_pos h3];done)|(simp only[if_pos h3];rfl)
 ·refine ae 11 [.own 0,.own 0,.own 0,.own 0] λ _=>RN.ret [.own 0,.own 0,.own 0,.own 0] [] [0] (v:=.tuple #[vI 0,.agg #[vI 0,vI 0,vI 0,vI 0],.bool false]) (H':=(ap [] [T])) ?_
  refine⟨T,rfl,?_⟩
  refine⟨?_,?_⟩
  ·first|(simp only[if_neg h3];exact hM.weak (by omega))|exact hM.weak (by omega)
  ·first|rfl|(simp only[if_neg h3];done)|(simp only[if_neg h3];rfl)
theorem Qr(mb:Nat)(M:MemS)(k:Nat)(T:HL)(S:Setup)(n a b:Int)(F:HL)(hM:MemH mb M (k+1) T)(hS:SetN S):Sp Tryz.prog 285 #[.iface 96 (vP mb 0),(Setup.v S),.agg #[vI n,vI a,vI b]] (ap [] [T]) F (λ u H'=>∃x,H'=ap [] [x] /\ (MemH mb (if af S a >= 0 then M.set (bg (af S a+n)) (nZ n b) else M) k x /\ u=.tuple #[vI 0,.agg #[vI 0,vI 0,vI 0,vI 0],.bool false])):=by
 have h1:=hS.pl
 have h2:=hS.nb
 refine Sp.run Tryz.func285 rfl mn (A:=[]) (Ts:=[T]) rfl λ w0=>?_
 refine ae 15 (ow 2 16++[.own 1]) λ n1=>RN.cp (cO S a _ hS) ?_
 have Uu:=cN hS a
 refine ae 9 [] λ _=>RN.em (af S a >= 0) 15 (λ h3=>?_) λ h3=>?_
 ·refine ae 1 [] λ _=>RN.draw [13] []<|ag [] [0,1,2,5,7,3,6,8,10,4,11,12] [.own 1,.own 1,.own 1]<|RD.cp [] 9 (λ X_=>(C0 n b  _))<|RD.one 13 (RDO.ct [] [] [0] (aj (i64.wrap ((af S a)+n)) (nZ n b) hM) ?_)
  rintro _ T4 SX
  refine RD.fin<|ae 9 [.own 0,.own 0,.own 0,.own 0] λ _=>RN.ret [.own 0,.own 0,.own 0,.own 0] [] [0] (v:=.tuple #[vI 0,.agg #[vI 0,vI 0,vI 0,vI 0],.bool false]) (H':=(ap [] [T4])) ?_
  refine⟨T4,rfl,?_⟩
  refine⟨?_,?_⟩
  ·first|(simp only[if_pos h3];exact SX.weak (by omega))|exact SX.weak (by omega)
  ·first|rfl|(simp only[if_pos h3];done)|(simp only[if_pos h3];rfl)
 ·refine ae 11 [.own 0,.own 0,.own 0,.own 0] λ _=>RN.ret [.own 0,.own 0,.own 0,.own 0] [] [0] (v:=.tuple #[vI 0,.agg #[vI 0,vI 0,vI 0,vI 0],.bool false]) (H':=(ap [] [T])) ?_
  refine⟨T,rfl,?_⟩
  refine⟨?_,?_⟩
  ·first|(simp only[if_neg h3];exact hM.weak (by omega))|exact hM.weak (by omega)
  ·first|rfl|(simp only[if_neg h3];done)|(simp only[if_neg h3];rfl)
theorem Ow(mb:Nat)(M:MemS)(k:Nat)(T:HL)(S:Setup)(n a b:Int)(F:HL)(hM:MemH mb M (k+1) T)(hS:SetN S):Sp Tryz.prog 287 #[.iface 96 (vP mb 0),(Setup.v S),.agg #[vI n,vI a,vI b]] (ap [] [T]) F (λ u H'=>∃x,H'=ap [] [x] /\ (MemH mb (M.set 6 n) k x /\ u=.tuple #[vI 0,.agg #[vI 0,vI 0,vI 0,vI 0],.bool false])):=by
 have h1:=hS.pl
 have h2:=hS.nb
 refine Sp.run Tryz.func287 rfl mn (A:=[]) (Ts:=[T]) rfl λ w0=>?_
 refine ae 14 [.own 1] λ n1=>RN.ct [] [0] (aj 6 n hM) ?_
 rintro _ T2 Sl
 refine ae 10 [.own 0,.own 0,.own 0,.own 0] λ _=>RN.ret [.own 0,.own 0,.own 0,.own 0] [] [0] (v:=.tuple #[vI 0,.agg #[vI 0,vI 0,vI 0,vI 0],.bool false]) (H':=(ap [] [T2])) ?_
 refine⟨T2,rfl,?_⟩
 refine⟨?_,?_⟩
 ·first|(simp only[];exact Sl.weak (by omega))|exact Sl.weak (by omega)
 ·first|rfl|(simp only[];done)|(simp only[];rfl)
theorem Ox(mb:Nat)(M:MemS)(k:Nat)(T:HL)(S:Setup)(n a b:Int)(F:HL)(hM:MemH mb M (k+1) T)(hS:SetN S):Sp Tryz.prog 288 #[.iface 96 (vP mb 0),(Setup.v S),.agg #[vI n,vI a,vI b]] (ap [] [T]) F (λ u H'=>∃x,H'=ap [] [x] /\ (MemH mb (if a=0 then M.set 6 n else M) k x /\ u=.tuple #[vI 0,.agg #[vI 0,vI 0,vI 0,vI 0],.bool false])):=by
 have h1:=hS.pl
 have h2:=hS.nb
 refine Sp.run Tryz.func288 rfl mn (A:=[]) (Ts:=[T]) rfl λ w0=>?_
 refine ae 17 [.own 1] λ n1=>RN.em (a=0) 11 (λ h2=>?_) λ h2=>?_
 ·refine ae 5 [.own 1] λ _=>RN.ct [] [0] (aj 6 n hM) ?_
  rintro _ T3 L_
  refine ae 10 [.own 0,.own 0,.own 0,.own 0] λ _=>RN.ret [.own 0,.own 0,.own 0,.own 0] [] [0] (v:=.tuple #[vI 0,.agg #[vI 0,vI 0,vI 0,vI 0],.bool false]) (H':=(ap [] [T3])) ?_
  refine⟨T3,rfl,?_⟩
  refine⟨?_,?_⟩
  ·first|(simp only[if_pos h2];exact L_.weak (by omega))|exact L_.weak (by omega)
  ·first|rfl|(simp only[if_pos h2];done)|(simp only[if_pos h2];rfl)
 ·refine ae 11 [.own 0,.own 0,.own 0,.own 0] λ _=>RN.ret [.own 0,.own 0,.own 0,.own 0] [] [0] (v:=.tuple #[vI 0,.agg #[vI 0,vI 0,vI 0,vI 0],.bool false]) (H':=(ap [] [T])) ?_
  refine⟨T,rfl,?_⟩
  refine⟨?_,?_⟩
  ·first|(simp only[if_neg h2];exact hM.weak (by omega))|exact hM.weak (by omega)
  ·first|rfl|(simp only[if_neg h2];done)|(simp only[if_neg h2];rfl)
theorem Oy(mb:Nat)(M:MemS)(k:Nat)(T:HL)(S:Setup)(n a b:Int)(F:HL)(hM:MemH mb M (k+2) T)(hS:SetN S):Sp Tryz.prog 289 #[.iface 96 (vP mb 0),(Setup.v S),.agg #[vI n,vI a,vI b]] (ap [] [T]) F (λ u H'=>∃x,H'=ap [] [x] /\ (MemH mb ((cR a b M).M) k x /\ u=.tuple #[vI 0,.agg #[vI ((cR a b M).e.t),vI ((cR a b M).e.i),vI ((cR a b M).e.k),vI ((cR a b M).e.v)],.bool ((cR a b M).em)])):=by
 have h1:=hS.pl
 have h2:=hS.nb
 refine Sp.run Tryz.func289 rfl mn (A:=[]) (Ts:=[T]) rfl λ w0=>?_
 refine ae 16 [.own 1,.own 1] λ n1=>RN.ct [] [0] (Mz mb M k T a b _ hM) ?_
 rintro _ T2 ⟨Sl,rfl⟩
 refine ae 9 [.own 0,.own 0,.own 0,.own 0] λ n4=>RN.draw [3] [0,2,3]<|ag [0,2,3] [0,1,2] [.own 0,.own 0,.own 0,.own 0]<|RD.one 3 (RDO.ev [0,2,3] [.own 1,.own 1,.own 1,.own 1] λ _=>?_)
 refine ag [0,2,3] [4] []<|RD.fin<|ae 1 [] λ _=>RN.ret [.own 1,.own 1,.own 1,.own 1] [] [0] (v:=.tuple #[vI 0,.agg #[vI ((cR a b M).e.t),vI ((cR a b M).e.i),vI ((cR a b M).e.k),vI ((cR a b M).e.v)],.bool ((cR a b M).em)]) (H':=(ap [] [T2])) ?_
 refine⟨T2,rfl,?_⟩
 refine⟨?_,?_⟩
 ·first|(simp only[];exact Sl.weak (by omega))|exact Sl.weak (by omega)
 ·first|rfl|(simp only[];done)|(simp only[];rfl)
theorem Oz(mb:Nat)(M:MemS)(k:Nat)(T:HL)(S:Setup)(n a b:Int)(F:HL)(hM:MemH mb M (k+0) T)(hS:SetN S):Sp Tryz.prog 291 #[.iface 96 (vP mb 0),(Setup.v S),.agg #[vI n,vI a,vI b]] (ap [] [T]) F (λ u H'=>∃x,H'=ap [] [x] /\ (MemH mb (M) k x /\ u=.tuple #[vI 0,.agg #[vI 0,vI 0,vI 0,vI 0],.bool false])):=by
 have h1:=hS.pl
 have h2:=hS.nb
 refine Sp.run Tryz.func291 rfl mn (A:=[]) (Ts:=[T]) rfl λ w0=>?_
 refine ae 17 [.own 0,.own 0,.own 0,.own 0] λ n1=>RN.ret [.own 0,.own 0,.own 0,.own 0] [] [0] (v:=.tuple #[vI 0,.agg #[vI 0,vI 0,vI 0,vI 0],.bool false]) (H':=(ap [] [T])) ?_
 refine⟨T,rfl,?_⟩
 refine⟨?_,?_⟩
 ·first|(simp only[];exact hM.weak (by omega))|exact hM.weak (by omega)
 ·first|rfl|(simp only[];done)|(simp only[];rfl)
theorem jX(mb:Nat)(M:MemS)(k:Nat)(T:HL)(S:Setup)(op n a b:Int)(F:HL)(hM:MemH mb M (k+2) T)(hS:SetN S)(ho:1 <= op /\ op <= 21):Sp Tryz.prog 228 #[vI op,.iface 96 (vP mb 0),(Setup.v S),.agg #[vI n,vI a,vI b]] (ap [] [T]) F (λ u H'=>∃x,H'=ap [] [x] /\ (MemH mb ((aE S op n a b M).M) k x /\ u=.tuple #[vI ((aE S op n a b M).v),.agg #[vI ((aE S op n a b M).e.t),vI ((aE S op n a b M).e.i),vI ((aE S op n a b M).e.k),vI ((aE S op n a b M).e.v)],.bool ((aE S op n a b M).em)])):=by
 refine Sp.run Tryz.func228 rfl mn (A:=[]) (Ts:=[T]) rfl λ w0=>?_
 refine ae 23 [] λ n1=>RN.em (op=1) 12 (λ h2=>?_) λ h2=>?_
 ·subst h2
  refine ae 5 [] λ _=>RN.draw [8] [1,2]<|ag [1,2] [0,2,3,6,4] [.own 1]<|RD.cp [1,2] 1 (λ X_=>(Ok _))<|RD.cp [1,2] 5 (λ X_=>(ld1 mb M _ T n _ hM (aS 0)))<|ag [1,2] [7] []<|RD.one 8 (RDO.ev [1,2] [.own 0,.own 0,.own 0,.own 0] λ _=>?_)
  refine ag [1,2] [9] []<|RD.fin<|ae 1 [] λ _=>RN.ret [.own 0,.own 0,.own 0,.own 0] [] [0] (v:=.tuple #[vI n,.agg #[vI 0,vI 0,vI 0,vI 0],.bool false]) (H':=(ap [] [T])) ?_
  refine⟨T,rfl,?_⟩
  exact⟨hM.weak (by omega),rfl⟩
 ·refine ae 7 [] λ _=>RN.em (op=2) 12 (λ h3=>?_) λ h3=>?_
  ·subst h3
   refine ae 5 [] λ _=>RN.draw [8] [1,2]<|ag [1,2] [0,2,3,6,4] [.own 1]<|RD.cp [1,2] 1 (λ X_=>(Ol _))<|RD.cp [1,2] 5 (λ X_=>(ld2 mb M _ T n _ hM (aS 0)))<|ag [1,2] [7] []<|RD.one 8 (RDO.ev [1,2] [.own 0,.own 0,.own 0,.own 0] λ _=>?_)
   refine ag [1,2] [9] []<|RD.fin<|ae 1 [] λ _=>RN.ret [.own 0,.own 0,.own 0,.own 0] [] [0] (v:=.tuple #[vI (M.get (bg (32+n))),.agg #[vI 0,vI 0,vI 0,vI 0],.bool false]) (H':=(ap [] [T])) ?_
   refine⟨T,rfl,?_⟩
   exact⟨hM.weak (by omega),rfl⟩
  ·refine ae 7 [] λ _=>RN.em (op=6) 12 (λ h4=>?_) λ h4=>?_
   ·subst h4
    refine ae 5 [] λ _=>RN.draw [8] [1,2]<|ag [1,2] [0,2,3,6,4] [.own 1]<|RD.cp [1,2] 1 (λ X_=>(Om _))<|RD.cp [1,2] 5 (λ X_=>(ld3 mb M _ T n _ hM (aS 0)))<|ag [1,2] [7] []<|RD.one 8 (RDO.ev [1,2] [.own 0,.own 0,.own 0,.own 0] λ _=>?_)
    refine ag [1,2] [9] []<|RD.fin<|ae 1 [] λ _=>RN.ret [.own 0,.own 0,.own 0,.own 0] [] [0] (v:=.tuple #[vI (M.get 9),.agg #[vI 0,vI 0,vI 0,vI 0],.bool false]) (H':=(ap [] [T])) ?_
    refine⟨T,rfl,?_⟩
    exact⟨hM.weak (by omega),rfl⟩
   ·refine ae 7 [] λ _=>RN.em (op=7) 12 (λ h5=>?_) λ h5=>?_
    ·subst h5
     refine ae 5 [] λ _=>RN.draw [8] [1,2]<|ag [1,2] [0,2,3,6,4] [.own 1]<|RD.cp [1,2] 1 (λ X_=>(On _))<|RD.cp [1,2] 5 (λ X_=>(ld4 mb M _ T n _ hM (aS 0)))<|ag [1,2] [7] []<|RD.one 8 (RDO.ev [1,2] [.own 0,.own 0,.own 0,.own 0] λ _=>?_)
     refine ag [1,2] [9] []<|RD.fin<|ae 1 [] λ _=>RN.ret [.own 0,.own 0,.own 0,.own 0] [] [0] (v:=.tuple #[vI (M.get 10),.agg #[vI 0,vI 0,vI 0,vI 0],.bool false]) (H':=(ap [] [T])) ?_
     refine⟨T,rfl,?_⟩
     exact⟨hM.weak (by omega),rfl⟩
    ·refine ae 6 [] λ _=>RN.em (op=8) 12 (λ h6=>?_) λ h6=>?_
     ·subst h6
      refine ae 2 [] λ _=>RN.draw [8] [1,2]<|ag [1,2] [0,2,3,6,4] [.own 1]<|RD.cp [1,2] 1 (λ X_=>(Oo _))<|RD.cp [1,2] 5 (λ X_=>(ld5 mb M _ T n _ hM (aS 0)))<|ag [1,2] [7] []<|RD.one 8 (RDO.ev [1,2] [.own 0,.own 0,.own 0,.own 0] λ _=>?_)
      refine ag [1,2] [9] []<|RD.fin<|ae 1 [] λ _=>RN.ret [.own 0,.own 0,.own 0,.own 0] [] [0] (v:=.tuple #[vI (M.get 0),.agg #[vI 0,vI 0,vI 0,vI 0],.bool false]) (H':=(ap [] [T])) ?_
      refine⟨T,rfl,?_⟩
      exact⟨hM.weak (by omega),rfl⟩
     ·refine ae 8 [] λ _=>RN.em (op=9) 25 (λ h7=>?_) λ h7=>?_
      ·subst h7
       refine ae 5 [] λ _=>RN.draw [9] [1,2]<|ag [1,2] [0,2,4,7,3,5] [.own 1,.own 1]<|RD.cp [1,2] 1 (λ X_=>(Oq _))<|RD.cp [1,2] 6 (λ X_=>(Qi a b _))<|ag [1,2] [8] []<|RD.one 9 (RDO.ev [1,2] [.own 0,.own 0,.own 0,.own 0] λ _=>?_)
       refine ag [1,2] [10] []<|RD.fin<|ae 1 [] λ _=>RN.ret [.own 0,.own 0,.own 0,.own 0] [] [0] (v:=.tuple #[vI (lz (bg (a+b))),.agg #[vI 0,vI 0,vI 0,vI 0],.bool false]) (H':=(ap [] [T])) ?_
       refine⟨T,rfl,?_⟩
       exact⟨hM.weak (by omega),rfl⟩
      ·refine ae 7 [] λ _=>RN.em (op=10) 25 (λ h8=>?_) λ h8=>?_
       ·subst h8
        refine ae 5 [] λ _=>RN.draw [9] [1,2]<|ag [1,2] [0,2,4,7,3,5] [.own 1,.own 1]<|RD.cp [1,2] 1 (λ X_=>(Mn _))<|RD.cp [1,2] 6 (λ X_=>(Qj a b _))<|ag [1,2] [8] []<|RD.one 9 (RDO.ev [1,2] [.own 0,.own 0,.own 0,.own 0] λ _=>?_)
        refine ag [1,2] [10] []<|RD.fin<|ae 1 [] λ _=>RN.ret [.own 0,.own 0,.own 0,.own 0] [] [0] (v:=.tuple #[vI (lz (bg (a-b))),.agg #[vI 0,vI 0,vI 0,vI 0],.bool false]) (H':=(ap [] [T])) ?_
        refine⟨T,rfl,?_⟩
        exact⟨hM.weak (by omega),rfl⟩
       ·refine ae 7 [] λ _=>RN.em (op=11) 25 (λ h9=>?_) λ h9=>?_
        ·subst h9
         refine ae 5 [] λ _=>RN.draw [9] [1,2]<|ag [1,2] [0,2,4,7,3,5] [.own 1,.own 1]<|RD.cp [1,2] 1 (λ X_=>(Mo _))<|RD.cp [1,2] 6 (λ X_=>(Qk a b _))<|ag [1,2] [8] []<|RD.one 9 (RDO.ev [1,2] [.own 0,.own 0,.own 0,.own 0] λ _=>?_)
         refine ag [1,2] [10] []<|RD.fin<|ae 1 [] λ _=>RN.ret [.own 0,.own 0,.own 0,.own 0] [] [0] (v:=.tuple #[vI (lz (bg (a*b))),.agg #[vI 0,vI 0,vI 0,vI 0],.bool false]) (H':=(ap [] [T])) ?_
         refine⟨T,rfl,?_⟩
         exact⟨hM.weak (by omega),rfl⟩
        ·refine ae 7 [] λ _=>RN.em (op=12) 25 (λ Uf=>?_) λ Uf=>?_
         ·subst Uf
          refine ae 5 [] λ _=>RN.draw [9] [1,2]<|ag [1,2] [0,2,4,7,3,5] [.own 1,.own 1]<|RD.cp [1,2] 1 (λ X_=>(Mp _))<|RD.cp [1,2] 6 (λ X_=>(Ql a b _))<|ag [1,2] [8] []<|RD.one 9 (RDO.ev [1,2] [.own 0,.own 0,.own 0,.own 0] λ _=>?_)
          refine ag [1,2] [10] []<|RD.fin<|ae 1 [] λ _=>RN.ret [.own 0,.own 0,.own 0,.own 0] [] [0] (v:=.tuple #[vI (if b=0 then 0 else lz (bg (a.tdiv b))),.agg #[vI 0,vI 0,vI 0,vI 0],.bool false]) (H':=(ap [] [T])) ?_
          refine⟨T,rfl,?_⟩
          exact⟨hM.weak (by omega),rfl⟩
         ·refine ae 7 [] λ _=>RN.em (op=14) 25 (λ Sr=>?_) λ Sr=>?_
          ·subst Sr
           refine ae 5 [] λ _=>RN.draw [9] [1,2]<|ag [1,2] [0,2,4,7,3,5] [.own 1,.own 1]<|RD.cp [1,2] 1 (λ X_=>(Mq _))<|RD.cp [1,2] 6 (λ X_=>(Qm a b _))<|ag [1,2] [8] []<|RD.one 9 (RDO.ev [1,2] [.own 0,.own 0,.own 0,.own 0] λ _=>?_)
           refine ag [1,2] [10] []<|RD.fin<|ae 1 [] λ _=>RN.ret [.own 0,.own 0,.own 0,.own 0] [] [0] (v:=.tuple #[vI (gI (decide (a<b))),.agg #[vI 0,vI 0,vI 0,vI 0],.bool false]) (H':=(ap [] [T])) ?_
           refine⟨T,rfl,?_⟩
           exact⟨hM.weak (by omega),rfl⟩
          ·refine ae 7 [] λ _=>RN.em (op=15) 25 (λ RE=>?_) λ RE=>?_
           ·subst RE
            refine ae 5 [] λ _=>RN.draw [9] [1,2]<|ag [1,2] [0,2,4,7,3,5] [.own 1,.own 1]<|RD.cp [1,2] 1 (λ X_=>(Mr _))<|RD.cp [1,2] 6 (λ X_=>(Qn a b _))<|ag [1,2] [8] []<|RD.one 9 (RDO.ev [1,2] [.own 0,.own 0,.own 0,.own 0] λ _=>?_)
            refine ag [1,2] [10] []<|RD.fin<|ae 1 [] λ _=>RN.ret [.own 0,.own 0,.own 0,.own 0] [] [0] (v:=.tuple #[vI (gI (decide (a <= b))),.agg #[vI 0,vI 0,vI 0,vI 0],.bool false]) (H':=(ap [] [T])) ?_
            refine⟨T,rfl,?_⟩
            exact⟨hM.weak (by omega),rfl⟩
           ·refine ae 6 [] λ _=>RN.em (op=16) 25 (λ Sq=>?_) λ Sq=>?_
            ·subst Sq
             refine ae 2 [] λ _=>RN.draw [9] [1,2]<|ag [1,2] [0,2,4,7,3,5] [.own 1,.own 1]<|RD.cp [1,2] 1 (λ X_=>(Ms _))<|RD.cp [1,2] 6 (λ X_=>(Qo a b _))<|ag [1,2] [8] []<|RD.one 9 (RDO.ev [1,2] [.own 0,.own 0,.own 0,.own 0] λ _=>?_)
             refine ag [1,2] [10] []<|RD.fin<|ae 1 [] λ _=>RN.ret [.own 0,.own 0,.own 0,.own 0] [] [0] (v:=.tuple #[vI (gI (decide (a=b))),.agg #[vI 0,vI 0,vI 0,vI 0],.bool false]) (H':=(ap [] [T])) ?_
             refine⟨T,rfl,?_⟩
             exact⟨hM.weak (by omega),rfl⟩
            ·refine ae 8 [] λ _=>RN.em (op=13) 41 (λ SZ=>?_) λ SZ=>?_
             ·subst SZ
              refine ae 5 [] λ _=>RN.draw [7] [1,2]<|ag [1,2] [0,2,5,3] [.own 1]<|RD.cp [1,2] 1 (λ X_=>(Mt _))<|RD.cp [1,2] 4 (λ X_=>(un1 a _))<|ag [1,2] [6] []<|RD.one 7 (RDO.ev [1,2] [.own 0,.own 0,.own 0,.own 0] λ _=>?_)
              refine ag [1,2] [8] []<|RD.fin<|ae 1 [] λ _=>RN.ret [.own 0,.own 0,.own 0,.own 0] [] [0] (v:=.tuple #[vI (lz (bg (0-a))),.agg #[vI 0,vI 0,vI 0,vI 0],.bool false]) (H':=(ap [] [T])) ?_
              refine⟨T,rfl,?_⟩
              exact⟨hM.weak (by omega),rfl⟩
             ·refine ae 6 [] λ _=>RN.em (op=17) 41 (λ Wo=>?_) λ Wo=>?_
              ·subst Wo
               refine ae 2 [] λ _=>RN.draw [7] [1,2]<|ag [1,2] [0,2,5,3] [.own 1]<|RD.cp [1,2] 1 (λ X_=>(Mu _))<|RD.cp [1,2] 4 (λ X_=>(un2 a _))<|ag [1,2] [6] []<|RD.one 7 (RDO.ev [1,2] [.own 0,.own 0,.own 0,.own 0] λ _=>?_)
               refine ag [1,2] [8] []<|RD.fin<|ae 1 [] λ _=>RN.ret [.own 0,.own 0,.own 0,.own 0] [] [0] (v:=.tuple #[vI (gI (decide (a=0))),.agg #[vI 0,vI 0,vI 0,vI 0],.bool false]) (H':=(ap [] [T])) ?_
               refine⟨T,rfl,?_⟩
               exact⟨hM.weak (by omega),rfl⟩
              ·refine ae 5 [] λ _=>?_
               have h7:op=3 \/ op=4 \/ op=5 \/ op=18 \/ op=19 \/ op=20 \/ op=21:=by omega
               rcases h7 with rfl|rfl|rfl|rfl|rfl|rfl|rfl
               ·refine RN.draw [5,10] []<|ag [] [0,2,3,4] (ow 2 16++[.own 1,.own 1,.own 1])<|RD.cp [] 1 (λ X_=>(Ot _))<|RD.one 5 (RDO.ct [] [] [0] (Qp mb M (k+1) T S n a b _ hM hS) ?_)
                rintro _ TF ⟨Ub,rfl⟩
                refine ag [] [6,7,8,9] []<|RD.one 10 (RDO.ev [] [.own 0,.own 0,.own 0,.own 0] λ _=>?_)
                refine ag [] [11] []<|RD.fin<|ae 1 [] λ _=>RN.ret [.own 0,.own 0,.own 0,.own 0] [] [0] (v:=.tuple #[vI 0,.agg #[vI 0,vI 0,vI 0,vI 0],.bool false]) (H':=(ap [] [TF])) ?_
                refine⟨TF,rfl,?_⟩
                exact⟨Ub.weak (by omega),rfl⟩
               ·refine RN.draw [5,10] []<|ag [] [0,2,3,4] (ow 2 16++[.own 1,.own 1,.own 1])<|RD.cp [] 1 (λ X_=>(Ou _))<|RD.one 5 (RDO.ct [] [] [0] (Qq mb M (k+2) T S n a b _ hM hS) ?_)
                rintro _ ZI ⟨VX,rfl⟩
                refine ag [] [6,7,8,9] []<|RD.one 10 (RDO.ev [] [.own 0,.own 0,.own 0,.own 0] λ _=>?_)
                refine ag [] [11] []<|RD.fin<|ae 1 [] λ _=>RN.ret [.own 0,.own 0,.own 0,.own 0] [] [0] (v:=.tuple #[vI (if af S a >= 0 then M.get (bg (af S a+n)) else 0),.agg #[vI 0,vI 0,vI 0,vI 0],.bool false]) (H':=(ap [] [ZI])) ?_
                refine⟨ZI,rfl,?_⟩
                exact⟨VX.weak (by omega),rfl⟩
               ·refine RN.draw [5,10] []<|ag [] [0,2,3,4] (ow 2 16++[.own 1,.own 1,.own 1])<|RD.cp [] 1 (λ X_=>(Ov _))<|RD.one 5 (RDO.ct [] [] [0] (Qr mb M (k+1) T S n a b _ hM hS) ?_)
                rintro _ Uy ⟨VV,rfl⟩
                refine ag [] [6,7,8,9] []<|RD.one 10 (RDO.ev [] [.own 0,.own 0,.own 0,.own 0] λ _=>?_)
                refine ag [] [11] []<|RD.fin<|ae 1 [] λ _=>RN.ret [.own 0,.own 0,.own 0,.own 0] [] [0] (v:=.tuple #[vI 0,.agg #[vI 0,vI 0,vI 0,vI 0],.bool false]) (H':=(ap [] [Uy])) ?_
                refine⟨Uy,rfl,?_⟩
                exact⟨VV.weak (by omega),rfl⟩
               ·refine RN.draw [5,10] []<|ag [] [0,2,3,4] (ow 2 16++[.own 1,.own 1,.own 1])<|RD.cp [] 1 (λ X_=>(Mv _))<|RD.one 5 (RDO.ct [] [] [0] (Ow mb M (k+1) T S n a b _ hM hS) ?_)
                rintro _ Xh ⟨VU,rfl⟩
                refine ag [] [6,7,8,9] []<|RD.one 10 (RDO.ev [] [.own 0,.own 0,.own 0,.own 0] λ _=>?_)
                refine ag [] [11] []<|RD.fin<|ae 1 [] λ _=>RN.ret [.own 0,.own 0,.own 0,.own 0] [] [0] (v:=.tuple #[vI 0,.agg #[vI 0,vI 0,vI 0,vI 0],.bool false]) (H':=(ap [] [Xh])) ?_
                refine⟨Xh,rfl,?_⟩
                exact⟨VU.weak (by omega),rfl⟩
               ·refine RN.draw [5,10] []<|ag [] [0,2,3,4] (ow 2 16++[.own 1,.own 1,.own 1])<|RD.cp [] 1 (λ X_=>(Mw _))<|RD.one 5 (RDO.ct [] [] [0] (Ox mb M (k+1) T S n a b _ hM hS) ?_)
                rintro _ XW ⟨VT,rfl⟩
                refine ag [] [6,7,8,9] []<|RD.one 10 (RDO.ev [] [.own 0,.own 0,.own 0,.own 0] λ _=>?_)
                refine ag [] [11] []<|RD.fin<|ae 1 [] λ _=>RN.ret [.own 0,.own 0,.own 0,.own 0] [] [0] (v:=.tuple #[vI 0,.agg #[vI 0,vI 0,vI 0,vI 0],.bool false]) (H':=(ap [] [XW])) ?_
                refine⟨XW,rfl,?_⟩
                exact⟨VT.weak (by omega),rfl⟩
               ·refine RN.draw [5,10] []<|ag [] [0,2,3,4] (ow 2 16++[.own 1,.own 1,.own 1])<|RD.cp [] 1 (λ X_=>(Mx _))<|RD.one 5 (RDO.ct [] [] [0] (Oy mb M k T S n a b _ hM hS) ?_)
                rintro _ T26 ⟨hM27,rfl⟩
                refine ag [] [6,7,8,9] []<|RD.one 10 (RDO.ev [] [.own 0,.own 0,.own 0,.own 0] λ _=>?_)
                refine ag [] [11] []<|RD.fin<|ae 1 [] λ _=>RN.ret [.own 0,.own 0,.own 0,.own 0] [] [0] (v:=.tuple #[vI 0,.agg #[vI ((cR a b M).e.t),vI ((cR a b M).e.i),vI ((cR a b M).e.k),vI ((cR a b M).e.v)],.bool ((cR a b M).em)]) (H':=(ap [] [T26])) ?_
                refine⟨T26,rfl,?_⟩
                exact⟨hM27.weak (by omega),rfl⟩
               ·refine RN.draw [5,10] []<|ag [] [0,2,3,4] (ow 2 16++[.own 1,.own 1,.own 1])<|RD.cp [] 1 (λ X_=>(My _))<|RD.one 5 (RDO.ct [] [] [0] (Oz mb M (k+2) T S n a b _ hM hS) ?_)
                rintro _ T28 ⟨YS,rfl⟩
                refine ag [] [6,7,8,9] []<|RD.one 10 (RDO.ev [] [.own 0,.own 0,.own 0,.own 0] λ _=>?_)
                refine ag [] [11] []<|RD.fin<|ae 1 [] λ _=>RN.ret [.own 0,.own 0,.own 0,.own 0] [] [0] (v:=.tuple #[vI 0,.agg #[vI 0,vI 0,vI 0,vI 0],.bool false]) (H':=(ap [] [T28])) ?_
                refine⟨T28,rfl,?_⟩
                exact⟨YS.weak (by omega),rfl⟩
theorem Fy(mb:Nat)(M:MemS)(k:Nat)(T:HL)(A:Option Addr)(n c:Nat)(e0 e1 e2 a b d:Int)(F:HL)(hM:MemH mb M (k+5) T) :Sp Tryz.prog 207 #[.iface 96 (vP mb 0),.agg #[.slice A n c,vI e0,vI e1,vI e2],vI 0,vI a,vI b,vI d] (ap [] [T]) F (λ u H'=>∃x,H'=ap [] [x] /\ (MemH mb (aM e0 d a b M) k x /\ u=.bool (!(decide (e0<0))))):=by
 refine Sp.run Tryz.func207 rfl mn (A:=[]) (Ts:=[T]) rfl λ w0=>?_
 refine ae 28 [.own 0] λ n1=>RN.em (e0<0) 29 (λ h2=>?_) λ h2=>?_
 ·refine ae 6 [] λ _=>RN.ret [] [] [0] (v:=.bool false) (H':=(ap [] [T])) ?_
  refine⟨T,rfl,?_⟩
  refine⟨?_,?_⟩
  ·simp only[aM,if_pos h2];exact hM.weak (by omega)
  ·rw[decide_eq_true h2];rfl
 ·refine ae 4 [] λ _=>RN.draw [8] []<|ag [] [0,1,2,3,5,4,6,7] [.own 0]<|RD.one 8 (RDO.ct [] [] [0] (aj 6 e0 hM) ?_)
  rintro _ T3 L_
  refine RD.fin<|ae 4 [] λ _=>RN.ct [] [0] (aj 7 0 L_) ?_
  rintro _ T5 RL
  refine ae 6 [] λ _=>RN.ct [] [0] (aj 8 d RL) ?_
  rintro _ T7 Sw
  refine ae 6 [] λ _=>RN.ct [] [0] (aj 9 a Sw) ?_
  rintro _ T9 R9
  refine ae 6 [] λ _=>RN.ct [] [0] (aj 10 b R9) ?_
  rintro _ Of Q6
  refine ae 7 [] λ _=>RN.ret [] [] [0] (v:=.bool true) (H':=(ap [] [Of])) ?_
  refine⟨Of,rfl,?_⟩
  refine⟨?_,?_⟩
  ·simp only[aM,if_neg h2];exact Q6.weak (by omega)
  ·rw[decide_eq_false h2];rfl
theorem Fz(mb:Nat)(M:MemS)(k:Nat)(T:HL)(A:Option Addr)(n c:Nat)(e0 e1 e2 a b d:Int)(F:HL)(hM:MemH mb M (k+5) T) :Sp Tryz.prog 207 #[.iface 96 (vP mb 0),.agg #[.slice A n c,vI e0,vI e1,vI e2],vI 1,vI a,vI b,vI d] (ap [] [T]) F (λ u H'=>∃x,H'=ap [] [x] /\ (MemH mb (aM e1 d a b M) k x /\ u=.bool (!(decide (e1<0))))):=by
 refine Sp.run Tryz.func207 rfl mn (A:=[]) (Ts:=[T]) rfl λ w0=>?_
 refine ae 28 [.own 0] λ n1=>RN.em (e1<0) 29 (λ h2=>?_) λ h2=>?_
 ·refine ae 6 [] λ _=>RN.ret [] [] [0] (v:=.bool false) (H':=(ap [] [T])) ?_
  refine⟨T,rfl,?_⟩
  refine⟨?_,?_⟩
  ·simp only[aM,if_pos h2];exact hM.weak (by omega)
  ·rw[decide_eq_true h2];rfl
 ·refine ae 4 [] λ _=>RN.draw [8] []<|ag [] [0,1,2,3,5,4,6,7] [.own 0]<|RD.one 8 (RDO.ct [] [] [0] (aj 6 e1 hM) ?_)
  rintro _ T3 L_
  refine RD.fin<|ae 4 [] λ _=>RN.ct [] [0] (aj 7 0 L_) ?_
  rintro _ T5 RL
  refine ae 6 [] λ _=>RN.ct [] [0] (aj 8 d RL) ?_
  rintro _ T7 Sw
  refine ae 6 [] λ _=>RN.ct [] [0] (aj 9 a Sw) ?_
  rintro _ T9 R9
  refine ae 6 [] λ _=>RN.ct [] [0] (aj 10 b R9) ?_
  rintro _ Of Q6
  refine ae 7 [] λ _=>RN.ret [] [] [0] (v:=.bool true) (H':=(ap [] [Of])) ?_
  refine⟨Of,rfl,?_⟩
  refine⟨?_,?_⟩
  ·simp only[aM,if_neg h2];exact Q6.weak (by omega)
  ·rw[decide_eq_false h2];rfl
theorem FB(mb:Nat)(M:MemS)(k:Nat)(T:HL)(A:Option Addr)(n c:Nat)(e0 e1 e2 a b d:Int)(F:HL)(hM:MemH mb M (k+5) T) :Sp Tryz.prog 207 #[.iface 96 (vP mb 0),.agg #[.slice A n c,vI e0,vI e1,vI e2],vI 2,vI a,vI b,vI d] (ap [] [T]) F (λ u H'=>∃x,H'=ap [] [x] /\ (MemH mb (aM e2 d a b M) k x /\ u=.bool (!(decide (e2<0))))):=by
 refine Sp.run Tryz.func207 rfl mn (A:=[]) (Ts:=[T]) rfl λ w0=>?_
 refine ae 28 [.own 0] λ n1=>RN.em (e2<0) 29 (λ h2=>?_) λ h2=>?_
 ·refine ae 6 [] λ _=>RN.ret [] [] [0] (v:=.bool false) (H':=(ap [] [T])) ?_
  refine⟨T,rfl,?_⟩
  refine⟨?_,?_⟩
  ·simp only[aM,if_pos h2];exact hM.weak (by omega)
  ·rw[decide_eq_true h2];rfl
 ·refine ae 4 [] λ _=>RN.draw [8] []<|ag [] [0,1,2,3,5,4,6,7] [.own 0]<|RD.one 8 (RDO.ct [] [] [0] (aj 6 e2 hM) ?_)
  rintro _ T3 L_
  refine RD.fin<|ae 4 [] λ _=>RN.ct [] [0] (aj 7 0 L_) ?_
  rintro _ T5 RL
  refine ae 6 [] λ _=>RN.ct [] [0] (aj 8 d RL) ?_
  rintro _ T7 Sw
  refine ae 6 [] λ _=>RN.ct [] [0] (aj 9 a Sw) ?_
  rintro _ T9 R9
  refine ae 6 [] λ _=>RN.ct [] [0] (aj 10 b R9) ?_
  rintro _ Of Q6
  refine ae 7 [] λ _=>RN.ret [] [] [0] (v:=.bool true) (H':=(ap [] [Of])) ?_
  refine⟨Of,rfl,?_⟩
  refine⟨?_,?_⟩
  ·simp only[aM,if_neg h2];exact Q6.weak (by omega)
  ·rw[decide_eq_false h2];rfl
theorem FC{op n sp:Int}(h:eY op n sp=true):1 <= op /\ op <= 21:=by
 unfold eY at h
 by_cases h1:op<1
 ·rw[if_pos h1] at h;cases h
 ·rw[if_neg h1] at h
  by_cases h2:op>21
  ·rw[if_pos h2] at h;cases h
  ·omega
theorem zk(mb:Nat)(M:MemS)(k:Nat)(T:HL)(S:Setup)(code:List Ins)(b R n cc:Nat)(e0 e1 e2:Int)(F:HL)(hM:MemH mb M (k+6) T)(hS:SetN S)(hE:dh F)(hc:(b,.rows 2 R (Oj code) 155 (0,0))∈F)(hnR:n <= R)(hn2:n <= 1000000):Sp Tryz.prog 208 #[.iface 96 (vP mb 0),(Setup.v S),.agg #[vS b 0 n cc,vI e0,vI e1,vI e2]] (ap [] [T]) F (λ u H'=>∃x,H'=ap [] [x] /\ (MemH mb ((ak S code n M).M) k x /\ u=.tuple #[.bool (bx code n M),.agg #[vI ((ak S code n M).e.t),vI ((ak S code n M).e.i),vI ((ak S code n M).e.k),vI ((ak S code n M).e.v)],.bool ((ak S code n M).em)])):=by
 refine Sp.run Tryz.func208 rfl (mc hc (mc hE mn)) (A:=[]) (Ts:=[T]) rfl λ w0=>?_
 refine ae 22 [] λ n1=>RN.cp (aw 6 hM (ar 0))<|ae 1 [] λ _=>RN.cp (aw 7 hM (ar 0))<|ae 1 [] λ _=>RN.cp (aw 8 hM (ar 0))<|ae 11 [] λ _=>RN.em (M.get 8<1) 29 (λ h2=>?_) λ h2=>?_
 ·refine ae 31 [.own 0,.own 0,.own 0,.own 0] λ _=>RN.ret [.own 0,.own 0,.own 0,.own 0] [] [0] (v:=.tuple #[.bool true,.agg #[vI 0,vI 0,vI 0,vI 0],.bool false]) (H':=(ap [] [T])) ?_
  refine⟨T,rfl,?_⟩
  have hr:¬ dX code n M:=λ RI=>RI.1 h2
  refine⟨?_,?_⟩
  ·simp only[ak,bx,if_neg hr];exact hM.weak (by omega)
  ·first|(simp only[ak,bx,if_neg hr];try rfl;done)
 ·refine ae 4 [] λ _=>RN.em (M.get 6<0) 33 (λ h3=>?_) λ h3=>?_
  ·refine ae 27 [.own 0,.own 0,.own 0,.own 0] λ _=>RN.ret [.own 0,.own 0,.own 0,.own 0] [] [0] (v:=.tuple #[.bool true,.agg #[vI 0,vI 0,vI 0,vI 0],.bool false]) (H':=(ap [] [T])) ?_
   refine⟨T,rfl,?_⟩
   have hr:¬ dX code n M:=λ RI=>RI.2.1 h3
   refine⟨?_,?_⟩
   ·simp only[ak,bx,if_neg hr];exact hM.weak (by omega)
   ·first|(simp only[ak,bx,if_neg hr];try rfl;done)
  ·refine ae 7 [.own 1] λ _=>RN.em (M.get 6 >= (n:Int)) 40 (λ h4=>?_) λ h4=>?_
   ·refine ae 20 [.own 0,.own 0,.own 0,.own 0] λ _=>RN.ret [.own 0,.own 0,.own 0,.own 0] [] [0] (v:=.tuple #[.bool true,.agg #[vI 0,vI 0,vI 0,vI 0],.bool false]) (H':=(ap [] [T])) ?_
    refine⟨T,rfl,?_⟩
    have hr:¬ dX code n M:=λ RI=>RI.2.2.1 h4
    refine⟨?_,?_⟩
    ·simp only[ak,bx,if_neg hr];exact hM.weak (by omega)
    ·first|(simp only[ak,bx,if_neg hr];try rfl;done)
   ·refine ai 6 [.own 1,.ix ((M.get 6).toNat),.rorow 0 ((M.get 6).toNat) 0,.rorow 0 ((M.get 6).toNat) 1] [((0+((M.get 6).toNat)*2)+1)=((M.get 6).toNat)*2+1 /\ ((M.get 6).toNat)<R,(0+((M.get 6).toNat)*2)=((M.get 6).toNat)*2+0 /\ ((M.get 6).toNat)<R,M.get 6=(((M.get 6).toNat:Nat):Int) /\ (M.get 6).toNat<n] λ _=>RN.cp (JI ((code.getD ((M.get 6).toNat) dIns).op) ((code.getD ((M.get 6).toNat) dIns).n) (M.get 7) _ (aq hE))<|ae 4 [] λ _=>tq (eY ((code.getD ((M.get 6).toNat) dIns).op) ((code.getD ((M.get 6).toNat) dIns).n) (M.get 7)) 49 (λ h5=>?_) λ h5=>?_
    ·have ho:=FC h5
     refine ai 15 [.own 1,.ix ((M.get 6).toNat),.rorow 0 ((M.get 6).toNat) 0,.rorow 0 ((M.get 6).toNat) 1,.own 0,.own 0] [((0+((M.get 6).toNat)*2)+1)=((M.get 6).toNat)*2+1 /\ ((M.get 6).toNat)<R,(0+((M.get 6).toNat)*2)=((M.get 6).toNat)*2+0 /\ ((M.get 6).toNat)<R,M.get 6=(((M.get 6).toNat:Nat):Int) /\ (M.get 6).toNat<n] λ n6=>RN.draw [] []<|aG [] [0,5,1,6,2,7,3,8,4,9,10,11] [.own 0,.own 0,.ix (((code.getD ((M.get 6).toNat) dIns).op).toNat),.ix (((code.getD ((M.get 6).toNat) dIns).op).toNat),.rorow 1 (((code.getD ((M.get 6).toNat) dIns).op).toNat) 0,.rorow 1 (((code.getD ((M.get 6).toNat) dIns).op).toNat) 1] [((0+(((code.getD ((M.get 6).toNat) dIns).op).toNat)*3)+1)=(((code.getD ((M.get 6).toNat) dIns).op).toNat)*3+1 /\ (((code.getD ((M.get 6).toNat) dIns).op).toNat)<22,(0+(((code.getD ((M.get 6).toNat) dIns).op).toNat)*3)=(((code.getD ((M.get 6).toNat) dIns).op).toNat)*3+0 /\ (((code.getD ((M.get 6).toNat) dIns).op).toNat)<22,(code.getD ((M.get 6).toNat) dIns).op=((((code.getD ((M.get 6).toNat) dIns).op).toNat:Nat):Int) /\ ((code.getD ((M.get 6).toNat) dIns).op).toNat<22,(code.getD ((M.get 6).toNat) dIns).op=((((code.getD ((M.get 6).toNat) dIns).op).toNat:Nat):Int) /\ ((code.getD ((M.get 6).toNat) dIns).op).toNat<22]<|RD.fin<|ae 38 [.own 0,.own 0,.own 0,.own 0] λ n7=>RN.em (eP ((code.getD ((M.get 6).toNat) dIns).op)=2) 74 (λ h8=>?_) λ h8=>?_
     ·refine ae 10 [] λ _=>RN.cp (aw (i64.wrap ((i64.wrap ((i64.wrap (16+(M.get 7)))-(eP ((code.getD ((M.get 6).toNat) dIns).op))))+1)) hM (ar 0))<|ae 9 [.own 0] λ _=>RN.cp (aw (i64.wrap ((i64.wrap (16+(M.get 7)))-(eP ((code.getD ((M.get 6).toNat) dIns).op)))) hM (ar 0))<|ae 12 [.own 0] λ _=>RN.ct [] [0] (aj 8 (i64.wrap ((M.get 8)-1)) hM) ?_
      rintro _ T9 R9
      refine ae 7 [] λ _=>RN.ct [] [0] (aj 6 (i64.wrap ((M.get 6)+1)) R9) ?_
      rintro _ Of Q6
      refine ae 10 [] λ _=>RN.en (eP ((code.getD ((M.get 6).toNat) dIns).op)=eQ ((code.getD ((M.get 6).toNat) dIns).op)) 97 (λ Sq=>?_) λ Sq=>?_
      ·refine ae 10 ([.own 1]++ow 4 16++[.own 0,.own 0,.own 0]) λ _=>RN.ct [] [0] (jX mb ((M.set 8 (i64.wrap ((M.get 8)-1))).set 6 (i64.wrap ((M.get 6)+1))) (k+2) Of S ((code.getD ((M.get 6).toNat) dIns).op) ((code.getD ((M.get 6).toNat) dIns).n) (M.get (i64.wrap ((i64.wrap (16+(M.get 7)))-(eP ((code.getD ((M.get 6).toNat) dIns).op))))) (M.get (i64.wrap ((i64.wrap ((i64.wrap (16+(M.get 7)))-(eP ((code.getD ((M.get 6).toNat) dIns).op))))+1))) _ Q6 hS (by assumption)) ?_
       rintro _ Zg ⟨Uc,rfl⟩
       refine ae 16 [.own 2,.own 2,.own 2,.own 2] λ _=>RN.em (eQ ((code.getD ((M.get 6).toNat) dIns).op)>0) 116 (λ Ru=>?_) λ Ru=>?_
       ·refine ae 8 [] λ _=>RN.ct [] [0] (aj (i64.wrap ((i64.wrap (16+(M.get 7)))-(eP ((code.getD ((M.get 6).toNat) dIns).op)))) ((aE S ((code.getD ((M.get 6).toNat) dIns).op) ((code.getD ((M.get 6).toNat) dIns).n) (M.get (i64.wrap ((i64.wrap (16+(M.get 7)))-(eP ((code.getD ((M.get 6).toNat) dIns).op))))) (M.get (i64.wrap ((i64.wrap ((i64.wrap (16+(M.get 7)))-(eP ((code.getD ((M.get 6).toNat) dIns).op))))+1))) ((M.set 8 (i64.wrap ((M.get 8)-1))).set 6 (i64.wrap ((M.get 6)+1)))).v) Uc) ?_
        rintro _ Sy SP
        refine ae 3 [] λ _=>RN.draw [6] [0,1,3,4]<|ag [0,1,3,4] [0,3,4,1,2,5] [.own 2,.own 2,.own 2,.own 2,.own 1]<|RD.one 6 (RDO.ev [0,1,3,4] [.own 2,.own 2,.own 2,.own 2] λ _=>?_)
        refine ag [0,1,3,4] [7] []<|RD.fin<|ae 1 [] λ _=>RN.ret [.own 2,.own 2,.own 2,.own 2] [] [0] (v:=.tuple #[.bool (decide ((code.getD ((M.get 6).toNat) dIns).op=21)),.agg #[vI ((aE S ((code.getD ((M.get 6).toNat) dIns).op) ((code.getD ((M.get 6).toNat) dIns).n) (M.get (i64.wrap ((i64.wrap (16+(M.get 7)))-(eP ((code.getD ((M.get 6).toNat) dIns).op))))) (M.get (i64.wrap ((i64.wrap ((i64.wrap (16+(M.get 7)))-(eP ((code.getD ((M.get 6).toNat) dIns).op))))+1))) ((M.set 8 (i64.wrap ((M.get 8)-1))).set 6 (i64.wrap ((M.get 6)+1)))).e.t),vI ((aE S ((code.getD ((M.get 6).toNat) dIns).op) ((code.getD ((M.get 6).toNat) dIns).n) (M.get (i64.wrap ((i64.wrap (16+(M.get 7)))-(eP ((code.getD ((M.get 6).toNat) dIns).op))))) (M.get (i64.wrap ((i64.wrap ((i64.wrap (16+(M.get 7)))-(eP ((code.getD ((M.get 6).toNat) dIns).op))))+1))) ((M.set 8 (i64.wrap ((M.get 8)-1))).set 6 (i64.wrap ((M.get 6)+1)))).e.i),vI ((aE S ((code.getD ((M.get 6).toNat) dIns).op) ((code.getD ((M.get 6).toNat) dIns).n) (M.get (i64.wrap ((i64.wrap (16+(M.get 7)))-(eP ((code.getD ((M.get 6).toNat) dIns).op))))) (M.get (i64.wrap ((i64.wrap ((i64.wrap (16+(M.get 7)))-(eP ((code.getD ((M.get 6).toNat) dIns).op))))+1))) ((M.set 8 (i64.wrap ((M.get 8)-1))).set 6 (i64.wrap ((M.get 6)+1)))).e.k),vI ((aE S ((code.getD ((M.get 6).toNat) dIns).op) ((code.getD ((M.get 6).toNat) dIns).n) (M.get (i64.wrap ((i64.wrap (16+(M.get 7)))-(eP ((code.getD ((M.get 6).toNat) dIns).op))))) (M.get (i64.wrap ((i64.wrap ((i64.wrap (16+(M.get 7)))-(eP ((code.getD ((M.get 6).toNat) dIns).op))))+1))) ((M.set 8 (i64.wrap ((M.get 8)-1))).set 6 (i64.wrap ((M.get 6)+1)))).e.v)],.bool ((aE S ((code.getD ((M.get 6).toNat) dIns).op) ((code.getD ((M.get 6).toNat) dIns).n) (M.get (i64.wrap ((i64.wrap (16+(M.get 7)))-(eP ((code.getD ((M.get 6).toNat) dIns).op))))) (M.get (i64.wrap ((i64.wrap ((i64.wrap (16+(M.get 7)))-(eP ((code.getD ((M.get 6).toNat) dIns).op))))+1))) ((M.set 8 (i64.wrap ((M.get 8)-1))).set 6 (i64.wrap ((M.get 6)+1)))).em)]) (H':=(ap [] [Sy])) ?_
        refine⟨Sy,rfl,?_⟩
        have hr:dX code n M:=⟨h2,h3,h4,h5⟩
        refine⟨?_,?_⟩
        ·simp only[ak,bx,if_pos hr,cm,bX,d9,ee,dJ,bq,if_pos h8,if_pos Sq,if_pos Ru];exact SP.weak (by omega)
        ·first|(simp only[ak,bx,if_pos hr,cm,bX,d9,ee,dJ,bq,if_pos h8,if_pos Sq,if_pos Ru];try rfl;done)
       ·refine ae 4 [] λ _=>RN.draw [6] [0,1,3,4]<|ag [0,1,3,4] [0,3,4,1,2,5] [.own 2,.own 2,.own 2,.own 2,.own 1]<|RD.one 6 (RDO.ev [0,1,3,4] [.own 2,.own 2,.own 2,.own 2] λ _=>?_)
        refine ag [0,1,3,4] [7] []<|RD.fin<|ae 1 [] λ _=>RN.ret [.own 2,.own 2,.own 2,.own 2] [] [0] (v:=.tuple #[.bool (decide ((code.getD ((M.get 6).toNat) dIns).op=21)),.agg #[vI ((aE S ((code.getD ((M.get 6).toNat) dIns).op) ((code.getD ((M.get 6).toNat) dIns).n) (M.get (i64.wrap ((i64.wrap (16+(M.get 7)))-(eP ((code.getD ((M.get 6).toNat) dIns).op))))) (M.get (i64.wrap ((i64.wrap ((i64.wrap (16+(M.get 7)))-(eP ((code.getD ((M.get 6).toNat) dIns).op))))+1))) ((M.set 8 (i64.wrap ((M.get 8)-1))).set 6 (i64.wrap ((M.get 6)+1)))).e.t),vI ((aE S ((code.getD ((M.get 6).toNat) dIns).op) ((code.getD ((M.get 6).toNat) dIns).n) (M.get (i64.wrap ((i64.wrap (16+(M.get 7)))-(eP ((code.getD ((M.get 6).toNat) dIns).op))))) (M.get (i64.wrap ((i64.wrap ((i64.wrap (16+(M.get 7)))-(eP ((code.getD ((M.get 6).toNat) dIns).op))))+1))) ((M.set 8 (i64.wrap ((M.get 8)-1))).set 6 (i64.wrap ((M.get 6)+1)))).e.i),vI ((aE S ((code.getD ((M.get 6).toNat) dIns).op) ((code.getD ((M.get 6).toNat) dIns).n) (M.get (i64.wrap ((i64.wrap (16+(M.get 7)))-(eP ((code.getD ((M.get 6).toNat) dIns).op))))) (M.get (i64.wrap ((i64.wrap ((i64.wrap (16+(M.get 7)))-(eP ((code.getD ((M.get 6).toNat) dIns).op))))+1))) ((M.set 8 (i64.wrap ((M.get 8)-1))).set 6 (i64.wrap ((M.get 6)+1)))).e.k),vI ((aE S ((code.getD ((M.get 6).toNat) dIns).op) ((code.getD ((M.get 6).toNat) dIns).n) (M.get (i64.wrap ((i64.wrap (16+(M.get 7)))-(eP ((code.getD ((M.get 6).toNat) dIns).op))))) (M.get (i64.wrap ((i64.wrap ((i64.wrap (16+(M.get 7)))-(eP ((code.getD ((M.get 6).toNat) dIns).op))))+1))) ((M.set 8 (i64.wrap ((M.get 8)-1))).set 6 (i64.wrap ((M.get 6)+1)))).e.v)],.bool ((aE S ((code.getD ((M.get 6).toNat) dIns).op) ((code.getD ((M.get 6).toNat) dIns).n) (M.get (i64.wrap ((i64.wrap (16+(M.get 7)))-(eP ((code.getD ((M.get 6).toNat) dIns).op))))) (M.get (i64.wrap ((i64.wrap ((i64.wrap (16+(M.get 7)))-(eP ((code.getD ((M.get 6).toNat) dIns).op))))+1))) ((M.set 8 (i64.wrap ((M.get 8)-1))).set 6 (i64.wrap ((M.get 6)+1)))).em)]) (H':=(ap [] [Zg])) ?_
        refine⟨Zg,rfl,?_⟩
        have hr:dX code n M:=⟨h2,h3,h4,h5⟩
        refine⟨?_,?_⟩
        ·simp only[ak,bx,if_pos hr,cm,bX,d9,ee,dJ,bq,if_pos h8,if_pos Sq,if_neg Ru];exact Uc.weak (by omega)
        ·first|(simp only[ak,bx,if_pos hr,cm,bX,d9,ee,dJ,bq,if_pos h8,if_pos Sq,if_neg Ru];try rfl;done)
      ·refine ae 8 [] λ _=>RN.ct [] [0] (aj 7 (i64.wrap ((i64.wrap ((M.get 7)-(eP ((code.getD ((M.get 6).toNat) dIns).op))))+(eQ ((code.getD ((M.get 6).toNat) dIns).op)))) Q6) ?_
       rintro _ Uh VW
       refine ae 9 ([.own 1]++ow 4 16++[.own 0,.own 0,.own 0]) λ _=>RN.ct [] [0] (jX mb (((M.set 8 (i64.wrap ((M.get 8)-1))).set 6 (i64.wrap ((M.get 6)+1))).set 7 (i64.wrap ((i64.wrap ((M.get 7)-(eP ((code.getD ((M.get 6).toNat) dIns).op))))+(eQ ((code.getD ((M.get 6).toNat) dIns).op))))) (k+1) Uh S ((code.getD ((M.get 6).toNat) dIns).op) ((code.getD ((M.get 6).toNat) dIns).n) (M.get (i64.wrap ((i64.wrap (16+(M.get 7)))-(eP ((code.getD ((M.get 6).toNat) dIns).op))))) (M.get (i64.wrap ((i64.wrap ((i64.wrap (16+(M.get 7)))-(eP ((code.getD ((M.get 6).toNat) dIns).op))))+1))) _ VW hS (by assumption)) ?_
       rintro _ T21 ⟨W0,rfl⟩
       refine ae 16 [.own 2,.own 2,.own 2,.own 2] λ _=>RN.em (eQ ((code.getD ((M.get 6).toNat) dIns).op)>0) 116 (λ h23=>?_) λ h23=>?_
       ·refine ae 8 [] λ _=>RN.ct [] [0] (aj (i64.wrap ((i64.wrap (16+(M.get 7)))-(eP ((code.getD ((M.get 6).toNat) dIns).op)))) ((aE S ((code.getD ((M.get 6).toNat) dIns).op) ((code.getD ((M.get 6).toNat) dIns).n) (M.get (i64.wrap ((i64.wrap (16+(M.get 7)))-(eP ((code.getD ((M.get 6).toNat) dIns).op))))) (M.get (i64.wrap ((i64.wrap ((i64.wrap (16+(M.get 7)))-(eP ((code.getD ((M.get 6).toNat) dIns).op))))+1))) (((M.set 8 (i64.wrap ((M.get 8)-1))).set 6 (i64.wrap ((M.get 6)+1))).set 7 (i64.wrap ((i64.wrap ((M.get 7)-(eP ((code.getD ((M.get 6).toNat) dIns).op))))+(eQ ((code.getD ((M.get 6).toNat) dIns).op)))))).v) W0) ?_
        rintro _ XW VT
        refine ae 3 [] λ _=>RN.draw [6] [0,1,3,4]<|ag [0,1,3,4] [0,3,4,1,2,5] [.own 2,.own 2,.own 2,.own 2,.own 1]<|RD.one 6 (RDO.ev [0,1,3,4] [.own 2,.own 2,.own 2,.own 2] λ _=>?_)
        refine ag [0,1,3,4] [7] []<|RD.fin<|ae 1 [] λ _=>RN.ret [.own 2,.own 2,.own 2,.own 2] [] [0] (v:=.tuple #[.bool (decide ((code.getD ((M.get 6).toNat) dIns).op=21)),.agg #[vI ((aE S ((code.getD ((M.get 6).toNat) dIns).op) ((code.getD ((M.get 6).toNat) dIns).n) (M.get (i64.wrap ((i64.wrap (16+(M.get 7)))-(eP ((code.getD ((M.get 6).toNat) dIns).op))))) (M.get (i64.wrap ((i64.wrap ((i64.wrap (16+(M.get 7)))-(eP ((code.getD ((M.get 6).toNat) dIns).op))))+1))) (((M.set 8 (i64.wrap ((M.get 8)-1))).set 6 (i64.wrap ((M.get 6)+1))).set 7 (i64.wrap ((i64.wrap ((M.get 7)-(eP ((code.getD ((M.get 6).toNat) dIns).op))))+(eQ ((code.getD ((M.get 6).toNat) dIns).op)))))).e.t),vI ((aE S ((code.getD ((M.get 6).toNat) dIns).op) ((code.getD ((M.get 6).toNat) dIns).n) (M.get (i64.wrap ((i64.wrap (16+(M.get 7)))-(eP ((code.getD ((M.get 6).toNat) dIns).op))))) (M.get (i64.wrap ((i64.wrap ((i64.wrap (16+(M.get 7)))-(eP ((code.getD ((M.get 6).toNat) dIns).op))))+1))) (((M.set 8 (i64.wrap ((M.get 8)-1))).set 6 (i64.wrap ((M.get 6)+1))).set 7 (i64.wrap ((i64.wrap ((M.get 7)-(eP ((code.getD ((M.get 6).toNat) dIns).op))))+(eQ ((code.getD ((M.get 6).toNat) dIns).op)))))).e.i),vI ((aE S ((code.getD ((M.get 6).toNat) dIns).op) ((code.getD ((M.get 6).toNat) dIns).n) (M.get (i64.wrap ((i64.wrap (16+(M.get 7)))-(eP ((code.getD ((M.get 6).toNat) dIns).op))))) (M.get (i64.wrap ((i64.wrap ((i64.wrap (16+(M.get 7)))-(eP ((code.getD ((M.get 6).toNat) dIns).op))))+1))) (((M.set 8 (i64.wrap ((M.get 8)-1))).set 6 (i64.wrap ((M.get 6)+1))).set 7 (i64.wrap ((i64.wrap ((M.get 7)-(eP ((code.getD ((M.get 6).toNat) dIns).op))))+(eQ ((code.getD ((M.get 6).toNat) dIns).op)))))).e.k),vI ((aE S ((code.getD ((M.get 6).toNat) dIns).op) ((code.getD ((M.get 6).toNat) dIns).n) (M.get (i64.wrap ((i64.wrap (16+(M.get 7)))-(eP ((code.getD ((M.get 6).toNat) dIns).op))))) (M.get (i64.wrap ((i64.wrap ((i64.wrap (16+(M.get 7)))-(eP ((code.getD ((M.get 6).toNat) dIns).op))))+1))) (((M.set 8 (i64.wrap ((M.get 8)-1))).set 6 (i64.wrap ((M.get 6)+1))).set 7 (i64.wrap ((i64.wrap ((M.get 7)-(eP ((code.getD ((M.get 6).toNat) dIns).op))))+(eQ ((code.getD ((M.get 6).toNat) dIns).op)))))).e.v)],.bool ((aE S ((code.getD ((M.get 6).toNat) dIns).op) ((code.getD ((M.get 6).toNat) dIns).n) (M.get (i64.wrap ((i64.wrap (16+(M.get 7)))-(eP ((code.getD ((M.get 6).toNat) dIns).op))))) (M.get (i64.wrap ((i64.wrap ((i64.wrap (16+(M.get 7)))-(eP ((code.getD ((M.get 6).toNat) dIns).op))))+1))) (((M.set 8 (i64.wrap ((M.get 8)-1))).set 6 (i64.wrap ((M.get 6)+1))).set 7 (i64.wrap ((i64.wrap ((M.get 7)-(eP ((code.getD ((M.get 6).toNat) dIns).op))))+(eQ ((code.getD ((M.get 6).toNat) dIns).op)))))).em)]) (H':=(ap [] [XW])) ?_
        refine⟨XW,rfl,?_⟩
        have hr:dX code n M:=⟨h2,h3,h4,h5⟩
        refine⟨?_,?_⟩
        ·simp only[ak,bx,if_pos hr,cm,bX,d9,ee,dJ,bq,if_pos h8,if_neg Sq,if_pos h23];exact VT.weak (by omega)
        ·first|(simp only[ak,bx,if_pos hr,cm,bX,d9,ee,dJ,bq,if_pos h8,if_neg Sq,if_pos h23];try rfl;done)
       ·refine ae 4 [] λ _=>RN.draw [6] [0,1,3,4]<|ag [0,1,3,4] [0,3,4,1,2,5] [.own 2,.own 2,.own 2,.own 2,.own 1]<|RD.one 6 (RDO.ev [0,1,3,4] [.own 2,.own 2,.own 2,.own 2] λ _=>?_)
        refine ag [0,1,3,4] [7] []<|RD.fin<|ae 1 [] λ _=>RN.ret [.own 2,.own 2,.own 2,.own 2] [] [0] (v:=.tuple #[.bool (decide ((code.getD ((M.get 6).toNat) dIns).op=21)),.agg #[vI ((aE S ((code.getD ((M.get 6).toNat) dIns).op) ((code.getD ((M.get 6).toNat) dIns).n) (M.get (i64.wrap ((i64.wrap (16+(M.get 7)))-(eP ((code.getD ((M.get 6).toNat) dIns).op))))) (M.get (i64.wrap ((i64.wrap ((i64.wrap (16+(M.get 7)))-(eP ((code.getD ((M.get 6).toNat) dIns).op))))+1))) (((M.set 8 (i64.wrap ((M.get 8)-1))).set 6 (i64.wrap ((M.get 6)+1))).set 7 (i64.wrap ((i64.wrap ((M.get 7)-(eP ((code.getD ((M.get 6).toNat) dIns).op))))+(eQ ((code.getD ((M.get 6).toNat) dIns).op)))))).e.t),vI ((aE S ((code.getD ((M.get 6).toNat) dIns).op) ((code.getD ((M.get 6).toNat) dIns).n) (M.get (i64.wrap ((i64.wrap (16+(M.get 7)))-(eP ((code.getD ((M.get 6).toNat) dIns).op))))) (M.get (i64.wrap ((i64.wrap ((i64.wrap (16+(M.get 7)))-(eP ((code.getD ((M.get 6).toNat) dIns).op))))+1))) (((M.set 8 (i64.wrap ((M.get 8)-1))).set 6 (i64.wrap ((M.get 6)+1))).set 7 (i64.wrap ((i64.wrap ((M.get 7)-(eP ((code.getD ((M.get 6).toNat) dIns).op))))+(eQ ((code.getD ((M.get 6).toNat) dIns).op)))))).e.i),vI ((aE S ((code.getD ((M.get 6).toNat) dIns).op) ((code.getD ((M.get 6).toNat) dIns).n) (M.get (i64.wrap ((i64.wrap (16+(M.get 7)))-(eP ((code.getD ((M.get 6).toNat) dIns).op))))) (M.get (i64.wrap ((i64.wrap ((i64.wrap (16+(M.get 7)))-(eP ((code.getD ((M.get 6).toNat) dIns).op))))+1))) (((M.set 8 (i64.wrap ((M.get 8)-1))).set 6 (i64.wrap ((M.get 6)+1))).set 7 (i64.wrap ((i64.wrap ((M.get 7)-(eP ((code.getD ((M.get 6).toNat) dIns).op))))+(eQ ((code.getD ((M.get 6).toNat) dIns).op)))))).e.k),vI ((aE S ((code.getD ((M.get 6).toNat) dIns).op) ((code.getD ((M.get 6).toNat) dIns).n) (M.get (i64.wrap ((i64.wrap (16+(M.get 7)))-(eP ((code.getD ((M.get 6).toNat) dIns).op))))) (M.get (i64.wrap ((i64.wrap ((i64.wrap (16+(M.get 7)))-(eP ((code.getD ((M.get 6).toNat) dIns).op))))+1))) (((M.set 8 (i64.wrap ((M.get 8)-1))).set 6 (i64.wrap ((M.get 6)+1))).set 7 (i64.wrap ((i64.wrap ((M.get 7)-(eP ((code.getD ((M.get 6).toNat) dIns).op))))+(eQ ((code.getD ((M.get 6).toNat) dIns).op)))))).e.v)],.bool ((aE S ((code.getD ((M.get 6).toNat) dIns).op) ((code.getD ((M.get 6).toNat) dIns).n) (M.get (i64.wrap ((i64.wrap (16+(M.get 7)))-(eP ((code.getD ((M.get 6).toNat) dIns).op))))) (M.get (i64.wrap ((i64.wrap ((i64.wrap (16+(M.get 7)))-(eP ((code.getD ((M.get 6).toNat) dIns).op))))+1))) (((M.set 8 (i64.wrap ((M.get 8)-1))).set 6 (i64.wrap ((M.get 6)+1))).set 7 (i64.wrap ((i64.wrap ((M.get 7)-(eP ((code.getD ((M.get 6).toNat) dIns).op))))+(eQ ((code.getD ((M.get 6).toNat) dIns).op)))))).em)]) (H':=(ap [] [T21])) ?_
        refine⟨T21,rfl,?_⟩
        have hr:dX code n M:=⟨h2,h3,h4,h5⟩
        refine⟨?_,?_⟩
        ·simp only[ak,bx,if_pos hr,cm,bX,d9,ee,dJ,bq,if_pos h8,if_neg Sq,if_neg h23];exact W0.weak (by omega)
        ·first|(simp only[ak,bx,if_pos hr,cm,bX,d9,ee,dJ,bq,if_pos h8,if_neg Sq,if_neg h23];try rfl;done)
     ·refine ae 9 [] λ _=>RN.em (eP ((code.getD ((M.get 6).toNat) dIns).op)=1) 76 (λ RO=>?_) λ RO=>?_
      ·refine ae 11 [] λ _=>RN.cp (aw (i64.wrap ((i64.wrap (16+(M.get 7)))-(eP ((code.getD ((M.get 6).toNat) dIns).op)))) hM (ar 0))<|ae 12 [.own 0] λ _=>RN.ct [] [0] (aj 8 (i64.wrap ((M.get 8)-1)) hM) ?_
       rintro _ Ux Sm
       refine ae 7 [] λ _=>RN.ct [] [0] (aj 6 (i64.wrap ((M.get 6)+1)) Sm) ?_
       rintro _ XU Sk
       refine ae 10 [] λ _=>RN.en (eP ((code.getD ((M.get 6).toNat) dIns).op)=eQ ((code.getD ((M.get 6).toNat) dIns).op)) 97 (λ Ue=>?_) λ Ue=>?_
       ·refine ae 10 ([.own 1]++ow 4 16++[.own 0,.own 0,.own 0]) λ _=>RN.ct [] [0] (jX mb ((M.set 8 (i64.wrap ((M.get 8)-1))).set 6 (i64.wrap ((M.get 6)+1))) (k+2) XU S ((code.getD ((M.get 6).toNat) dIns).op) ((code.getD ((M.get 6).toNat) dIns).n) (M.get (i64.wrap ((i64.wrap (16+(M.get 7)))-(eP ((code.getD ((M.get 6).toNat) dIns).op))))) 0 _ Sk hS (by assumption)) ?_
        rintro _ XT ⟨UK,rfl⟩
        refine ae 16 [.own 2,.own 2,.own 2,.own 2] λ _=>RN.em (eQ ((code.getD ((M.get 6).toNat) dIns).op)>0) 116 (λ Xb=>?_) λ Xb=>?_
        ·refine ae 8 [] λ _=>RN.ct [] [0] (aj (i64.wrap ((i64.wrap (16+(M.get 7)))-(eP ((code.getD ((M.get 6).toNat) dIns).op)))) ((aE S ((code.getD ((M.get 6).toNat) dIns).op) ((code.getD ((M.get 6).toNat) dIns).n) (M.get (i64.wrap ((i64.wrap (16+(M.get 7)))-(eP ((code.getD ((M.get 6).toNat) dIns).op))))) 0 ((M.set 8 (i64.wrap ((M.get 8)-1))).set 6 (i64.wrap ((M.get 6)+1)))).v) UK) ?_
         rintro _ ZG VS
         refine ae 3 [] λ _=>RN.draw [6] [0,1,3,4]<|ag [0,1,3,4] [0,3,4,1,2,5] [.own 2,.own 2,.own 2,.own 2,.own 1]<|RD.one 6 (RDO.ev [0,1,3,4] [.own 2,.own 2,.own 2,.own 2] λ _=>?_)
         refine ag [0,1,3,4] [7] []<|RD.fin<|ae 1 [] λ _=>RN.ret [.own 2,.own 2,.own 2,.own 2] [] [0] (v:=.tuple #[.bool (decide ((code.getD ((M.get 6).toNat) dIns).op=21)),.agg #[vI ((aE S ((code.getD ((M.get 6).toNat) dIns).op) ((code.getD ((M.get 6).toNat) dIns).n) (M.get (i64.wrap ((i64.wrap (16+(M.get 7)))-(eP ((code.getD ((M.get 6).toNat) dIns).op))))) 0 ((M.set 8 (i64.wrap ((M.get 8)-1))).set 6 (i64.wrap ((M.get 6)+1)))).e.t),vI ((aE S ((code.getD ((M.get 6).toNat) dIns).op) ((code.getD ((M.get 6).toNat) dIns).n) (M.get (i64.wrap ((i64.wrap (16+(M.get 7)))-(eP ((code.getD ((M.get 6).toNat) dIns).op))))) 0 ((M.set 8 (i64.wrap ((M.get 8)-1))).set 6 (i64.wrap ((M.get 6)+1)))).e.i),vI ((aE S ((code.getD ((M.get 6).toNat) dIns).op) ((code.getD ((M.get 6).toNat) dIns).n) (M.get (i64.wrap ((i64.wrap (16+(M.get 7)))-(eP ((code.getD ((M.get 6).toNat) dIns).op))))) 0 ((M.set 8 (i64.wrap ((M.get 8)-1))).set 6 (i64.wrap ((M.get 6)+1)))).e.k),vI ((aE S ((code.getD ((M.get 6).toNat) dIns).op) ((code.getD ((M.get 6).toNat) dIns).n) (M.get (i64.wrap ((i64.wrap (16+(M.get 7)))-(eP ((code.getD ((M.get 6).toNat) dIns).op))))) 0 ((M.set 8 (i64.wrap ((M.get 8)-1))).set 6 (i64.wrap ((M.get 6)+1)))).e.v)],.bool ((aE S ((code.getD ((M.get 6).toNat) dIns).op) ((code.getD ((M.get 6).toNat) dIns).n) (M.get (i64.wrap ((i64.wrap (16+(M.get 7)))-(eP ((code.getD ((M.get 6).toNat) dIns).op))))) 0 ((M.set 8 (i64.wrap ((M.get 8)-1))).set 6 (i64.wrap ((M.get 6)+1)))).em)]) (H':=(ap [] [ZG])) ?_
         refine⟨ZG,rfl,?_⟩
         have hr:dX code n M:=⟨h2,h3,h4,h5⟩
         refine⟨?_,?_⟩
         ·simp only[ak,bx,if_pos hr,cm,bX,d9,ee,dJ,bq,if_neg h8,if_pos RO,if_pos Ue,if_pos Xb];exact VS.weak (by omega)
         ·first|(simp only[ak,bx,if_pos hr,cm,bX,d9,ee,dJ,bq,if_neg h8,if_pos RO,if_pos Ue,if_pos Xb];try rfl;done)
        ·refine ae 4 [] λ _=>RN.draw [6] [0,1,3,4]<|ag [0,1,3,4] [0,3,4,1,2,5] [.own 2,.own 2,.own 2,.own 2,.own 1]<|RD.one 6 (RDO.ev [0,1,3,4] [.own 2,.own 2,.own 2,.own 2] λ _=>?_)
         refine ag [0,1,3,4] [7] []<|RD.fin<|ae 1 [] λ _=>RN.ret [.own 2,.own 2,.own 2,.own 2] [] [0] (v:=.tuple #[.bool (decide ((code.getD ((M.get 6).toNat) dIns).op=21)),.agg #[vI ((aE S ((code.getD ((M.get 6).toNat) dIns).op) ((code.getD ((M.get 6).toNat) dIns).n) (M.get (i64.wrap ((i64.wrap (16+(M.get 7)))-(eP ((code.getD ((M.get 6).toNat) dIns).op))))) 0 ((M.set 8 (i64.wrap ((M.get 8)-1))).set 6 (i64.wrap ((M.get 6)+1)))).e.t),vI ((aE S ((code.getD ((M.get 6).toNat) dIns).op) ((code.getD ((M.get 6).toNat) dIns).n) (M.get (i64.wrap ((i64.wrap (16+(M.get 7)))-(eP ((code.getD ((M.get 6).toNat) dIns).op))))) 0 ((M.set 8 (i64.wrap ((M.get 8)-1))).set 6 (i64.wrap ((M.get 6)+1)))).e.i),vI ((aE S ((code.getD ((M.get 6).toNat) dIns).op) ((code.getD ((M.get 6).toNat) dIns).n) (M.get (i64.wrap ((i64.wrap (16+(M.get 7)))-(eP ((code.getD ((M.get 6).toNat) dIns).op))))) 0 ((M.set 8 (i64.wrap ((M.get 8)-1))).set 6 (i64.wrap ((M.get 6)+1)))).e.k),vI ((aE S ((code.getD ((M.get 6).toNat) dIns).op) ((code.getD ((M.get 6).toNat) dIns).n) (M.get (i64.wrap ((i64.wrap (16+(M.get 7)))-(eP ((code.getD ((M.get 6).toNat) dIns).op))))) 0 ((M.set 8 (i64.wrap ((M.get 8)-1))).set 6 (i64.wrap ((M.get 6)+1)))).e.v)],.bool ((aE S ((code.getD ((M.get 6).toNat) dIns).op) ((code.getD ((M.get 6).toNat) dIns).n) (M.get (i64.wrap ((i64.wrap (16+(M.get 7)))-(eP ((code.getD ((M.get 6).toNat) dIns).op))))) 0 ((M.set 8 (i64.wrap ((M.get 8)-1))).set 6 (i64.wrap ((M.get 6)+1)))).em)]) (H':=(ap [] [XT])) ?_
         refine⟨XT,rfl,?_⟩
         have hr:dX code n M:=⟨h2,h3,h4,h5⟩
         refine⟨?_,?_⟩
         ·simp only[ak,bx,if_pos hr,cm,bX,d9,ee,dJ,bq,if_neg h8,if_pos RO,if_pos Ue,if_neg Xb];exact UK.weak (by omega)
         ·first|(simp only[ak,bx,if_pos hr,cm,bX,d9,ee,dJ,bq,if_neg h8,if_pos RO,if_pos Ue,if_neg Xb];try rfl;done)
       ·refine ae 8 [] λ _=>RN.ct [] [0] (aj 7 (i64.wrap ((i64.wrap ((M.get 7)-(eP ((code.getD ((M.get 6).toNat) dIns).op))))+(eQ ((code.getD ((M.get 6).toNat) dIns).op)))) Sk) ?_
        rintro _ T37 VQ
        refine ae 9 ([.own 1]++ow 4 16++[.own 0,.own 0,.own 0]) λ _=>RN.ct [] [0] (jX mb (((M.set 8 (i64.wrap ((M.get 8)-1))).set 6 (i64.wrap ((M.get 6)+1))).set 7 (i64.wrap ((i64.wrap ((M.get 7)-(eP ((code.getD ((M.get 6).toNat) dIns).op))))+(eQ ((code.getD ((M.get 6).toNat) dIns).op))))) (k+1) T37 S ((code.getD ((M.get 6).toNat) dIns).op) ((code.getD ((M.get 6).toNat) dIns).n) (M.get (i64.wrap ((i64.wrap (16+(M.get 7)))-(eP ((code.getD ((M.get 6).toNat) dIns).op))))) 0 _ VQ hS (by assumption)) ?_
        rintro _ V7 ⟨SO,rfl⟩
        refine ae 16 [.own 2,.own 2,.own 2,.own 2] λ _=>RN.em (eQ ((code.getD ((M.get 6).toNat) dIns).op)>0) 116 (λ RM=>?_) λ RM=>?_
        ·refine ae 8 [] λ _=>RN.ct [] [0] (aj (i64.wrap ((i64.wrap (16+(M.get 7)))-(eP ((code.getD ((M.get 6).toNat) dIns).op)))) ((aE S ((code.getD ((M.get 6).toNat) dIns).op) ((code.getD ((M.get 6).toNat) dIns).n) (M.get (i64.wrap ((i64.wrap (16+(M.get 7)))-(eP ((code.getD ((M.get 6).toNat) dIns).op))))) 0 (((M.set 8 (i64.wrap ((M.get 8)-1))).set 6 (i64.wrap ((M.get 6)+1))).set 7 (i64.wrap ((i64.wrap ((M.get 7)-(eP ((code.getD ((M.get 6).toNat) dIns).op))))+(eQ ((code.getD ((M.get 6).toNat) dIns).op)))))).v) SO) ?_
         rintro _ XR VP
         refine ae 3 [] λ _=>RN.draw [6] [0,1,3,4]<|ag [0,1,3,4] [0,3,4,1,2,5] [.own 2,.own 2,.own 2,.own 2,.own 1]<|RD.one 6 (RDO.ev [0,1,3,4] [.own 2,.own 2,.own 2,.own 2] λ _=>?_)
         refine ag [0,1,3,4] [7] []<|RD.fin<|ae 1 [] λ _=>RN.ret [.own 2,.own 2,.own 2,.own 2] [] [0] (v:=.tuple #[.bool (decide ((code.getD ((M.get 6).toNat) dIns).op=21)),.agg #[vI ((aE S ((code.getD ((M.get 6).toNat) dIns).op) ((code.getD ((M.get 6).toNat) dIns).n) (M.get (i64.wrap ((i64.wrap (16+(M.get 7)))-(eP ((code.getD ((M.get 6).toNat) dIns).op))))) 0 (((M.set 8 (i64.wrap ((M.get 8)-1))).set 6 (i64.wrap ((M.get 6)+1))).set 7 (i64.wrap ((i64.wrap ((M.get 7)-(eP ((code.getD ((M.get 6).toNat) dIns).op))))+(eQ ((code.getD ((M.get 6).toNat) dIns).op)))))).e.t),vI ((aE S ((code.getD ((M.get 6).toNat) dIns).op) ((code.getD ((M.get 6).toNat) dIns).n) (M.get (i64.wrap ((i64.wrap (16+(M.get 7)))-(eP ((code.getD ((M.get 6).toNat) dIns).op))))) 0 (((M.set 8 (i64.wrap ((M.get 8)-1))).set 6 (i64.wrap ((M.get 6)+1))).set 7 (i64.wrap ((i64.wrap ((M.get 7)-(eP ((code.getD ((M.get 6).toNat) dIns).op))))+(eQ ((code.getD ((M.get 6).toNat) dIns).op)))))).e.i),vI ((aE S ((code.getD ((M.get 6).toNat) dIns).op) ((code.getD ((M.get 6).toNat) dIns).n) (M.get (i64.wrap ((i64.wrap (16+(M.get 7)))-(eP ((code.getD ((M.get 6).toNat) dIns).op))))) 0 (((M.set 8 (i64.wrap ((M.get 8)-1))).set 6 (i64.wrap ((M.get 6)+1))).set 7 (i64.wrap ((i64.wrap ((M.get 7)-(eP ((code.getD ((M.get 6).toNat) dIns).op))))+(eQ ((code.getD ((M.get 6).toNat) dIns).op)))))).e.k),vI ((aE S ((code.getD ((M.get 6).toNat) dIns).op) ((code.getD ((M.get 6).toNat) dIns).n) (M.get (i64.wrap ((i64.wrap (16+(M.get 7)))-(eP ((code.getD ((M.get 6).toNat) dIns).op))))) 0 (((M.set 8 (i64.wrap ((M.get 8)-1))).set 6 (i64.wrap ((M.get 6)+1))).set 7 (i64.wrap ((i64.wrap ((M.get 7)-(eP ((code.getD ((M.get 6).toNat) dIns).op))))+(eQ ((code.getD ((M.get 6).toNat) dIns).op)))))).e.v)],.bool ((aE S ((code.getD ((M.get 6).toNat) dIns).op) ((code.getD ((M.get 6).toNat) dIns).n) (M.get (i64.wrap ((i64.wrap (16+(M.get 7)))-(eP ((code.getD ((M.get 6).toNat) dIns).op))))) 0 (((M.set 8 (i64.wrap ((M.get 8)-1))).set 6 (i64.wrap ((M.get 6)+1))).set 7 (i64.wrap ((i64.wrap ((M.get 7)-(eP ((code.getD ((M.get 6).toNat) dIns).op))))+(eQ ((code.getD ((M.get 6).toNat) dIns).op)))))).em)]) (H':=(ap [] [XR])) ?_
         refine⟨XR,rfl,?_⟩
         have hr:dX code n M:=⟨h2,h3,h4,h5⟩
         refine⟨?_,?_⟩
         ·simp only[ak,bx,if_pos hr,cm,bX,d9,ee,dJ,bq,if_neg h8,if_pos RO,if_neg Ue,if_pos RM];exact VP.weak (by omega)
         ·first|(simp only[ak,bx,if_pos hr,cm,bX,d9,ee,dJ,bq,if_neg h8,if_pos RO,if_neg Ue,if_pos RM];try rfl;done)
        ·refine ae 4 [] λ _=>RN.draw [6] [0,1,3,4]<|ag [0,1,3,4] [0,3,4,1,2,5] [.own 2,.own 2,.own 2,.own 2,.own 1]<|RD.one 6 (RDO.ev [0,1,3,4] [.own 2,.own 2,.own 2,.own 2] λ _=>?_)
         refine ag [0,1,3,4] [7] []<|RD.fin<|ae 1 [] λ _=>RN.ret [.own 2,.own 2,.own 2,.own 2] [] [0] (v:=.tuple #[.bool (decide ((code.getD ((M.get 6).toNat) dIns).op=21)),.agg #[vI ((aE S ((code.getD ((M.get 6).toNat) dIns).op) ((code.getD ((M.get 6).toNat) dIns).n) (M.get (i64.wrap ((i64.wrap (16+(M.get 7)))-(eP ((code.getD ((M.get 6).toNat) dIns).op))))) 0 (((M.set 8 (i64.wrap ((M.get 8)-1))).set 6 (i64.wrap ((M.get 6)+1))).set 7 (i64.wrap ((i64.wrap ((M.get 7)-(eP ((code.getD ((M.get 6).toNat) dIns).op))))+(eQ ((code.getD ((M.get 6).toNat) dIns).op)))))).e.t),vI ((aE S ((code.getD ((M.get 6).toNat) dIns).op) ((code.getD ((M.get 6).toNat) dIns).n) (M.get (i64.wrap ((i64.wrap (16+(M.get 7)))-(eP ((code.getD ((M.get 6).toNat) dIns).op))))) 0 (((M.set 8 (i64.wrap ((M.get 8)-1))).set 6 (i64.wrap ((M.get 6)+1))).set 7 (i64.wrap ((i64.wrap ((M.get 7)-(eP ((code.getD ((M.get 6).toNat) dIns).op))))+(eQ ((code.getD ((M.get 6).toNat) dIns).op)))))).e.i),vI ((aE S ((code.getD ((M.get 6).toNat) dIns).op) ((code.getD ((M.get 6).toNat) dIns).n) (M.get (i64.wrap ((i64.wrap (16+(M.get 7)))-(eP ((code.getD ((M.get 6).toNat) dIns).op))))) 0 (((M.set 8 (i64.wrap ((M.get 8)-1))).set 6 (i64.wrap ((M.get 6)+1))).set 7 (i64.wrap ((i64.wrap ((M.get 7)-(eP ((code.getD ((M.get 6).toNat) dIns).op))))+(eQ ((code.getD ((M.get 6).toNat) dIns).op)))))).e.k),vI ((aE S ((code.getD ((M.get 6).toNat) dIns).op) ((code.getD ((M.get 6).toNat) dIns).n) (M.get (i64.wrap ((i64.wrap (16+(M.get 7)))-(eP ((code.getD ((M.get 6).toNat) dIns).op))))) 0 (((M.set 8 (i64.wrap ((M.get 8)-1))).set 6 (i64.wrap ((M.get 6)+1))).set 7 (i64.wrap ((i64.wrap ((M.get 7)-(eP ((code.getD ((M.get 6).toNat) dIns).op))))+(eQ ((code.getD ((M.get 6).toNat) dIns).op)))))).e.v)],.bool ((aE S ((code.getD ((M.get 6).toNat) dIns).op) ((code.getD ((M.get 6).toNat) dIns).n) (M.get (i64.wrap ((i64.wrap (16+(M.get 7)))-(eP ((code.getD ((M.get 6).toNat) dIns).op))))) 0 (((M.set 8 (i64.wrap ((M.get 8)-1))).set 6 (i64.wrap ((M.get 6)+1))).set 7 (i64.wrap ((i64.wrap ((M.get 7)-(eP ((code.getD ((M.get 6).toNat) dIns).op))))+(eQ ((code.getD ((M.get 6).toNat) dIns).op)))))).em)]) (H':=(ap [] [V7])) ?_
         refine⟨V7,rfl,?_⟩
         have hr:dX code n M:=⟨h2,h3,h4,h5⟩
         refine⟨?_,?_⟩
         ·simp only[ak,bx,if_pos hr,cm,bX,d9,ee,dJ,bq,if_neg h8,if_pos RO,if_neg Ue,if_neg RM];exact SO.weak (by omega)
         ·first|(simp only[ak,bx,if_pos hr,cm,bX,d9,ee,dJ,bq,if_neg h8,if_pos RO,if_neg Ue,if_neg RM];try rfl;done)
      ·refine ae 15 [] λ _=>RN.ct [] [0] (aj 8 (i64.wrap ((M.get 8)-1)) hM) ?_
       rintro _ T44 VN
       refine ae 7 [] λ _=>RN.ct [] [0] (aj 6 (i64.wrap ((M.get 6)+1)) VN) ?_
       rintro _ T46 hM47
       refine ae 10 [] λ _=>RN.en (eP ((code.getD ((M.get 6).toNat) dIns).op)=eQ ((code.getD ((M.get 6).toNat) dIns).op)) 97 (λ TC=>?_) λ TC=>?_
       ·refine ae 10 ([.own 1]++ow 4 16++[.own 0,.own 0,.own 0]) λ _=>RN.ct [] [0] (jX mb ((M.set 8 (i64.wrap ((M.get 8)-1))).set 6 (i64.wrap ((M.get 6)+1))) (k+2) T46 S ((code.getD ((M.get 6).toNat) dIns).op) ((code.getD ((M.get 6).toNat) dIns).n) 0 0 _ hM47 hS (by assumption)) ?_
        rintro _ Xg ⟨SN,rfl⟩
        refine ae 16 [.own 2,.own 2,.own 2,.own 2] λ _=>RN.em (eQ ((code.getD ((M.get 6).toNat) dIns).op)>0) 116 (λ UL=>?_) λ UL=>?_
        ·refine ae 8 [] λ _=>RN.ct [] [0] (aj (i64.wrap ((i64.wrap (16+(M.get 7)))-(eP ((code.getD ((M.get 6).toNat) dIns).op)))) ((aE S ((code.getD ((M.get 6).toNat) dIns).op) ((code.getD ((M.get 6).toNat) dIns).n) 0 0 ((M.set 8 (i64.wrap ((M.get 8)-1))).set 6 (i64.wrap ((M.get 6)+1)))).v) SN) ?_
         rintro _ Wp VM
         refine ae 3 [] λ _=>RN.draw [6] [0,1,3,4]<|ag [0,1,3,4] [0,3,4,1,2,5] [.own 2,.own 2,.own 2,.own 2,.own 1]<|RD.one 6 (RDO.ev [0,1,3,4] [.own 2,.own 2,.own 2,.own 2] λ _=>?_)
         refine ag [0,1,3,4] [7] []<|RD.fin<|ae 1 [] λ _=>RN.ret [.own 2,.own 2,.own 2,.own 2] [] [0] (v:=.tuple #[.bool (decide ((code.getD ((M.get 6).toNat) dIns).op=21)),.agg #[vI ((aE S ((code.getD ((M.get 6).toNat) dIns).op) ((code.getD ((M.get 6).toNat) dIns).n) 0 0 ((M.set 8 (i64.wrap ((M.get 8)-1))).set 6 (i64.wrap ((M.get 6)+1)))).e.t),vI ((aE S ((code.getD ((M.get 6).toNat) dIns).op) ((code.getD ((M.get 6).toNat) dIns).n) 0 0 ((M.set 8 (i64.wrap ((M.get 8)-1))).set 6 (i64.wrap ((M.get 6)+1)))).e.i),vI ((aE S ((code.getD ((M.get 6).toNat) dIns).op) ((code.getD ((M.get 6).toNat) dIns).n) 0 0 ((M.set 8 (i64.wrap ((M.get 8)-1))).set 6 (i64.wrap ((M.get 6)+1)))).e.k),vI ((aE S ((code.getD ((M.get 6).toNat) dIns).op) ((code.getD ((M.get 6).toNat) dIns).n) 0 0 ((M.set 8 (i64.wrap ((M.get 8)-1))).set 6 (i64.wrap ((M.get 6)+1)))).e.v)],.bool ((aE S ((code.getD ((M.get 6).toNat) dIns).op) ((code.getD ((M.get 6).toNat) dIns).n) 0 0 ((M.set 8 (i64.wrap ((M.get 8)-1))).set 6 (i64.wrap ((M.get 6)+1)))).em)]) (H':=(ap [] [Wp])) ?_
         refine⟨Wp,rfl,?_⟩
         have hr:dX code n M:=⟨h2,h3,h4,h5⟩
         refine⟨?_,?_⟩
         ·simp only[ak,bx,if_pos hr,cm,bX,d9,ee,dJ,bq,if_neg h8,if_neg RO,if_pos TC,if_pos UL];exact VM.weak (by omega)
         ·first|(simp only[ak,bx,if_pos hr,cm,bX,d9,ee,dJ,bq,if_neg h8,if_neg RO,if_pos TC,if_pos UL];try rfl;done)
        ·refine ae 4 [] λ _=>RN.draw [6] [0,1,3,4]<|ag [0,1,3,4] [0,3,4,1,2,5] [.own 2,.own 2,.own 2,.own 2,.own 1]<|RD.one 6 (RDO.ev [0,1,3,4] [.own 2,.own 2,.own 2,.own 2] λ _=>?_)
         refine ag [0,1,3,4] [7] []<|RD.fin<|ae 1 [] λ _=>RN.ret [.own 2,.own 2,.own 2,.own 2] [] [0] (v:=.tuple #[.bool (decide ((code.getD ((M.get 6).toNat) dIns).op=21)),.agg #[vI ((aE S ((code.getD ((M.get 6).toNat) dIns).op) ((code.getD ((M.get 6).toNat) dIns).n) 0 0 ((M.set 8 (i64.wrap ((M.get 8)-1))).set 6 (i64.wrap ((M.get 6)+1)))).e.t),vI ((aE S ((code.getD ((M.get 6).toNat) dIns).op) ((code.getD ((M.get 6).toNat) dIns).n) 0 0 ((M.set 8 (i64.wrap ((M.get 8)-1))).set 6 (i64.wrap ((M.get 6)+1)))).e.i),vI ((aE S ((code.getD ((M.get 6).toNat) dIns).op) ((code.getD ((M.get 6).toNat) dIns).n) 0 0 ((M.set 8 (i64.wrap ((M.get 8)-1))).set 6 (i64.wrap ((M.get 6)+1)))).e.k),vI ((aE S ((code.getD ((M.get 6).toNat) dIns).op) ((code.getD ((M.get 6).toNat) dIns).n) 0 0 ((M.set 8 (i64.wrap ((M.get 8)-1))).set 6 (i64.wrap ((M.get 6)+1)))).e.v)],.bool ((aE S ((code.getD ((M.get 6).toNat) dIns).op) ((code.getD ((M.get 6).toNat) dIns).n) 0 0 ((M.set 8 (i64.wrap ((M.get 8)-1))).set 6 (i64.wrap ((M.get 6)+1)))).em)]) (H':=(ap [] [Xg])) ?_
         refine⟨Xg,rfl,?_⟩
         have hr:dX code n M:=⟨h2,h3,h4,h5⟩
         refine⟨?_,?_⟩
         ·simp only[ak,bx,if_pos hr,cm,bX,d9,ee,dJ,bq,if_neg h8,if_neg RO,if_pos TC,if_neg UL];exact SN.weak (by omega)
         ·first|(simp only[ak,bx,if_pos hr,cm,bX,d9,ee,dJ,bq,if_neg h8,if_neg RO,if_pos TC,if_neg UL];try rfl;done)
       ·refine ae 8 [] λ _=>RN.ct [] [0] (aj 7 (i64.wrap ((i64.wrap ((M.get 7)-(eP ((code.getD ((M.get 6).toNat) dIns).op))))+(eQ ((code.getD ((M.get 6).toNat) dIns).op)))) hM47) ?_
        rintro _ T54 VL
        refine ae 9 ([.own 1]++ow 4 16++[.own 0,.own 0,.own 0]) λ _=>RN.ct [] [0] (jX mb (((M.set 8 (i64.wrap ((M.get 8)-1))).set 6 (i64.wrap ((M.get 6)+1))).set 7 (i64.wrap ((i64.wrap ((M.get 7)-(eP ((code.getD ((M.get 6).toNat) dIns).op))))+(eQ ((code.getD ((M.get 6).toNat) dIns).op))))) (k+1) T54 S ((code.getD ((M.get 6).toNat) dIns).op) ((code.getD ((M.get 6).toNat) dIns).n) 0 0 _ VL hS (by assumption)) ?_
        rintro _ T56 ⟨WX,rfl⟩
        refine ae 16 [.own 2,.own 2,.own 2,.own 2] λ _=>RN.em (eQ ((code.getD ((M.get 6).toNat) dIns).op)>0) 116 (λ h58=>?_) λ h58=>?_
        ·refine ae 8 [] λ _=>RN.ct [] [0] (aj (i64.wrap ((i64.wrap (16+(M.get 7)))-(eP ((code.getD ((M.get 6).toNat) dIns).op)))) ((aE S ((code.getD ((M.get 6).toNat) dIns).op) ((code.getD ((M.get 6).toNat) dIns).n) 0 0 (((M.set 8 (i64.wrap ((M.get 8)-1))).set 6 (i64.wrap ((M.get 6)+1))).set 7 (i64.wrap ((i64.wrap ((M.get 7)-(eP ((code.getD ((M.get 6).toNat) dIns).op))))+(eQ ((code.getD ((M.get 6).toNat) dIns).op)))))).v) WX) ?_
         rintro _ T59 YQ
         refine ae 3 [] λ _=>RN.draw [6] [0,1,3,4]<|ag [0,1,3,4] [0,3,4,1,2,5] [.own 2,.own 2,.own 2,.own 2,.own 1]<|RD.one 6 (RDO.ev [0,1,3,4] [.own 2,.own 2,.own 2,.own 2] λ _=>?_)
         refine ag [0,1,3,4] [7] []<|RD.fin<|ae 1 [] λ _=>RN.ret [.own 2,.own 2,.own 2,.own 2] [] [0] (v:=.tuple #[.bool (decide ((code.getD ((M.get 6).toNat) dIns).op=21)),.agg #[vI ((aE S ((code.getD ((M.get 6).toNat) dIns).op) ((code.getD ((M.get 6).toNat) dIns).n) 0 0 (((M.set 8 (i64.wrap ((M.get 8)-1))).set 6 (i64.wrap ((M.get 6)+1))).set 7 (i64.wrap ((i64.wrap ((M.get 7)-(eP ((code.getD ((M.get 6).toNat) dIns).op))))+(eQ ((code.getD ((M.get 6).toNat) dIns).op)))))).e.t),vI ((aE S ((code.getD ((M.get 6).toNat) dIns).op) ((code.getD ((M.get 6).toNat) dIns).n) 0 0 (((M.set 8 (i64.wrap ((M.get 8)-1))).set 6 (i64.wrap ((M.get 6)+1))).set 7 (i64.wrap ((i64.wrap ((M.get 7)-(eP ((code.getD ((M.get 6).toNat) dIns).op))))+(eQ ((code.getD ((M.get 6).toNat) dIns).op)))))).e.i),vI ((aE S ((code.getD ((M.get 6).toNat) dIns).op) ((code.getD ((M.get 6).toNat) dIns).n) 0 0 (((M.set 8 (i64.wrap ((M.get 8)-1))).set 6 (i64.wrap ((M.get 6)+1))).set 7 (i64.wrap ((i64.wrap ((M.get 7)-(eP ((code.getD ((M.get 6).toNat) dIns).op))))+(eQ ((code.getD ((M.get 6).toNat) dIns).op)))))).e.k),vI ((aE S ((code.getD ((M.get 6).toNat) dIns).op) ((code.getD ((M.get 6).toNat) dIns).n) 0 0 (((M.set 8 (i64.wrap ((M.get 8)-1))).set 6 (i64.wrap ((M.get 6)+1))).set 7 (i64.wrap ((i64.wrap ((M.get 7)-(eP ((code.getD ((M.get 6).toNat) dIns).op))))+(eQ ((code.getD ((M.get 6).toNat) dIns).op)))))).e.v)],.bool ((aE S ((code.getD ((M.get 6).toNat) dIns).op) ((code.getD ((M.get 6).toNat) dIns).n) 0 0 (((M.set 8 (i64.wrap ((M.get 8)-1))).set 6 (i64.wrap ((M.get 6)+1))).set 7 (i64.wrap ((i64.wrap ((M.get 7)-(eP ((code.getD ((M.get 6).toNat) dIns).op))))+(eQ ((code.getD ((M.get 6).toNat) dIns).op)))))).em)]) (H':=(ap [] [T59])) ?_
         refine⟨T59,rfl,?_⟩
         have hr:dX code n M:=⟨h2,h3,h4,h5⟩
         refine⟨?_,?_⟩
         ·simp only[ak,bx,if_pos hr,cm,bX,d9,ee,dJ,bq,if_neg h8,if_neg RO,if_neg TC,if_pos h58];exact YQ.weak (by omega)
         ·first|(simp only[ak,bx,if_pos hr,cm,bX,d9,ee,dJ,bq,if_neg h8,if_neg RO,if_neg TC,if_pos h58];try rfl;done)
        ·refine ae 4 [] λ _=>RN.draw [6] [0,1,3,4]<|ag [0,1,3,4] [0,3,4,1,2,5] [.own 2,.own 2,.own 2,.own 2,.own 1]<|RD.one 6 (RDO.ev [0,1,3,4] [.own 2,.own 2,.own 2,.own 2] λ _=>?_)
         refine ag [0,1,3,4] [7] []<|RD.fin<|ae 1 [] λ _=>RN.ret [.own 2,.own 2,.own 2,.own 2] [] [0] (v:=.tuple #[.bool (decide ((code.getD ((M.get 6).toNat) dIns).op=21)),.agg #[vI ((aE S ((code.getD ((M.get 6).toNat) dIns).op) ((code.getD ((M.get 6).toNat) dIns).n) 0 0 (((M.set 8 (i64.wrap ((M.get 8)-1))).set 6 (i64.wrap ((M.get 6)+1))).set 7 (i64.wrap ((i64.wrap ((M.get 7)-(eP ((code.getD ((M.get 6).toNat) dIns).op))))+(eQ ((code.getD ((M.get 6).toNat) dIns).op)))))).e.t),vI ((aE S ((code.getD ((M.get 6).toNat) dIns).op) ((code.getD ((M.get 6).toNat) dIns).n) 0 0 (((M.set 8 (i64.wrap ((M.get 8)-1))).set 6 (i64.wrap ((M.get 6)+1))).set 7 (i64.wrap ((i64.wrap ((M.get 7)-(eP ((code.getD ((M.get 6).toNat) dIns).op))))+(eQ ((code.getD ((M.get 6).toNat) dIns).op)))))).e.i),vI ((aE S ((code.getD ((M.get 6).toNat) dIns).op) ((code.getD ((M.get 6).toNat) dIns).n) 0 0 (((M.set 8 (i64.wrap ((M.get 8)-1))).set 6 (i64.wrap ((M.get 6)+1))).set 7 (i64.wrap ((i64.wrap ((M.get 7)-(eP ((code.getD ((M.get 6).toNat) dIns).op))))+(eQ ((code.getD ((M.get 6).toNat) dIns).op)))))).e.k),vI ((aE S ((code.getD ((M.get 6).toNat) dIns).op) ((code.getD ((M.get 6).toNat) dIns).n) 0 0 (((M.set 8 (i64.wrap ((M.get 8)-1))).set 6 (i64.wrap ((M.get 6)+1))).set 7 (i64.wrap ((i64.wrap ((M.get 7)-(eP ((code.getD ((M.get 6).toNat) dIns).op))))+(eQ ((code.getD ((M.get 6).toNat) dIns).op)))))).e.v)],.bool ((aE S ((code.getD ((M.get 6).toNat) dIns).op) ((code.getD ((M.get 6).toNat) dIns).n) 0 0 (((M.set 8 (i64.wrap ((M.get 8)-1))).set 6 (i64.wrap ((M.get 6)+1))).set 7 (i64.wrap ((i64.wrap ((M.get 7)-(eP ((code.getD ((M.get 6).toNat) dIns).op))))+(eQ ((code.getD ((M.get 6).toNat) dIns).op)))))).em)]) (H':=(ap [] [T56])) ?_
         refine⟨T56,rfl,?_⟩
         have hr:dX code n M:=⟨h2,h3,h4,h5⟩
         refine⟨?_,?_⟩
         ·simp only[ak,bx,if_pos hr,cm,bX,d9,ee,dJ,bq,if_neg h8,if_neg RO,if_neg TC,if_neg h58];exact WX.weak (by omega)
         ·first|(simp only[ak,bx,if_pos hr,cm,bX,d9,ee,dJ,bq,if_neg h8,if_neg RO,if_neg TC,if_neg h58];try rfl;done)
    ·refine ae 9 [.own 0,.own 0,.own 0,.own 0] λ _=>RN.ret [.own 0,.own 0,.own 0,.own 0] [] [0] (v:=.tuple #[.bool true,.agg #[vI 0,vI 0,vI 0,vI 0],.bool false]) (H':=(ap [] [T])) ?_
     refine⟨T,rfl,?_⟩
     have hr:¬ dX code n M:=λ RI=>h5 RI.2.2.2
     refine⟨?_,?_⟩
     ·simp only[ak,bx,if_neg hr];exact hM.weak (by omega)
     ·first|(simp only[ak,bx,if_neg hr];try rfl;done)
theorem C1(mb:Nat)(M:MemS)(k:Nat)(T:HL)(S:Setup)(code:List Ins)(A:Option Addr)(cc:Nat)(e0 e1 e2:Int)(F:HL)(hM:MemH mb M (k+6) T) :Sp Tryz.prog 208 #[.iface 96 (vP mb 0),(Setup.v S),.agg #[.slice A 0 cc,vI e0,vI e1,vI e2]] (ap [] [T]) F (λ u H'=>∃x,H'=ap [] [x] /\ (MemH mb ((ak S code 0 M).M) k x /\ u=.tuple #[.bool (bx code 0 M),.agg #[vI ((ak S code 0 M).e.t),vI ((ak S code 0 M).e.i),vI ((ak S code 0 M).e.k),vI ((ak S code 0 M).e.v)],.bool ((ak S code 0 M).em)])):=by
 refine Sp.run Tryz.func208 rfl mn (A:=[]) (Ts:=[T]) rfl λ w0=>?_
 refine ae 22 [] λ n1=>RN.cp (aw 6 hM (ar 0))<|ae 1 [] λ _=>RN.cp (aw 7 hM (ar 0))<|ae 1 [] λ _=>RN.cp (aw 8 hM (ar 0))<|ae 11 [] λ _=>RN.em (M.get 8<1) 29 (λ h2=>?_) λ h2=>?_
 ·refine ae 31 [.own 0,.own 0,.own 0,.own 0] λ _=>RN.ret [.own 0,.own 0,.own 0,.own 0] [] [0] (v:=.tuple #[.bool true,.agg #[vI 0,vI 0,vI 0,vI 0],.bool false]) (H':=(ap [] [T])) ?_
  refine⟨T,rfl,?_⟩
  have hr:¬ dX code 0 M:=λ RI=>RI.1 h2
  refine⟨?_,?_⟩
  ·simp only[ak,bx,if_neg hr];exact hM.weak (by omega)
  ·first|(simp only[ak,bx,if_neg hr];try rfl;done)
 ·refine ae 4 [] λ _=>RN.em (M.get 6<0) 33 (λ h3=>?_) λ h3=>?_
  ·refine ae 27 [.own 0,.own 0,.own 0,.own 0] λ _=>RN.ret [.own 0,.own 0,.own 0,.own 0] [] [0] (v:=.tuple #[.bool true,.agg #[vI 0,vI 0,vI 0,vI 0],.bool false]) (H':=(ap [] [T])) ?_
   refine⟨T,rfl,?_⟩
   have hr:¬ dX code 0 M:=λ RI=>RI.2.1 h3
   refine⟨?_,?_⟩
   ·simp only[ak,bx,if_neg hr];exact hM.weak (by omega)
   ·first|(simp only[ak,bx,if_neg hr];try rfl;done)
  ·refine ae 7 [.own 1] λ _=>RN.em (M.get 6 >= 0) 40 (λ h4=>?_) λ h4=>?_
   ·refine ae 20 [.own 0,.own 0,.own 0,.own 0] λ _=>RN.ret [.own 0,.own 0,.own 0,.own 0] [] [0] (v:=.tuple #[.bool true,.agg #[vI 0,vI 0,vI 0,vI 0],.bool false]) (H':=(ap [] [T])) ?_
    refine⟨T,rfl,?_⟩
    have hr:¬ dX code 0 M:=λ RI=>RI.2.2.1 (by simpa using h4)
    refine⟨?_,?_⟩
    ·simp only[ak,bx,if_neg hr];exact hM.weak (by omega)
    ·first|(simp only[ak,bx,if_neg hr];try rfl;done)
   ·exact absurd (show M.get 6 >= 0 by omega) h4
theorem iG(mb:Nat)(M:MemS)(k:Nat)(T:HL)(S:Setup)(code:List Ins)(A:Option Addr)(n cc:Nat)(e0 e1 e2:Int)(F:HL)(hM:MemH mb M (k+6) T)(hS:SetN S)(hE:dh F)(hc:CodeIn F code A n):Sp Tryz.prog 208 #[.iface 96 (vP mb 0),(Setup.v S),.agg #[.slice A n cc,vI e0,vI e1,vI e2]] (ap [] [T]) F (λ u H'=>∃x,H'=ap [] [x] /\ (MemH mb (ak S code n M).M k x /\ u=.tuple #[.bool (bx code n M),.agg #[vI ((ak S code n M).e.t),vI ((ak S code n M).e.i),vI ((ak S code n M).e.k),vI ((ak S code n M).e.v)],.bool ((ak S code n M).em)])):=by
 cases hc with
 | nil=>exact C1 mb M k T S code A cc e0 e1 e2 F hM
 | mk b R n h h1 h2=>exact zk mb M k T S code b R n cc e0 e1 e2 F hM hS hE h h1 h2
end Go.Proofs.YtgdcbiiopbpgaaaGreatDoor
