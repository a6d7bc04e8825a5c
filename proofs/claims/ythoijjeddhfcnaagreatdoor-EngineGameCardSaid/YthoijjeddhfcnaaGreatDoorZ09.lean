import Derived.Test.YthoijjeddhfcnaaGreatDoorZ08
import Derived.Test.YthoijjeddhfcnaaGreatDoorZ07
set_option maxHeartbeats 4000000
set_option maxRecDepth 100000
set_option linter.unusedSimpArgs false
set_option linter.unusedVariables false
namespace Go.Proofs.YthoijjeddhfcnaaGreatDoor
open IntKind
open Go.RowKit
def KE(a b:Int):Int:=u64.wrap ((BitVec.ofInt 64 a ^^^ BitVec.ofInt 64 b).toNat:Int)
def orU(a b:Int):Int:=u64.wrap ((BitVec.ofInt 64 a ||| BitVec.ofInt 64 b).toNat:Int)
def uL(a b:Int):Int:=KE (u64.wrap (KE a b*11400714819323198485)) ((u64.wrap (KE a b*11400714819323198485)).fdiv 4294967296)
def rI(b:ByteArray)(i:Nat):Nat -> Int
 | 0=>0
 | k+1=>orU (rI b i k) (u64.wrap (u64.wrap (Db b (8*i+k))*2 ^ min (8*(k:Int)).toNat 64))
def wk(b:ByteArray)(i:Nat):Nat:=min 8 (b.size-8*i)
def wn(b:ByteArray):Nat:=(b.size+7) / 8
def gz(b:ByteArray):List Int:=(List.range (wn b)).map λ i=>rI b i (wk b i)
theorem xD(b:ByteArray):(gz b).length=wn b:=by simp[gz]
theorem pq{b:ByteArray}{i:Nat}(h:8*i<b.size):(gz b)[i]?=some (rI b i (wk b i)):=by
 have:i<wn b:=by unfold wn;omega
 simp[gz,this]
def i0(b:ByteArray):Nat -> Int
 | 0=>0
 | m+1=>uL (i0 b m) ((gz b).getD m 0)
def pr(b:ByteArray)(n:Int):Int:=uL (uL (i0 b (gz b).length) (u64.wrap (b.size:Int))) (u64.wrap n)
def DQ(s:Int)(xs:List Int):Nat -> Int
 | 0=>s
 | k+1=>uL (DQ s xs k) (u64.wrap (xs.getD k 0))
def KF(b:ByteArray)(xs:List Int):Int:=uL (DQ (pr b xs.length) xs xs.length) 0
abbrev MP(x:Int):Array Value:=#[.int .u64 x]
theorem DS{xs:List Int}{i:Nat}{x:Int}(h:xs[i]?=some x):xs.getD i 0=x:=by rw[List.getD_eq_getElem?_getD,h];rfl
theorem mQ(a b:Int)(F:HL):Sp Tryz.prog 263 #[.int .u64 a,.int .u64 b] [] F (λ u H'=>u=.int .u64 (uL a b) /\ H'=[]):=by
 refine Sp.run Tryz.func263 rfl mn (A:=[]) (Ts:=[]) rfl λ w0=>?_
 refine aa 23 [] λ _=>?_
 exact RN.ret [] [] [] ⟨rfl,rfl⟩
theorem Bv(b:ByteArray)(q lp:Nat)(X F:HL)(J:Nat -> HL -> Prop)(Jx:HL -> Prop)(T0:HL)(hb:b.size <= 1000000)(hq:(q,.lit [.string b] 9 (0,0))∈F)(hY:∀i x H Y,(gz b)[i]?=some x -> J i H -> YL Tryz.prog lp (MP x) H (Y++(X++F)) (λ b H'=>(b=true /\ J (i+1) H') \/ (b=false /\ Jx H')))(RM:J 0 T0):Sp Tryz.prog 271 #[.func (.yield lp) #[] #[],vP q 0] (ap [] [T0]) (X++F) (λ _ H'=>J (gz b).length H' \/ Jx H'):=by
 refine Sp.run Tryz.func271 rfl (mc (List.mem_append_right _ hq) mn) (A:=[]) (Ts:=[T0]) rfl λ w0=>?_
 refine aa 6 [] λ _=>RN.loop (σ:=Nat × HL) (λ ⟨i,T_⟩=>⟨[(0,.func (.yield lp) #[] #[]),(1,vP q 0),(3,vI (8*(i:Int)))],[],[T_],i <= wn b /\ J i T_,wn b-i⟩) (0,T0) [] [0] (⟨Nat.zero_le _,RM⟩) ?_
 rintro⟨i,T_⟩ ⟨YO,Qb⟩ QF
 refine aa 9 [.ro 0] λ _=>RN.em (8*(i:Int)<((b).size:Int)) 9 (λ h3=>?_) λ h3=>?_
 ·refine aa 17 [] λ _=>RN.loop (σ:=Nat) (λ k=>⟨[(0,.func (.yield lp) #[] #[]),(1,vP q 0),(3,vI (8*(i:Int))),(4,.int .u64 (rI b i k)),(5,vI (k:Int))],[],[T_],k <= 8 /\ 8*i+k <= b.size,8-k⟩) 0 [] [0] (⟨by omega,by omega⟩) ?_
  rintro k ⟨Xy,hk2_⟩ UC
  refine aa 6 [] λ _=>RN.em ((k:Int)<8) 14 (λ h6=>?_) λ h6=>?_
  ·refine aq 9 [.nw,.ro 0] [bF ((8*(i:Int))+(k:Int))] λ _=>RN.em ((8*(i:Int))+(k:Int)<((b).size:Int)) 21 (λ h7=>?_) λ h7=>?_
   ·refine aq 26 [.ro 0,.nw,.ix (8*i+k),.nw,.dv,.gen,.nw] [bF ((k:Int)+1),0 <= 8*(k:Int),bF (8*(k:Int)),(8*(i:Int))+(k:Int)=(((8*i+k):Nat):Int) /\ (8*i+k)<(b).size,bF ((8*(i:Int))+(k:Int))] λ _=>?_
    refine UC (k+1) [] [0] ?_
    try dsimp only
    exact⟨⟨by omega,by omega⟩,by omega⟩
   ·obtain rfl:k=wk b i:=by unfold wk;omega
    refine aa 10 [] λ _=>RN.yield 0 (hY i (rI b i (wk b i)) _ _ (pq (by omega)) Qb) ?_
    rintro b_ T8 (⟨rfl,Td⟩|⟨rfl,Td⟩)
    ·refine aq 12 [.gen,.nw] [bF ((8*(i:Int))+8)] λ _=>bZ 3 (congrArg (λ v_=>(vI v_:Value)) (show (8*(i:Int)+8)=8*((i+1:Nat):Int) by omega)) ?_
     refine QF (i+1,T8) [] [0] ?_
     try dsimp only
     exact⟨⟨by unfold wn at *;omega,Td⟩,by unfold wn at *;omega⟩
    ·refine aa 4 [] λ _=>RN.ret [] [] [0] (v:=.tuple #[]) (H':=(ap [] [T8])) ?_
     rw[dS]
     exact .inr Td
  ·obtain rfl:k=wk b i:=by unfold wk;omega
   refine aa 19 [] λ _=>RN.yield 0 (hY i (rI b i (wk b i)) _ _ (pq (by omega)) Qb) ?_
   rintro b_ Sb (⟨rfl,Wh⟩|⟨rfl,Wh⟩)
   ·refine aq 12 [.gen,.nw] [bF ((8*(i:Int))+8)] λ _=>bZ 3 (congrArg (λ v_=>(vI v_:Value)) (show (8*(i:Int)+8)=8*((i+1:Nat):Int) by omega)) ?_
    refine QF (i+1,Sb) [] [0] ?_
    try dsimp only
    exact⟨⟨by unfold wn at *;omega,Wh⟩,by unfold wn at *;omega⟩
   ·refine aa 4 [] λ _=>RN.ret [] [] [0] (v:=.tuple #[]) (H':=(ap [] [Sb])) ?_
    rw[dS]
    exact .inr Wh
 ·obtain rfl:i=wn b:=by unfold wn at *;omega
  refine aa 5 [] λ _=>RN.ret [] [] [0] (v:=.tuple #[]) (H':=(ap [] [T_])) ?_
  rw[dS]
  exact .inl (by rw[xD];exact Qb)
theorem DT(b:ByteArray)(q:Nat)(F:HL)(hb:b.size <= 1000000)(hq:(q,.lit [.string b] 9 (0,0))∈F):It Tryz.prog 271 #[vP q 0] F MP (gz b):=by
 intro X l J Jx H0 hY h0
 have key:=Bv b q l X F J Jx H0 hb hq hY h0
 rw[dS] at key
 exact key
theorem Bw(b:ByteArray)(F:HL):Sp Tryz.prog 266 #[.string b] [] F (λ u H'=>∃n:Nat,H'=ap [((n+0),.lit [.string b] 9 (0,0))] [] /\ u=.func (.func 271) #[] #[vP (n+0) 0]):=by
 refine Sp.run Tryz.func266 rfl mn (A:=[]) (Ts:=[]) rfl λ w0=>?_
 refine aa 12 [] λ n1=>RN.ret [] [0] [] (v:=.func (.func 271) #[] #[vP (n1+0) 0]) (H':=(ap [((n1+0),.lit [.string b] 9 (0,0))] [])) ?_
 exact⟨_,rfl,rfl⟩
theorem DU(b:ByteArray)(F:HL):Sp Tryz.prog 266 #[.string b] (ap [] []) F (λ u H'=>∃n:Nat,H'=ap [((n+0),.lit [.string b] 9 (0,0))] [] /\ u=.func (.func 271) #[] #[vP (n+0) 0]):=Bw b F
theorem xE(b:ByteArray)(n:Int)(F:HL)(hb:b.size <= 1000000):Sp Tryz.prog 262 #[.string b,vI n] [] F (λ u H'=>u=.int .u64 (pr b n) /\ H'=[]):=by
 refine Sp.runM Tryz.func262 rfl mn (A:=[]) (Ts:=[]) rfl λ w0=>?_
 refine aa 14 [] λ n1=>RN.ct (Hp:=[]) (Tp:=[]) [] [] (DU b _) ?_
 rintro _ m2 rfl
 refine aa 3 [] λ _=>RN.range (σ:=Nat) (τ:=Nat × Int) (encs:=λ (x_:Int)=>#[.int .u64 x_]) (xs:=(gz b)) (enters_of Tryz.func271 (by kernel_rfl) rfl) (λ m_=>([((n1+0),.lit [.int .u64 (i0 b m_)] 312 (0,0))],[])) (λ i_ m_=>m_=i_) (λ c_ m_=>False) (λ ⟨m_,y_⟩=>⟨[(0,.string b),(1,vI n),(5,vP (n1+0) 0),(6,.int .u64 y_)],[((n1+0),.lit [.int .u64 (i0 b m_)] 312 (0,0))],[],True,0⟩) (λ i_ x_ ⟨m_,y_⟩=>m_=i_ /\ y_=x_) 0 rfl [1] [] (DT b (m2+0) _ hb (aC 0)) ?_ ?_ ?_ ?_
 ·rintro l_ i_ x_ m_ Y3 w4 hx5 rfl So
  refine aa 3 [] λ _=>?_
  refine So (m_,x_) [0] [] ?_
  try dsimp only
  exact⟨rfl,rfl⟩
 ·rintro l_ i_ x_ ⟨m_,y_⟩ Y7 w8 ZA ⟨rfl,ey_⟩
  refine aa 4 [.own 0] λ _=>al (mQ (i0 b m_) y_ _)<|aa 3 [.own 0] λ _=>?_
  have e_:i0 b (m_+1)=uL (i0 b m_) y_:=by rw[i0,ey_,DS ZA]
  refine fS 0 (congrArg (λ v_=>(.lit [.int .u64 v_] 312 (0,0):Blk)) e_.symm)<|RN.rn (m_+1) [0] [] ?_
  try dsimp only
  first|done|rfl
 ·rintro d10 m_  rfl
  refine aa 8 [.own 1] λ _=>al (mQ (i0 b (gz b).length) (u64.wrap ((b).size:Int)) _)<|aa 2 [] λ _=>al (mQ (uL (i0 b (gz b).length) (u64.wrap ((b).size:Int))) (u64.wrap n) _)<|aa 3 [] λ _=>?_
  exact RN.retM [d10] [0] [] [] [] ⟨rfl,rfl⟩
 ·exact λ _ _ _ h=>h.elim
theorem DV(b:ByteArray)(xs:List Int)(q c:Nat)(F:HL)(hb:b.size <= 1000000)(hl:xs.length <= c)(Qh:xs.length <= 1000000)(hq:(q,.rows 1 c (bk xs) 3 (0,0))∈F):Sp Tryz.prog 259 #[.string b,vS q 0 xs.length c] [] F (λ u H'=>u=.int .u64 (KF b xs) /\ H'=[]):=by
 refine Sp.run Tryz.func259 rfl (mc hq mn) (A:=[]) (Ts:=[]) rfl λ w0=>?_
 refine aa 10 [] λ _=>al (xE b (xs.length:Int) _ (by assumption))<|aa 12 [] λ _=>RN.loop (σ:=Nat) (λ k=>⟨[(5,.int .u64 (DQ (pr b xs.length) xs k)),(12,vS q 0 xs.length c),(13,vI (xs.length:Int)),(14,vI (k:Int))],[],[],k <= xs.length,xs.length-k⟩) 0 [] [] (Nat.zero_le _) ?_
 rintro k hI1 QF
 refine aa 6 [] λ _=>RN.em ((k:Int)<(xs.length:Int)) 15 (λ h3=>?_) λ h3=>?_
 ·refine aq 16 [.ix k,.rorow 0 k 0] [(0+k*1)=k*1+0 /\ k<c,(k:Int)=((k:Nat):Int) /\ k<xs.length] λ _=>al (mQ (DQ (pr b xs.length) xs k) (u64.wrap (xs.getD k 0)) _)<|aq 8 [.nw] [bF ((k:Int)+1)] λ _=>?_
  refine QF (k+1) [] [] ?_
  try dsimp only
  exact⟨by omega,by omega⟩
 ·obtain rfl:k=xs.length:=by omega
  refine aa 9 [] λ _=>al (mQ (DQ (pr b xs.length) xs xs.length) 0 _)<|aa 3 [] λ _=>?_
  exact RN.ret [] [] [] ⟨rfl,rfl⟩
structure VR where (M:MemS) (v:Int) (e:Eff) (em:Bool)
def mR:List (Int × Int × Int):=[(0,0,0),(0,1,0),(0,1,16),(1,0,16),(1,1,8),(2,0,8),(0,1,0),(0,1,0),(0,1,0),(2,1,0),(2,1,0),(2,1,0),(2,1,0),(1,1,0),(2,1,0),(2,1,0),(2,1,0),(1,1,0),(0,0,0),(1,0,0),(2,0,0),(0,0,0)]
abbrev eP(op:Int):Int:=(mR.getD op.toNat (0,0,0)).1
abbrev eQ(op:Int):Int:=(mR.getD op.toNat (0,0,0)).2.1
abbrev eN(op:Int):Int:=(mR.getD op.toNat (0,0,0)).2.2
def ma:Nat -> Nat -> Value:=λ i k=>match k with|0=>vI (mR.getD i (0,0,0)).1|1=>vI (mR.getD i (0,0,0)).2.1|_=>vI (mR.getD i (0,0,0)).2.2
def kF(n:Int):Int:=az n (-2147483647) 2147483647
def gl(b:Bool):Int:=if b=true then 1 else 0
def eY(op n sp:Int):Bool:=if op<1 then false else if op>21 then false else if sp>16 then false else if sp<eP op then false else if aV (aV (sp-eP op)+eQ op)>16 then false else if eN op=0 then true else if n >= 0 then decide (n<eN op) else false
def jN(f v:Int):Int:=if f=0 then az v (-1048576) 1048576 else if f=1 then az v (-1048576) 1048576 else if f=2 then az v (-16384) 16384 else if f=3 then az v (-16384) 16384 else v
abbrev OG:ByteArray:=⟨#[101,102,102,101,99,116]⟩
def cN(k v:Int)(M:MemS):VR:=if M.get 11 >= 40 then ⟨M,0,bH,false⟩ else ⟨(M.set 12 (aV ((KF OG [M.get 12,M.get 0,k,v]).fdiv 2))).set 11 (aV (M.get 11+1)),0,⟨M.get 0,M.get 11,k,v⟩,true⟩
def aH(S:Setup)(op n a b:Int)(M:MemS):VR :=
 if op=1 then ⟨M,n,bH,false⟩ else if op=2 then ⟨M,M.get (aV (32+n)),bH,false⟩ else if op=6 then ⟨M,M.get 9,bH,false⟩ else if op=7 then ⟨M,M.get 10,bH,false⟩ else if op=8 then ⟨M,M.get 0,bH,false⟩
 else if op=9 then ⟨M,kF (aV (a+b)),bH,false⟩ else if op=10 then ⟨M,kF (aV (a-b)),bH,false⟩ else if op=11 then ⟨M,kF (aV (a*b)),bH,false⟩ else if op=12 then ⟨M,if b=0 then 0 else kF (aV (a.tdiv b)),bH,false⟩
 else if op=14 then ⟨M,gl (decide (a<b)),bH,false⟩ else if op=15 then ⟨M,gl (decide (a <= b)),bH,false⟩ else if op=16 then ⟨M,gl (decide (a=b)),bH,false⟩
 else if op=13 then ⟨M,kF (aV (0-a)),bH,false⟩ else if op=17 then ⟨M,gl (decide (a=0)),bH,false⟩
 else if op=3 then ⟨M.set (aV (32+n)) a,0,bH,false⟩ else if op=4 then ⟨M,if ae S a >= 0 then M.get (aV (ae S a+n)) else 0,bH,false⟩ else if op=5 then ⟨if ae S a >= 0 then M.set (aV (ae S a+n)) (jN n b) else M,0,bH,false⟩
 else if op=18 then ⟨M.set 6 n,0,bH,false⟩ else if op=19 then ⟨if a=0 then M.set 6 n else M,0,bH,false⟩ else if op=20 then ⟨(cN a b M).M,0,(cN a b M).e,(cN a b M).em⟩ else ⟨M,0,bH,false⟩
def dC(op sp:Int)(M:MemS):Int:=if eP op=2 then M.get (aV (aV (16+sp)-eP op)) else if eP op=1 then M.get (aV (aV (16+sp)-eP op)) else 0
def dQ(op sp:Int)(M:MemS):Int:=if eP op=2 then M.get (aV (aV (aV (16+sp)-eP op)+1)) else 0
def dw(op sp pc fuel:Int)(M:MemS):MemS:=if eP op=eQ op then (M.set 8 (aV (fuel-1))).set 6 (aV (pc+1)) else ((M.set 8 (aV (fuel-1))).set 6 (aV (pc+1))).set 7 (aV (aV (sp-eP op)+eQ op))
def bQ(S:Setup)(op n sp pc fuel:Int)(M:MemS):VR:=aH S op n (dC op sp M) (dQ op sp M) (dw op sp pc fuel M)
def cz(op sp:Int)(r:VR):VR:=if eQ op>0 then ⟨r.M.set (aV (aV (16+sp)-eP op)) r.v,r.v,r.e,r.em⟩ else r
abbrev aX(code:List Ins)(M:MemS):Ins:=code.getD (M.get 6).toNat dIns
def c7(code:List Ins)(n:Nat)(M:MemS):Prop:=¬ M.get 8<1 /\ ¬ M.get 6<0 /\ ¬ M.get 6 >= (n:Int) /\ eY (aX code M).op (aX code M).n (M.get 7)=true
instance (code:List Ins) (n:Nat) (M:MemS):Decidable (c7 code n M):=inferInstanceAs (Decidable (_ /\ _))
def ao(S:Setup)(code:List Ins)(n:Nat)(M:MemS):VR:=if c7 code n M then cz (aX code M).op (M.get 7) (bQ S (aX code M).op (aX code M).n (M.get 7) (M.get 6) (M.get 8) M) else ⟨M,0,bH,false⟩
def bE(code:List Ins)(n:Nat)(M:MemS):Bool:=if c7 code n M then decide ((aX code M).op=21) else true
def aU(e fuel self other:Int)(M:MemS):MemS:=if e<0 then M else ((((M.set 6 e).set 7 0).set 8 fuel).set 9 self).set 10 other
def kG:Enc Ins:=⟨2,λ p k=>match k with|0=>vI p.op|1=>vI p.n|_=>default,dIns⟩
noncomputable def J3:TypeInfo:=match Tryz.prog.info? 98 with | some i=>i | none=>⟨.bool,"",0,0,false,0,0,none,false,#[]⟩
noncomputable def J4:Value:=match J3.zero with|some z=>z|none=>.bool false
theorem DW:EncOk kG Tryz.prog 98 J3 J4 where
 info:=by kernel_rfl
 zero:=by kernel_rfl
 size:=by kernel_rfl
 zsize:=by kernel_rfl
 zcell:=λ k hk=>by
  have h:∀k<2,J4.cells[k]?=some (kG.cell kG.dflt k):=by intro k hk;(iterate 2 (rcases k with _|k;· kernel_rfl));omega
  exact h k hk
 one:=λ x k=>by unfold kG;dsimp only;split <;> rfl
 bytes:=Nat.le_of_ble_eq_true (by kernel_rfl)
abbrev MQ(l:List Ins):Nat -> Nat -> Value:=aD kG l
inductive CodeIn(F:HL)(code:List Ins):Option Addr -> Nat -> Prop
 | nil (A:Option Addr):CodeIn F code A 0
 | mk (b R n:Nat) (h:(b,.rows 2 R (MQ code) 98 (0,0))∈F) (hn:n <= R) (hn2:n <= 1000000):CodeIn F code (some ⟨b,0,none⟩) n
theorem CodeIn.up{F X:HL}{code:List Ins}{A:Option Addr}{n:Nat}(h:CodeIn F code A n):CodeIn (X++F) code A n:=by
 cases h with
 | nil=>exact .nil _
 | mk b R n h h1 h2=>exact .mk b R n (List.mem_append_right _ h) h1 h2
abbrev fv(F:HL):Prop:=(1,.rows 3 22 ma 283 (0,0))∈F
theorem mS(n:Int)  (F:HL):Sp Tryz.prog 237 #[vI n] [] F (λ u H'=>u=vI (kF n) /\ H'=[]):=by
 refine Sp.run Tryz.func237 rfl mn (A:=[]) (Ts:=[]) rfl λ w0=>?_
 refine aa 8 [] λ _=>al (cJ n (-2147483647) 2147483647  _)<|aa 3 [] λ _=>?_
 exact RN.ret [] [] [] ⟨rfl,rfl⟩
theorem lc(b:Bool)(F:HL):Sp Tryz.prog 242 #[.bool b] [] F (λ u H'=>u=vI (gl b) /\ H'=[]):=by
 refine Sp.run Tryz.func242 rfl mn (A:=[]) (Ts:=[]) rfl λ w0=>?_
 refine aa 11 [] λ _=>RN.eb (b) 3 (λ h1=>?_) λ h1=>?_
 ·refine aa 6 [] λ _=>RN.ret [] [] [] (v:=vI 1) (H':=[]) ?_
  refine⟨?_,rfl⟩
  first|(simp only[gl,if_pos h1];try rfl;done)|rfl
 ·refine aa 8 [] λ _=>RN.ret [] [] [] (v:=vI 0) (H':=[]) ?_
  refine⟨?_,rfl⟩
  first|(simp only[gl,if_neg h1];try rfl;done)|rfl
theorem Bz(f:Int)(v:Int)  (F:HL):Sp Tryz.prog 250 #[vI f,vI v] [] F (λ u H'=>u=vI (jN f v) /\ H'=[]):=by
 refine Sp.run Tryz.func250 rfl mn (A:=[]) (Ts:=[]) rfl λ w0=>?_
 refine aa 19 [] λ _=>RN.em (f=0) 6 (λ h1=>?_) λ h1=>?_
 ·refine aa 7 [] λ _=>al (cJ v (-1048576) 1048576  _)<|aa 3 [] λ _=>RN.ret [] [] [] (v:=vI (az v (-1048576) 1048576)) (H':=[]) ?_
  refine⟨?_,rfl⟩
  first|(simp only[jN,if_pos h1];try rfl;done)|rfl
 ·refine aa 6 [] λ _=>RN.em (f=1) 6 (λ h2=>?_) λ h2=>?_
  ·refine aa 4 [] λ _=>al (cJ v (-1048576) 1048576  _)<|aa 3 [] λ _=>RN.ret [] [] [] (v:=vI (az v (-1048576) 1048576)) (H':=[]) ?_
   refine⟨?_,rfl⟩
   first|(simp only[jN,if_neg h1,if_pos h2];try rfl;done)|rfl
  ·refine aa 8 [] λ _=>RN.em (f=2) 11 (λ h3=>?_) λ h3=>?_
   ·refine aa 7 [] λ _=>al (cJ v (-16384) 16384  _)<|aa 3 [] λ _=>RN.ret [] [] [] (v:=vI (az v (-16384) 16384)) (H':=[]) ?_
    refine⟨?_,rfl⟩
    first|(simp only[jN,if_neg h1,if_neg h2,if_pos h3];try rfl;done)|rfl
   ·refine aa 6 [] λ _=>RN.em (f=3) 11 (λ h4=>?_) λ h4=>?_
    ·refine aa 4 [] λ _=>al (cJ v (-16384) 16384  _)<|aa 3 [] λ _=>RN.ret [] [] [] (v:=vI (az v (-16384) 16384)) (H':=[]) ?_
     refine⟨?_,rfl⟩
     first|(simp only[jN,if_neg h1,if_neg h2,if_neg h3,if_pos h4];try rfl;done)|rfl
    ·refine aa 10 [] λ _=>RN.ret [] [] [] (v:=vI v) (H':=[]) ?_
     refine⟨?_,rfl⟩
     first|(simp only[jN,if_neg h1,if_neg h2,if_neg h3,if_neg h4];try rfl;done)|rfl
theorem HV(op n sp:Int)(F:HL)(hE:fv F):Sp Tryz.prog 200 #[.agg #[vI op,vI n],vI sp] [] F (λ u H'=>u=.bool (eY op n sp) /\ H'=[]):=by
 refine Sp.run Tryz.func200 rfl (mc hE mn) (A:=[]) (Ts:=[]) rfl λ w0=>?_
 refine aa 13 [.own 0] λ n1=>RN.em (op<1) 9 (λ h2=>?_) λ h2=>?_
 ·refine aa 16 [] λ _=>RN.ret [] [] [] (v:=.bool false) (H':=[]) ?_
  refine⟨?_,rfl⟩
  first|(simp only[eY,if_pos h2];try rfl;done)|rfl
 ·refine aa 5 [.own 0] λ _=>RN.em (op>21) 14 (λ h3=>?_) λ h3=>?_
  ·refine aa 11 [] λ _=>RN.ret [] [] [] (v:=.bool false) (H':=[]) ?_
   refine⟨?_,rfl⟩
   first|(simp only[eY,if_neg h2,if_pos h3];try rfl;done)|rfl
  ·refine aa 5 [] λ _=>RN.em (sp>16) 17 (λ h4=>?_) λ h4=>?_
   ·refine aa 6 [] λ _=>RN.ret [] [] [] (v:=.bool false) (H':=[]) ?_
    refine⟨?_,rfl⟩
    first|(simp only[eY,if_neg h2,if_neg h3,if_pos h4];try rfl;done)|rfl
   ·refine aq 21 [.own 0,.ix ((op).toNat),.rorow 0 ((op).toNat) 0,.rorow 0 ((op).toNat) 1,.rorow 0 ((op).toNat) 2,.own 0,.own 0,.own 0,.own 0] [((0+((op).toNat)*3)+2)=((op).toNat)*3+2 /\ ((op).toNat)<22,((0+((op).toNat)*3)+1)=((op).toNat)*3+1 /\ ((op).toNat)<22,(0+((op).toNat)*3)=((op).toNat)*3+0 /\ ((op).toNat)<22,op=(((op).toNat:Nat):Int) /\ (op).toNat<22] λ n5=>RN.em (sp<eP op) 26 (λ h6=>?_) λ h6=>?_
    ·refine aa 17 [] λ _=>RN.ret [] [] [] (v:=.bool false) (H':=[]) ?_
     refine⟨?_,rfl⟩
     first|(simp only[eY,if_neg h2,if_neg h3,if_neg h4,if_pos h6];try rfl;done)|rfl
    ·refine aa 11 [.own 0,.own 0] λ _=>RN.em (i64.wrap ((i64.wrap (sp-(eP op)))+(eQ op))>16) 35 (λ h7=>?_) λ h7=>?_
     ·refine aa 6 [] λ _=>RN.ret [] [] [] (v:=.bool false) (H':=[]) ?_
      refine⟨?_,rfl⟩
      first|(simp only[eY,if_neg h2,if_neg h3,if_neg h4,if_neg h6,if_pos h7];try rfl;done)|rfl
     ·refine aa 9 [.own 0] λ _=>RN.em (eN op=0) 39 (λ h8=>?_) λ h8=>?_
      ·refine aa 14 [] λ _=>RN.ret [] [] [] (v:=.bool true) (H':=[]) ?_
       refine⟨?_,rfl⟩
       first|(simp only[eY,if_neg h2,if_neg h3,if_neg h4,if_neg h6,if_neg h7,if_pos h8];try rfl;done)|rfl
      ·refine aa 4 [.own 1] λ _=>RN.em (n >= 0) 43 (λ h9=>?_) λ h9=>?_
       ·refine aa 10 [.own 1,.own 0] λ _=>RN.ret [] [] [] (v:=.bool (decide (n<eN op))) (H':=[]) ?_
        refine⟨?_,rfl⟩
        first|(simp only[eY,if_neg h2,if_neg h3,if_neg h4,if_neg h6,if_neg h7,if_neg h8,if_pos h9];try rfl;done)|rfl
       ·refine aa 10 [] λ _=>RN.ret [] [] [] (v:=.bool false) (H':=[]) ?_
        refine⟨?_,rfl⟩
        first|(simp only[eY,if_neg h2,if_neg h3,if_neg h4,if_neg h6,if_neg h7,if_neg h8,if_neg h9];try rfl;done)|rfl
theorem ld1(mb:Nat)(M:MemS)(k:Nat)(T:HL)(n:Int)(F:HL)(hM:MemH mb M k T)(hs:∀x∈T,x∈F):Sp Tryz.prog 231 #[.iface 41 (vP mb 0),vI n] [] F (λ u H'=>u=vI (n) /\ H'=[]):=by
 refine Sp.run Tryz.func231 rfl mn (A:=[]) (Ts:=[]) rfl λ w0=>?_
 refine aa 11 [] λ _=>?_
 exact RN.ret [] [] [] ⟨rfl,rfl⟩
theorem ld2(mb:Nat)(M:MemS)(k:Nat)(T:HL)(n:Int)(F:HL)(hM:MemH mb M k T)(hs:∀x∈T,x∈F):Sp Tryz.prog 232 #[.iface 41 (vP mb 0),vI n] [] F (λ u H'=>u=vI (M.get (aV (32+n))) /\ H'=[]):=by
 refine Sp.run Tryz.func232 rfl mn (A:=[]) (Ts:=[]) rfl λ w0=>?_
 refine aa 10 [] λ _=>al (aB (i64.wrap (32+n)) hM λ x hx=>bK (hs x hx))<|aa 3 [] λ _=>?_
 exact RN.ret [] [] [] ⟨rfl,rfl⟩
theorem ld3(mb:Nat)(M:MemS)(k:Nat)(T:HL)(n:Int)(F:HL)(hM:MemH mb M k T)(hs:∀x∈T,x∈F):Sp Tryz.prog 233 #[.iface 41 (vP mb 0),vI n] [] F (λ u H'=>u=vI (M.get 9) /\ H'=[]):=by
 refine Sp.run Tryz.func233 rfl mn (A:=[]) (Ts:=[]) rfl λ w0=>?_
 refine aa 8 [] λ _=>al (aB 9 hM λ x hx=>bK (hs x hx))<|aa 3 [] λ _=>?_
 exact RN.ret [] [] [] ⟨rfl,rfl⟩
theorem ld4(mb:Nat)(M:MemS)(k:Nat)(T:HL)(n:Int)(F:HL)(hM:MemH mb M k T)(hs:∀x∈T,x∈F):Sp Tryz.prog 234 #[.iface 41 (vP mb 0),vI n] [] F (λ u H'=>u=vI (M.get 10) /\ H'=[]):=by
 refine Sp.run Tryz.func234 rfl mn (A:=[]) (Ts:=[]) rfl λ w0=>?_
 refine aa 8 [] λ _=>al (aB 10 hM λ x hx=>bK (hs x hx))<|aa 3 [] λ _=>?_
 exact RN.ret [] [] [] ⟨rfl,rfl⟩
theorem ld5(mb:Nat)(M:MemS)(k:Nat)(T:HL)(n:Int)(F:HL)(hM:MemH mb M k T)(hs:∀x∈T,x∈F):Sp Tryz.prog 235 #[.iface 41 (vP mb 0),vI n] [] F (λ u H'=>u=vI (M.get 0) /\ H'=[]):=by
 refine Sp.run Tryz.func235 rfl mn (A:=[]) (Ts:=[]) rfl λ w0=>?_
 refine aa 8 [] λ _=>al (aB 0 hM λ x hx=>bK (hs x hx))<|aa 3 [] λ _=>?_
 exact RN.ret [] [] [] ⟨rfl,rfl⟩
theorem OH(a b:Int)(F:HL):Sp Tryz.prog 236 #[vI a,vI b] [] F (λ u H'=>u=vI (kF (aV (a+b))) /\ H'=[]):=by
 refine Sp.run Tryz.func236 rfl mn (A:=[]) (Ts:=[]) rfl λ w0=>?_
 refine aa 10 [] λ _=>al (mS (i64.wrap (a+b))  _)<|aa 3 [] λ _=>?_
 exact RN.ret [] [] [] ⟨rfl,rfl⟩
theorem OI(a b:Int)(F:HL):Sp Tryz.prog 238 #[vI a,vI b] [] F (λ u H'=>u=vI (kF (aV (a-b))) /\ H'=[]):=by
 refine Sp.run Tryz.func238 rfl mn (A:=[]) (Ts:=[]) rfl λ w0=>?_
 refine aa 10 [] λ _=>al (mS (i64.wrap (a-b))  _)<|aa 3 [] λ _=>?_
 exact RN.ret [] [] [] ⟨rfl,rfl⟩
theorem OJ(a b:Int)(F:HL):Sp Tryz.prog 239 #[vI a,vI b] [] F (λ u H'=>u=vI (kF (aV (a*b))) /\ H'=[]):=by
 refine Sp.run Tryz.func239 rfl mn (A:=[]) (Ts:=[]) rfl λ w0=>?_
 refine aa 10 [] λ _=>al (mS (i64.wrap (a*b))  _)<|aa 3 [] λ _=>?_
 exact RN.ret [] [] [] ⟨rfl,rfl⟩
theorem OL(a b:Int)(F:HL):Sp Tryz.prog 240 #[vI a,vI b] [] F (λ u H'=>u=vI (if b=0 then 0 else kF (aV (a.tdiv b))) /\ H'=[]):=by
 refine Sp.run Tryz.func240 rfl mn (A:=[]) (Ts:=[]) rfl λ w0=>?_
 refine aa 12 [] λ _=>RN.em (b=0) 6 (λ h1=>?_) λ h1=>?_
 ·refine aa 6 [] λ _=>RN.ret [] [] [] (v:=vI 0) (H':=[]) ?_
  exact⟨by simp[*],rfl⟩
 ·refine aq 8 [.dv] [b≠0] λ _=>al (mS (i64.wrap (a.tdiv b))  _)<|aa 3 [] λ _=>RN.ret [] [] [] (v:=vI (kF (i64.wrap (a.tdiv b)))) (H':=[]) ?_
  exact⟨by simp[*],rfl⟩
theorem OM(a b:Int)(F:HL):Sp Tryz.prog 241 #[vI a,vI b] [] F (λ u H'=>u=vI (gl (decide (a<b))) /\ H'=[]):=by
 refine Sp.run Tryz.func241 rfl mn (A:=[]) (Ts:=[]) rfl λ w0=>?_
 refine aa 10 [] λ _=>al (lc (decide (a<b)) _)<|aa 3 [] λ _=>?_
 exact RN.ret [] [] [] ⟨rfl,rfl⟩
theorem ON(a b:Int)(F:HL):Sp Tryz.prog 243 #[vI a,vI b] [] F (λ u H'=>u=vI (gl (decide (a <= b))) /\ H'=[]):=by
 refine Sp.run Tryz.func243 rfl mn (A:=[]) (Ts:=[]) rfl λ w0=>?_
 refine aa 10 [] λ _=>al (lc (decide (a <= b)) _)<|aa 3 [] λ _=>?_
 exact RN.ret [] [] [] ⟨rfl,rfl⟩
theorem OO(a b:Int)(F:HL):Sp Tryz.prog 244 #[vI a,vI b] [] F (λ u H'=>u=vI (gl (decide (a=b))) /\ H'=[]):=by
 refine Sp.run Tryz.func244 rfl mn (A:=[]) (Ts:=[]) rfl λ w0=>?_
 refine aa 10 [] λ _=>al (lc (decide (a=b)) _)<|aa 3 [] λ _=>?_
 exact RN.ret [] [] [] ⟨rfl,rfl⟩
theorem un1(a:Int)(F:HL):Sp Tryz.prog 245 #[vI a] [] F (λ u H'=>u=vI (kF (aV (0-a))) /\ H'=[]):=by
 refine Sp.run Tryz.func245 rfl mn (A:=[]) (Ts:=[]) rfl λ w0=>?_
 refine aa 9 [] λ _=>al (mS (i64.wrap (0-a))  _)<|aa 3 [] λ _=>?_
 exact RN.ret [] [] [] ⟨rfl,rfl⟩
theorem un2(a:Int)(F:HL):Sp Tryz.prog 246 #[vI a] [] F (λ u H'=>u=vI (gl (decide (a=0))) /\ H'=[]):=by
 refine Sp.run Tryz.func246 rfl mn (A:=[]) (Ts:=[]) rfl λ w0=>?_
 refine aa 9 [] λ _=>al (lc (decide (a=0)) _)<|aa 3 [] λ _=>?_
 exact RN.ret [] [] [] ⟨rfl,rfl⟩
theorem MR(F:HL):Sp Tryz.prog 219 #[vI 1] [] F (λ u H'=>u=.func (.func 231) #[] #[] /\ H'=[]):=by
 refine Sp.run Tryz.func219 rfl mn (A:=[]) (Ts:=[]) rfl λ w0=>?_
 refine aa 19 (ow 0 11) λ n1=>?_
 exact RN.ret [] [] [] ⟨rfl,rfl⟩
theorem MS(F:HL):Sp Tryz.prog 219 #[vI 2] [] F (λ u H'=>u=.func (.func 232) #[] #[] /\ H'=[]):=by
 refine Sp.run Tryz.func219 rfl mn (A:=[]) (Ts:=[]) rfl λ w0=>?_
 refine aa 19 (ow 0 11) λ n1=>?_
 exact RN.ret [] [] [] ⟨rfl,rfl⟩
theorem MT(F:HL):Sp Tryz.prog 219 #[vI 6] [] F (λ u H'=>u=.func (.func 233) #[] #[] /\ H'=[]):=by
 refine Sp.run Tryz.func219 rfl mn (A:=[]) (Ts:=[]) rfl λ w0=>?_
 refine aa 19 (ow 0 11) λ n1=>?_
 exact RN.ret [] [] [] ⟨rfl,rfl⟩
theorem MU(F:HL):Sp Tryz.prog 219 #[vI 7] [] F (λ u H'=>u=.func (.func 234) #[] #[] /\ H'=[]):=by
 refine Sp.run Tryz.func219 rfl mn (A:=[]) (Ts:=[]) rfl λ w0=>?_
 refine aa 19 (ow 0 11) λ n1=>?_
 exact RN.ret [] [] [] ⟨rfl,rfl⟩
theorem MW(F:HL):Sp Tryz.prog 219 #[vI 8] [] F (λ u H'=>u=.func (.func 235) #[] #[] /\ H'=[]):=by
 refine Sp.run Tryz.func219 rfl mn (A:=[]) (Ts:=[]) rfl λ w0=>?_
 refine aa 19 (ow 0 11) λ n1=>?_
 exact RN.ret [] [] [] ⟨rfl,rfl⟩
theorem MX(F:HL):Sp Tryz.prog 220 #[vI 9] [] F (λ u H'=>u=.func (.func 236) #[] #[] /\ H'=[]):=by
 refine Sp.run Tryz.func220 rfl mn (A:=[]) (Ts:=[]) rfl λ w0=>?_
 refine aa 21 (ow 0 15) λ n1=>?_
 exact RN.ret [] [] [] ⟨rfl,rfl⟩
theorem KG(F:HL):Sp Tryz.prog 220 #[vI 10] [] F (λ u H'=>u=.func (.func 238) #[] #[] /\ H'=[]):=by
 refine Sp.run Tryz.func220 rfl mn (A:=[]) (Ts:=[]) rfl λ w0=>?_
 refine aa 21 (ow 0 15) λ n1=>?_
 exact RN.ret [] [] [] ⟨rfl,rfl⟩
theorem KH(F:HL):Sp Tryz.prog 220 #[vI 11] [] F (λ u H'=>u=.func (.func 239) #[] #[] /\ H'=[]):=by
 refine Sp.run Tryz.func220 rfl mn (A:=[]) (Ts:=[]) rfl λ w0=>?_
 refine aa 21 (ow 0 15) λ n1=>?_
 exact RN.ret [] [] [] ⟨rfl,rfl⟩
theorem KJ(F:HL):Sp Tryz.prog 220 #[vI 12] [] F (λ u H'=>u=.func (.func 240) #[] #[] /\ H'=[]):=by
 refine Sp.run Tryz.func220 rfl mn (A:=[]) (Ts:=[]) rfl λ w0=>?_
 refine aa 21 (ow 0 15) λ n1=>?_
 exact RN.ret [] [] [] ⟨rfl,rfl⟩
theorem KL(F:HL):Sp Tryz.prog 220 #[vI 14] [] F (λ u H'=>u=.func (.func 241) #[] #[] /\ H'=[]):=by
 refine Sp.run Tryz.func220 rfl mn (A:=[]) (Ts:=[]) rfl λ w0=>?_
 refine aa 21 (ow 0 15) λ n1=>?_
 exact RN.ret [] [] [] ⟨rfl,rfl⟩
theorem KM(F:HL):Sp Tryz.prog 220 #[vI 15] [] F (λ u H'=>u=.func (.func 243) #[] #[] /\ H'=[]):=by
 refine Sp.run Tryz.func220 rfl mn (A:=[]) (Ts:=[]) rfl λ w0=>?_
 refine aa 21 (ow 0 15) λ n1=>?_
 exact RN.ret [] [] [] ⟨rfl,rfl⟩
theorem KN(F:HL):Sp Tryz.prog 220 #[vI 16] [] F (λ u H'=>u=.func (.func 244) #[] #[] /\ H'=[]):=by
 refine Sp.run Tryz.func220 rfl mn (A:=[]) (Ts:=[]) rfl λ w0=>?_
 refine aa 21 (ow 0 15) λ n1=>?_
 exact RN.ret [] [] [] ⟨rfl,rfl⟩
theorem KO(F:HL):Sp Tryz.prog 221 #[vI 13] [] F (λ u H'=>u=.func (.func 245) #[] #[] /\ H'=[]):=by
 refine Sp.run Tryz.func221 rfl mn (A:=[]) (Ts:=[]) rfl λ w0=>?_
 refine aa 16 (ow 0 5) λ n1=>?_
 exact RN.ret [] [] [] ⟨rfl,rfl⟩
theorem KP(F:HL):Sp Tryz.prog 221 #[vI 17] [] F (λ u H'=>u=.func (.func 246) #[] #[] /\ H'=[]):=by
 refine Sp.run Tryz.func221 rfl mn (A:=[]) (Ts:=[]) rfl λ w0=>?_
 refine aa 16 (ow 0 5) λ n1=>?_
 exact RN.ret [] [] [] ⟨rfl,rfl⟩
theorem MY(F:HL):Sp Tryz.prog 222 #[vI 3] [] F (λ u H'=>u=.func (.func 247) #[] #[] /\ H'=[]):=by
 refine Sp.run Tryz.func222 rfl mn (A:=[]) (Ts:=[]) rfl λ w0=>?_
 refine aa 21 (ow 0 15) λ n1=>?_
 exact RN.ret [] [] [] ⟨rfl,rfl⟩
theorem MZ(F:HL):Sp Tryz.prog 222 #[vI 4] [] F (λ u H'=>u=.func (.func 248) #[] #[] /\ H'=[]):=by
 refine Sp.run Tryz.func222 rfl mn (A:=[]) (Ts:=[]) rfl λ w0=>?_
 refine aa 21 (ow 0 15) λ n1=>?_
 exact RN.ret [] [] [] ⟨rfl,rfl⟩
theorem M0(F:HL):Sp Tryz.prog 222 #[vI 5] [] F (λ u H'=>u=.func (.func 249) #[] #[] /\ H'=[]):=by
 refine Sp.run Tryz.func222 rfl mn (A:=[]) (Ts:=[]) rfl λ w0=>?_
 refine aa 21 (ow 0 15) λ n1=>?_
 exact RN.ret [] [] [] ⟨rfl,rfl⟩
theorem KQ(F:HL):Sp Tryz.prog 222 #[vI 18] [] F (λ u H'=>u=.func (.func 251) #[] #[] /\ H'=[]):=by
 refine Sp.run Tryz.func222 rfl mn (A:=[]) (Ts:=[]) rfl λ w0=>?_
 refine aa 21 (ow 0 15) λ n1=>?_
 exact RN.ret [] [] [] ⟨rfl,rfl⟩
theorem KR(F:HL):Sp Tryz.prog 222 #[vI 19] [] F (λ u H'=>u=.func (.func 252) #[] #[] /\ H'=[]):=by
 refine Sp.run Tryz.func222 rfl mn (A:=[]) (Ts:=[]) rfl λ w0=>?_
 refine aa 21 (ow 0 15) λ n1=>?_
 exact RN.ret [] [] [] ⟨rfl,rfl⟩
theorem KS(F:HL):Sp Tryz.prog 222 #[vI 20] [] F (λ u H'=>u=.func (.func 253) #[] #[] /\ H'=[]):=by
 refine Sp.run Tryz.func222 rfl mn (A:=[]) (Ts:=[]) rfl λ w0=>?_
 refine aa 21 (ow 0 15) λ n1=>?_
 exact RN.ret [] [] [] ⟨rfl,rfl⟩
theorem KT(F:HL):Sp Tryz.prog 222 #[vI 21] [] F (λ u H'=>u=.func (.func 255) #[] #[] /\ H'=[]):=by
 refine Sp.run Tryz.func222 rfl mn (A:=[]) (Ts:=[]) rfl λ w0=>?_
 refine aa 21 (ow 0 15) λ n1=>?_
 exact RN.ret [] [] [] ⟨rfl,rfl⟩
theorem KU(mb:Nat)(M:MemS)(k:Nat)(T:HL)(kd v:Int)(F:HL)(hM:MemH mb M (k+2) T) :Sp Tryz.prog 254 #[.iface 41 (vP mb 0),vI kd,vI v] (ap [] [T]) F (λ u H'=>∃x,H'=ap [] [x] /\ (MemH mb ((cN kd v M).M) k x /\ u=.tuple #[.agg #[vI ((cN kd v M).e.t),vI ((cN kd v M).e.i),vI ((cN kd v M).e.k),vI ((cN kd v M).e.v)],.bool ((cN kd v M).em)])):=by
 refine Sp.run Tryz.func254 rfl mn (A:=[]) (Ts:=[T]) rfl λ w0=>?_
 refine aa 9 [] λ n1=>al (aB 11 hM (aS 0))<|aa 10 [] λ _=>RN.em (M.get 11 >= 40) 14 (λ h2=>?_) λ h2=>?_
 ·refine aa 8 [.own 0,.own 0,.own 0,.own 0] λ _=>RN.ret [.own 0,.own 0,.own 0,.own 0] [] [0] (v:=.tuple #[.agg #[vI 0,vI 0,vI 0,vI 0],.bool false]) (H':=(ap [] [T])) ?_
  refine⟨T,rfl,?_⟩
  refine⟨?_,?_⟩
  ·simp only[cN,if_pos h2];exact hM.weak (by omega)
  ·simp only[cN,if_pos h2]
 ·refine aa 6 [] λ _=>al (aB 0 hM (aS 0))<|aa 6 [] λ _=>al (aB 12 hM (aS 0))<|aa 4 [] λ n3=>RN.dn 0 (.rows 1 4 (bk [M.get 12,M.get 0,kd,v]) 3 (0,0))<|al (DV (⟨#[101,102,102,101,99,116]⟩) ([M.get 12,M.get 0,kd,v]) (n3+0) 4 _ (by decide) (Nat.le_of_ble_eq_true rfl) (Nat.le_of_ble_eq_true rfl) (aC 0))<|aa 9 [] λ _=>RN.ct [] [0] (ak 12 (i64.wrap ((KF (⟨#[101,102,102,101,99,116]⟩) ([M.get 12,M.get 0,kd,v])).fdiv 2)) hM) ?_
  rintro _ T4 QW
  refine aa 7 [] λ _=>RN.ct [] [0] (ak 11 (i64.wrap ((M.get 11)+1)) QW) ?_
  rintro _ T6 Uj
  refine aa 13 [.own 1,.own 1,.own 1,.own 1] λ _=>RN.ret [.own 1,.own 1,.own 1,.own 1] [] [0] (v:=.tuple #[.agg #[vI (M.get 0),vI (M.get 11),vI kd,vI v],.bool true]) (H':=(ap [] [T6])) ?_
  refine⟨T6,rfl,?_⟩
  refine⟨?_,?_⟩
  ·simp only[cN,if_neg h2];exact Uj.weak (by omega)
  ·simp only[cN,if_neg h2]
theorem OP(mb:Nat)(M:MemS)(k:Nat)(T:HL)(S:Setup)(n a b:Int)(F:HL)(hM:MemH mb M (k+1) T)(hS:SetN S):Sp Tryz.prog 247 #[.iface 41 (vP mb 0),(Setup.v S),.agg #[vI n,vI a,vI b]] (ap [] [T]) F (λ u H'=>∃x,H'=ap [] [x] /\ (MemH mb (M.set (aV (32+n)) a) k x /\ u=.tuple #[vI 0,.agg #[vI 0,vI 0,vI 0,vI 0],.bool false])):=by
 have h1:=hS.pl
 have h2:=hS.nb
 refine Sp.run Tryz.func247 rfl mn (A:=[]) (Ts:=[T]) rfl λ w0=>?_
 refine aa 17 [.own 1,.own 1] λ n1=>RN.ct [] [0] (ak (i64.wrap (32+n)) a hM) ?_
 rintro _ T2 P6
 refine aa 10 [.own 0,.own 0,.own 0,.own 0] λ _=>RN.ret [.own 0,.own 0,.own 0,.own 0] [] [0] (v:=.tuple #[vI 0,.agg #[vI 0,vI 0,vI 0,vI 0],.bool false]) (H':=(ap [] [T2])) ?_
 refine⟨T2,rfl,?_⟩
 refine⟨?_,?_⟩
 ·first|(simp only[];exact P6.weak (by omega))|exact P6.weak (by omega)
 ·first|rfl|(simp only[];done)|(simp only[];rfl)
theorem OQ(mb:Nat)(M:MemS)(k:Nat)(T:HL)(S:Setup)(n a b:Int)(F:HL)(hM:MemH mb M (k+0) T)(hS:SetN S):Sp Tryz.prog 248 #[.iface 41 (vP mb 0),(Setup.v S),.agg #[vI n,vI a,vI b]] (ap [] [T]) F (λ u H'=>∃x,H'=ap [] [x] /\ (MemH mb (M) k x /\ u=.tuple #[vI (if ae S a >= 0 then M.get (aV (ae S a+n)) else 0),.agg #[vI 0,vI 0,vI 0,vI 0],.bool false])):=by
 have h1:=hS.pl
 have h2:=hS.nb
 refine Sp.run Tryz.func248 rfl mn (A:=[]) (Ts:=[T]) rfl λ w0=>?_
 refine aa 15 (ow 2 16++[.own 1]) λ n1=>al (cy S a _ hS) ?_
 have SY:=cw hS a
 refine aa 9 [] λ _=>RN.em (ae S a >= 0) 15 (λ h3=>?_) λ h3=>?_
 ·refine aa 8 [.own 1] λ _=>al (aB (i64.wrap ((ae S a)+n)) hM (aS 0))<|aa 6 [.own 0,.own 0,.own 0,.own 0] λ _=>RN.ret [.own 0,.own 0,.own 0,.own 0] [] [0] (v:=.tuple #[vI (M.get (i64.wrap ((ae S a)+n))),.agg #[vI 0,vI 0,vI 0,vI 0],.bool false]) (H':=(ap [] [T])) ?_
  refine⟨T,rfl,?_⟩
  refine⟨?_,?_⟩
  ·first|(simp only[if_pos h3];exact hM.weak (by omega))|exact hM.weak (by omega)
  ·first|rfl|(simp only[if_pos h3];done)|(simp only[if_pos h3];rfl)
 ·refine aa 11 [.own 0,.own 0,.own 0,.own 0] λ _=>RN.ret [.own 0,.own 0,.own 0,.own 0] [] [0] (v:=.tuple #[vI 0,.agg #[vI 0,vI 0,vI 0,vI 0],.bool false]) (H':=(ap [] [T])) ?_
  refine⟨T,rfl,?_⟩
  refine⟨?_,?_⟩
  ·first|(simp only[if_neg h3];exact hM.weak (by omega))|exact hM.weak (by omega)
  ·first|rfl|(simp only[if_neg h3];done)|(simp only[if_neg h3];rfl)
theorem OS(mb:Nat)(M:MemS)(k:Nat)(T:HL)(S:Setup)(n a b:Int)(F:HL)(hM:MemH mb M (k+1) T)(hS:SetN S):Sp Tryz.prog 249 #[.iface 41 (vP mb 0),(Setup.v S),.agg #[vI n,vI a,vI b]] (ap [] [T]) F (λ u H'=>∃x,H'=ap [] [x] /\ (MemH mb (if ae S a >= 0 then M.set (aV (ae S a+n)) (jN n b) else M) k x /\ u=.tuple #[vI 0,.agg #[vI 0,vI 0,vI 0,vI 0],.bool false])):=by
 have h1:=hS.pl
 have h2:=hS.nb
 refine Sp.run Tryz.func249 rfl mn (A:=[]) (Ts:=[T]) rfl λ w0=>?_
 refine aa 15 (ow 2 16++[.own 1]) λ n1=>al (cy S a _ hS) ?_
 have SY:=cw hS a
 refine aa 9 [] λ _=>RN.em (ae S a >= 0) 15 (λ h3=>?_) λ h3=>?_
 ·refine aa 1 [] λ _=>RN.draw [13] []<|af [] [0,1,2,5,7,3,6,8,10,4,11,12] [.own 1,.own 1,.own 1]<|au [] 9 (λ X_=>(Bz n b  _))<|RD.one 13 (RDO.ct [] [] [0] (ak (i64.wrap ((ae S a)+n)) (jN n b) hM) ?_)
  rintro _ T4 QW
  refine RD.fin<|aa 9 [.own 0,.own 0,.own 0,.own 0] λ _=>RN.ret [.own 0,.own 0,.own 0,.own 0] [] [0] (v:=.tuple #[vI 0,.agg #[vI 0,vI 0,vI 0,vI 0],.bool false]) (H':=(ap [] [T4])) ?_
  refine⟨T4,rfl,?_⟩
  refine⟨?_,?_⟩
  ·first|(simp only[if_pos h3];exact QW.weak (by omega))|exact QW.weak (by omega)
  ·first|rfl|(simp only[if_pos h3];done)|(simp only[if_pos h3];rfl)
 ·refine aa 11 [.own 0,.own 0,.own 0,.own 0] λ _=>RN.ret [.own 0,.own 0,.own 0,.own 0] [] [0] (v:=.tuple #[vI 0,.agg #[vI 0,vI 0,vI 0,vI 0],.bool false]) (H':=(ap [] [T])) ?_
  refine⟨T,rfl,?_⟩
  refine⟨?_,?_⟩
  ·first|(simp only[if_neg h3];exact hM.weak (by omega))|exact hM.weak (by omega)
  ·first|rfl|(simp only[if_neg h3];done)|(simp only[if_neg h3];rfl)
theorem M2(mb:Nat)(M:MemS)(k:Nat)(T:HL)(S:Setup)(n a b:Int)(F:HL)(hM:MemH mb M (k+1) T)(hS:SetN S):Sp Tryz.prog 251 #[.iface 41 (vP mb 0),(Setup.v S),.agg #[vI n,vI a,vI b]] (ap [] [T]) F (λ u H'=>∃x,H'=ap [] [x] /\ (MemH mb (M.set 6 n) k x /\ u=.tuple #[vI 0,.agg #[vI 0,vI 0,vI 0,vI 0],.bool false])):=by
 have h1:=hS.pl
 have h2:=hS.nb
 refine Sp.run Tryz.func251 rfl mn (A:=[]) (Ts:=[T]) rfl λ w0=>?_
 refine aa 14 [.own 1] λ n1=>RN.ct [] [0] (ak 6 n hM) ?_
 rintro _ T2 P6
 refine aa 10 [.own 0,.own 0,.own 0,.own 0] λ _=>RN.ret [.own 0,.own 0,.own 0,.own 0] [] [0] (v:=.tuple #[vI 0,.agg #[vI 0,vI 0,vI 0,vI 0],.bool false]) (H':=(ap [] [T2])) ?_
 refine⟨T2,rfl,?_⟩
 refine⟨?_,?_⟩
 ·first|(simp only[];exact P6.weak (by omega))|exact P6.weak (by omega)
 ·first|rfl|(simp only[];done)|(simp only[];rfl)
theorem M3(mb:Nat)(M:MemS)(k:Nat)(T:HL)(S:Setup)(n a b:Int)(F:HL)(hM:MemH mb M (k+1) T)(hS:SetN S):Sp Tryz.prog 252 #[.iface 41 (vP mb 0),(Setup.v S),.agg #[vI n,vI a,vI b]] (ap [] [T]) F (λ u H'=>∃x,H'=ap [] [x] /\ (MemH mb (if a=0 then M.set 6 n else M) k x /\ u=.tuple #[vI 0,.agg #[vI 0,vI 0,vI 0,vI 0],.bool false])):=by
 have h1:=hS.pl
 have h2:=hS.nb
 refine Sp.run Tryz.func252 rfl mn (A:=[]) (Ts:=[T]) rfl λ w0=>?_
 refine aa 17 [.own 1] λ n1=>RN.em (a=0) 11 (λ h2=>?_) λ h2=>?_
 ·refine aa 5 [.own 1] λ _=>RN.ct [] [0] (ak 6 n hM) ?_
  rintro _ T3 C_
  refine aa 10 [.own 0,.own 0,.own 0,.own 0] λ _=>RN.ret [.own 0,.own 0,.own 0,.own 0] [] [0] (v:=.tuple #[vI 0,.agg #[vI 0,vI 0,vI 0,vI 0],.bool false]) (H':=(ap [] [T3])) ?_
  refine⟨T3,rfl,?_⟩
  refine⟨?_,?_⟩
  ·first|(simp only[if_pos h2];exact C_.weak (by omega))|exact C_.weak (by omega)
  ·first|rfl|(simp only[if_pos h2];done)|(simp only[if_pos h2];rfl)
 ·refine aa 11 [.own 0,.own 0,.own 0,.own 0] λ _=>RN.ret [.own 0,.own 0,.own 0,.own 0] [] [0] (v:=.tuple #[vI 0,.agg #[vI 0,vI 0,vI 0,vI 0],.bool false]) (H':=(ap [] [T])) ?_
  refine⟨T,rfl,?_⟩
  refine⟨?_,?_⟩
  ·first|(simp only[if_neg h2];exact hM.weak (by omega))|exact hM.weak (by omega)
  ·first|rfl|(simp only[if_neg h2];done)|(simp only[if_neg h2];rfl)
theorem M4(mb:Nat)(M:MemS)(k:Nat)(T:HL)(S:Setup)(n a b:Int)(F:HL)(hM:MemH mb M (k+2) T)(hS:SetN S):Sp Tryz.prog 253 #[.iface 41 (vP mb 0),(Setup.v S),.agg #[vI n,vI a,vI b]] (ap [] [T]) F (λ u H'=>∃x,H'=ap [] [x] /\ (MemH mb ((cN a b M).M) k x /\ u=.tuple #[vI 0,.agg #[vI ((cN a b M).e.t),vI ((cN a b M).e.i),vI ((cN a b M).e.k),vI ((cN a b M).e.v)],.bool ((cN a b M).em)])):=by
 have h1:=hS.pl
 have h2:=hS.nb
 refine Sp.run Tryz.func253 rfl mn (A:=[]) (Ts:=[T]) rfl λ w0=>?_
 refine aa 16 [.own 1,.own 1] λ n1=>RN.ct [] [0] (KU mb M k T a b _ hM) ?_
 rintro _ T2 ⟨P6,rfl⟩
 refine aa 9 [.own 0,.own 0,.own 0,.own 0] λ n4=>RN.draw [3] [0,2,3]<|af [0,2,3] [0,1,2] [.own 0,.own 0,.own 0,.own 0]<|RD.one 3 (RDO.ev [0,2,3] [.own 1,.own 1,.own 1,.own 1] λ _=>?_)
 refine af [0,2,3] [4] []<|RD.fin<|aa 1 [] λ _=>RN.ret [.own 1,.own 1,.own 1,.own 1] [] [0] (v:=.tuple #[vI 0,.agg #[vI ((cN a b M).e.t),vI ((cN a b M).e.i),vI ((cN a b M).e.k),vI ((cN a b M).e.v)],.bool ((cN a b M).em)]) (H':=(ap [] [T2])) ?_
 refine⟨T2,rfl,?_⟩
 refine⟨?_,?_⟩
 ·first|(simp only[];exact P6.weak (by omega))|exact P6.weak (by omega)
 ·first|rfl|(simp only[];done)|(simp only[];rfl)
theorem M5(mb:Nat)(M:MemS)(k:Nat)(T:HL)(S:Setup)(n a b:Int)(F:HL)(hM:MemH mb M (k+0) T)(hS:SetN S):Sp Tryz.prog 255 #[.iface 41 (vP mb 0),(Setup.v S),.agg #[vI n,vI a,vI b]] (ap [] [T]) F (λ u H'=>∃x,H'=ap [] [x] /\ (MemH mb (M) k x /\ u=.tuple #[vI 0,.agg #[vI 0,vI 0,vI 0,vI 0],.bool false])):=by
 have h1:=hS.pl
 have h2:=hS.nb
 refine Sp.run Tryz.func255 rfl mn (A:=[]) (Ts:=[T]) rfl λ w0=>?_
 refine aa 17 [.own 0,.own 0,.own 0,.own 0] λ n1=>RN.ret [.own 0,.own 0,.own 0,.own 0] [] [0] (v:=.tuple #[vI 0,.agg #[vI 0,vI 0,vI 0,vI 0],.bool false]) (H':=(ap [] [T])) ?_
 refine⟨T,rfl,?_⟩
 refine⟨?_,?_⟩
 ·first|(simp only[];exact hM.weak (by omega))|exact hM.weak (by omega)
 ·first|rfl|(simp only[];done)|(simp only[];rfl)
theorem jk(mb:Nat)(M:MemS)(k:Nat)(T:HL)(S:Setup)(op n a b:Int)(F:HL)(hM:MemH mb M (k+2) T)(hS:SetN S)(ho:1 <= op /\ op <= 21):Sp Tryz.prog 201 #[vI op,.iface 41 (vP mb 0),(Setup.v S),.agg #[vI n,vI a,vI b]] (ap [] [T]) F (λ u H'=>∃x,H'=ap [] [x] /\ (MemH mb ((aH S op n a b M).M) k x /\ u=.tuple #[vI ((aH S op n a b M).v),.agg #[vI ((aH S op n a b M).e.t),vI ((aH S op n a b M).e.i),vI ((aH S op n a b M).e.k),vI ((aH S op n a b M).e.v)],.bool ((aH S op n a b M).em)])):=by
 refine Sp.run Tryz.func201 rfl mn (A:=[]) (Ts:=[T]) rfl λ w0=>?_
 refine aa 23 [] λ n1=>RN.em (op=1) 12 (λ h2=>?_) λ h2=>?_
 ·subst h2
  refine aa 5 [] λ _=>RN.draw [8] [1,2]<|af [1,2] [0,2,3,6,4] [.own 1]<|au [1,2] 1 (λ X_=>(MR _))<|au [1,2] 5 (λ X_=>(ld1 mb M _ T n _ hM (bt 0)))<|af [1,2] [7] []<|RD.one 8 (RDO.ev [1,2] [.own 0,.own 0,.own 0,.own 0] λ _=>?_)
  refine af [1,2] [9] []<|RD.fin<|aa 1 [] λ _=>RN.ret [.own 0,.own 0,.own 0,.own 0] [] [0] (v:=.tuple #[vI n,.agg #[vI 0,vI 0,vI 0,vI 0],.bool false]) (H':=(ap [] [T])) ?_
  refine⟨T,rfl,?_⟩
  exact⟨hM.weak (by omega),rfl⟩
 ·refine aa 7 [] λ _=>RN.em (op=2) 12 (λ h3=>?_) λ h3=>?_
  ·subst h3
   refine aa 5 [] λ _=>RN.draw [8] [1,2]<|af [1,2] [0,2,3,6,4] [.own 1]<|au [1,2] 1 (λ X_=>(MS _))<|au [1,2] 5 (λ X_=>(ld2 mb M _ T n _ hM (bt 0)))<|af [1,2] [7] []<|RD.one 8 (RDO.ev [1,2] [.own 0,.own 0,.own 0,.own 0] λ _=>?_)
   refine af [1,2] [9] []<|RD.fin<|aa 1 [] λ _=>RN.ret [.own 0,.own 0,.own 0,.own 0] [] [0] (v:=.tuple #[vI (M.get (aV (32+n))),.agg #[vI 0,vI 0,vI 0,vI 0],.bool false]) (H':=(ap [] [T])) ?_
   refine⟨T,rfl,?_⟩
   exact⟨hM.weak (by omega),rfl⟩
  ·refine aa 7 [] λ _=>RN.em (op=6) 12 (λ h4=>?_) λ h4=>?_
   ·subst h4
    refine aa 5 [] λ _=>RN.draw [8] [1,2]<|af [1,2] [0,2,3,6,4] [.own 1]<|au [1,2] 1 (λ X_=>(MT _))<|au [1,2] 5 (λ X_=>(ld3 mb M _ T n _ hM (bt 0)))<|af [1,2] [7] []<|RD.one 8 (RDO.ev [1,2] [.own 0,.own 0,.own 0,.own 0] λ _=>?_)
    refine af [1,2] [9] []<|RD.fin<|aa 1 [] λ _=>RN.ret [.own 0,.own 0,.own 0,.own 0] [] [0] (v:=.tuple #[vI (M.get 9),.agg #[vI 0,vI 0,vI 0,vI 0],.bool false]) (H':=(ap [] [T])) ?_
    refine⟨T,rfl,?_⟩
    exact⟨hM.weak (by omega),rfl⟩
   ·refine aa 7 [] λ _=>RN.em (op=7) 12 (λ h5=>?_) λ h5=>?_
    ·subst h5
     refine aa 5 [] λ _=>RN.draw [8] [1,2]<|af [1,2] [0,2,3,6,4] [.own 1]<|au [1,2] 1 (λ X_=>(MU _))<|au [1,2] 5 (λ X_=>(ld4 mb M _ T n _ hM (bt 0)))<|af [1,2] [7] []<|RD.one 8 (RDO.ev [1,2] [.own 0,.own 0,.own 0,.own 0] λ _=>?_)
     refine af [1,2] [9] []<|RD.fin<|aa 1 [] λ _=>RN.ret [.own 0,.own 0,.own 0,.own 0] [] [0] (v:=.tuple #[vI (M.get 10),.agg #[vI 0,vI 0,vI 0,vI 0],.bool false]) (H':=(ap [] [T])) ?_
     refine⟨T,rfl,?_⟩
     exact⟨hM.weak (by omega),rfl⟩
    ·refine aa 6 [] λ _=>RN.em (op=8) 12 (λ h6=>?_) λ h6=>?_
     ·subst h6
      refine aa 2 [] λ _=>RN.draw [8] [1,2]<|af [1,2] [0,2,3,6,4] [.own 1]<|au [1,2] 1 (λ X_=>(MW _))<|au [1,2] 5 (λ X_=>(ld5 mb M _ T n _ hM (bt 0)))<|af [1,2] [7] []<|RD.one 8 (RDO.ev [1,2] [.own 0,.own 0,.own 0,.own 0] λ _=>?_)
      refine af [1,2] [9] []<|RD.fin<|aa 1 [] λ _=>RN.ret [.own 0,.own 0,.own 0,.own 0] [] [0] (v:=.tuple #[vI (M.get 0),.agg #[vI 0,vI 0,vI 0,vI 0],.bool false]) (H':=(ap [] [T])) ?_
      refine⟨T,rfl,?_⟩
      exact⟨hM.weak (by omega),rfl⟩
     ·refine aa 8 [] λ _=>RN.em (op=9) 25 (λ h7=>?_) λ h7=>?_
      ·subst h7
       refine aa 5 [] λ _=>RN.draw [9] [1,2]<|af [1,2] [0,2,4,7,3,5] [.own 1,.own 1]<|au [1,2] 1 (λ X_=>(MX _))<|au [1,2] 6 (λ X_=>(OH a b _))<|af [1,2] [8] []<|RD.one 9 (RDO.ev [1,2] [.own 0,.own 0,.own 0,.own 0] λ _=>?_)
       refine af [1,2] [10] []<|RD.fin<|aa 1 [] λ _=>RN.ret [.own 0,.own 0,.own 0,.own 0] [] [0] (v:=.tuple #[vI (kF (aV (a+b))),.agg #[vI 0,vI 0,vI 0,vI 0],.bool false]) (H':=(ap [] [T])) ?_
       refine⟨T,rfl,?_⟩
       exact⟨hM.weak (by omega),rfl⟩
      ·refine aa 7 [] λ _=>RN.em (op=10) 25 (λ h8=>?_) λ h8=>?_
       ·subst h8
        refine aa 5 [] λ _=>RN.draw [9] [1,2]<|af [1,2] [0,2,4,7,3,5] [.own 1,.own 1]<|au [1,2] 1 (λ X_=>(KG _))<|au [1,2] 6 (λ X_=>(OI a b _))<|af [1,2] [8] []<|RD.one 9 (RDO.ev [1,2] [.own 0,.own 0,.own 0,.own 0] λ _=>?_)
        refine af [1,2] [10] []<|RD.fin<|aa 1 [] λ _=>RN.ret [.own 0,.own 0,.own 0,.own 0] [] [0] (v:=.tuple #[vI (kF (aV (a-b))),.agg #[vI 0,vI 0,vI 0,vI 0],.bool false]) (H':=(ap [] [T])) ?_
        refine⟨T,rfl,?_⟩
        exact⟨hM.weak (by omega),rfl⟩
       ·refine aa 7 [] λ _=>RN.em (op=11) 25 (λ h9=>?_) λ h9=>?_
        ·subst h9
         refine aa 5 [] λ _=>RN.draw [9] [1,2]<|af [1,2] [0,2,4,7,3,5] [.own 1,.own 1]<|au [1,2] 1 (λ X_=>(KH _))<|au [1,2] 6 (λ X_=>(OJ a b _))<|af [1,2] [8] []<|RD.one 9 (RDO.ev [1,2] [.own 0,.own 0,.own 0,.own 0] λ _=>?_)
         refine af [1,2] [10] []<|RD.fin<|aa 1 [] λ _=>RN.ret [.own 0,.own 0,.own 0,.own 0] [] [0] (v:=.tuple #[vI (kF (aV (a*b))),.agg #[vI 0,vI 0,vI 0,vI 0],.bool false]) (H':=(ap [] [T])) ?_
         refine⟨T,rfl,?_⟩
         exact⟨hM.weak (by omega),rfl⟩
        ·refine aa 7 [] λ _=>RN.em (op=12) 25 (λ Qe=>?_) λ Qe=>?_
         ·subst Qe
          refine aa 5 [] λ _=>RN.draw [9] [1,2]<|af [1,2] [0,2,4,7,3,5] [.own 1,.own 1]<|au [1,2] 1 (λ X_=>(KJ _))<|au [1,2] 6 (λ X_=>(OL a b _))<|af [1,2] [8] []<|RD.one 9 (RDO.ev [1,2] [.own 0,.own 0,.own 0,.own 0] λ _=>?_)
          refine af [1,2] [10] []<|RD.fin<|aa 1 [] λ _=>RN.ret [.own 0,.own 0,.own 0,.own 0] [] [0] (v:=.tuple #[vI (if b=0 then 0 else kF (aV (a.tdiv b))),.agg #[vI 0,vI 0,vI 0,vI 0],.bool false]) (H':=(ap [] [T])) ?_
          refine⟨T,rfl,?_⟩
          exact⟨hM.weak (by omega),rfl⟩
         ·refine aa 7 [] λ _=>RN.em (op=14) 25 (λ P0=>?_) λ P0=>?_
          ·subst P0
           refine aa 5 [] λ _=>RN.draw [9] [1,2]<|af [1,2] [0,2,4,7,3,5] [.own 1,.own 1]<|au [1,2] 1 (λ X_=>(KL _))<|au [1,2] 6 (λ X_=>(OM a b _))<|af [1,2] [8] []<|RD.one 9 (RDO.ev [1,2] [.own 0,.own 0,.own 0,.own 0] λ _=>?_)
           refine af [1,2] [10] []<|RD.fin<|aa 1 [] λ _=>RN.ret [.own 0,.own 0,.own 0,.own 0] [] [0] (v:=.tuple #[vI (gl (decide (a<b))),.agg #[vI 0,vI 0,vI 0,vI 0],.bool false]) (H':=(ap [] [T])) ?_
           refine⟨T,rfl,?_⟩
           exact⟨hM.weak (by omega),rfl⟩
          ·refine aa 7 [] λ _=>RN.em (op=15) 25 (λ PN=>?_) λ PN=>?_
           ·subst PN
            refine aa 5 [] λ _=>RN.draw [9] [1,2]<|af [1,2] [0,2,4,7,3,5] [.own 1,.own 1]<|au [1,2] 1 (λ X_=>(KM _))<|au [1,2] 6 (λ X_=>(ON a b _))<|af [1,2] [8] []<|RD.one 9 (RDO.ev [1,2] [.own 0,.own 0,.own 0,.own 0] λ _=>?_)
            refine af [1,2] [10] []<|RD.fin<|aa 1 [] λ _=>RN.ret [.own 0,.own 0,.own 0,.own 0] [] [0] (v:=.tuple #[vI (gl (decide (a <= b))),.agg #[vI 0,vI 0,vI 0,vI 0],.bool false]) (H':=(ap [] [T])) ?_
            refine⟨T,rfl,?_⟩
            exact⟨hM.weak (by omega),rfl⟩
           ·refine aa 6 [] λ _=>RN.em (op=16) 25 (λ Qd=>?_) λ Qd=>?_
            ·subst Qd
             refine aa 2 [] λ _=>RN.draw [9] [1,2]<|af [1,2] [0,2,4,7,3,5] [.own 1,.own 1]<|au [1,2] 1 (λ X_=>(KN _))<|au [1,2] 6 (λ X_=>(OO a b _))<|af [1,2] [8] []<|RD.one 9 (RDO.ev [1,2] [.own 0,.own 0,.own 0,.own 0] λ _=>?_)
             refine af [1,2] [10] []<|RD.fin<|aa 1 [] λ _=>RN.ret [.own 0,.own 0,.own 0,.own 0] [] [0] (v:=.tuple #[vI (gl (decide (a=b))),.agg #[vI 0,vI 0,vI 0,vI 0],.bool false]) (H':=(ap [] [T])) ?_
             refine⟨T,rfl,?_⟩
             exact⟨hM.weak (by omega),rfl⟩
            ·refine aa 8 [] λ _=>RN.em (op=13) 41 (λ QD=>?_) λ QD=>?_
             ·subst QD
              refine aa 5 [] λ _=>RN.draw [7] [1,2]<|af [1,2] [0,2,5,3] [.own 1]<|au [1,2] 1 (λ X_=>(KO _))<|au [1,2] 4 (λ X_=>(un1 a _))<|af [1,2] [6] []<|RD.one 7 (RDO.ev [1,2] [.own 0,.own 0,.own 0,.own 0] λ _=>?_)
              refine af [1,2] [8] []<|RD.fin<|aa 1 [] λ _=>RN.ret [.own 0,.own 0,.own 0,.own 0] [] [0] (v:=.tuple #[vI (kF (aV (0-a))),.agg #[vI 0,vI 0,vI 0,vI 0],.bool false]) (H':=(ap [] [T])) ?_
              refine⟨T,rfl,?_⟩
              exact⟨hM.weak (by omega),rfl⟩
             ·refine aa 6 [] λ _=>RN.em (op=17) 41 (λ Ty=>?_) λ Ty=>?_
              ·subst Ty
               refine aa 2 [] λ _=>RN.draw [7] [1,2]<|af [1,2] [0,2,5,3] [.own 1]<|au [1,2] 1 (λ X_=>(KP _))<|au [1,2] 4 (λ X_=>(un2 a _))<|af [1,2] [6] []<|RD.one 7 (RDO.ev [1,2] [.own 0,.own 0,.own 0,.own 0] λ _=>?_)
               refine af [1,2] [8] []<|RD.fin<|aa 1 [] λ _=>RN.ret [.own 0,.own 0,.own 0,.own 0] [] [0] (v:=.tuple #[vI (gl (decide (a=0))),.agg #[vI 0,vI 0,vI 0,vI 0],.bool false]) (H':=(ap [] [T])) ?_
               refine⟨T,rfl,?_⟩
               exact⟨hM.weak (by omega),rfl⟩
              ·refine aa 5 [] λ _=>?_
               have h7:op=3 \/ op=4 \/ op=5 \/ op=18 \/ op=19 \/ op=20 \/ op=21:=by omega
               rcases h7 with rfl|rfl|rfl|rfl|rfl|rfl|rfl
               ·refine RN.draw [5,10] []<|af [] [0,2,3,4] (ow 2 16++[.own 1,.own 1,.own 1])<|au [] 1 (λ X_=>(MY _))<|RD.one 5 (RDO.ct [] [] [0] (OP mb M (k+1) T S n a b _ hM hS) ?_)
                rintro _ Tk ⟨RA,rfl⟩
                refine af [] [6,7,8,9] []<|RD.one 10 (RDO.ev [] [.own 0,.own 0,.own 0,.own 0] λ _=>?_)
                refine af [] [11] []<|RD.fin<|aa 1 [] λ _=>RN.ret [.own 0,.own 0,.own 0,.own 0] [] [0] (v:=.tuple #[vI 0,.agg #[vI 0,vI 0,vI 0,vI 0],.bool false]) (H':=(ap [] [Tk])) ?_
                refine⟨Tk,rfl,?_⟩
                exact⟨RA.weak (by omega),rfl⟩
               ·refine RN.draw [5,10] []<|af [] [0,2,3,4] (ow 2 16++[.own 1,.own 1,.own 1])<|au [] 1 (λ X_=>(MZ _))<|RD.one 5 (RDO.ct [] [] [0] (OQ mb M (k+2) T S n a b _ hM hS) ?_)
                rintro _ WV ⟨Tc,rfl⟩
                refine af [] [6,7,8,9] []<|RD.one 10 (RDO.ev [] [.own 0,.own 0,.own 0,.own 0] λ _=>?_)
                refine af [] [11] []<|RD.fin<|aa 1 [] λ _=>RN.ret [.own 0,.own 0,.own 0,.own 0] [] [0] (v:=.tuple #[vI (if ae S a >= 0 then M.get (aV (ae S a+n)) else 0),.agg #[vI 0,vI 0,vI 0,vI 0],.bool false]) (H':=(ap [] [WV])) ?_
                refine⟨WV,rfl,?_⟩
                exact⟨Tc.weak (by omega),rfl⟩
               ·refine RN.draw [5,10] []<|af [] [0,2,3,4] (ow 2 16++[.own 1,.own 1,.own 1])<|au [] 1 (λ X_=>(M0 _))<|RD.one 5 (RDO.ct [] [] [0] (OS mb M (k+1) T S n a b _ hM hS) ?_)
                rintro _ Sj ⟨Tb,rfl⟩
                refine af [] [6,7,8,9] []<|RD.one 10 (RDO.ev [] [.own 0,.own 0,.own 0,.own 0] λ _=>?_)
                refine af [] [11] []<|RD.fin<|aa 1 [] λ _=>RN.ret [.own 0,.own 0,.own 0,.own 0] [] [0] (v:=.tuple #[vI 0,.agg #[vI 0,vI 0,vI 0,vI 0],.bool false]) (H':=(ap [] [Sj])) ?_
                refine⟨Sj,rfl,?_⟩
                exact⟨Tb.weak (by omega),rfl⟩
               ·refine RN.draw [5,10] []<|af [] [0,2,3,4] (ow 2 16++[.own 1,.own 1,.own 1])<|au [] 1 (λ X_=>(KQ _))<|RD.one 5 (RDO.ct [] [] [0] (M2 mb M (k+1) T S n a b _ hM hS) ?_)
                rintro _ Wq ⟨Ta,rfl⟩
                refine af [] [6,7,8,9] []<|RD.one 10 (RDO.ev [] [.own 0,.own 0,.own 0,.own 0] λ _=>?_)
                refine af [] [11] []<|RD.fin<|aa 1 [] λ _=>RN.ret [.own 0,.own 0,.own 0,.own 0] [] [0] (v:=.tuple #[vI 0,.agg #[vI 0,vI 0,vI 0,vI 0],.bool false]) (H':=(ap [] [Wq])) ?_
                refine⟨Wq,rfl,?_⟩
                exact⟨Ta.weak (by omega),rfl⟩
               ·refine RN.draw [5,10] []<|af [] [0,2,3,4] (ow 2 16++[.own 1,.own 1,.own 1])<|au [] 1 (λ X_=>(KR _))<|RD.one 5 (RDO.ct [] [] [0] (M3 mb M (k+1) T S n a b _ hM hS) ?_)
                rintro _ Va ⟨S9,rfl⟩
                refine af [] [6,7,8,9] []<|RD.one 10 (RDO.ev [] [.own 0,.own 0,.own 0,.own 0] λ _=>?_)
                refine af [] [11] []<|RD.fin<|aa 1 [] λ _=>RN.ret [.own 0,.own 0,.own 0,.own 0] [] [0] (v:=.tuple #[vI 0,.agg #[vI 0,vI 0,vI 0,vI 0],.bool false]) (H':=(ap [] [Va])) ?_
                refine⟨Va,rfl,?_⟩
                exact⟨S9.weak (by omega),rfl⟩
               ·refine RN.draw [5,10] []<|af [] [0,2,3,4] (ow 2 16++[.own 1,.own 1,.own 1])<|au [] 1 (λ X_=>(KS _))<|RD.one 5 (RDO.ct [] [] [0] (M4 mb M k T S n a b _ hM hS) ?_)
                rintro _ T26 ⟨hM27,rfl⟩
                refine af [] [6,7,8,9] []<|RD.one 10 (RDO.ev [] [.own 0,.own 0,.own 0,.own 0] λ _=>?_)
                refine af [] [11] []<|RD.fin<|aa 1 [] λ _=>RN.ret [.own 0,.own 0,.own 0,.own 0] [] [0] (v:=.tuple #[vI 0,.agg #[vI ((cN a b M).e.t),vI ((cN a b M).e.i),vI ((cN a b M).e.k),vI ((cN a b M).e.v)],.bool ((cN a b M).em)]) (H':=(ap [] [T26])) ?_
                refine⟨T26,rfl,?_⟩
                exact⟨hM27.weak (by omega),rfl⟩
               ·refine RN.draw [5,10] []<|af [] [0,2,3,4] (ow 2 16++[.own 1,.own 1,.own 1])<|au [] 1 (λ X_=>(KT _))<|RD.one 5 (RDO.ct [] [] [0] (M5 mb M (k+2) T S n a b _ hM hS) ?_)
                rintro _ Yo ⟨Wd,rfl⟩
                refine af [] [6,7,8,9] []<|RD.one 10 (RDO.ev [] [.own 0,.own 0,.own 0,.own 0] λ _=>?_)
                refine af [] [11] []<|RD.fin<|aa 1 [] λ _=>RN.ret [.own 0,.own 0,.own 0,.own 0] [] [0] (v:=.tuple #[vI 0,.agg #[vI 0,vI 0,vI 0,vI 0],.bool false]) (H':=(ap [] [Yo])) ?_
                refine⟨Yo,rfl,?_⟩
                exact⟨Wd.weak (by omega),rfl⟩
end Go.Proofs.YthoijjeddhfcnaaGreatDoor
