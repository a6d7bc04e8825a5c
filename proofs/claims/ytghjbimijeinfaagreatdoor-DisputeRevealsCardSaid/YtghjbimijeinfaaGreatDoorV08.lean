import Derived.Test.YtghjbimijeinfaaGreatDoorV07
set_option maxHeartbeats 4000000
set_option maxRecDepth 100000
set_option linter.all false
namespace Go.Proofs.YtghjbimijeinfaaGreatDoor
open IntKind
open Go.RowKit
def N8(a b:Int):Int:=u64.wrap ((BitVec.ofInt 64 a ^^^ BitVec.ofInt 64 b).toNat:Int)
def orU(a b:Int):Int:=u64.wrap ((BitVec.ofInt 64 a ||| BitVec.ofInt 64 b).toNat:Int)
def ya(a b:Int):Int:=N8 (u64.wrap (N8 a b*11400714819323198485)) ((u64.wrap (N8 a b*11400714819323198485)).fdiv 4294967296)
def uL(b:ByteArray)(i:Nat):Nat -> Int
 | 0=>0
 | k+1=>orU (uL b i k) (u64.wrap (u64.wrap (Gv b (8*i+k))*2 ^ min (8*(k:Int)).toNat 64))
def wk(b:ByteArray)(i:Nat):Nat:=min 8 (b.size-8*i)
def wn(b:ByteArray):Nat:=(b.size+7) / 8
def ig(b:ByteArray):List Int:=(List.range (wn b)).map λ i=>uL b i (wk b i)
theorem AQ(b:ByteArray):(ig b).length=wn b:=by simp[ig]
theorem sn{b:ByteArray}{i:Nat}(h:8*i<b.size):(ig b)[i]?=some (uL b i (wk b i)):=by
 have:i<wn b:=by unfold wn;omega
 simp[ig,this]
def jU(b:ByteArray):Nat -> Int
 | 0=>0
 | m+1=>ya (jU b m) ((ig b).getD m 0)
def pQ(b:ByteArray)(n:Int):Int:=ya (ya (jU b (ig b).length) (u64.wrap (b.size:Int))) (u64.wrap n)
def GZ(s:Int)(xs:List Int):Nat -> Int
 | 0=>s
 | k+1=>ya (GZ s xs k) (u64.wrap (xs.getD k 0))
def wD(b:ByteArray)(xs:List Int):Int:=ya (GZ (pQ b xs.length) xs xs.length) 0
abbrev Qj(x:Int):Array Value:=#[.int .u64 x]
theorem G1{xs:List Int}{i:Nat}{x:Int}(h:xs[i]?=some x):xs.getD i 0=x:=by rw[aaK,h];rfl
theorem mw(a b:Int)(F:HL):Sp Tryz.prog 180 #[.int .u64 a,.int .u64 b] [] F (λ u H'=>u=.int .u64 (ya a b) /\ H'=[]):=by
 refine aas Tryz.func180 rfl mn (A:=[]) (Ts:=[]) rfl λ w0=>?_;refine ae 23 [] λ _=>?_;exact aap [] [] [] ⟨rfl,rfl⟩
theorem EA(b:ByteArray)(q lp:Nat)(X F:HL)(J:Nat -> HL -> Prop)(Jx:HL -> Prop)(T0:HL)(hb:b.size <= 1000000)(hq:(q,.lit [.string b] 9 (0,0))∈F)(hY:∀i x H Y,(ig b)[i]?=some x -> J i H -> YL Tryz.prog lp (Qj x) H (Y++(X++F)) (λ b H'=>(b=true /\ J (i+1) H') \/ (b=false /\ Jx H')))(Vi:J 0 T0):Sp Tryz.prog 271 #[.func (.yield lp) #[] #[],vP q 0] (ap [] [T0]) (X++F) (λ _ H'=>J (ig b).length H' \/ Jx H'):=by
 refine aas Tryz.func271 rfl (mc (aau _ hq) mn) (A:=[]) (Ts:=[T0]) rfl λ w0=>?_;refine ae 6 [] λ _=>aan (σ:=Nat × HL) (λ ⟨i,T_⟩=>⟨[(0,.func (.yield lp) #[] #[]),(1,vP q 0),(3,vI (8*(i:Int)))],[],[T_],i <= wn b /\ J i T_,wn b-i⟩) (0,T0) [] [0] (⟨aaU _,Vi⟩) ?_;rintro⟨i,T_⟩ ⟨Yu,TF⟩ UP;refine ae 9 [.ro 0] λ _=>aal (8*(i:Int)<((b).size:Int)) 9 (λ h3=>?_) λ h3=>?_
 ·refine ae 17 [] λ _=>aan (σ:=Nat) (λ k=>⟨[(0,.func (.yield lp) #[] #[]),(1,vP q 0),(3,vI (8*(i:Int))),(4,.int .u64 (uL b i k)),(5,vI (k:Int))],[],[T_],k <= 8 /\ 8*i+k <= b.size,8-k⟩) 0 [] [0] (⟨by omega,by omega⟩) ?_;rintro k ⟨hk_,am9⟩ XI;refine ae 6 [] λ _=>aal ((k:Int)<8) 14 (λ h6=>?_) λ h6=>?_
  ·refine ai 9 [.nw,.ro 0] [bm ((8*(i:Int))+(k:Int))] λ _=>aal ((8*(i:Int))+(k:Int)<((b).size:Int)) 21 (λ h7=>?_) λ h7=>?_
   ·refine ai 26 [.ro 0,.nw,.ix (8*i+k),.nw,.dv,.gen,.nw] [bm ((k:Int)+1),0 <= 8*(k:Int),bm (8*(k:Int)),(8*(i:Int))+(k:Int)=(((8*i+k):Nat):Int) /\ (8*i+k)<(b).size,bm ((8*(i:Int))+(k:Int))] λ _=>?_;refine XI (k+1) [] [0] ?_
    try dsimp only
    exact⟨⟨by omega,by omega⟩,by omega⟩
   ·obtain rfl:k=wk b i:=by unfold wk;omega
    refine ae 10 [] λ _=>RN.yield 0 (hY i (uL b i (wk b i)) _ _ (sn (by omega)) TF) ?_;rintro b_ T8 (⟨rfl,XC⟩|⟨rfl,XC⟩)
    ·refine ai 12 [.gen,.nw] [bm ((8*(i:Int))+8)] λ _=>aS 3 (congrArg (λ v_=>(vI v_:Value)) (show (8*(i:Int)+8)=8*((i+1:Nat):Int) by omega)) ?_;refine UP (i+1,T8) [] [0] ?_
     try dsimp only
     exact⟨⟨by unfold wn at *;omega,XC⟩,by unfold wn at *;omega⟩
    ·refine ae 4 [] λ _=>aap [] [] [0] (v:=.tuple #[]) (H':=(ap [] [T8])) ?_;rw[cN];exact .inr XC
  ·obtain rfl:k=wk b i:=by unfold wk;omega
   refine ae 19 [] λ _=>RN.yield 0 (hY i (uL b i (wk b i)) _ _ (sn (by omega)) TF) ?_;rintro b_ Wq (⟨rfl,abo⟩|⟨rfl,abo⟩)
   ·refine ai 12 [.gen,.nw] [bm ((8*(i:Int))+8)] λ _=>aS 3 (congrArg (λ v_=>(vI v_:Value)) (show (8*(i:Int)+8)=8*((i+1:Nat):Int) by omega)) ?_;refine UP (i+1,Wq) [] [0] ?_
    try dsimp only
    exact⟨⟨by unfold wn at *;omega,abo⟩,by unfold wn at *;omega⟩
   ·refine ae 4 [] λ _=>aap [] [] [0] (v:=.tuple #[]) (H':=(ap [] [Wq])) ?_;rw[cN];exact .inr abo
 ·obtain rfl:i=wn b:=by unfold wn at *;omega
  refine ae 5 [] λ _=>aap [] [] [0] (v:=.tuple #[]) (H':=(ap [] [T_])) ?_;rw[cN];exact .inl (by rw[AQ];exact TF)
theorem G2(b:ByteArray)(q:Nat)(F:HL)(hb:b.size <= 1000000)(hq:(q,.lit [.string b] 9 (0,0))∈F):It Tryz.prog 271 #[vP q 0] F Qj (ig b):=by
 intro X l J Jx H0 hY h0;have key:=EA b q l X F J Jx H0 hb hq hY h0;rw[cN] at key;exact key
theorem EB(b:ByteArray)(F:HL):Sp Tryz.prog 242 #[.string b] (ap [] []) F (λ u H'=>∃n:Nat,H'=ap [((n+0),.lit [.string b] 9 (0,0))] [] /\ u=.func (.func 271) #[] #[vP (n+0) 0]):=by
 refine aas Tryz.func242 rfl mn (A:=[]) (Ts:=[]) rfl λ w0=>?_;refine ae 12 [] λ n1=>aap [] [0] [] (v:=.func (.func 271) #[] #[vP (n1+0) 0]) (H':=(ap [((n1+0),.lit [.string b] 9 (0,0))] [])) ?_;exact⟨_,rfl,rfl⟩
theorem so(b:ByteArray)(n:Int)(F:HL)(hb:b.size <= 1000000):Sp Tryz.prog 179 #[.string b,vI n] [] F (λ u H'=>u=.int .u64 (pQ b n) /\ H'=[]):=by
 refine Sp.runM Tryz.func179 rfl mn (A:=[]) (Ts:=[]) rfl λ w0=>?_;refine ae 14 [] λ n1=>aai (Hp:=[]) (Tp:=[]) [] [] (EB b _) ?_;rintro _ m2 rfl;refine ae 3 [] λ _=>RN.range (σ:=Nat) (τ:=Nat × Int) (encs:=λ (x_:Int)=>#[.int .u64 x_]) (xs:=(ig b)) (enters_of Tryz.func271 (by kernel_rfl) rfl) (λ m_=>([((n1+0),.lit [.int .u64 (jU b m_)] 77 (0,0))],[])) (λ i_ m_=>m_=i_) (λ c_ m_=>False) (λ ⟨m_,y_⟩=>⟨[(0,.string b),(1,vI n),(5,vP (n1+0) 0),(6,.int .u64 y_)],[((n1+0),.lit [.int .u64 (jU b m_)] 77 (0,0))],[],True,0⟩) (λ i_ x_ ⟨m_,y_⟩=>m_=i_ /\ y_=x_) 0 rfl [1] [] (G2 b (m2+0) _ hb (au 0)) ?_ ?_ ?_ ?_
 ·rintro l_ i_ x_ m_ Y3 w4 hx5 rfl ZV;refine ae 3 [] λ _=>?_;refine ZV (m_,x_) [0] [] ?_
  try dsimp only
  exact⟨rfl,rfl⟩
 ·rintro l_ i_ x_ ⟨m_,y_⟩ Y7 w8 hx9 ⟨rfl,ey_⟩;refine ae 4 [.own 0] λ _=>aah (mw (jU b m_) y_ _)<|ae 3 [.own 0] λ _=>?_;have e_:jU b (m_+1)=ya (jU b m_) y_:=by rw[jU,ey_,G1 hx9]
  refine ez 0 (congrArg (λ v_=>(.lit [.int .u64 v_] 77 (0,0):Blk)) e_.symm)<|RN.rn (m_+1) [0] [] ?_
  try dsimp only
  first|done|rfl
 ·rintro d10 m_  rfl;refine ae 8 [.own 1] λ _=>aah (mw (jU b (ig b).length) (u64.wrap ((b).size:Int)) _)<|ae 2 [] λ _=>aah (mw (ya (jU b (ig b).length) (u64.wrap ((b).size:Int))) (u64.wrap n) _)<|ae 3 [] λ _=>?_;exact RN.retM [d10] [0] [] [] [] ⟨rfl,rfl⟩
 ·exact λ _ _ _ h=>h.elim
theorem sr(b:ByteArray)(xs:List Int)(q c:Nat)(F:HL)(hb:b.size <= 1000000)(hl:xs.length <= c)(Of:xs.length <= 1000000)(hq:(q,.rows 1 c (aM xs) 3 (0,0))∈F):Sp Tryz.prog 114 #[.string b,vS q 0 xs.length c] [] F (λ u H'=>u=.int .u64 (wD b xs) /\ H'=[]):=by
 refine aas Tryz.func114 rfl (mc hq mn) (A:=[]) (Ts:=[]) rfl λ w0=>?_;refine ae 10 [] λ _=>aah (so b (xs.length:Int) _ (by assumption))<|ae 12 [] λ _=>aan (σ:=Nat) (λ k=>⟨[(5,.int .u64 (GZ (pQ b xs.length) xs k)),(12,vS q 0 xs.length c),(13,vI (xs.length:Int)),(14,vI (k:Int))],[],[],k <= xs.length,xs.length-k⟩) 0 [] [] (aaU _) ?_;rintro k hI1 UP;refine ae 6 [] λ _=>aal ((k:Int)<(xs.length:Int)) 15 (λ h3=>?_) λ h3=>?_
 ·refine ai 16 [.ix k,.rorow 0 k 0] [(0+k*1)=k*1+0 /\ k<c,(k:Int)=((k:Nat):Int) /\ k<xs.length] λ _=>aah (mw (GZ (pQ b xs.length) xs k) (u64.wrap (xs.getD k 0)) _)<|ai 8 [.nw] [bm ((k:Int)+1)] λ _=>?_;refine UP (k+1) [] [] ?_
  try dsimp only
  exact⟨by omega,by omega⟩
 ·obtain rfl:k=xs.length:=by omega
  refine ae 9 [] λ _=>aah (mw (GZ (pQ b xs.length) xs xs.length) 0 _)<|ae 3 [] λ _=>?_;exact aap [] [] [] ⟨rfl,rfl⟩
structure VR where (M:MemS) (v:Int) (e:Eff) (em:Bool)
def oQ:List (Int × Int × Int):=[(0,0,0),(0,1,0),(0,1,16),(1,0,16),(1,1,8),(2,0,8),(0,1,0),(0,1,0),(0,1,0),(2,1,0),(2,1,0),(2,1,0),(2,1,0),(1,1,0),(2,1,0),(2,1,0),(2,1,0),(1,1,0),(0,0,0),(1,0,0),(2,0,0),(0,0,0)]
abbrev eP(op:Int):Int:=(oQ.getD op.toNat (0,0,0)).1
abbrev eQ(op:Int):Int:=(oQ.getD op.toNat (0,0,0)).2.1
abbrev eN(op:Int):Int:=(oQ.getD op.toNat (0,0,0)).2.2
def nN:Nat -> Nat -> Value:=λ i k=>match k with|0=>vI (oQ.getD i (0,0,0)).1|1=>vI (oQ.getD i (0,0,0)).2.1|_=>vI (oQ.getD i (0,0,0)).2.2
def lV(n:Int):Int:=aG n (-2147483647) 2147483647
def gR(b:Bool):Int:=if b=true then 1 else 0
def fw(op n sp:Int):Bool:=if op<1 then false else if op>21 then false else if sp>16 then false else if sp<eP op then false else if aV (aV (sp-eP op)+eQ op)>16 then false else if eN op=0 then true else if n >= 0 then decide (n<eN op) else false
def oS(f v:Int):Int:=if f=0 then aG v (-1048576) 1048576 else if f=1 then aG v (-1048576) 1048576 else if f=2 then aG v (-16384) 16384 else if f=3 then aG v (-16384) 16384 else v
abbrev R6:ByteArray:=⟨#[101,102,102,101,99,116]⟩
def cG(k v:Int)(M:MemS):VR:=if M.get 11 >= 40 then ⟨M,0,bz,false⟩ else ⟨(M.set 12 (aV ((wD R6 [M.get 12,M.get 0,k,v]).fdiv 2))).set 11 (aV (M.get 11+1)),0,⟨M.get 0,M.get 11,k,v⟩,true⟩
def aD(S:Setup)(op n a b:Int)(M:MemS):VR :=
 if op=1 then ⟨M,n,bz,false⟩ else if op=2 then ⟨M,M.get (aV (32+n)),bz,false⟩ else if op=6 then ⟨M,M.get 9,bz,false⟩ else if op=7 then ⟨M,M.get 10,bz,false⟩ else if op=8 then ⟨M,M.get 0,bz,false⟩
 else if op=9 then ⟨M,lV (aV (a+b)),bz,false⟩ else if op=10 then ⟨M,lV (aV (a-b)),bz,false⟩ else if op=11 then ⟨M,lV (aV (a*b)),bz,false⟩ else if op=12 then ⟨M,if b=0 then 0 else lV (aV (a.tdiv b)),bz,false⟩
 else if op=14 then ⟨M,gR (decide (a<b)),bz,false⟩ else if op=15 then ⟨M,gR (decide (a <= b)),bz,false⟩ else if op=16 then ⟨M,gR (decide (a=b)),bz,false⟩
 else if op=13 then ⟨M,lV (aV (0-a)),bz,false⟩ else if op=17 then ⟨M,gR (decide (a=0)),bz,false⟩
 else if op=3 then ⟨M.set (aV (32+n)) a,0,bz,false⟩ else if op=4 then ⟨M,if af S a >= 0 then M.get (aV (af S a+n)) else 0,bz,false⟩ else if op=5 then ⟨if af S a >= 0 then M.set (aV (af S a+n)) (oS n b) else M,0,bz,false⟩
 else if op=18 then ⟨M.set 6 n,0,bz,false⟩ else if op=19 then ⟨if a=0 then M.set 6 n else M,0,bz,false⟩ else if op=20 then ⟨(cG a b M).M,0,(cG a b M).e,(cG a b M).em⟩ else ⟨M,0,bz,false⟩
def dC(op sp:Int)(M:MemS):Int:=if eP op=2 then M.get (aV (aV (16+sp)-eP op)) else if eP op=1 then M.get (aV (aV (16+sp)-eP op)) else 0
def dQ(op sp:Int)(M:MemS):Int:=if eP op=2 then M.get (aV (aV (aV (16+sp)-eP op)+1)) else 0
def dD(op sp pc fuel:Int)(M:MemS):MemS:=if eP op=eQ op then (M.set 8 (aV (fuel-1))).set 6 (aV (pc+1)) else ((M.set 8 (aV (fuel-1))).set 6 (aV (pc+1))).set 7 (aV (aV (sp-eP op)+eQ op))
def bP(S:Setup)(op n sp pc fuel:Int)(M:MemS):VR:=aD S op n (dC op sp M) (dQ op sp M) (dD op sp pc fuel M)
def cr(op sp:Int)(r:VR):VR:=if eQ op>0 then ⟨r.M.set (aV (aV (16+sp)-eP op)) r.v,r.v,r.e,r.em⟩ else r
abbrev aU(code:List Ins)(M:MemS):Ins:=code.getD (M.get 6).toNat dIns
def cY(code:List Ins)(n:Nat)(M:MemS):Prop:=¬ M.get 8<1 /\ ¬ M.get 6<0 /\ ¬ M.get 6 >= (n:Int) /\ fw (aU code M).op (aU code M).n (M.get 7)=true
instance (code:List Ins) (n:Nat) (M:MemS):Decidable (cY code n M):=inferInstanceAs (Decidable (_ /\ _))
def ak(S:Setup)(code:List Ins)(n:Nat)(M:MemS):VR:=if cY code n M then cr (aU code M).op (M.get 7) (bP S (aU code M).op (aU code M).n (M.get 7) (M.get 6) (M.get 8) M) else ⟨M,0,bz,false⟩
def bn(code:List Ins)(n:Nat)(M:MemS):Bool:=if cY code n M then decide ((aU code M).op=21) else true
def aN(e fuel self other:Int)(M:MemS):MemS:=if e<0 then M else ((((M.set 6 e).set 7 0).set 8 fuel).set 9 self).set 10 other
def lW:Enc Ins:=⟨2,λ p k=>match k with|0=>vI p.op|1=>vI p.n|_=>default,dIns⟩
noncomputable def Nj:TypeInfo:=match Tryz.prog.info? 129 with | some i=>i | none=>⟨.bool,"",0,0,false,0,0,none,false,#[]⟩
noncomputable def Nl:Value:=match Nj.zero with|some z=>z|none=>.bool false
theorem G3:EncOk lW Tryz.prog 129 Nj Nl where
 info:=by kernel_rfl
 zero:=by kernel_rfl
 size:=by kernel_rfl
 zsize:=by kernel_rfl
 zcell:=λ k hk=>by
  have h:∀k<2,Nl.cells[k]?=some (lW.cell lW.dflt k):=by intro k hk;(iterate 2 (rcases k with _|k;· kernel_rfl));omega
  exact h k hk
 one:=λ x k=>by unfold lW;dsimp only;split <;> rfl
 bytes:=aaN (by kernel_rfl)
abbrev Qk(l:List Ins):Nat -> Nat -> Value:=bu lW l
inductive CodeIn(F:HL)(code:List Ins):Option Addr -> Nat -> Prop
 | nil (A:Option Addr):CodeIn F code A 0
 | mk (b R n:Nat) (h:(b,.rows 2 R (Qk code) 129 (0,0))∈F) (hn:n <= R) (hn2:n <= 1000000):CodeIn F code (some ⟨b,0,none⟩) n
theorem CodeIn.up{F X:HL}{code:List Ins}{A:Option Addr}{n:Nat}(h:CodeIn F code A n):CodeIn (X++F) code A n:=by
 cases h with
 | nil=>exact .nil _
 | mk b R n h h1 h2=>exact .mk b R n (aau _ h) h1 h2
abbrev dp(F:HL):Prop:=(1,.rows 3 22 nN 323 (0,0))∈F
theorem oU(n:Int)  (F:HL):Sp Tryz.prog 284 #[vI n] [] F (λ u H'=>u=vI (lV n) /\ H'=[]):=by
 refine aas Tryz.func284 rfl mn (A:=[]) (Ts:=[]) rfl λ w0=>?_;refine ae 8 [] λ _=>aah (cJ n (-2147483647) 2147483647  _)<|ae 3 [] λ _=>?_;exact aap [] [] [] ⟨rfl,rfl⟩
theorem my(b:Bool)(F:HL):Sp Tryz.prog 289 #[.bool b] [] F (λ u H'=>u=vI (gR b) /\ H'=[]):=by
 refine aas Tryz.func289 rfl mn (A:=[]) (Ts:=[]) rfl λ w0=>?_;refine ae 11 [] λ _=>iw (b) 3 (λ h1=>?_) λ h1=>?_
 ·refine ae 6 [] λ _=>aap [] [] [] (v:=vI 1) (H':=[]) ?_;refine⟨?_,rfl⟩
  first|(simp only[gR,if_pos h1];try rfl;done)|rfl
 ·refine ae 8 [] λ _=>aap [] [] [] (v:=vI 0) (H':=[]) ?_;refine⟨?_,rfl⟩
  first|(simp only[gR,if_neg h1];try rfl;done)|rfl
theorem EC(f:Int)(v:Int)  (F:HL):Sp Tryz.prog 297 #[vI f,vI v] [] F (λ u H'=>u=vI (oS f v) /\ H'=[]):=by
 refine aas Tryz.func297 rfl mn (A:=[]) (Ts:=[]) rfl λ w0=>?_;refine ae 19 [] λ _=>aal (f=0) 6 (λ h1=>?_) λ h1=>?_
 ·refine ae 7 [] λ _=>aah (cJ v (-1048576) 1048576  _)<|ae 3 [] λ _=>aap [] [] [] (v:=vI (aG v (-1048576) 1048576)) (H':=[]) ?_;refine⟨?_,rfl⟩
  first|(simp only[oS,if_pos h1];try rfl;done)|rfl
 ·refine ae 6 [] λ _=>aal (f=1) 6 (λ h2=>?_) λ h2=>?_
  ·refine ae 4 [] λ _=>aah (cJ v (-1048576) 1048576  _)<|ae 3 [] λ _=>aap [] [] [] (v:=vI (aG v (-1048576) 1048576)) (H':=[]) ?_;refine⟨?_,rfl⟩
   first|(simp only[oS,if_neg h1,if_pos h2];try rfl;done)|rfl
  ·refine ae 8 [] λ _=>aal (f=2) 11 (λ h3=>?_) λ h3=>?_
   ·refine ae 7 [] λ _=>aah (cJ v (-16384) 16384  _)<|ae 3 [] λ _=>aap [] [] [] (v:=vI (aG v (-16384) 16384)) (H':=[]) ?_;refine⟨?_,rfl⟩
    first|(simp only[oS,if_neg h1,if_neg h2,if_pos h3];try rfl;done)|rfl
   ·refine ae 6 [] λ _=>aal (f=3) 11 (λ h4=>?_) λ h4=>?_
    ·refine ae 4 [] λ _=>aah (cJ v (-16384) 16384  _)<|ae 3 [] λ _=>aap [] [] [] (v:=vI (aG v (-16384) 16384)) (H':=[]) ?_;refine⟨?_,rfl⟩
     first|(simp only[oS,if_neg h1,if_neg h2,if_neg h3,if_pos h4];try rfl;done)|rfl
    ·refine ae 10 [] λ _=>aap [] [] [] (v:=vI v) (H':=[]) ?_;refine⟨?_,rfl⟩
     first|(simp only[oS,if_neg h1,if_neg h2,if_neg h3,if_neg h4];try rfl;done)|rfl
theorem K4(op n sp:Int)(F:HL)(hE:dp F):Sp Tryz.prog 200 #[.agg #[vI op,vI n],vI sp] [] F (λ u H'=>u=.bool (fw op n sp) /\ H'=[]):=by
 refine aas Tryz.func200 rfl (mc hE mn) (A:=[]) (Ts:=[]) rfl λ w0=>?_;refine ae 13 [.own 0] λ n1=>aal (op<1) 9 (λ h2=>?_) λ h2=>?_
 ·refine ae 16 [] λ _=>aap [] [] [] (v:=.bool false) (H':=[]) ?_;refine⟨?_,rfl⟩
  first|(simp only[fw,if_pos h2];try rfl;done)|rfl
 ·refine ae 5 [.own 0] λ _=>aal (op>21) 14 (λ h3=>?_) λ h3=>?_
  ·refine ae 11 [] λ _=>aap [] [] [] (v:=.bool false) (H':=[]) ?_;refine⟨?_,rfl⟩
   first|(simp only[fw,if_neg h2,if_pos h3];try rfl;done)|rfl
  ·refine ae 5 [] λ _=>aal (sp>16) 17 (λ h4=>?_) λ h4=>?_
   ·refine ae 6 [] λ _=>aap [] [] [] (v:=.bool false) (H':=[]) ?_;refine⟨?_,rfl⟩
    first|(simp only[fw,if_neg h2,if_neg h3,if_pos h4];try rfl;done)|rfl
   ·refine ai 21 [.own 0,.ix ((op).toNat),.rorow 0 ((op).toNat) 0,.rorow 0 ((op).toNat) 1,.rorow 0 ((op).toNat) 2,.own 0,.own 0,.own 0,.own 0] [((0+((op).toNat)*3)+2)=((op).toNat)*3+2 /\ ((op).toNat)<22,((0+((op).toNat)*3)+1)=((op).toNat)*3+1 /\ ((op).toNat)<22,(0+((op).toNat)*3)=((op).toNat)*3+0 /\ ((op).toNat)<22,op=(((op).toNat:Nat):Int) /\ (op).toNat<22] λ n5=>aal (sp<eP op) 26 (λ h6=>?_) λ h6=>?_
    ·refine ae 17 [] λ _=>aap [] [] [] (v:=.bool false) (H':=[]) ?_;refine⟨?_,rfl⟩
     first|(simp only[fw,if_neg h2,if_neg h3,if_neg h4,if_pos h6];try rfl;done)|rfl
    ·refine ae 11 (aab 2) λ _=>aal (i64.wrap ((i64.wrap (sp-(eP op)))+(eQ op))>16) 35 (λ h7=>?_) λ h7=>?_
     ·refine ae 6 [] λ _=>aap [] [] [] (v:=.bool false) (H':=[]) ?_;refine⟨?_,rfl⟩
      first|(simp only[fw,if_neg h2,if_neg h3,if_neg h4,if_neg h6,if_pos h7];try rfl;done)|rfl
     ·refine ae 9 [.own 0] λ _=>aal (eN op=0) 39 (λ h8=>?_) λ h8=>?_
      ·refine ae 14 [] λ _=>aap [] [] [] (v:=.bool true) (H':=[]) ?_;refine⟨?_,rfl⟩
       first|(simp only[fw,if_neg h2,if_neg h3,if_neg h4,if_neg h6,if_neg h7,if_pos h8];try rfl;done)|rfl
      ·refine ae 4 [.own 1] λ _=>aal (n >= 0) 43 (λ h9=>?_) λ h9=>?_
       ·refine ae 10 [.own 1,.own 0] λ _=>aap [] [] [] (v:=.bool (decide (n<eN op))) (H':=[]) ?_;refine⟨?_,rfl⟩
        first|(simp only[fw,if_neg h2,if_neg h3,if_neg h4,if_neg h6,if_neg h7,if_neg h8,if_pos h9];try rfl;done)|rfl
       ·refine ae 10 [] λ _=>aap [] [] [] (v:=.bool false) (H':=[]) ?_;refine⟨?_,rfl⟩
        first|(simp only[fw,if_neg h2,if_neg h3,if_neg h4,if_neg h6,if_neg h7,if_neg h8,if_neg h9];try rfl;done)|rfl
theorem ld1(mb:Nat)(M:MemS)(k:Nat)(T:HL)(n:Int)(F:HL)(hM:MemH mb M k T)(hs:∀x∈T,x∈F):Sp Tryz.prog 278 #[.iface 40 (vP mb 0),vI n] [] F (λ u H'=>u=vI (n) /\ H'=[]):=by
 refine aas Tryz.func278 rfl mn (A:=[]) (Ts:=[]) rfl λ w0=>?_;refine ae 11 [] λ _=>?_;exact aap [] [] [] ⟨rfl,rfl⟩
theorem ld2(mb:Nat)(M:MemS)(k:Nat)(T:HL)(n:Int)(F:HL)(hM:MemH mb M k T)(hs:∀x∈T,x∈F):Sp Tryz.prog 279 #[.iface 40 (vP mb 0),vI n] [] F (λ u H'=>u=vI (M.get (aV (32+n))) /\ H'=[]):=by
 refine aas Tryz.func279 rfl mn (A:=[]) (Ts:=[]) rfl λ w0=>?_;refine ae 10 [] λ _=>aah (ar (i64.wrap (32+n)) hM λ x hx=>aq (hs x hx))<|ae 3 [] λ _=>?_;exact aap [] [] [] ⟨rfl,rfl⟩
theorem ld3(mb:Nat)(M:MemS)(k:Nat)(T:HL)(n:Int)(F:HL)(hM:MemH mb M k T)(hs:∀x∈T,x∈F):Sp Tryz.prog 280 #[.iface 40 (vP mb 0),vI n] [] F (λ u H'=>u=vI (M.get 9) /\ H'=[]):=by
 refine aas Tryz.func280 rfl mn (A:=[]) (Ts:=[]) rfl λ w0=>?_;refine ae 8 [] λ _=>aah (ar 9 hM λ x hx=>aq (hs x hx))<|ae 3 [] λ _=>?_;exact aap [] [] [] ⟨rfl,rfl⟩
theorem ld4(mb:Nat)(M:MemS)(k:Nat)(T:HL)(n:Int)(F:HL)(hM:MemH mb M k T)(hs:∀x∈T,x∈F):Sp Tryz.prog 281 #[.iface 40 (vP mb 0),vI n] [] F (λ u H'=>u=vI (M.get 10) /\ H'=[]):=by
 refine aas Tryz.func281 rfl mn (A:=[]) (Ts:=[]) rfl λ w0=>?_;refine ae 8 [] λ _=>aah (ar 10 hM λ x hx=>aq (hs x hx))<|ae 3 [] λ _=>?_;exact aap [] [] [] ⟨rfl,rfl⟩
theorem ld5(mb:Nat)(M:MemS)(k:Nat)(T:HL)(n:Int)(F:HL)(hM:MemH mb M k T)(hs:∀x∈T,x∈F):Sp Tryz.prog 282 #[.iface 40 (vP mb 0),vI n] [] F (λ u H'=>u=vI (M.get 0) /\ H'=[]):=by
 refine aas Tryz.func282 rfl mn (A:=[]) (Ts:=[]) rfl λ w0=>?_;refine ae 8 [] λ _=>aah (ar 0 hM λ x hx=>aq (hs x hx))<|ae 3 [] λ _=>?_;exact aap [] [] [] ⟨rfl,rfl⟩
theorem R7(a b:Int)(F:HL):Sp Tryz.prog 283 #[vI a,vI b] [] F (λ u H'=>u=vI (lV (aV (a+b))) /\ H'=[]):=by
 refine aas Tryz.func283 rfl mn (A:=[]) (Ts:=[]) rfl λ w0=>?_;refine ae 10 [] λ _=>aah (oU (i64.wrap (a+b))  _)<|ae 3 [] λ _=>?_;exact aap [] [] [] ⟨rfl,rfl⟩
theorem R8(a b:Int)(F:HL):Sp Tryz.prog 285 #[vI a,vI b] [] F (λ u H'=>u=vI (lV (aV (a-b))) /\ H'=[]):=by
 refine aas Tryz.func285 rfl mn (A:=[]) (Ts:=[]) rfl λ w0=>?_;refine ae 10 [] λ _=>aah (oU (i64.wrap (a-b))  _)<|ae 3 [] λ _=>?_;exact aap [] [] [] ⟨rfl,rfl⟩
theorem R9(a b:Int)(F:HL):Sp Tryz.prog 286 #[vI a,vI b] [] F (λ u H'=>u=vI (lV (aV (a*b))) /\ H'=[]):=by
 refine aas Tryz.func286 rfl mn (A:=[]) (Ts:=[]) rfl λ w0=>?_;refine ae 10 [] λ _=>aah (oU (i64.wrap (a*b))  _)<|ae 3 [] λ _=>?_;exact aap [] [] [] ⟨rfl,rfl⟩
theorem Sa(a b:Int)(F:HL):Sp Tryz.prog 287 #[vI a,vI b] [] F (λ u H'=>u=vI (if b=0 then 0 else lV (aV (a.tdiv b))) /\ H'=[]):=by
 refine aas Tryz.func287 rfl mn (A:=[]) (Ts:=[]) rfl λ w0=>?_;refine ae 12 [] λ _=>aal (b=0) 6 (λ h1=>?_) λ h1=>?_
 ·refine ae 6 [] λ _=>aap [] [] [] (v:=vI 0) (H':=[]) ?_;exact⟨by simp[*],rfl⟩
 ·refine ai 8 [.dv] [b≠0] λ _=>aah (oU (i64.wrap (a.tdiv b))  _)<|ae 3 [] λ _=>aap [] [] [] (v:=vI (lV (i64.wrap (a.tdiv b)))) (H':=[]) ?_;exact⟨by simp[*],rfl⟩
theorem Sb(a b:Int)(F:HL):Sp Tryz.prog 288 #[vI a,vI b] [] F (λ u H'=>u=vI (gR (decide (a<b))) /\ H'=[]):=by
 refine aas Tryz.func288 rfl mn (A:=[]) (Ts:=[]) rfl λ w0=>?_;refine ae 10 [] λ _=>aah (my (decide (a<b)) _)<|ae 3 [] λ _=>?_;exact aap [] [] [] ⟨rfl,rfl⟩
theorem Sc(a b:Int)(F:HL):Sp Tryz.prog 290 #[vI a,vI b] [] F (λ u H'=>u=vI (gR (decide (a <= b))) /\ H'=[]):=by
 refine aas Tryz.func290 rfl mn (A:=[]) (Ts:=[]) rfl λ w0=>?_;refine ae 10 [] λ _=>aah (my (decide (a <= b)) _)<|ae 3 [] λ _=>?_;exact aap [] [] [] ⟨rfl,rfl⟩
theorem Sd(a b:Int)(F:HL):Sp Tryz.prog 291 #[vI a,vI b] [] F (λ u H'=>u=vI (gR (decide (a=b))) /\ H'=[]):=by
 refine aas Tryz.func291 rfl mn (A:=[]) (Ts:=[]) rfl λ w0=>?_;refine ae 10 [] λ _=>aah (my (decide (a=b)) _)<|ae 3 [] λ _=>?_;exact aap [] [] [] ⟨rfl,rfl⟩
theorem un1(a:Int)(F:HL):Sp Tryz.prog 292 #[vI a] [] F (λ u H'=>u=vI (lV (aV (0-a))) /\ H'=[]):=by
 refine aas Tryz.func292 rfl mn (A:=[]) (Ts:=[]) rfl λ w0=>?_;refine ae 9 [] λ _=>aah (oU (i64.wrap (0-a))  _)<|ae 3 [] λ _=>?_;exact aap [] [] [] ⟨rfl,rfl⟩
theorem un2(a:Int)(F:HL):Sp Tryz.prog 293 #[vI a] [] F (λ u H'=>u=vI (gR (decide (a=0))) /\ H'=[]):=by
 refine aas Tryz.func293 rfl mn (A:=[]) (Ts:=[]) rfl λ w0=>?_;refine ae 9 [] λ _=>aah (my (decide (a=0)) _)<|ae 3 [] λ _=>?_;exact aap [] [] [] ⟨rfl,rfl⟩
theorem Ql(F:HL):Sp Tryz.prog 249 #[vI 1] [] F (λ u H'=>u=.func (.func 278) #[] #[] /\ H'=[]):=by
 refine aas Tryz.func249 rfl mn (A:=[]) (Ts:=[]) rfl λ w0=>?_;refine ae 19 (ow 0 11) λ n1=>?_;exact aap [] [] [] ⟨rfl,rfl⟩
theorem Qm(F:HL):Sp Tryz.prog 249 #[vI 2] [] F (λ u H'=>u=.func (.func 279) #[] #[] /\ H'=[]):=by
 refine aas Tryz.func249 rfl mn (A:=[]) (Ts:=[]) rfl λ w0=>?_;refine ae 19 (ow 0 11) λ n1=>?_;exact aap [] [] [] ⟨rfl,rfl⟩
theorem Qn(F:HL):Sp Tryz.prog 249 #[vI 6] [] F (λ u H'=>u=.func (.func 280) #[] #[] /\ H'=[]):=by
 refine aas Tryz.func249 rfl mn (A:=[]) (Ts:=[]) rfl λ w0=>?_;refine ae 19 (ow 0 11) λ n1=>?_;exact aap [] [] [] ⟨rfl,rfl⟩
theorem Qo(F:HL):Sp Tryz.prog 249 #[vI 7] [] F (λ u H'=>u=.func (.func 281) #[] #[] /\ H'=[]):=by
 refine aas Tryz.func249 rfl mn (A:=[]) (Ts:=[]) rfl λ w0=>?_;refine ae 19 (ow 0 11) λ n1=>?_;exact aap [] [] [] ⟨rfl,rfl⟩
theorem Qp(F:HL):Sp Tryz.prog 249 #[vI 8] [] F (λ u H'=>u=.func (.func 282) #[] #[] /\ H'=[]):=by
 refine aas Tryz.func249 rfl mn (A:=[]) (Ts:=[]) rfl λ w0=>?_;refine ae 19 (ow 0 11) λ n1=>?_;exact aap [] [] [] ⟨rfl,rfl⟩
theorem Qq(F:HL):Sp Tryz.prog 250 #[vI 9] [] F (λ u H'=>u=.func (.func 283) #[] #[] /\ H'=[]):=by
 refine aas Tryz.func250 rfl mn (A:=[]) (Ts:=[]) rfl λ w0=>?_;refine ae 21 (ow 0 15) λ n1=>?_;exact aap [] [] [] ⟨rfl,rfl⟩
theorem N9(F:HL):Sp Tryz.prog 250 #[vI 10] [] F (λ u H'=>u=.func (.func 285) #[] #[] /\ H'=[]):=by
 refine aas Tryz.func250 rfl mn (A:=[]) (Ts:=[]) rfl λ w0=>?_;refine ae 21 (ow 0 15) λ n1=>?_;exact aap [] [] [] ⟨rfl,rfl⟩
theorem Oa(F:HL):Sp Tryz.prog 250 #[vI 11] [] F (λ u H'=>u=.func (.func 286) #[] #[] /\ H'=[]):=by
 refine aas Tryz.func250 rfl mn (A:=[]) (Ts:=[]) rfl λ w0=>?_;refine ae 21 (ow 0 15) λ n1=>?_;exact aap [] [] [] ⟨rfl,rfl⟩
theorem Oc(F:HL):Sp Tryz.prog 250 #[vI 12] [] F (λ u H'=>u=.func (.func 287) #[] #[] /\ H'=[]):=by
 refine aas Tryz.func250 rfl mn (A:=[]) (Ts:=[]) rfl λ w0=>?_;refine ae 21 (ow 0 15) λ n1=>?_;exact aap [] [] [] ⟨rfl,rfl⟩
theorem Od(F:HL):Sp Tryz.prog 250 #[vI 14] [] F (λ u H'=>u=.func (.func 288) #[] #[] /\ H'=[]):=by
 refine aas Tryz.func250 rfl mn (A:=[]) (Ts:=[]) rfl λ w0=>?_;refine ae 21 (ow 0 15) λ n1=>?_;exact aap [] [] [] ⟨rfl,rfl⟩
theorem Oe(F:HL):Sp Tryz.prog 250 #[vI 15] [] F (λ u H'=>u=.func (.func 290) #[] #[] /\ H'=[]):=by
 refine aas Tryz.func250 rfl mn (A:=[]) (Ts:=[]) rfl λ w0=>?_;refine ae 21 (ow 0 15) λ n1=>?_;exact aap [] [] [] ⟨rfl,rfl⟩
theorem Og(F:HL):Sp Tryz.prog 250 #[vI 16] [] F (λ u H'=>u=.func (.func 291) #[] #[] /\ H'=[]):=by
 refine aas Tryz.func250 rfl mn (A:=[]) (Ts:=[]) rfl λ w0=>?_;refine ae 21 (ow 0 15) λ n1=>?_;exact aap [] [] [] ⟨rfl,rfl⟩
theorem Oh(F:HL):Sp Tryz.prog 251 #[vI 13] [] F (λ u H'=>u=.func (.func 292) #[] #[] /\ H'=[]):=by
 refine aas Tryz.func251 rfl mn (A:=[]) (Ts:=[]) rfl λ w0=>?_;refine ae 16 (ow 0 5) λ n1=>?_;exact aap [] [] [] ⟨rfl,rfl⟩
theorem Oi(F:HL):Sp Tryz.prog 251 #[vI 17] [] F (λ u H'=>u=.func (.func 293) #[] #[] /\ H'=[]):=by
 refine aas Tryz.func251 rfl mn (A:=[]) (Ts:=[]) rfl λ w0=>?_;refine ae 16 (ow 0 5) λ n1=>?_;exact aap [] [] [] ⟨rfl,rfl⟩
theorem Qr(F:HL):Sp Tryz.prog 252 #[vI 3] [] F (λ u H'=>u=.func (.func 294) #[] #[] /\ H'=[]):=by
 refine aas Tryz.func252 rfl mn (A:=[]) (Ts:=[]) rfl λ w0=>?_;refine ae 21 (ow 0 15) λ n1=>?_;exact aap [] [] [] ⟨rfl,rfl⟩
theorem Qs(F:HL):Sp Tryz.prog 252 #[vI 4] [] F (λ u H'=>u=.func (.func 295) #[] #[] /\ H'=[]):=by
 refine aas Tryz.func252 rfl mn (A:=[]) (Ts:=[]) rfl λ w0=>?_;refine ae 21 (ow 0 15) λ n1=>?_;exact aap [] [] [] ⟨rfl,rfl⟩
theorem Qt(F:HL):Sp Tryz.prog 252 #[vI 5] [] F (λ u H'=>u=.func (.func 296) #[] #[] /\ H'=[]):=by
 refine aas Tryz.func252 rfl mn (A:=[]) (Ts:=[]) rfl λ w0=>?_;refine ae 21 (ow 0 15) λ n1=>?_;exact aap [] [] [] ⟨rfl,rfl⟩
theorem Oj(F:HL):Sp Tryz.prog 252 #[vI 18] [] F (λ u H'=>u=.func (.func 298) #[] #[] /\ H'=[]):=by
 refine aas Tryz.func252 rfl mn (A:=[]) (Ts:=[]) rfl λ w0=>?_;refine ae 21 (ow 0 15) λ n1=>?_;exact aap [] [] [] ⟨rfl,rfl⟩
theorem Ok(F:HL):Sp Tryz.prog 252 #[vI 19] [] F (λ u H'=>u=.func (.func 299) #[] #[] /\ H'=[]):=by
 refine aas Tryz.func252 rfl mn (A:=[]) (Ts:=[]) rfl λ w0=>?_;refine ae 21 (ow 0 15) λ n1=>?_;exact aap [] [] [] ⟨rfl,rfl⟩
theorem Ol(F:HL):Sp Tryz.prog 252 #[vI 20] [] F (λ u H'=>u=.func (.func 300) #[] #[] /\ H'=[]):=by
 refine aas Tryz.func252 rfl mn (A:=[]) (Ts:=[]) rfl λ w0=>?_;refine ae 21 (ow 0 15) λ n1=>?_;exact aap [] [] [] ⟨rfl,rfl⟩
theorem Om(F:HL):Sp Tryz.prog 252 #[vI 21] [] F (λ u H'=>u=.func (.func 302) #[] #[] /\ H'=[]):=by
 refine aas Tryz.func252 rfl mn (A:=[]) (Ts:=[]) rfl λ w0=>?_;refine ae 21 (ow 0 15) λ n1=>?_;exact aap [] [] [] ⟨rfl,rfl⟩
theorem On(mb:Nat)(M:MemS)(k:Nat)(T:HL)(kd v:Int)(F:HL)(hM:MemH mb M (k+2) T) :Sp Tryz.prog 301 #[.iface 40 (vP mb 0),vI kd,vI v] (ap [] [T]) F (λ u H'=>∃x,H'=ap [] [x] /\ (MemH mb ((cG kd v M).M) k x /\ u=.tuple #[.agg (aaa (cG kd v M).e).toArray,.bool ((cG kd v M).em)])):=by
 refine aas Tryz.func301 rfl mn (A:=[]) (Ts:=[T]) rfl λ w0=>?_;refine ae 9 [] λ n1=>aah (ar 11 hM (ay 0))<|ae 10 [] λ _=>aal (M.get 11 >= 40) 14 (λ h2=>?_) λ h2=>?_
 ·refine ae 8 (aab 4) λ _=>aap (aab 4) [] [0] (v:=.tuple #[.agg #[vI 0,vI 0,vI 0,vI 0],.bool false]) (H':=(ap [] [T])) ?_;refine⟨T,rfl,?_⟩;refine⟨?_,?_⟩
  ·simp only[cG,if_pos h2];exact hM.weak (by omega)
  ·simp only[cG,if_pos h2]
 ·refine ae 6 [] λ _=>aah (ar 0 hM (ay 0))<|ae 6 [] λ _=>aah (ar 12 hM (ay 0))<|ae 4 [] λ n3=>aaj 0 (.rows 1 4 (aM [M.get 12,M.get 0,kd,v]) 3 (0,0))<|aah (sr (⟨#[101,102,102,101,99,116]⟩) ([M.get 12,M.get 0,kd,v]) (n3+0) 4 _ (by decide) (aaN rfl) (aaN rfl) (au 0))<|ae 9 [] λ _=>aai [] [0] (aj 12 (i64.wrap ((wD (⟨#[101,102,102,101,99,116]⟩) ([M.get 12,M.get 0,kd,v])).fdiv 2)) hM) ?_;rintro _ T4 UW;refine ae 7 [] λ _=>aai [] [0] (aj 11 (i64.wrap ((M.get 11)+1)) UW) ?_;rintro _ T6 YG;refine ae 13 [.own 1,.own 1,.own 1,.own 1] λ _=>aap [.own 1,.own 1,.own 1,.own 1] [] [0] (v:=.tuple #[.agg #[vI (M.get 0),vI (M.get 11),vI kd,vI v],.bool true]) (H':=(ap [] [T6])) ?_;refine⟨T6,rfl,?_⟩;refine⟨?_,?_⟩
  ·simp only[cG,if_neg h2];exact YG.weak (by omega)
  ·simp only[cG,if_neg h2]
theorem Se(mb:Nat)(M:MemS)(k:Nat)(T:HL)(S:Setup)(n a b:Int)(F:HL)(hM:MemH mb M (k+1) T)(hS:SetN S):Sp Tryz.prog 294 #[.iface 40 (vP mb 0),(Setup.v S),.agg #[vI n,vI a,vI b]] (ap [] [T]) F (λ u H'=>∃x,H'=ap [] [x] /\ (MemH mb (M.set (aV (32+n)) a) k x /\ u=.tuple #[vI 0,.agg #[vI 0,vI 0,vI 0,vI 0],.bool false])):=by
 have h1:=hS.pl;have h2:=hS.nb;refine aas Tryz.func294 rfl mn (A:=[]) (Ts:=[T]) rfl λ w0=>?_;refine ae 17 [.own 1,.own 1] λ n1=>aai [] [0] (aj (i64.wrap (32+n)) a hM) ?_;rintro _ T2 Us;refine ae 10 (aab 4) λ _=>aap (aab 4) [] [0] (v:=.tuple #[vI 0,.agg #[vI 0,vI 0,vI 0,vI 0],.bool false]) (H':=(ap [] [T2])) ?_;refine⟨T2,rfl,?_⟩;refine⟨?_,?_⟩
 ·first|(simp only[];exact Us.weak (by omega))|exact Us.weak (by omega)
 ·first|rfl|(simp only[];done)|(simp only[];rfl)
theorem Sf(mb:Nat)(M:MemS)(k:Nat)(T:HL)(S:Setup)(n a b:Int)(F:HL)(hM:MemH mb M (k+0) T)(hS:SetN S):Sp Tryz.prog 295 #[.iface 40 (vP mb 0),(Setup.v S),.agg #[vI n,vI a,vI b]] (ap [] [T]) F (λ u H'=>∃x,H'=ap [] [x] /\ (MemH mb (M) k x /\ u=.tuple #[vI (if af S a >= 0 then M.get (aV (af S a+n)) else 0),.agg #[vI 0,vI 0,vI 0,vI 0],.bool false])):=by
 have h1:=hS.pl;have h2:=hS.nb;refine aas Tryz.func295 rfl mn (A:=[]) (Ts:=[T]) rfl λ w0=>?_;refine ae 15 (ow 2 16++[.own 1]) λ n1=>aah (cL S a _ hS) ?_;have VF:=cK hS a;refine ae 9 [] λ _=>aal (af S a >= 0) 15 (λ h3=>?_) λ h3=>?_
 ·refine ae 8 [.own 1] λ _=>aah (ar (i64.wrap ((af S a)+n)) hM (ay 0))<|ae 6 (aab 4) λ _=>aap (aab 4) [] [0] (v:=.tuple #[vI (M.get (i64.wrap ((af S a)+n))),.agg #[vI 0,vI 0,vI 0,vI 0],.bool false]) (H':=(ap [] [T])) ?_;refine⟨T,rfl,?_⟩;refine⟨?_,?_⟩
  ·first|(simp only[if_pos h3];exact hM.weak (by omega))|exact hM.weak (by omega)
  ·first|rfl|(simp only[if_pos h3];done)|(simp only[if_pos h3];rfl)
 ·refine ae 11 (aab 4) λ _=>aap (aab 4) [] [0] (v:=.tuple #[vI 0,.agg #[vI 0,vI 0,vI 0,vI 0],.bool false]) (H':=(ap [] [T])) ?_;refine⟨T,rfl,?_⟩;refine⟨?_,?_⟩
  ·first|(simp only[if_neg h3];exact hM.weak (by omega))|exact hM.weak (by omega)
  ·first|rfl|(simp only[if_neg h3];done)|(simp only[if_neg h3];rfl)
theorem Sg(mb:Nat)(M:MemS)(k:Nat)(T:HL)(S:Setup)(n a b:Int)(F:HL)(hM:MemH mb M (k+1) T)(hS:SetN S):Sp Tryz.prog 296 #[.iface 40 (vP mb 0),(Setup.v S),.agg #[vI n,vI a,vI b]] (ap [] [T]) F (λ u H'=>∃x,H'=ap [] [x] /\ (MemH mb (if af S a >= 0 then M.set (aV (af S a+n)) (oS n b) else M) k x /\ u=.tuple #[vI 0,.agg #[vI 0,vI 0,vI 0,vI 0],.bool false])):=by
 have h1:=hS.pl;have h2:=hS.nb;refine aas Tryz.func296 rfl mn (A:=[]) (Ts:=[T]) rfl λ w0=>?_;refine ae 15 (ow 2 16++[.own 1]) λ n1=>aah (cL S a _ hS) ?_;have VF:=cK hS a;refine ae 9 [] λ _=>aal (af S a >= 0) 15 (λ h3=>?_) λ h3=>?_
 ·refine ae 1 [] λ _=>aak [13] []<|ag [] [0,1,2,5,7,3,6,8,10,4,11,12] [.own 1,.own 1,.own 1]<|aac [] 9 (λ X_=>(EC n b  _))<|aae 13 (aaf [] [] [0] (aj (i64.wrap ((af S a)+n)) (oS n b) hM) ?_);rintro _ T4 UW;refine aad<|ae 9 (aab 4) λ _=>aap (aab 4) [] [0] (v:=.tuple #[vI 0,.agg #[vI 0,vI 0,vI 0,vI 0],.bool false]) (H':=(ap [] [T4])) ?_;refine⟨T4,rfl,?_⟩;refine⟨?_,?_⟩
  ·first|(simp only[if_pos h3];exact UW.weak (by omega))|exact UW.weak (by omega)
  ·first|rfl|(simp only[if_pos h3];done)|(simp only[if_pos h3];rfl)
 ·refine ae 11 (aab 4) λ _=>aap (aab 4) [] [0] (v:=.tuple #[vI 0,.agg #[vI 0,vI 0,vI 0,vI 0],.bool false]) (H':=(ap [] [T])) ?_;refine⟨T,rfl,?_⟩;refine⟨?_,?_⟩
  ·first|(simp only[if_neg h3];exact hM.weak (by omega))|exact hM.weak (by omega)
  ·first|rfl|(simp only[if_neg h3];done)|(simp only[if_neg h3];rfl)
theorem Qu(mb:Nat)(M:MemS)(k:Nat)(T:HL)(S:Setup)(n a b:Int)(F:HL)(hM:MemH mb M (k+1) T)(hS:SetN S):Sp Tryz.prog 298 #[.iface 40 (vP mb 0),(Setup.v S),.agg #[vI n,vI a,vI b]] (ap [] [T]) F (λ u H'=>∃x,H'=ap [] [x] /\ (MemH mb (M.set 6 n) k x /\ u=.tuple #[vI 0,.agg #[vI 0,vI 0,vI 0,vI 0],.bool false])):=by
 have h1:=hS.pl;have h2:=hS.nb;refine aas Tryz.func298 rfl mn (A:=[]) (Ts:=[T]) rfl λ w0=>?_;refine ae 14 [.own 1] λ n1=>aai [] [0] (aj 6 n hM) ?_;rintro _ T2 Us;refine ae 10 (aab 4) λ _=>aap (aab 4) [] [0] (v:=.tuple #[vI 0,.agg #[vI 0,vI 0,vI 0,vI 0],.bool false]) (H':=(ap [] [T2])) ?_;refine⟨T2,rfl,?_⟩;refine⟨?_,?_⟩
 ·first|(simp only[];exact Us.weak (by omega))|exact Us.weak (by omega)
 ·first|rfl|(simp only[];done)|(simp only[];rfl)
theorem Qv(mb:Nat)(M:MemS)(k:Nat)(T:HL)(S:Setup)(n a b:Int)(F:HL)(hM:MemH mb M (k+1) T)(hS:SetN S):Sp Tryz.prog 299 #[.iface 40 (vP mb 0),(Setup.v S),.agg #[vI n,vI a,vI b]] (ap [] [T]) F (λ u H'=>∃x,H'=ap [] [x] /\ (MemH mb (if a=0 then M.set 6 n else M) k x /\ u=.tuple #[vI 0,.agg #[vI 0,vI 0,vI 0,vI 0],.bool false])):=by
 have h1:=hS.pl;have h2:=hS.nb;refine aas Tryz.func299 rfl mn (A:=[]) (Ts:=[T]) rfl λ w0=>?_;refine ae 17 [.own 1] λ n1=>aal (a=0) 11 (λ h2=>?_) λ h2=>?_
 ·refine ae 5 [.own 1] λ _=>aai [] [0] (aj 6 n hM) ?_;rintro _ T3 H_;refine ae 10 (aab 4) λ _=>aap (aab 4) [] [0] (v:=.tuple #[vI 0,.agg #[vI 0,vI 0,vI 0,vI 0],.bool false]) (H':=(ap [] [T3])) ?_;refine⟨T3,rfl,?_⟩;refine⟨?_,?_⟩
  ·first|(simp only[if_pos h2];exact H_.weak (by omega))|exact H_.weak (by omega)
  ·first|rfl|(simp only[if_pos h2];done)|(simp only[if_pos h2];rfl)
 ·refine ae 11 (aab 4) λ _=>aap (aab 4) [] [0] (v:=.tuple #[vI 0,.agg #[vI 0,vI 0,vI 0,vI 0],.bool false]) (H':=(ap [] [T])) ?_;refine⟨T,rfl,?_⟩;refine⟨?_,?_⟩
  ·first|(simp only[if_neg h2];exact hM.weak (by omega))|exact hM.weak (by omega)
  ·first|rfl|(simp only[if_neg h2];done)|(simp only[if_neg h2];rfl)
theorem Qw(mb:Nat)(M:MemS)(k:Nat)(T:HL)(S:Setup)(n a b:Int)(F:HL)(hM:MemH mb M (k+2) T)(hS:SetN S):Sp Tryz.prog 300 #[.iface 40 (vP mb 0),(Setup.v S),.agg #[vI n,vI a,vI b]] (ap [] [T]) F (λ u H'=>∃x,H'=ap [] [x] /\ (MemH mb ((cG a b M).M) k x /\ u=.tuple #[vI 0,.agg (aaa (cG a b M).e).toArray,.bool ((cG a b M).em)])):=by
 have h1:=hS.pl;have h2:=hS.nb;refine aas Tryz.func300 rfl mn (A:=[]) (Ts:=[T]) rfl λ w0=>?_;refine ae 16 [.own 1,.own 1] λ n1=>aai [] [0] (On mb M k T a b _ hM) ?_;rintro _ T2 ⟨Us,rfl⟩;refine ae 9 (aab 4) λ n4=>aak [3] [0,2,3]<|ag [0,2,3] [0,1,2] (aab 4)<|aae 3 (aag [0,2,3] [.own 1,.own 1,.own 1,.own 1] λ _=>?_);refine ag [0,2,3] [4] []<|aad<|ae 1 [] λ _=>aap [.own 1,.own 1,.own 1,.own 1] [] [0] (v:=.tuple #[vI 0,.agg (aaa (cG a b M).e).toArray,.bool ((cG a b M).em)]) (H':=(ap [] [T2])) ?_;refine⟨T2,rfl,?_⟩;refine⟨?_,?_⟩
 ·first|(simp only[];exact Us.weak (by omega))|exact Us.weak (by omega)
 ·first|rfl|(simp only[];done)|(simp only[];rfl)
theorem Qx(mb:Nat)(M:MemS)(k:Nat)(T:HL)(S:Setup)(n a b:Int)(F:HL)(hM:MemH mb M (k+0) T)(hS:SetN S):Sp Tryz.prog 302 #[.iface 40 (vP mb 0),(Setup.v S),.agg #[vI n,vI a,vI b]] (ap [] [T]) F (λ u H'=>∃x,H'=ap [] [x] /\ (MemH mb (M) k x /\ u=.tuple #[vI 0,.agg #[vI 0,vI 0,vI 0,vI 0],.bool false])):=by
 have h1:=hS.pl;have h2:=hS.nb;refine aas Tryz.func302 rfl mn (A:=[]) (Ts:=[T]) rfl λ w0=>?_;refine ae 17 (aab 4) λ n1=>aap (aab 4) [] [0] (v:=.tuple #[vI 0,.agg #[vI 0,vI 0,vI 0,vI 0],.bool false]) (H':=(ap [] [T])) ?_;refine⟨T,rfl,?_⟩;refine⟨?_,?_⟩
 ·first|(simp only[];exact hM.weak (by omega))|exact hM.weak (by omega)
 ·first|rfl|(simp only[];done)|(simp only[];rfl)
theorem kc(mb:Nat)(M:MemS)(k:Nat)(T:HL)(S:Setup)(op n a b:Int)(F:HL)(hM:MemH mb M (k+2) T)(hS:SetN S)(ho:1 <= op /\ op <= 21):Sp Tryz.prog 201 #[vI op,.iface 40 (vP mb 0),(Setup.v S),.agg #[vI n,vI a,vI b]] (ap [] [T]) F (λ u H'=>∃x,H'=ap [] [x] /\ (MemH mb ((aD S op n a b M).M) k x /\ u=.tuple #[vI ((aD S op n a b M).v),.agg (aaa (aD S op n a b M).e).toArray,.bool ((aD S op n a b M).em)])):=by
 refine aas Tryz.func201 rfl mn (A:=[]) (Ts:=[T]) rfl λ w0=>?_;refine ae 23 [] λ n1=>aal (op=1) 12 (λ h2=>?_) λ h2=>?_
 ·subst h2;refine ae 5 [] λ _=>aak [8] [1,2]<|ag [1,2] [0,2,3,6,4] [.own 1]<|aac [1,2] 1 (λ X_=>(Ql _))<|aac [1,2] 5 (λ X_=>(ld1 mb M _ T n _ hM (aQ 0)))<|ag [1,2] [7] []<|aae 8 (aag [1,2] (aab 4) λ _=>?_);refine ag [1,2] [9] []<|aad<|ae 1 [] λ _=>aap (aab 4) [] [0] (v:=.tuple #[vI n,.agg #[vI 0,vI 0,vI 0,vI 0],.bool false]) (H':=(ap [] [T])) ?_;refine⟨T,rfl,?_⟩;exact⟨hM.weak (by omega),rfl⟩
 ·refine ae 7 [] λ _=>aal (op=2) 12 (λ h3=>?_) λ h3=>?_
  ·subst h3;refine ae 5 [] λ _=>aak [8] [1,2]<|ag [1,2] [0,2,3,6,4] [.own 1]<|aac [1,2] 1 (λ X_=>(Qm _))<|aac [1,2] 5 (λ X_=>(ld2 mb M _ T n _ hM (aQ 0)))<|ag [1,2] [7] []<|aae 8 (aag [1,2] (aab 4) λ _=>?_);refine ag [1,2] [9] []<|aad<|ae 1 [] λ _=>aap (aab 4) [] [0] (v:=.tuple #[vI (M.get (aV (32+n))),.agg #[vI 0,vI 0,vI 0,vI 0],.bool false]) (H':=(ap [] [T])) ?_;refine⟨T,rfl,?_⟩;exact⟨hM.weak (by omega),rfl⟩
  ·refine ae 7 [] λ _=>aal (op=6) 12 (λ h4=>?_) λ h4=>?_
   ·subst h4;refine ae 5 [] λ _=>aak [8] [1,2]<|ag [1,2] [0,2,3,6,4] [.own 1]<|aac [1,2] 1 (λ X_=>(Qn _))<|aac [1,2] 5 (λ X_=>(ld3 mb M _ T n _ hM (aQ 0)))<|ag [1,2] [7] []<|aae 8 (aag [1,2] (aab 4) λ _=>?_);refine ag [1,2] [9] []<|aad<|ae 1 [] λ _=>aap (aab 4) [] [0] (v:=.tuple #[vI (M.get 9),.agg #[vI 0,vI 0,vI 0,vI 0],.bool false]) (H':=(ap [] [T])) ?_;refine⟨T,rfl,?_⟩;exact⟨hM.weak (by omega),rfl⟩
   ·refine ae 7 [] λ _=>aal (op=7) 12 (λ h5=>?_) λ h5=>?_
    ·subst h5;refine ae 5 [] λ _=>aak [8] [1,2]<|ag [1,2] [0,2,3,6,4] [.own 1]<|aac [1,2] 1 (λ X_=>(Qo _))<|aac [1,2] 5 (λ X_=>(ld4 mb M _ T n _ hM (aQ 0)))<|ag [1,2] [7] []<|aae 8 (aag [1,2] (aab 4) λ _=>?_);refine ag [1,2] [9] []<|aad<|ae 1 [] λ _=>aap (aab 4) [] [0] (v:=.tuple #[vI (M.get 10),.agg #[vI 0,vI 0,vI 0,vI 0],.bool false]) (H':=(ap [] [T])) ?_;refine⟨T,rfl,?_⟩;exact⟨hM.weak (by omega),rfl⟩
    ·refine ae 6 [] λ _=>aal (op=8) 12 (λ h6=>?_) λ h6=>?_
     ·subst h6;refine ae 2 [] λ _=>aak [8] [1,2]<|ag [1,2] [0,2,3,6,4] [.own 1]<|aac [1,2] 1 (λ X_=>(Qp _))<|aac [1,2] 5 (λ X_=>(ld5 mb M _ T n _ hM (aQ 0)))<|ag [1,2] [7] []<|aae 8 (aag [1,2] (aab 4) λ _=>?_);refine ag [1,2] [9] []<|aad<|ae 1 [] λ _=>aap (aab 4) [] [0] (v:=.tuple #[vI (M.get 0),.agg #[vI 0,vI 0,vI 0,vI 0],.bool false]) (H':=(ap [] [T])) ?_;refine⟨T,rfl,?_⟩;exact⟨hM.weak (by omega),rfl⟩
     ·refine ae 8 [] λ _=>aal (op=9) 25 (λ h7=>?_) λ h7=>?_
      ·subst h7;refine ae 5 [] λ _=>aak [9] [1,2]<|ag [1,2] [0,2,4,7,3,5] [.own 1,.own 1]<|aac [1,2] 1 (λ X_=>(Qq _))<|aac [1,2] 6 (λ X_=>(R7 a b _))<|ag [1,2] [8] []<|aae 9 (aag [1,2] (aab 4) λ _=>?_);refine ag [1,2] [10] []<|aad<|ae 1 [] λ _=>aap (aab 4) [] [0] (v:=.tuple #[vI (lV (aV (a+b))),.agg #[vI 0,vI 0,vI 0,vI 0],.bool false]) (H':=(ap [] [T])) ?_;refine⟨T,rfl,?_⟩;exact⟨hM.weak (by omega),rfl⟩
      ·refine ae 7 [] λ _=>aal (op=10) 25 (λ h8=>?_) λ h8=>?_
       ·subst h8;refine ae 5 [] λ _=>aak [9] [1,2]<|ag [1,2] [0,2,4,7,3,5] [.own 1,.own 1]<|aac [1,2] 1 (λ X_=>(N9 _))<|aac [1,2] 6 (λ X_=>(R8 a b _))<|ag [1,2] [8] []<|aae 9 (aag [1,2] (aab 4) λ _=>?_);refine ag [1,2] [10] []<|aad<|ae 1 [] λ _=>aap (aab 4) [] [0] (v:=.tuple #[vI (lV (aV (a-b))),.agg #[vI 0,vI 0,vI 0,vI 0],.bool false]) (H':=(ap [] [T])) ?_;refine⟨T,rfl,?_⟩;exact⟨hM.weak (by omega),rfl⟩
       ·refine ae 7 [] λ _=>aal (op=11) 25 (λ h9=>?_) λ h9=>?_
        ·subst h9;refine ae 5 [] λ _=>aak [9] [1,2]<|ag [1,2] [0,2,4,7,3,5] [.own 1,.own 1]<|aac [1,2] 1 (λ X_=>(Oa _))<|aac [1,2] 6 (λ X_=>(R9 a b _))<|ag [1,2] [8] []<|aae 9 (aag [1,2] (aab 4) λ _=>?_);refine ag [1,2] [10] []<|aad<|ae 1 [] λ _=>aap (aab 4) [] [0] (v:=.tuple #[vI (lV (aV (a*b))),.agg #[vI 0,vI 0,vI 0,vI 0],.bool false]) (H':=(ap [] [T])) ?_;refine⟨T,rfl,?_⟩;exact⟨hM.weak (by omega),rfl⟩
        ·refine ae 7 [] λ _=>aal (op=12) 25 (λ Ti=>?_) λ Ti=>?_
         ·subst Ti;refine ae 5 [] λ _=>aak [9] [1,2]<|ag [1,2] [0,2,4,7,3,5] [.own 1,.own 1]<|aac [1,2] 1 (λ X_=>(Oc _))<|aac [1,2] 6 (λ X_=>(Sa a b _))<|ag [1,2] [8] []<|aae 9 (aag [1,2] (aab 4) λ _=>?_);refine ag [1,2] [10] []<|aad<|ae 1 [] λ _=>aap (aab 4) [] [0] (v:=.tuple #[vI (if b=0 then 0 else lV (aV (a.tdiv b))),.agg #[vI 0,vI 0,vI 0,vI 0],.bool false]) (H':=(ap [] [T])) ?_;refine⟨T,rfl,?_⟩;exact⟨hM.weak (by omega),rfl⟩
         ·refine ae 7 [] λ _=>aal (op=14) 25 (λ TZ=>?_) λ TZ=>?_
          ·subst TZ;refine ae 5 [] λ _=>aak [9] [1,2]<|ag [1,2] [0,2,4,7,3,5] [.own 1,.own 1]<|aac [1,2] 1 (λ X_=>(Od _))<|aac [1,2] 6 (λ X_=>(Sb a b _))<|ag [1,2] [8] []<|aae 9 (aag [1,2] (aab 4) λ _=>?_);refine ag [1,2] [10] []<|aad<|ae 1 [] λ _=>aap (aab 4) [] [0] (v:=.tuple #[vI (gR (decide (a<b))),.agg #[vI 0,vI 0,vI 0,vI 0],.bool false]) (H':=(ap [] [T])) ?_;refine⟨T,rfl,?_⟩;exact⟨hM.weak (by omega),rfl⟩
          ·refine ae 7 [] λ _=>aal (op=15) 25 (λ TH=>?_) λ TH=>?_
           ·subst TH;refine ae 5 [] λ _=>aak [9] [1,2]<|ag [1,2] [0,2,4,7,3,5] [.own 1,.own 1]<|aac [1,2] 1 (λ X_=>(Oe _))<|aac [1,2] 6 (λ X_=>(Sc a b _))<|ag [1,2] [8] []<|aae 9 (aag [1,2] (aab 4) λ _=>?_);refine ag [1,2] [10] []<|aad<|ae 1 [] λ _=>aap (aab 4) [] [0] (v:=.tuple #[vI (gR (decide (a <= b))),.agg #[vI 0,vI 0,vI 0,vI 0],.bool false]) (H':=(ap [] [T])) ?_;refine⟨T,rfl,?_⟩;exact⟨hM.weak (by omega),rfl⟩
           ·refine ae 6 [] λ _=>aal (op=16) 25 (λ Ux=>?_) λ Ux=>?_
            ·subst Ux;refine ae 2 [] λ _=>aak [9] [1,2]<|ag [1,2] [0,2,4,7,3,5] [.own 1,.own 1]<|aac [1,2] 1 (λ X_=>(Og _))<|aac [1,2] 6 (λ X_=>(Sd a b _))<|ag [1,2] [8] []<|aae 9 (aag [1,2] (aab 4) λ _=>?_);refine ag [1,2] [10] []<|aad<|ae 1 [] λ _=>aap (aab 4) [] [0] (v:=.tuple #[vI (gR (decide (a=b))),.agg #[vI 0,vI 0,vI 0,vI 0],.bool false]) (H':=(ap [] [T])) ?_;refine⟨T,rfl,?_⟩;exact⟨hM.weak (by omega),rfl⟩
            ·refine ae 8 [] λ _=>aal (op=13) 41 (λ Uh=>?_) λ Uh=>?_
             ·subst Uh;refine ae 5 [] λ _=>aak [7] [1,2]<|ag [1,2] [0,2,5,3] [.own 1]<|aac [1,2] 1 (λ X_=>(Oh _))<|aac [1,2] 4 (λ X_=>(un1 a _))<|ag [1,2] [6] []<|aae 7 (aag [1,2] (aab 4) λ _=>?_);refine ag [1,2] [8] []<|aad<|ae 1 [] λ _=>aap (aab 4) [] [0] (v:=.tuple #[vI (lV (aV (0-a))),.agg #[vI 0,vI 0,vI 0,vI 0],.bool false]) (H':=(ap [] [T])) ?_;refine⟨T,rfl,?_⟩;exact⟨hM.weak (by omega),rfl⟩
             ·refine ae 6 [] λ _=>aal (op=17) 41 (λ XS=>?_) λ XS=>?_
              ·subst XS;refine ae 2 [] λ _=>aak [7] [1,2]<|ag [1,2] [0,2,5,3] [.own 1]<|aac [1,2] 1 (λ X_=>(Oi _))<|aac [1,2] 4 (λ X_=>(un2 a _))<|ag [1,2] [6] []<|aae 7 (aag [1,2] (aab 4) λ _=>?_);refine ag [1,2] [8] []<|aad<|ae 1 [] λ _=>aap (aab 4) [] [0] (v:=.tuple #[vI (gR (decide (a=0))),.agg #[vI 0,vI 0,vI 0,vI 0],.bool false]) (H':=(ap [] [T])) ?_;refine⟨T,rfl,?_⟩;exact⟨hM.weak (by omega),rfl⟩
              ·refine ae 5 [] λ _=>?_;have h7:op=3 \/ op=4 \/ op=5 \/ op=18 \/ op=19 \/ op=20 \/ op=21:=by omega
               rcases h7 with rfl|rfl|rfl|rfl|rfl|rfl|rfl
               ·refine aak [5,10] []<|ag [] [0,2,3,4] (ow 2 16++[.own 1,.own 1,.own 1])<|aac [] 1 (λ X_=>(Qr _))<|aae 5 (aaf [] [] [0] (Se mb M (k+1) T S n a b _ hM hS) ?_);rintro _ VN ⟨Uu,rfl⟩;refine ag [] [6,7,8,9] []<|aae 10 (aag [] (aab 4) λ _=>?_);refine ag [] [11] []<|aad<|ae 1 [] λ _=>aap (aab 4) [] [0] (v:=.tuple #[vI 0,.agg #[vI 0,vI 0,vI 0,vI 0],.bool false]) (H':=(ap [] [VN])) ?_;refine⟨VN,rfl,?_⟩;exact⟨Uu.weak (by omega),rfl⟩
               ·refine aak [5,10] []<|ag [] [0,2,3,4] (ow 2 16++[.own 1,.own 1,.own 1])<|aac [] 1 (λ X_=>(Qs _))<|aae 5 (aaf [] [] [0] (Sf mb M (k+2) T S n a b _ hM hS) ?_);rintro _ T18 ⟨XA,rfl⟩;refine ag [] [6,7,8,9] []<|aae 10 (aag [] (aab 4) λ _=>?_);refine ag [] [11] []<|aad<|ae 1 [] λ _=>aap (aab 4) [] [0] (v:=.tuple #[vI (if af S a >= 0 then M.get (aV (af S a+n)) else 0),.agg #[vI 0,vI 0,vI 0,vI 0],.bool false]) (H':=(ap [] [T18])) ?_;refine⟨T18,rfl,?_⟩;exact⟨XA.weak (by omega),rfl⟩
               ·refine aak [5,10] []<|ag [] [0,2,3,4] (ow 2 16++[.own 1,.own 1,.own 1])<|aac [] 1 (λ X_=>(Qt _))<|aae 5 (aaf [] [] [0] (Sg mb M (k+1) T S n a b _ hM hS) ?_);rintro _ V5 ⟨Xy,rfl⟩;refine ag [] [6,7,8,9] []<|aae 10 (aag [] (aab 4) λ _=>?_);refine ag [] [11] []<|aad<|ae 1 [] λ _=>aap (aab 4) [] [0] (v:=.tuple #[vI 0,.agg #[vI 0,vI 0,vI 0,vI 0],.bool false]) (H':=(ap [] [V5])) ?_;refine⟨V5,rfl,?_⟩;exact⟨Xy.weak (by omega),rfl⟩
               ·refine aak [5,10] []<|ag [] [0,2,3,4] (ow 2 16++[.own 1,.own 1,.own 1])<|aac [] 1 (λ X_=>(Oj _))<|aae 5 (aaf [] [] [0] (Qu mb M (k+1) T S n a b _ hM hS) ?_);rintro _ UX ⟨Xx,rfl⟩;refine ag [] [6,7,8,9] []<|aae 10 (aag [] (aab 4) λ _=>?_);refine ag [] [11] []<|aad<|ae 1 [] λ _=>aap (aab 4) [] [0] (v:=.tuple #[vI 0,.agg #[vI 0,vI 0,vI 0,vI 0],.bool false]) (H':=(ap [] [UX])) ?_;refine⟨UX,rfl,?_⟩;exact⟨Xx.weak (by omega),rfl⟩
               ·refine aak [5,10] []<|ag [] [0,2,3,4] (ow 2 16++[.own 1,.own 1,.own 1])<|aac [] 1 (λ X_=>(Ok _))<|aae 5 (aaf [] [] [0] (Qv mb M (k+1) T S n a b _ hM hS) ?_);rintro _ ZR ⟨Xw,rfl⟩;refine ag [] [6,7,8,9] []<|aae 10 (aag [] (aab 4) λ _=>?_);refine ag [] [11] []<|aad<|ae 1 [] λ _=>aap (aab 4) [] [0] (v:=.tuple #[vI 0,.agg #[vI 0,vI 0,vI 0,vI 0],.bool false]) (H':=(ap [] [ZR])) ?_;refine⟨ZR,rfl,?_⟩;exact⟨Xw.weak (by omega),rfl⟩
               ·refine aak [5,10] []<|ag [] [0,2,3,4] (ow 2 16++[.own 1,.own 1,.own 1])<|aac [] 1 (λ X_=>(Ol _))<|aae 5 (aaf [] [] [0] (Qw mb M k T S n a b _ hM hS) ?_);rintro _ T26 ⟨ah7,rfl⟩;refine ag [] [6,7,8,9] []<|aae 10 (aag [] (aab 4) λ _=>?_);refine ag [] [11] []<|aad<|ae 1 [] λ _=>aap (aab 4) [] [0] (v:=.tuple #[vI 0,.agg (aaa (cG a b M).e).toArray,.bool ((cG a b M).em)]) (H':=(ap [] [T26])) ?_;refine⟨T26,rfl,?_⟩;exact⟨ah7.weak (by omega),rfl⟩
               ·refine aak [5,10] []<|ag [] [0,2,3,4] (ow 2 16++[.own 1,.own 1,.own 1])<|aac [] 1 (λ X_=>(Om _))<|aae 5 (aaf [] [] [0] (Qx mb M (k+2) T S n a b _ hM hS) ?_);rintro _ T28 ⟨abk,rfl⟩;refine ag [] [6,7,8,9] []<|aae 10 (aag [] (aab 4) λ _=>?_);refine ag [] [11] []<|aad<|ae 1 [] λ _=>aap (aab 4) [] [0] (v:=.tuple #[vI 0,.agg #[vI 0,vI 0,vI 0,vI 0],.bool false]) (H':=(ap [] [T28])) ?_;refine⟨T28,rfl,?_⟩;exact⟨abk.weak (by omega),rfl⟩
end Go.Proofs.YtghjbimijeinfaaGreatDoor
