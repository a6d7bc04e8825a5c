import Derived.Test.YtdppjkjbghbnjaaGreatDoorD05
set_option maxHeartbeats 4000000
set_option maxRecDepth 100000
set_option linter.all false
namespace Go.Proofs.YtdppjkjbghbnjaaGreatDoor
open IntKind
open Go.RowKit
def MI(a b:Int):Int:=u64.wrap ((BitVec.ofInt 64 a ^^^ BitVec.ofInt 64 b).toNat:Int)
def orU(a b:Int):Int:=u64.wrap ((BitVec.ofInt 64 a ||| BitVec.ofInt 64 b).toNat:Int)
def wF(a b:Int):Int:=MI (u64.wrap (MI a b*11400714819323198485)) ((u64.wrap (MI a b*11400714819323198485)).fdiv 4294967296)
def sY(b:ByteArray)(i:Nat):Nat -> Int
 | 0=>0
 | k+1=>orU (sY b i k) (u64.wrap (u64.wrap (Fl b (8*i+k))*2 ^ min (8*(k:Int)).toNat 64))
def wk(b:ByteArray)(i:Nat):Nat:=min 8 (b.size-8*i)
def wn(b:ByteArray):Nat:=(b.size+7) / 8
def gZ(b:ByteArray):List Int:=(List.range (wn b)).map λ i=>sY b i (wk b i)
theorem zF(b:ByteArray):(gZ b).length=wn b:=by simp[gZ]
theorem qF{b:ByteArray}{i:Nat}(h:8*i<b.size):(gZ b)[i]?=some (sY b i (wk b i)):=by
 have:i<wn b:=by unfold wn;omega
 simp[gZ,this]
def jE(b:ByteArray):Nat -> Int
 | 0=>0
 | m+1=>wF (jE b m) ((gZ b).getD m 0)
def qG(b:ByteArray)(n:Int):Int:=wF (wF (jE b (gZ b).length) (u64.wrap (b.size:Int))) (u64.wrap n)
def F1(s:Int)(xs:List Int):Nat -> Int
 | 0=>s
 | k+1=>wF (F1 s xs k) (u64.wrap (xs.getD k 0))
def MJ(b:ByteArray)(xs:List Int):Int:=wF (F1 (qG b xs.length) xs xs.length) 0
abbrev OZ(x:Int):Array Value:=#[.int .u64 x]
theorem F3{xs:List Int}{i:Nat}{x:Int}(h:xs[i]?=some x):xs.getD i 0=x:=by rw[aaJ,h];rfl
theorem nK(a b:Int)(F:HL):Sp Tryz.prog 220 #[.int .u64 a,.int .u64 b] [] F (λ u H'=>u=.int .u64 (wF a b) /\ H'=[]):=by
 refine aat Tryz.func220 rfl mn (A:=[]) (Ts:=[]) rfl λ w0=>?_;refine ae 23 [] λ _=>?_;exact aap [] [] [] ⟨rfl,rfl⟩
theorem Dk(b:ByteArray)(q lp:Nat)(X F:HL)(J:Nat -> HL -> Prop)(Jx:HL -> Prop)(T0:HL)(hb:b.size <= 1000000)(hq:(q,.lit [.string b] 9 (0,0))∈F)(hY:∀i x H Y,(gZ b)[i]?=some x -> J i H -> YL Tryz.prog lp (OZ x) H (Y++(X++F)) (λ b H'=>(b=true /\ J (i+1) H') \/ (b=false /\ Jx H')))(Ue:J 0 T0):Sp Tryz.prog 275 #[.func (.yield lp) #[] #[],vP q 0] (ap [] [T0]) (X++F) (λ _ H'=>J (gZ b).length H' \/ Jx H'):=by
 refine aat Tryz.func275 rfl (mc (aav _ hq) mn) (A:=[]) (Ts:=[T0]) rfl λ w0=>?_;refine ae 6 [] λ _=>aan (σ:=Nat × HL) (λ ⟨i,T_⟩=>⟨[(0,.func (.yield lp) #[] #[]),(1,vP q 0),(3,vI (8*(i:Int)))],[],[T_],i <= wn b /\ J i T_,wn b-i⟩) (0,T0) [] [0] (⟨aa9 _,Ue⟩) ?_;rintro⟨i,T_⟩ ⟨VS,R4⟩ R9;refine ae 9 [.ro 0] λ _=>aal (8*(i:Int)<((b).size:Int)) 9 (λ h3=>?_) λ h3=>?_
 ·refine ae 17 [] λ _=>aan (σ:=Nat) (λ k=>⟨[(0,.func (.yield lp) #[] #[]),(1,vP q 0),(3,vI (8*(i:Int))),(4,.int .u64 (sY b i k)),(5,vI (k:Int))],[],[T_],k <= 8 /\ 8*i+k <= b.size,8-k⟩) 0 [] [0] (⟨by omega,by omega⟩) ?_;rintro k ⟨VQ,akg⟩ XF;refine ae 6 [] λ _=>aal ((k:Int)<8) 14 (λ h6=>?_) λ h6=>?_
  ·refine aj 9 [.nw,.ro 0] [bx ((8*(i:Int))+(k:Int))] λ _=>aal ((8*(i:Int))+(k:Int)<((b).size:Int)) 21 (λ h7=>?_) λ h7=>?_
   ·refine aj 26 [.ro 0,.nw,.ix (8*i+k),.nw,.dv,.gen,.nw] [bx ((k:Int)+1),0 <= 8*(k:Int),bx (8*(k:Int)),(8*(i:Int))+(k:Int)=(((8*i+k):Nat):Int) /\ (8*i+k)<(b).size,bx ((8*(i:Int))+(k:Int))] λ _=>?_;refine XF (k+1) [] [0] ?_
    try dsimp only
    exact⟨⟨by omega,by omega⟩,by omega⟩
   ·obtain rfl:k=wk b i:=by unfold wk;omega
    refine ae 10 [] λ _=>aar 0 (hY i (sY b i (wk b i)) _ _ (qF (by omega)) R4) ?_;rintro b_ T8 (⟨rfl,Wn⟩|⟨rfl,Wn⟩)
    ·refine aj 12 [.gen,.nw] [bx ((8*(i:Int))+8)] λ _=>aN 3 (congrArg (λ v_=>(vI v_:Value)) (show (8*(i:Int)+8)=8*((i+1:Nat):Int) by omega)) ?_;refine R9 (i+1,T8) [] [0] ?_
     try dsimp only
     exact⟨⟨by unfold wn at *;omega,Wn⟩,by unfold wn at *;omega⟩
    ·refine ae 4 [] λ _=>aap [] [] [0] (v:=.tuple #[]) (H':=(ap [] [T8])) ?_;rw[bj];exact .inr Wn
  ·obtain rfl:k=wk b i:=by unfold wk;omega
   refine ae 19 [] λ _=>aar 0 (hY i (sY b i (wk b i)) _ _ (qF (by omega)) R4) ?_;rintro b_ SX (⟨rfl,Zp⟩|⟨rfl,Zp⟩)
   ·refine aj 12 [.gen,.nw] [bx ((8*(i:Int))+8)] λ _=>aN 3 (congrArg (λ v_=>(vI v_:Value)) (show (8*(i:Int)+8)=8*((i+1:Nat):Int) by omega)) ?_;refine R9 (i+1,SX) [] [0] ?_
    try dsimp only
    exact⟨⟨by unfold wn at *;omega,Zp⟩,by unfold wn at *;omega⟩
   ·refine ae 4 [] λ _=>aap [] [] [0] (v:=.tuple #[]) (H':=(ap [] [SX])) ?_;rw[bj];exact .inr Zp
 ·obtain rfl:i=wn b:=by unfold wn at *;omega
  refine ae 5 [] λ _=>aap [] [] [0] (v:=.tuple #[]) (H':=(ap [] [T_])) ?_;rw[bj];exact .inl (by rw[zF];exact R4)
theorem F4(b:ByteArray)(q:Nat)(F:HL)(hb:b.size <= 1000000)(hq:(q,.lit [.string b] 9 (0,0))∈F):It Tryz.prog 275 #[vP q 0] F OZ (gZ b):=by
 intro X l J Jx H0 hY h0;have key:=Dk b q l X F J Jx H0 hb hq hY h0;rw[bj] at key;exact key
theorem Dl(b:ByteArray)(F:HL):Sp Tryz.prog 253 #[.string b] (ap [] []) F (λ u H'=>∃n:Nat,H'=ap [((n+0),.lit [.string b] 9 (0,0))] [] /\ u=.func (.func 275) #[] #[vP (n+0) 0]):=by
 refine aat Tryz.func253 rfl mn (A:=[]) (Ts:=[]) rfl λ w0=>?_;refine ae 12 [] λ n1=>aap [] [0] [] (v:=.func (.func 275) #[] #[vP (n1+0) 0]) (H':=(ap [((n1+0),.lit [.string b] 9 (0,0))] [])) ?_;exact⟨_,rfl,rfl⟩
theorem zG(b:ByteArray)(n:Int)(F:HL)(hb:b.size <= 1000000):Sp Tryz.prog 219 #[.string b,vI n] [] F (λ u H'=>u=.int .u64 (qG b n) /\ H'=[]):=by
 refine Sp.runM Tryz.func219 rfl mn (A:=[]) (Ts:=[]) rfl λ w0=>?_;refine ae 14 [] λ n1=>aai (Hp:=[]) (Tp:=[]) [] [] (Dl b _) ?_;rintro _ m2 rfl;refine ae 3 [] λ _=>RN.range (σ:=Nat) (τ:=Nat × Int) (encs:=λ (x_:Int)=>#[.int .u64 x_]) (xs:=(gZ b)) (enters_of Tryz.func275 (by kernel_rfl) rfl) (λ m_=>([((n1+0),.lit [.int .u64 (jE b m_)] 129 (0,0))],[])) (λ i_ m_=>m_=i_) (λ c_ m_=>False) (λ ⟨m_,y_⟩=>⟨[(0,.string b),(1,vI n),(5,vP (n1+0) 0),(6,.int .u64 y_)],[((n1+0),.lit [.int .u64 (jE b m_)] 129 (0,0))],[],True,0⟩) (λ i_ x_ ⟨m_,y_⟩=>m_=i_ /\ y_=x_) 0 rfl [1] [] (F4 b (m2+0) _ hb (av 0)) ?_ ?_ ?_ ?_
 ·rintro l_ i_ x_ m_ Y3 w4 hx5 rfl WK;refine ae 3 [] λ _=>?_;refine WK (m_,x_) [0] [] ?_
  try dsimp only
  exact⟨rfl,rfl⟩
 ·rintro l_ i_ x_ ⟨m_,y_⟩ Y7 w8 hx9 ⟨rfl,ey_⟩;refine ae 4 [.own 0] λ _=>aah (nK (jE b m_) y_ _)<|ae 3 [.own 0] λ _=>?_;have e_:jE b (m_+1)=wF (jE b m_) y_:=by rw[jE,ey_,F3 hx9]
  refine RN.bv 0 (congrArg (λ v_=>(.lit [.int .u64 v_] 129 (0,0):Blk)) e_.symm)<|RN.rn (m_+1) [0] [] ?_
  try dsimp only
  first|done|rfl
 ·rintro d10 m_  rfl;refine ae 8 [.own 1] λ _=>aah (nK (jE b (gZ b).length) (u64.wrap ((b).size:Int)) _)<|ae 2 [] λ _=>aah (nK (wF (jE b (gZ b).length) (u64.wrap ((b).size:Int))) (u64.wrap n) _)<|ae 3 [] λ _=>?_;exact RN.retM [d10] [0] [] [] [] ⟨rfl,rfl⟩
 ·exact λ _ _ _ h=>h.elim
theorem F5(b:ByteArray)(xs:List Int)(q c:Nat)(F:HL)(hb:b.size <= 1000000)(hl:xs.length <= c)(RX:xs.length <= 1000000)(hq:(q,.rows 1 c (aU xs) 3 (0,0))∈F):Sp Tryz.prog 177 #[.string b,vS q 0 xs.length c] [] F (λ u H'=>u=.int .u64 (MJ b xs) /\ H'=[]):=by
 refine aat Tryz.func177 rfl (mc hq mn) (A:=[]) (Ts:=[]) rfl λ w0=>?_;refine ae 10 [] λ _=>aah (zG b (xs.length:Int) _ (by assumption))<|ae 12 [] λ _=>aan (σ:=Nat) (λ k=>⟨[(5,.int .u64 (F1 (qG b xs.length) xs k)),(12,vS q 0 xs.length c),(13,vI (xs.length:Int)),(14,vI (k:Int))],[],[],k <= xs.length,xs.length-k⟩) 0 [] [] (aa9 _) ?_;rintro k hI1 R9;refine ae 6 [] λ _=>aal ((k:Int)<(xs.length:Int)) 15 (λ h3=>?_) λ h3=>?_
 ·refine aj 16 [.ix k,.rorow 0 k 0] [(0+k*1)=k*1+0 /\ k<c,(k:Int)=((k:Nat):Int) /\ k<xs.length] λ _=>aah (nK (F1 (qG b xs.length) xs k) (u64.wrap (xs.getD k 0)) _)<|aj 8 [.nw] [bx ((k:Int)+1)] λ _=>?_;refine R9 (k+1) [] [] ?_
  try dsimp only
  exact⟨by omega,by omega⟩
 ·obtain rfl:k=xs.length:=by omega
  refine ae 9 [] λ _=>aah (nK (F1 (qG b xs.length) xs xs.length) 0 _)<|ae 3 [] λ _=>?_;exact aap [] [] [] ⟨rfl,rfl⟩
structure VR where (M:MemS) (v:Int) (e:Eff) (em:Bool)
def nL:List (Int × Int × Int):=[(0,0,0),(0,1,0),(0,1,16),(1,0,16),(1,1,8),(2,0,8),(0,1,0),(0,1,0),(0,1,0),(2,1,0),(2,1,0),(2,1,0),(2,1,0),(1,1,0),(2,1,0),(2,1,0),(2,1,0),(1,1,0),(0,0,0),(1,0,0),(2,0,0),(0,0,0)]
abbrev eP(op:Int):Int:=(nL.getD op.toNat (0,0,0)).1
abbrev eQ(op:Int):Int:=(nL.getD op.toNat (0,0,0)).2.1
abbrev eN(op:Int):Int:=(nL.getD op.toNat (0,0,0)).2.2
def mP:Nat -> Nat -> Value:=λ i k=>match k with|0=>vI (nL.getD i (0,0,0)).1|1=>vI (nL.getD i (0,0,0)).2.1|_=>vI (nL.getD i (0,0,0)).2.2
def lj(n:Int):Int:=aF n (-2147483647) 2147483647
def gM(b:Bool):Int:=if b=true then 1 else 0
def fg(op n sp:Int):Bool:=if op<1 then false else if op>21 then false else if sp>16 then false else if sp<eP op then false else if bd (bd (sp-eP op)+eQ op)>16 then false else if eN op=0 then true else if n >= 0 then decide (n<eN op) else false
def nM(f v:Int):Int:=if f=0 then aF v (-1048576) 1048576 else if f=1 then aF v (-1048576) 1048576 else if f=2 then aF v (-16384) 16384 else if f=3 then aF v (-16384) 16384 else v
abbrev Qy:ByteArray:=⟨#[101,102,102,101,99,116]⟩
def cM(k v:Int)(M:MemS):VR:=if M.get 11 >= 40 then ⟨M,0,bC,false⟩ else ⟨(M.set 12 (bd ((MJ Qy [M.get 12,M.get 0,k,v]).fdiv 2))).set 11 (bd (M.get 11+1)),0,⟨M.get 0,M.get 11,k,v⟩,true⟩
def aC(S:Setup)(op n a b:Int)(M:MemS):VR :=
 if op=1 then ⟨M,n,bC,false⟩ else if op=2 then ⟨M,M.get (bd (32+n)),bC,false⟩ else if op=6 then ⟨M,M.get 9,bC,false⟩ else if op=7 then ⟨M,M.get 10,bC,false⟩ else if op=8 then ⟨M,M.get 0,bC,false⟩
 else if op=9 then ⟨M,lj (bd (a+b)),bC,false⟩ else if op=10 then ⟨M,lj (bd (a-b)),bC,false⟩ else if op=11 then ⟨M,lj (bd (a*b)),bC,false⟩ else if op=12 then ⟨M,if b=0 then 0 else lj (bd (a.tdiv b)),bC,false⟩
 else if op=14 then ⟨M,gM (decide (a<b)),bC,false⟩ else if op=15 then ⟨M,gM (decide (a <= b)),bC,false⟩ else if op=16 then ⟨M,gM (decide (a=b)),bC,false⟩
 else if op=13 then ⟨M,lj (bd (0-a)),bC,false⟩ else if op=17 then ⟨M,gM (decide (a=0)),bC,false⟩
 else if op=3 then ⟨M.set (bd (32+n)) a,0,bC,false⟩ else if op=4 then ⟨M,if af S a >= 0 then M.get (bd (af S a+n)) else 0,bC,false⟩ else if op=5 then ⟨if af S a >= 0 then M.set (bd (af S a+n)) (nM n b) else M,0,bC,false⟩
 else if op=18 then ⟨M.set 6 n,0,bC,false⟩ else if op=19 then ⟨if a=0 then M.set 6 n else M,0,bC,false⟩ else if op=20 then ⟨(cM a b M).M,0,(cM a b M).e,(cM a b M).em⟩ else ⟨M,0,bC,false⟩
def eo(op sp:Int)(M:MemS):Int:=if eP op=2 then M.get (bd (bd (16+sp)-eP op)) else if eP op=1 then M.get (bd (bd (16+sp)-eP op)) else 0
def ep(op sp:Int)(M:MemS):Int:=if eP op=2 then M.get (bd (bd (bd (16+sp)-eP op)+1)) else 0
def dJ(op sp pc fuel:Int)(M:MemS):MemS:=if eP op=eQ op then (M.set 8 (bd (fuel-1))).set 6 (bd (pc+1)) else ((M.set 8 (bd (fuel-1))).set 6 (bd (pc+1))).set 7 (bd (bd (sp-eP op)+eQ op))
def bP(S:Setup)(op n sp pc fuel:Int)(M:MemS):VR:=aC S op n (eo op sp M) (ep op sp M) (dJ op sp pc fuel M)
def cg(op sp:Int)(r:VR):VR:=if eQ op>0 then ⟨r.M.set (bd (bd (16+sp)-eP op)) r.v,r.v,r.e,r.em⟩ else r
abbrev bq(code:List Ins)(M:MemS):Ins:=code.getD (M.get 6).toNat dIns
def d8(code:List Ins)(n:Nat)(M:MemS):Prop:=¬ M.get 8<1 /\ ¬ M.get 6<0 /\ ¬ M.get 6 >= (n:Int) /\ fg (bq code M).op (bq code M).n (M.get 7)=true
instance (code:List Ins) (n:Nat) (M:MemS):Decidable (d8 code n M):=inferInstanceAs (Decidable (_ /\ _))
def ak(S:Setup)(code:List Ins)(n:Nat)(M:MemS):VR:=if d8 code n M then cg (bq code M).op (M.get 7) (bP S (bq code M).op (bq code M).n (M.get 7) (M.get 6) (M.get 8) M) else ⟨M,0,bC,false⟩
def bA(code:List Ins)(n:Nat)(M:MemS):Bool:=if d8 code n M then decide ((bq code M).op=21) else true
def aM(e fuel self other:Int)(M:MemS):MemS:=if e<0 then M else ((((M.set 6 e).set 7 0).set 8 fuel).set 9 self).set 10 other
def kU:Enc Ins:=⟨2,λ p k=>match k with|0=>vI p.op|1=>vI p.n|_=>default,dIns⟩
noncomputable def L2:TypeInfo:=match Tryz.prog.info? 231 with | some i=>i | none=>⟨.bool,"",0,0,false,0,0,none,false,#[]⟩
noncomputable def L3:Value:=match L2.zero with|some z=>z|none=>.bool false
theorem F6:EncOk kU Tryz.prog 231 L2 L3 where
 info:=by kernel_rfl
 zero:=by kernel_rfl
 size:=by kernel_rfl
 zsize:=by kernel_rfl
 zcell:=λ k hk=>by
  have h:∀k<2,L3.cells[k]?=some (kU.cell kU.dflt k):=by intro k hk;(iterate 2 (rcases k with _|k;· kernel_rfl));omega
  exact h k hk
 one:=λ x k=>by unfold kU;dsimp only;split <;> rfl
 bytes:=aaN (by kernel_rfl)
abbrev O0(l:List Ins):Nat -> Nat -> Value:=aQ kU l
inductive CodeIn(F:HL)(code:List Ins):Option Addr -> Nat -> Prop
 | nil (A:Option Addr):CodeIn F code A 0
 | mk (b R n:Nat) (h:(b,.rows 2 R (O0 code) 231 (0,0))∈F) (hn:n <= R) (hn2:n <= 1000000):CodeIn F code (some ⟨b,0,none⟩) n
theorem CodeIn.up{F X:HL}{code:List Ins}{A:Option Addr}{n:Nat}(h:CodeIn F code A n):CodeIn (X++F) code A n:=by
 cases h with
 | nil=>exact .nil _
 | mk b R n h h1 h2=>exact .mk b R n (aav _ h) h1 h2
abbrev cG(F:HL):Prop:=(1,.rows 3 22 mP 332 (0,0))∈F
theorem nO(n:Int)  (F:HL):Sp Tryz.prog 287 #[vI n] [] F (λ u H'=>u=vI (lj n) /\ H'=[]):=by
 refine aat Tryz.func287 rfl mn (A:=[]) (Ts:=[]) rfl λ w0=>?_;refine ae 8 [] λ _=>aah (cK n (-2147483647) 2147483647  _)<|ae 3 [] λ _=>?_;exact aap [] [] [] ⟨rfl,rfl⟩
theorem lM(b:Bool)(F:HL):Sp Tryz.prog 292 #[.bool b] [] F (λ u H'=>u=vI (gM b) /\ H'=[]):=by
 refine aat Tryz.func292 rfl mn (A:=[]) (Ts:=[]) rfl λ w0=>?_;refine ae 11 [] λ _=>ij (b) 3 (λ h1=>?_) λ h1=>?_
 ·refine ae 6 [] λ _=>aap [] [] [] (v:=vI 1) (H':=[]) ?_;refine⟨?_,rfl⟩
  first|(simp only[gM,if_pos h1];try rfl;done)|rfl
 ·refine ae 8 [] λ _=>aap [] [] [] (v:=vI 0) (H':=[]) ?_;refine⟨?_,rfl⟩
  first|(simp only[gM,if_neg h1];try rfl;done)|rfl
theorem Dm(f:Int)(v:Int)  (F:HL):Sp Tryz.prog 300 #[vI f,vI v] [] F (λ u H'=>u=vI (nM f v) /\ H'=[]):=by
 refine aat Tryz.func300 rfl mn (A:=[]) (Ts:=[]) rfl λ w0=>?_;refine ae 19 [] λ _=>aal (f=0) 6 (λ h1=>?_) λ h1=>?_
 ·refine ae 7 [] λ _=>aah (cK v (-1048576) 1048576  _)<|ae 3 [] λ _=>aap [] [] [] (v:=vI (aF v (-1048576) 1048576)) (H':=[]) ?_;refine⟨?_,rfl⟩
  first|(simp only[nM,if_pos h1];try rfl;done)|rfl
 ·refine ae 6 [] λ _=>aal (f=1) 6 (λ h2=>?_) λ h2=>?_
  ·refine ae 4 [] λ _=>aah (cK v (-1048576) 1048576  _)<|ae 3 [] λ _=>aap [] [] [] (v:=vI (aF v (-1048576) 1048576)) (H':=[]) ?_;refine⟨?_,rfl⟩
   first|(simp only[nM,if_neg h1,if_pos h2];try rfl;done)|rfl
  ·refine ae 8 [] λ _=>aal (f=2) 11 (λ h3=>?_) λ h3=>?_
   ·refine ae 7 [] λ _=>aah (cK v (-16384) 16384  _)<|ae 3 [] λ _=>aap [] [] [] (v:=vI (aF v (-16384) 16384)) (H':=[]) ?_;refine⟨?_,rfl⟩
    first|(simp only[nM,if_neg h1,if_neg h2,if_pos h3];try rfl;done)|rfl
   ·refine ae 6 [] λ _=>aal (f=3) 11 (λ h4=>?_) λ h4=>?_
    ·refine ae 4 [] λ _=>aah (cK v (-16384) 16384  _)<|ae 3 [] λ _=>aap [] [] [] (v:=vI (aF v (-16384) 16384)) (H':=[]) ?_;refine⟨?_,rfl⟩
     first|(simp only[nM,if_neg h1,if_neg h2,if_neg h3,if_pos h4];try rfl;done)|rfl
    ·refine ae 10 [] λ _=>aap [] [] [] (v:=vI v) (H':=[]) ?_;refine⟨?_,rfl⟩
     first|(simp only[nM,if_neg h1,if_neg h2,if_neg h3,if_neg h4];try rfl;done)|rfl
theorem Kb(op n sp:Int)(F:HL)(hE:cG F):Sp Tryz.prog 231 #[.agg #[vI op,vI n],vI sp] [] F (λ u H'=>u=.bool (fg op n sp) /\ H'=[]):=by
 refine aat Tryz.func231 rfl (mc hE mn) (A:=[]) (Ts:=[]) rfl λ w0=>?_;refine ae 13 [.own 0] λ n1=>aal (op<1) 9 (λ h2=>?_) λ h2=>?_
 ·refine ae 16 [] λ _=>aap [] [] [] (v:=.bool false) (H':=[]) ?_;refine⟨?_,rfl⟩
  first|(simp only[fg,if_pos h2];try rfl;done)|rfl
 ·refine ae 5 [.own 0] λ _=>aal (op>21) 14 (λ h3=>?_) λ h3=>?_
  ·refine ae 11 [] λ _=>aap [] [] [] (v:=.bool false) (H':=[]) ?_;refine⟨?_,rfl⟩
   first|(simp only[fg,if_neg h2,if_pos h3];try rfl;done)|rfl
  ·refine ae 5 [] λ _=>aal (sp>16) 17 (λ h4=>?_) λ h4=>?_
   ·refine ae 6 [] λ _=>aap [] [] [] (v:=.bool false) (H':=[]) ?_;refine⟨?_,rfl⟩
    first|(simp only[fg,if_neg h2,if_neg h3,if_pos h4];try rfl;done)|rfl
   ·refine aj 21 [.own 0,.ix ((op).toNat),.rorow 0 ((op).toNat) 0,.rorow 0 ((op).toNat) 1,.rorow 0 ((op).toNat) 2,.own 0,.own 0,.own 0,.own 0] [((0+((op).toNat)*3)+2)=((op).toNat)*3+2 /\ ((op).toNat)<22,((0+((op).toNat)*3)+1)=((op).toNat)*3+1 /\ ((op).toNat)<22,(0+((op).toNat)*3)=((op).toNat)*3+0 /\ ((op).toNat)<22,op=(((op).toNat:Nat):Int) /\ (op).toNat<22] λ n5=>aal (sp<eP op) 26 (λ h6=>?_) λ h6=>?_
    ·refine ae 17 [] λ _=>aap [] [] [] (v:=.bool false) (H':=[]) ?_;refine⟨?_,rfl⟩
     first|(simp only[fg,if_neg h2,if_neg h3,if_neg h4,if_pos h6];try rfl;done)|rfl
    ·refine ae 11 (aab 2) λ _=>aal (i64.wrap ((i64.wrap (sp-(eP op)))+(eQ op))>16) 35 (λ h7=>?_) λ h7=>?_
     ·refine ae 6 [] λ _=>aap [] [] [] (v:=.bool false) (H':=[]) ?_;refine⟨?_,rfl⟩
      first|(simp only[fg,if_neg h2,if_neg h3,if_neg h4,if_neg h6,if_pos h7];try rfl;done)|rfl
     ·refine ae 9 [.own 0] λ _=>aal (eN op=0) 39 (λ h8=>?_) λ h8=>?_
      ·refine ae 14 [] λ _=>aap [] [] [] (v:=.bool true) (H':=[]) ?_;refine⟨?_,rfl⟩
       first|(simp only[fg,if_neg h2,if_neg h3,if_neg h4,if_neg h6,if_neg h7,if_pos h8];try rfl;done)|rfl
      ·refine ae 4 [.own 1] λ _=>aal (n >= 0) 43 (λ h9=>?_) λ h9=>?_
       ·refine ae 10 [.own 1,.own 0] λ _=>aap [] [] [] (v:=.bool (decide (n<eN op))) (H':=[]) ?_;refine⟨?_,rfl⟩
        first|(simp only[fg,if_neg h2,if_neg h3,if_neg h4,if_neg h6,if_neg h7,if_neg h8,if_pos h9];try rfl;done)|rfl
       ·refine ae 10 [] λ _=>aap [] [] [] (v:=.bool false) (H':=[]) ?_;refine⟨?_,rfl⟩
        first|(simp only[fg,if_neg h2,if_neg h3,if_neg h4,if_neg h6,if_neg h7,if_neg h8,if_neg h9];try rfl;done)|rfl
theorem ld1(mb:Nat)(M:MemS)(k:Nat)(T:HL)(n:Int)(F:HL)(hM:MemH mb M k T)(hs:∀x∈T,x∈F):Sp Tryz.prog 281 #[.iface 113 (vP mb 0),vI n] [] F (λ u H'=>u=vI (n) /\ H'=[]):=by
 refine aat Tryz.func281 rfl mn (A:=[]) (Ts:=[]) rfl λ w0=>?_;refine ae 11 [] λ _=>?_;exact aap [] [] [] ⟨rfl,rfl⟩
theorem ld2(mb:Nat)(M:MemS)(k:Nat)(T:HL)(n:Int)(F:HL)(hM:MemH mb M k T)(hs:∀x∈T,x∈F):Sp Tryz.prog 282 #[.iface 113 (vP mb 0),vI n] [] F (λ u H'=>u=vI (M.get (bd (32+n))) /\ H'=[]):=by
 refine aat Tryz.func282 rfl mn (A:=[]) (Ts:=[]) rfl λ w0=>?_;refine ae 10 [] λ _=>aah (ay (i64.wrap (32+n)) hM λ x hx=>az (hs x hx))<|ae 3 [] λ _=>?_;exact aap [] [] [] ⟨rfl,rfl⟩
theorem ld3(mb:Nat)(M:MemS)(k:Nat)(T:HL)(n:Int)(F:HL)(hM:MemH mb M k T)(hs:∀x∈T,x∈F):Sp Tryz.prog 283 #[.iface 113 (vP mb 0),vI n] [] F (λ u H'=>u=vI (M.get 9) /\ H'=[]):=by
 refine aat Tryz.func283 rfl mn (A:=[]) (Ts:=[]) rfl λ w0=>?_;refine ae 8 [] λ _=>aah (ay 9 hM λ x hx=>az (hs x hx))<|ae 3 [] λ _=>?_;exact aap [] [] [] ⟨rfl,rfl⟩
theorem ld4(mb:Nat)(M:MemS)(k:Nat)(T:HL)(n:Int)(F:HL)(hM:MemH mb M k T)(hs:∀x∈T,x∈F):Sp Tryz.prog 284 #[.iface 113 (vP mb 0),vI n] [] F (λ u H'=>u=vI (M.get 10) /\ H'=[]):=by
 refine aat Tryz.func284 rfl mn (A:=[]) (Ts:=[]) rfl λ w0=>?_;refine ae 8 [] λ _=>aah (ay 10 hM λ x hx=>az (hs x hx))<|ae 3 [] λ _=>?_;exact aap [] [] [] ⟨rfl,rfl⟩
theorem ld5(mb:Nat)(M:MemS)(k:Nat)(T:HL)(n:Int)(F:HL)(hM:MemH mb M k T)(hs:∀x∈T,x∈F):Sp Tryz.prog 285 #[.iface 113 (vP mb 0),vI n] [] F (λ u H'=>u=vI (M.get 0) /\ H'=[]):=by
 refine aat Tryz.func285 rfl mn (A:=[]) (Ts:=[]) rfl λ w0=>?_;refine ae 8 [] λ _=>aah (ay 0 hM λ x hx=>az (hs x hx))<|ae 3 [] λ _=>?_;exact aap [] [] [] ⟨rfl,rfl⟩
theorem Qz(a b:Int)(F:HL):Sp Tryz.prog 286 #[vI a,vI b] [] F (λ u H'=>u=vI (lj (bd (a+b))) /\ H'=[]):=by
 refine aat Tryz.func286 rfl mn (A:=[]) (Ts:=[]) rfl λ w0=>?_;refine ae 10 [] λ _=>aah (nO (i64.wrap (a+b))  _)<|ae 3 [] λ _=>?_;exact aap [] [] [] ⟨rfl,rfl⟩
theorem QA(a b:Int)(F:HL):Sp Tryz.prog 288 #[vI a,vI b] [] F (λ u H'=>u=vI (lj (bd (a-b))) /\ H'=[]):=by
 refine aat Tryz.func288 rfl mn (A:=[]) (Ts:=[]) rfl λ w0=>?_;refine ae 10 [] λ _=>aah (nO (i64.wrap (a-b))  _)<|ae 3 [] λ _=>?_;exact aap [] [] [] ⟨rfl,rfl⟩
theorem QB(a b:Int)(F:HL):Sp Tryz.prog 289 #[vI a,vI b] [] F (λ u H'=>u=vI (lj (bd (a*b))) /\ H'=[]):=by
 refine aat Tryz.func289 rfl mn (A:=[]) (Ts:=[]) rfl λ w0=>?_;refine ae 10 [] λ _=>aah (nO (i64.wrap (a*b))  _)<|ae 3 [] λ _=>?_;exact aap [] [] [] ⟨rfl,rfl⟩
theorem QC(a b:Int)(F:HL):Sp Tryz.prog 290 #[vI a,vI b] [] F (λ u H'=>u=vI (if b=0 then 0 else lj (bd (a.tdiv b))) /\ H'=[]):=by
 refine aat Tryz.func290 rfl mn (A:=[]) (Ts:=[]) rfl λ w0=>?_;refine ae 12 [] λ _=>aal (b=0) 6 (λ h1=>?_) λ h1=>?_
 ·refine ae 6 [] λ _=>aap [] [] [] (v:=vI 0) (H':=[]) ?_;exact⟨by simp[*],rfl⟩
 ·refine aj 8 [.dv] [b≠0] λ _=>aah (nO (i64.wrap (a.tdiv b))  _)<|ae 3 [] λ _=>aap [] [] [] (v:=vI (lj (i64.wrap (a.tdiv b)))) (H':=[]) ?_;exact⟨by simp[*],rfl⟩
theorem QD(a b:Int)(F:HL):Sp Tryz.prog 291 #[vI a,vI b] [] F (λ u H'=>u=vI (gM (decide (a<b))) /\ H'=[]):=by
 refine aat Tryz.func291 rfl mn (A:=[]) (Ts:=[]) rfl λ w0=>?_;refine ae 10 [] λ _=>aah (lM (decide (a<b)) _)<|ae 3 [] λ _=>?_;exact aap [] [] [] ⟨rfl,rfl⟩
theorem QE(a b:Int)(F:HL):Sp Tryz.prog 293 #[vI a,vI b] [] F (λ u H'=>u=vI (gM (decide (a <= b))) /\ H'=[]):=by
 refine aat Tryz.func293 rfl mn (A:=[]) (Ts:=[]) rfl λ w0=>?_;refine ae 10 [] λ _=>aah (lM (decide (a <= b)) _)<|ae 3 [] λ _=>?_;exact aap [] [] [] ⟨rfl,rfl⟩
theorem QF(a b:Int)(F:HL):Sp Tryz.prog 294 #[vI a,vI b] [] F (λ u H'=>u=vI (gM (decide (a=b))) /\ H'=[]):=by
 refine aat Tryz.func294 rfl mn (A:=[]) (Ts:=[]) rfl λ w0=>?_;refine ae 10 [] λ _=>aah (lM (decide (a=b)) _)<|ae 3 [] λ _=>?_;exact aap [] [] [] ⟨rfl,rfl⟩
theorem un1(a:Int)(F:HL):Sp Tryz.prog 295 #[vI a] [] F (λ u H'=>u=vI (lj (bd (0-a))) /\ H'=[]):=by
 refine aat Tryz.func295 rfl mn (A:=[]) (Ts:=[]) rfl λ w0=>?_;refine ae 9 [] λ _=>aah (nO (i64.wrap (0-a))  _)<|ae 3 [] λ _=>?_;exact aap [] [] [] ⟨rfl,rfl⟩
theorem un2(a:Int)(F:HL):Sp Tryz.prog 296 #[vI a] [] F (λ u H'=>u=vI (gM (decide (a=0))) /\ H'=[]):=by
 refine aat Tryz.func296 rfl mn (A:=[]) (Ts:=[]) rfl λ w0=>?_;refine ae 9 [] λ _=>aah (lM (decide (a=0)) _)<|ae 3 [] λ _=>?_;exact aap [] [] [] ⟨rfl,rfl⟩
theorem O2(F:HL):Sp Tryz.prog 262 #[vI 1] [] F (λ u H'=>u=.func (.func 281) #[] #[] /\ H'=[]):=by
 refine aat Tryz.func262 rfl mn (A:=[]) (Ts:=[]) rfl λ w0=>?_;refine ae 19 (ow 0 11) λ n1=>?_;exact aap [] [] [] ⟨rfl,rfl⟩
theorem O3(F:HL):Sp Tryz.prog 262 #[vI 2] [] F (λ u H'=>u=.func (.func 282) #[] #[] /\ H'=[]):=by
 refine aat Tryz.func262 rfl mn (A:=[]) (Ts:=[]) rfl λ w0=>?_;refine ae 19 (ow 0 11) λ n1=>?_;exact aap [] [] [] ⟨rfl,rfl⟩
theorem O4(F:HL):Sp Tryz.prog 262 #[vI 6] [] F (λ u H'=>u=.func (.func 283) #[] #[] /\ H'=[]):=by
 refine aat Tryz.func262 rfl mn (A:=[]) (Ts:=[]) rfl λ w0=>?_;refine ae 19 (ow 0 11) λ n1=>?_;exact aap [] [] [] ⟨rfl,rfl⟩
theorem O5(F:HL):Sp Tryz.prog 262 #[vI 7] [] F (λ u H'=>u=.func (.func 284) #[] #[] /\ H'=[]):=by
 refine aat Tryz.func262 rfl mn (A:=[]) (Ts:=[]) rfl λ w0=>?_;refine ae 19 (ow 0 11) λ n1=>?_;exact aap [] [] [] ⟨rfl,rfl⟩
theorem O6(F:HL):Sp Tryz.prog 262 #[vI 8] [] F (λ u H'=>u=.func (.func 285) #[] #[] /\ H'=[]):=by
 refine aat Tryz.func262 rfl mn (A:=[]) (Ts:=[]) rfl λ w0=>?_;refine ae 19 (ow 0 11) λ n1=>?_;exact aap [] [] [] ⟨rfl,rfl⟩
theorem O7(F:HL):Sp Tryz.prog 263 #[vI 9] [] F (λ u H'=>u=.func (.func 286) #[] #[] /\ H'=[]):=by
 refine aat Tryz.func263 rfl mn (A:=[]) (Ts:=[]) rfl λ w0=>?_;refine ae 21 (ow 0 15) λ n1=>?_;exact aap [] [] [] ⟨rfl,rfl⟩
theorem MK(F:HL):Sp Tryz.prog 263 #[vI 10] [] F (λ u H'=>u=.func (.func 288) #[] #[] /\ H'=[]):=by
 refine aat Tryz.func263 rfl mn (A:=[]) (Ts:=[]) rfl λ w0=>?_;refine ae 21 (ow 0 15) λ n1=>?_;exact aap [] [] [] ⟨rfl,rfl⟩
theorem ML(F:HL):Sp Tryz.prog 263 #[vI 11] [] F (λ u H'=>u=.func (.func 289) #[] #[] /\ H'=[]):=by
 refine aat Tryz.func263 rfl mn (A:=[]) (Ts:=[]) rfl λ w0=>?_;refine ae 21 (ow 0 15) λ n1=>?_;exact aap [] [] [] ⟨rfl,rfl⟩
theorem MM(F:HL):Sp Tryz.prog 263 #[vI 12] [] F (λ u H'=>u=.func (.func 290) #[] #[] /\ H'=[]):=by
 refine aat Tryz.func263 rfl mn (A:=[]) (Ts:=[]) rfl λ w0=>?_;refine ae 21 (ow 0 15) λ n1=>?_;exact aap [] [] [] ⟨rfl,rfl⟩
theorem MN(F:HL):Sp Tryz.prog 263 #[vI 14] [] F (λ u H'=>u=.func (.func 291) #[] #[] /\ H'=[]):=by
 refine aat Tryz.func263 rfl mn (A:=[]) (Ts:=[]) rfl λ w0=>?_;refine ae 21 (ow 0 15) λ n1=>?_;exact aap [] [] [] ⟨rfl,rfl⟩
theorem MO(F:HL):Sp Tryz.prog 263 #[vI 15] [] F (λ u H'=>u=.func (.func 293) #[] #[] /\ H'=[]):=by
 refine aat Tryz.func263 rfl mn (A:=[]) (Ts:=[]) rfl λ w0=>?_;refine ae 21 (ow 0 15) λ n1=>?_;exact aap [] [] [] ⟨rfl,rfl⟩
theorem MP(F:HL):Sp Tryz.prog 263 #[vI 16] [] F (λ u H'=>u=.func (.func 294) #[] #[] /\ H'=[]):=by
 refine aat Tryz.func263 rfl mn (A:=[]) (Ts:=[]) rfl λ w0=>?_;refine ae 21 (ow 0 15) λ n1=>?_;exact aap [] [] [] ⟨rfl,rfl⟩
theorem MQ(F:HL):Sp Tryz.prog 264 #[vI 13] [] F (λ u H'=>u=.func (.func 295) #[] #[] /\ H'=[]):=by
 refine aat Tryz.func264 rfl mn (A:=[]) (Ts:=[]) rfl λ w0=>?_;refine ae 16 (ow 0 5) λ n1=>?_;exact aap [] [] [] ⟨rfl,rfl⟩
theorem MR(F:HL):Sp Tryz.prog 264 #[vI 17] [] F (λ u H'=>u=.func (.func 296) #[] #[] /\ H'=[]):=by
 refine aat Tryz.func264 rfl mn (A:=[]) (Ts:=[]) rfl λ w0=>?_;refine ae 16 (ow 0 5) λ n1=>?_;exact aap [] [] [] ⟨rfl,rfl⟩
theorem O8(F:HL):Sp Tryz.prog 265 #[vI 3] [] F (λ u H'=>u=.func (.func 297) #[] #[] /\ H'=[]):=by
 refine aat Tryz.func265 rfl mn (A:=[]) (Ts:=[]) rfl λ w0=>?_;refine ae 21 (ow 0 15) λ n1=>?_;exact aap [] [] [] ⟨rfl,rfl⟩
theorem O9(F:HL):Sp Tryz.prog 265 #[vI 4] [] F (λ u H'=>u=.func (.func 298) #[] #[] /\ H'=[]):=by
 refine aat Tryz.func265 rfl mn (A:=[]) (Ts:=[]) rfl λ w0=>?_;refine ae 21 (ow 0 15) λ n1=>?_;exact aap [] [] [] ⟨rfl,rfl⟩
theorem Pa(F:HL):Sp Tryz.prog 265 #[vI 5] [] F (λ u H'=>u=.func (.func 299) #[] #[] /\ H'=[]):=by
 refine aat Tryz.func265 rfl mn (A:=[]) (Ts:=[]) rfl λ w0=>?_;refine ae 21 (ow 0 15) λ n1=>?_;exact aap [] [] [] ⟨rfl,rfl⟩
theorem MS(F:HL):Sp Tryz.prog 265 #[vI 18] [] F (λ u H'=>u=.func (.func 301) #[] #[] /\ H'=[]):=by
 refine aat Tryz.func265 rfl mn (A:=[]) (Ts:=[]) rfl λ w0=>?_;refine ae 21 (ow 0 15) λ n1=>?_;exact aap [] [] [] ⟨rfl,rfl⟩
theorem MT(F:HL):Sp Tryz.prog 265 #[vI 19] [] F (λ u H'=>u=.func (.func 302) #[] #[] /\ H'=[]):=by
 refine aat Tryz.func265 rfl mn (A:=[]) (Ts:=[]) rfl λ w0=>?_;refine ae 21 (ow 0 15) λ n1=>?_;exact aap [] [] [] ⟨rfl,rfl⟩
theorem MU(F:HL):Sp Tryz.prog 265 #[vI 20] [] F (λ u H'=>u=.func (.func 303) #[] #[] /\ H'=[]):=by
 refine aat Tryz.func265 rfl mn (A:=[]) (Ts:=[]) rfl λ w0=>?_;refine ae 21 (ow 0 15) λ n1=>?_;exact aap [] [] [] ⟨rfl,rfl⟩
theorem MW(F:HL):Sp Tryz.prog 265 #[vI 21] [] F (λ u H'=>u=.func (.func 305) #[] #[] /\ H'=[]):=by
 refine aat Tryz.func265 rfl mn (A:=[]) (Ts:=[]) rfl λ w0=>?_;refine ae 21 (ow 0 15) λ n1=>?_;exact aap [] [] [] ⟨rfl,rfl⟩
theorem MX(mb:Nat)(M:MemS)(k:Nat)(T:HL)(kd v:Int)(F:HL)(hM:MemH mb M (k+2) T) :Sp Tryz.prog 304 #[.iface 113 (vP mb 0),vI kd,vI v] (ap [] [T]) F (λ u H'=>∃x,H'=ap [] [x] /\ (MemH mb ((cM kd v M).M) k x /\ u=.tuple #[.agg (aaa (cM kd v M).e).toArray,.bool ((cM kd v M).em)])):=by
 refine aat Tryz.func304 rfl mn (A:=[]) (Ts:=[T]) rfl λ w0=>?_;refine ae 9 [] λ n1=>aah (ay 11 hM (au 0))<|ae 10 [] λ _=>aal (M.get 11 >= 40) 14 (λ h2=>?_) λ h2=>?_
 ·refine ae 8 (aab 4) λ _=>aap (aab 4) [] [0] (v:=.tuple #[.agg #[vI 0,vI 0,vI 0,vI 0],.bool false]) (H':=(ap [] [T])) ?_;refine⟨T,rfl,?_⟩;refine⟨?_,?_⟩
  ·simp only[cM,if_pos h2];exact hM.weak (by omega)
  ·simp only[cM,if_pos h2]
 ·refine ae 6 [] λ _=>aah (ay 0 hM (au 0))<|ae 6 [] λ _=>aah (ay 12 hM (au 0))<|ae 4 [] λ n3=>aaj 0 (.rows 1 4 (aU [M.get 12,M.get 0,kd,v]) 3 (0,0))<|aah (F5 (⟨#[101,102,102,101,99,116]⟩) ([M.get 12,M.get 0,kd,v]) (n3+0) 4 _ (by decide) (aaN rfl) (aaN rfl) (av 0))<|ae 9 [] λ _=>aai [] [0] (ai 12 (i64.wrap ((MJ (⟨#[101,102,102,101,99,116]⟩) ([M.get 12,M.get 0,kd,v])).fdiv 2)) hM) ?_;rintro _ T4 Tw;refine ae 7 [] λ _=>aai [] [0] (ai 11 (i64.wrap ((M.get 11)+1)) Tw) ?_;rintro _ T6 Xm;refine ae 13 [.own 1,.own 1,.own 1,.own 1] λ _=>aap [.own 1,.own 1,.own 1,.own 1] [] [0] (v:=.tuple #[.agg #[vI (M.get 0),vI (M.get 11),vI kd,vI v],.bool true]) (H':=(ap [] [T6])) ?_;refine⟨T6,rfl,?_⟩;refine⟨?_,?_⟩
  ·simp only[cM,if_neg h2];exact Xm.weak (by omega)
  ·simp only[cM,if_neg h2]
theorem QG(mb:Nat)(M:MemS)(k:Nat)(T:HL)(S:Setup)(n a b:Int)(F:HL)(hM:MemH mb M (k+1) T)(hS:SetN S):Sp Tryz.prog 297 #[.iface 113 (vP mb 0),(Setup.v S),.agg #[vI n,vI a,vI b]] (ap [] [T]) F (λ u H'=>∃x,H'=ap [] [x] /\ (MemH mb (M.set (bd (32+n)) a) k x /\ u=.tuple #[vI 0,.agg #[vI 0,vI 0,vI 0,vI 0],.bool false])):=by
 have h1:=hS.pl;have h2:=hS.nb;refine aat Tryz.func297 rfl mn (A:=[]) (Ts:=[T]) rfl λ w0=>?_;refine ae 17 [.own 1,.own 1] λ n1=>aai [] [0] (ai (i64.wrap (32+n)) a hM) ?_;rintro _ T2 SN;refine ae 10 (aab 4) λ _=>aap (aab 4) [] [0] (v:=.tuple #[vI 0,.agg #[vI 0,vI 0,vI 0,vI 0],.bool false]) (H':=(ap [] [T2])) ?_;refine⟨T2,rfl,?_⟩;refine⟨?_,?_⟩
 ·first|(simp only[];exact SN.weak (by omega))|exact SN.weak (by omega)
 ·first|rfl|(simp only[];done)|(simp only[];rfl)
theorem QH(mb:Nat)(M:MemS)(k:Nat)(T:HL)(S:Setup)(n a b:Int)(F:HL)(hM:MemH mb M (k+0) T)(hS:SetN S):Sp Tryz.prog 298 #[.iface 113 (vP mb 0),(Setup.v S),.agg #[vI n,vI a,vI b]] (ap [] [T]) F (λ u H'=>∃x,H'=ap [] [x] /\ (MemH mb (M) k x /\ u=.tuple #[vI (if af S a >= 0 then M.get (bd (af S a+n)) else 0),.agg #[vI 0,vI 0,vI 0,vI 0],.bool false])):=by
 have h1:=hS.pl;have h2:=hS.nb;refine aat Tryz.func298 rfl mn (A:=[]) (Ts:=[T]) rfl λ w0=>?_;refine ae 15 (ow 2 16++[.own 1]) λ n1=>aah (cR S a _ hS) ?_;have WG:=cQ hS a;refine ae 9 [] λ _=>aal (af S a >= 0) 15 (λ h3=>?_) λ h3=>?_
 ·refine ae 8 [.own 1] λ _=>aah (ay (i64.wrap ((af S a)+n)) hM (au 0))<|ae 6 (aab 4) λ _=>aap (aab 4) [] [0] (v:=.tuple #[vI (M.get (i64.wrap ((af S a)+n))),.agg #[vI 0,vI 0,vI 0,vI 0],.bool false]) (H':=(ap [] [T])) ?_;refine⟨T,rfl,?_⟩;refine⟨?_,?_⟩
  ·first|(simp only[if_pos h3];exact hM.weak (by omega))|exact hM.weak (by omega)
  ·first|rfl|(simp only[if_pos h3];done)|(simp only[if_pos h3];rfl)
 ·refine ae 11 (aab 4) λ _=>aap (aab 4) [] [0] (v:=.tuple #[vI 0,.agg #[vI 0,vI 0,vI 0,vI 0],.bool false]) (H':=(ap [] [T])) ?_;refine⟨T,rfl,?_⟩;refine⟨?_,?_⟩
  ·first|(simp only[if_neg h3];exact hM.weak (by omega))|exact hM.weak (by omega)
  ·first|rfl|(simp only[if_neg h3];done)|(simp only[if_neg h3];rfl)
theorem QI(mb:Nat)(M:MemS)(k:Nat)(T:HL)(S:Setup)(n a b:Int)(F:HL)(hM:MemH mb M (k+1) T)(hS:SetN S):Sp Tryz.prog 299 #[.iface 113 (vP mb 0),(Setup.v S),.agg #[vI n,vI a,vI b]] (ap [] [T]) F (λ u H'=>∃x,H'=ap [] [x] /\ (MemH mb (if af S a >= 0 then M.set (bd (af S a+n)) (nM n b) else M) k x /\ u=.tuple #[vI 0,.agg #[vI 0,vI 0,vI 0,vI 0],.bool false])):=by
 have h1:=hS.pl;have h2:=hS.nb;refine aat Tryz.func299 rfl mn (A:=[]) (Ts:=[T]) rfl λ w0=>?_;refine ae 15 (ow 2 16++[.own 1]) λ n1=>aah (cR S a _ hS) ?_;have WG:=cQ hS a;refine ae 9 [] λ _=>aal (af S a >= 0) 15 (λ h3=>?_) λ h3=>?_
 ·refine ae 1 [] λ _=>aak [13] []<|ag [] [0,1,2,5,7,3,6,8,10,4,11,12] [.own 1,.own 1,.own 1]<|aac [] 9 (λ X_=>(Dm n b  _))<|aae 13 (aaf [] [] [0] (ai (i64.wrap ((af S a)+n)) (nM n b) hM) ?_);rintro _ T4 Tw;refine aad<|ae 9 (aab 4) λ _=>aap (aab 4) [] [0] (v:=.tuple #[vI 0,.agg #[vI 0,vI 0,vI 0,vI 0],.bool false]) (H':=(ap [] [T4])) ?_;refine⟨T4,rfl,?_⟩;refine⟨?_,?_⟩
  ·first|(simp only[if_pos h3];exact Tw.weak (by omega))|exact Tw.weak (by omega)
  ·first|rfl|(simp only[if_pos h3];done)|(simp only[if_pos h3];rfl)
 ·refine ae 11 (aab 4) λ _=>aap (aab 4) [] [0] (v:=.tuple #[vI 0,.agg #[vI 0,vI 0,vI 0,vI 0],.bool false]) (H':=(ap [] [T])) ?_;refine⟨T,rfl,?_⟩;refine⟨?_,?_⟩
  ·first|(simp only[if_neg h3];exact hM.weak (by omega))|exact hM.weak (by omega)
  ·first|rfl|(simp only[if_neg h3];done)|(simp only[if_neg h3];rfl)
theorem Pb(mb:Nat)(M:MemS)(k:Nat)(T:HL)(S:Setup)(n a b:Int)(F:HL)(hM:MemH mb M (k+1) T)(hS:SetN S):Sp Tryz.prog 301 #[.iface 113 (vP mb 0),(Setup.v S),.agg #[vI n,vI a,vI b]] (ap [] [T]) F (λ u H'=>∃x,H'=ap [] [x] /\ (MemH mb (M.set 6 n) k x /\ u=.tuple #[vI 0,.agg #[vI 0,vI 0,vI 0,vI 0],.bool false])):=by
 have h1:=hS.pl;have h2:=hS.nb;refine aat Tryz.func301 rfl mn (A:=[]) (Ts:=[T]) rfl λ w0=>?_;refine ae 14 [.own 1] λ n1=>aai [] [0] (ai 6 n hM) ?_;rintro _ T2 SN;refine ae 10 (aab 4) λ _=>aap (aab 4) [] [0] (v:=.tuple #[vI 0,.agg #[vI 0,vI 0,vI 0,vI 0],.bool false]) (H':=(ap [] [T2])) ?_;refine⟨T2,rfl,?_⟩;refine⟨?_,?_⟩
 ·first|(simp only[];exact SN.weak (by omega))|exact SN.weak (by omega)
 ·first|rfl|(simp only[];done)|(simp only[];rfl)
theorem Pc(mb:Nat)(M:MemS)(k:Nat)(T:HL)(S:Setup)(n a b:Int)(F:HL)(hM:MemH mb M (k+1) T)(hS:SetN S):Sp Tryz.prog 302 #[.iface 113 (vP mb 0),(Setup.v S),.agg #[vI n,vI a,vI b]] (ap [] [T]) F (λ u H'=>∃x,H'=ap [] [x] /\ (MemH mb (if a=0 then M.set 6 n else M) k x /\ u=.tuple #[vI 0,.agg #[vI 0,vI 0,vI 0,vI 0],.bool false])):=by
 have h1:=hS.pl;have h2:=hS.nb;refine aat Tryz.func302 rfl mn (A:=[]) (Ts:=[T]) rfl λ w0=>?_;refine ae 17 [.own 1] λ n1=>aal (a=0) 11 (λ h2=>?_) λ h2=>?_
 ·refine ae 5 [.own 1] λ _=>aai [] [0] (ai 6 n hM) ?_;rintro _ T3 IF;refine ae 10 (aab 4) λ _=>aap (aab 4) [] [0] (v:=.tuple #[vI 0,.agg #[vI 0,vI 0,vI 0,vI 0],.bool false]) (H':=(ap [] [T3])) ?_;refine⟨T3,rfl,?_⟩;refine⟨?_,?_⟩
  ·first|(simp only[if_pos h2];exact IF.weak (by omega))|exact IF.weak (by omega)
  ·first|rfl|(simp only[if_pos h2];done)|(simp only[if_pos h2];rfl)
 ·refine ae 11 (aab 4) λ _=>aap (aab 4) [] [0] (v:=.tuple #[vI 0,.agg #[vI 0,vI 0,vI 0,vI 0],.bool false]) (H':=(ap [] [T])) ?_;refine⟨T,rfl,?_⟩;refine⟨?_,?_⟩
  ·first|(simp only[if_neg h2];exact hM.weak (by omega))|exact hM.weak (by omega)
  ·first|rfl|(simp only[if_neg h2];done)|(simp only[if_neg h2];rfl)
theorem Pd(mb:Nat)(M:MemS)(k:Nat)(T:HL)(S:Setup)(n a b:Int)(F:HL)(hM:MemH mb M (k+2) T)(hS:SetN S):Sp Tryz.prog 303 #[.iface 113 (vP mb 0),(Setup.v S),.agg #[vI n,vI a,vI b]] (ap [] [T]) F (λ u H'=>∃x,H'=ap [] [x] /\ (MemH mb ((cM a b M).M) k x /\ u=.tuple #[vI 0,.agg (aaa (cM a b M).e).toArray,.bool ((cM a b M).em)])):=by
 have h1:=hS.pl;have h2:=hS.nb;refine aat Tryz.func303 rfl mn (A:=[]) (Ts:=[T]) rfl λ w0=>?_;refine ae 16 [.own 1,.own 1] λ n1=>aai [] [0] (MX mb M k T a b _ hM) ?_;rintro _ T2 ⟨SN,rfl⟩;refine ae 9 (aab 4) λ n4=>aak [3] [0,2,3]<|ag [0,2,3] [0,1,2] (aab 4)<|aae 3 (aag [0,2,3] [.own 1,.own 1,.own 1,.own 1] λ _=>?_);refine ag [0,2,3] [4] []<|aad<|ae 1 [] λ _=>aap [.own 1,.own 1,.own 1,.own 1] [] [0] (v:=.tuple #[vI 0,.agg (aaa (cM a b M).e).toArray,.bool ((cM a b M).em)]) (H':=(ap [] [T2])) ?_;refine⟨T2,rfl,?_⟩;refine⟨?_,?_⟩
 ·first|(simp only[];exact SN.weak (by omega))|exact SN.weak (by omega)
 ·first|rfl|(simp only[];done)|(simp only[];rfl)
theorem Pe(mb:Nat)(M:MemS)(k:Nat)(T:HL)(S:Setup)(n a b:Int)(F:HL)(hM:MemH mb M (k+0) T)(hS:SetN S):Sp Tryz.prog 305 #[.iface 113 (vP mb 0),(Setup.v S),.agg #[vI n,vI a,vI b]] (ap [] [T]) F (λ u H'=>∃x,H'=ap [] [x] /\ (MemH mb (M) k x /\ u=.tuple #[vI 0,.agg #[vI 0,vI 0,vI 0,vI 0],.bool false])):=by
 have h1:=hS.pl;have h2:=hS.nb;refine aat Tryz.func305 rfl mn (A:=[]) (Ts:=[T]) rfl λ w0=>?_;refine ae 17 (aab 4) λ n1=>aap (aab 4) [] [0] (v:=.tuple #[vI 0,.agg #[vI 0,vI 0,vI 0,vI 0],.bool false]) (H':=(ap [] [T])) ?_;refine⟨T,rfl,?_⟩;refine⟨?_,?_⟩
 ·first|(simp only[];exact hM.weak (by omega))|exact hM.weak (by omega)
 ·first|rfl|(simp only[];done)|(simp only[];rfl)
theorem jM(mb:Nat)(M:MemS)(k:Nat)(T:HL)(S:Setup)(op n a b:Int)(F:HL)(hM:MemH mb M (k+2) T)(hS:SetN S)(ho:1 <= op /\ op <= 21):Sp Tryz.prog 232 #[vI op,.iface 113 (vP mb 0),(Setup.v S),.agg #[vI n,vI a,vI b]] (ap [] [T]) F (λ u H'=>∃x,H'=ap [] [x] /\ (MemH mb ((aC S op n a b M).M) k x /\ u=.tuple #[vI ((aC S op n a b M).v),.agg (aaa (aC S op n a b M).e).toArray,.bool ((aC S op n a b M).em)])):=by
 refine aat Tryz.func232 rfl mn (A:=[]) (Ts:=[T]) rfl λ w0=>?_;refine ae 23 [] λ n1=>aal (op=1) 12 (λ h2=>?_) λ h2=>?_
 ·subst h2;refine ae 5 [] λ _=>aak [8] [1,2]<|ag [1,2] [0,2,3,6,4] [.own 1]<|aac [1,2] 1 (λ X_=>(O2 _))<|aac [1,2] 5 (λ X_=>(ld1 mb M _ T n _ hM (aK 0)))<|ag [1,2] [7] []<|aae 8 (aag [1,2] (aab 4) λ _=>?_);refine ag [1,2] [9] []<|aad<|ae 1 [] λ _=>aap (aab 4) [] [0] (v:=.tuple #[vI n,.agg #[vI 0,vI 0,vI 0,vI 0],.bool false]) (H':=(ap [] [T])) ?_;refine⟨T,rfl,?_⟩;exact⟨hM.weak (by omega),rfl⟩
 ·refine ae 7 [] λ _=>aal (op=2) 12 (λ h3=>?_) λ h3=>?_
  ·subst h3;refine ae 5 [] λ _=>aak [8] [1,2]<|ag [1,2] [0,2,3,6,4] [.own 1]<|aac [1,2] 1 (λ X_=>(O3 _))<|aac [1,2] 5 (λ X_=>(ld2 mb M _ T n _ hM (aK 0)))<|ag [1,2] [7] []<|aae 8 (aag [1,2] (aab 4) λ _=>?_);refine ag [1,2] [9] []<|aad<|ae 1 [] λ _=>aap (aab 4) [] [0] (v:=.tuple #[vI (M.get (bd (32+n))),.agg #[vI 0,vI 0,vI 0,vI 0],.bool false]) (H':=(ap [] [T])) ?_;refine⟨T,rfl,?_⟩;exact⟨hM.weak (by omega),rfl⟩
  ·refine ae 7 [] λ _=>aal (op=6) 12 (λ h4=>?_) λ h4=>?_
   ·subst h4;refine ae 5 [] λ _=>aak [8] [1,2]<|ag [1,2] [0,2,3,6,4] [.own 1]<|aac [1,2] 1 (λ X_=>(O4 _))<|aac [1,2] 5 (λ X_=>(ld3 mb M _ T n _ hM (aK 0)))<|ag [1,2] [7] []<|aae 8 (aag [1,2] (aab 4) λ _=>?_);refine ag [1,2] [9] []<|aad<|ae 1 [] λ _=>aap (aab 4) [] [0] (v:=.tuple #[vI (M.get 9),.agg #[vI 0,vI 0,vI 0,vI 0],.bool false]) (H':=(ap [] [T])) ?_;refine⟨T,rfl,?_⟩;exact⟨hM.weak (by omega),rfl⟩
   ·refine ae 7 [] λ _=>aal (op=7) 12 (λ h5=>?_) λ h5=>?_
    ·subst h5;refine ae 5 [] λ _=>aak [8] [1,2]<|ag [1,2] [0,2,3,6,4] [.own 1]<|aac [1,2] 1 (λ X_=>(O5 _))<|aac [1,2] 5 (λ X_=>(ld4 mb M _ T n _ hM (aK 0)))<|ag [1,2] [7] []<|aae 8 (aag [1,2] (aab 4) λ _=>?_);refine ag [1,2] [9] []<|aad<|ae 1 [] λ _=>aap (aab 4) [] [0] (v:=.tuple #[vI (M.get 10),.agg #[vI 0,vI 0,vI 0,vI 0],.bool false]) (H':=(ap [] [T])) ?_;refine⟨T,rfl,?_⟩;exact⟨hM.weak (by omega),rfl⟩
    ·refine ae 6 [] λ _=>aal (op=8) 12 (λ h6=>?_) λ h6=>?_
     ·subst h6;refine ae 2 [] λ _=>aak [8] [1,2]<|ag [1,2] [0,2,3,6,4] [.own 1]<|aac [1,2] 1 (λ X_=>(O6 _))<|aac [1,2] 5 (λ X_=>(ld5 mb M _ T n _ hM (aK 0)))<|ag [1,2] [7] []<|aae 8 (aag [1,2] (aab 4) λ _=>?_);refine ag [1,2] [9] []<|aad<|ae 1 [] λ _=>aap (aab 4) [] [0] (v:=.tuple #[vI (M.get 0),.agg #[vI 0,vI 0,vI 0,vI 0],.bool false]) (H':=(ap [] [T])) ?_;refine⟨T,rfl,?_⟩;exact⟨hM.weak (by omega),rfl⟩
     ·refine ae 8 [] λ _=>aal (op=9) 25 (λ h7=>?_) λ h7=>?_
      ·subst h7;refine ae 5 [] λ _=>aak [9] [1,2]<|ag [1,2] [0,2,4,7,3,5] [.own 1,.own 1]<|aac [1,2] 1 (λ X_=>(O7 _))<|aac [1,2] 6 (λ X_=>(Qz a b _))<|ag [1,2] [8] []<|aae 9 (aag [1,2] (aab 4) λ _=>?_);refine ag [1,2] [10] []<|aad<|ae 1 [] λ _=>aap (aab 4) [] [0] (v:=.tuple #[vI (lj (bd (a+b))),.agg #[vI 0,vI 0,vI 0,vI 0],.bool false]) (H':=(ap [] [T])) ?_;refine⟨T,rfl,?_⟩;exact⟨hM.weak (by omega),rfl⟩
      ·refine ae 7 [] λ _=>aal (op=10) 25 (λ h8=>?_) λ h8=>?_
       ·subst h8;refine ae 5 [] λ _=>aak [9] [1,2]<|ag [1,2] [0,2,4,7,3,5] [.own 1,.own 1]<|aac [1,2] 1 (λ X_=>(MK _))<|aac [1,2] 6 (λ X_=>(QA a b _))<|ag [1,2] [8] []<|aae 9 (aag [1,2] (aab 4) λ _=>?_);refine ag [1,2] [10] []<|aad<|ae 1 [] λ _=>aap (aab 4) [] [0] (v:=.tuple #[vI (lj (bd (a-b))),.agg #[vI 0,vI 0,vI 0,vI 0],.bool false]) (H':=(ap [] [T])) ?_;refine⟨T,rfl,?_⟩;exact⟨hM.weak (by omega),rfl⟩
       ·refine ae 7 [] λ _=>aal (op=11) 25 (λ h9=>?_) λ h9=>?_
        ·subst h9;refine ae 5 [] λ _=>aak [9] [1,2]<|ag [1,2] [0,2,4,7,3,5] [.own 1,.own 1]<|aac [1,2] 1 (λ X_=>(ML _))<|aac [1,2] 6 (λ X_=>(QB a b _))<|ag [1,2] [8] []<|aae 9 (aag [1,2] (aab 4) λ _=>?_);refine ag [1,2] [10] []<|aad<|ae 1 [] λ _=>aap (aab 4) [] [0] (v:=.tuple #[vI (lj (bd (a*b))),.agg #[vI 0,vI 0,vI 0,vI 0],.bool false]) (H':=(ap [] [T])) ?_;refine⟨T,rfl,?_⟩;exact⟨hM.weak (by omega),rfl⟩
        ·refine ae 7 [] λ _=>aal (op=12) 25 (λ TA=>?_) λ TA=>?_
         ·subst TA;refine ae 5 [] λ _=>aak [9] [1,2]<|ag [1,2] [0,2,4,7,3,5] [.own 1,.own 1]<|aac [1,2] 1 (λ X_=>(MM _))<|aac [1,2] 6 (λ X_=>(QC a b _))<|ag [1,2] [8] []<|aae 9 (aag [1,2] (aab 4) λ _=>?_);refine ag [1,2] [10] []<|aad<|ae 1 [] λ _=>aap (aab 4) [] [0] (v:=.tuple #[vI (if b=0 then 0 else lj (bd (a.tdiv b))),.agg #[vI 0,vI 0,vI 0,vI 0],.bool false]) (H':=(ap [] [T])) ?_;refine⟨T,rfl,?_⟩;exact⟨hM.weak (by omega),rfl⟩
         ·refine ae 7 [] λ _=>aal (op=14) 25 (λ SW=>?_) λ SW=>?_
          ·subst SW;refine ae 5 [] λ _=>aak [9] [1,2]<|ag [1,2] [0,2,4,7,3,5] [.own 1,.own 1]<|aac [1,2] 1 (λ X_=>(MN _))<|aac [1,2] 6 (λ X_=>(QD a b _))<|ag [1,2] [8] []<|aae 9 (aag [1,2] (aab 4) λ _=>?_);refine ag [1,2] [10] []<|aad<|ae 1 [] λ _=>aap (aab 4) [] [0] (v:=.tuple #[vI (gM (decide (a<b))),.agg #[vI 0,vI 0,vI 0,vI 0],.bool false]) (H':=(ap [] [T])) ?_;refine⟨T,rfl,?_⟩;exact⟨hM.weak (by omega),rfl⟩
          ·refine ae 7 [] λ _=>aal (op=15) 25 (λ Sv=>?_) λ Sv=>?_
           ·subst Sv;refine ae 5 [] λ _=>aak [9] [1,2]<|ag [1,2] [0,2,4,7,3,5] [.own 1,.own 1]<|aac [1,2] 1 (λ X_=>(MO _))<|aac [1,2] 6 (λ X_=>(QE a b _))<|ag [1,2] [8] []<|aae 9 (aag [1,2] (aab 4) λ _=>?_);refine ag [1,2] [10] []<|aad<|ae 1 [] λ _=>aap (aab 4) [] [0] (v:=.tuple #[vI (gM (decide (a <= b))),.agg #[vI 0,vI 0,vI 0,vI 0],.bool false]) (H':=(ap [] [T])) ?_;refine⟨T,rfl,?_⟩;exact⟨hM.weak (by omega),rfl⟩
           ·refine ae 6 [] λ _=>aal (op=16) 25 (λ SV=>?_) λ SV=>?_
            ·subst SV;refine ae 2 [] λ _=>aak [9] [1,2]<|ag [1,2] [0,2,4,7,3,5] [.own 1,.own 1]<|aac [1,2] 1 (λ X_=>(MP _))<|aac [1,2] 6 (λ X_=>(QF a b _))<|ag [1,2] [8] []<|aae 9 (aag [1,2] (aab 4) λ _=>?_);refine ag [1,2] [10] []<|aad<|ae 1 [] λ _=>aap (aab 4) [] [0] (v:=.tuple #[vI (gM (decide (a=b))),.agg #[vI 0,vI 0,vI 0,vI 0],.bool false]) (H':=(ap [] [T])) ?_;refine⟨T,rfl,?_⟩;exact⟨hM.weak (by omega),rfl⟩
            ·refine ae 8 [] λ _=>aal (op=13) 41 (λ Ty=>?_) λ Ty=>?_
             ·subst Ty;refine ae 5 [] λ _=>aak [7] [1,2]<|ag [1,2] [0,2,5,3] [.own 1]<|aac [1,2] 1 (λ X_=>(MQ _))<|aac [1,2] 4 (λ X_=>(un1 a _))<|ag [1,2] [6] []<|aae 7 (aag [1,2] (aab 4) λ _=>?_);refine ag [1,2] [8] []<|aad<|ae 1 [] λ _=>aap (aab 4) [] [0] (v:=.tuple #[vI (lj (bd (0-a))),.agg #[vI 0,vI 0,vI 0,vI 0],.bool false]) (H':=(ap [] [T])) ?_;refine⟨T,rfl,?_⟩;exact⟨hM.weak (by omega),rfl⟩
             ·refine ae 6 [] λ _=>aal (op=17) 41 (λ WI=>?_) λ WI=>?_
              ·subst WI;refine ae 2 [] λ _=>aak [7] [1,2]<|ag [1,2] [0,2,5,3] [.own 1]<|aac [1,2] 1 (λ X_=>(MR _))<|aac [1,2] 4 (λ X_=>(un2 a _))<|ag [1,2] [6] []<|aae 7 (aag [1,2] (aab 4) λ _=>?_);refine ag [1,2] [8] []<|aad<|ae 1 [] λ _=>aap (aab 4) [] [0] (v:=.tuple #[vI (gM (decide (a=0))),.agg #[vI 0,vI 0,vI 0,vI 0],.bool false]) (H':=(ap [] [T])) ?_;refine⟨T,rfl,?_⟩;exact⟨hM.weak (by omega),rfl⟩
              ·refine ae 5 [] λ _=>?_;have h7:op=3 \/ op=4 \/ op=5 \/ op=18 \/ op=19 \/ op=20 \/ op=21:=by omega
               rcases h7 with rfl|rfl|rfl|rfl|rfl|rfl|rfl
               ·refine aak [5,10] []<|ag [] [0,2,3,4] (ow 2 16++[.own 1,.own 1,.own 1])<|aac [] 1 (λ X_=>(O8 _))<|aae 5 (aaf [] [] [0] (QG mb M (k+1) T S n a b _ hM hS) ?_);rintro _ Ww ⟨Uw,rfl⟩;refine ag [] [6,7,8,9] []<|aae 10 (aag [] (aab 4) λ _=>?_);refine ag [] [11] []<|aad<|ae 1 [] λ _=>aap (aab 4) [] [0] (v:=.tuple #[vI 0,.agg #[vI 0,vI 0,vI 0,vI 0],.bool false]) (H':=(ap [] [Ww])) ?_;refine⟨Ww,rfl,?_⟩;exact⟨Uw.weak (by omega),rfl⟩
               ·refine aak [5,10] []<|ag [] [0,2,3,4] (ow 2 16++[.own 1,.own 1,.own 1])<|aac [] 1 (λ X_=>(O9 _))<|aae 5 (aaf [] [] [0] (QH mb M (k+2) T S n a b _ hM hS) ?_);rintro _ Z4 ⟨Wl,rfl⟩;refine ag [] [6,7,8,9] []<|aae 10 (aag [] (aab 4) λ _=>?_);refine ag [] [11] []<|aad<|ae 1 [] λ _=>aap (aab 4) [] [0] (v:=.tuple #[vI (if af S a >= 0 then M.get (bd (af S a+n)) else 0),.agg #[vI 0,vI 0,vI 0,vI 0],.bool false]) (H':=(ap [] [Z4])) ?_;refine⟨Z4,rfl,?_⟩;exact⟨Wl.weak (by omega),rfl⟩
               ·refine aak [5,10] []<|ag [] [0,2,3,4] (ow 2 16++[.own 1,.own 1,.own 1])<|aac [] 1 (λ X_=>(Pa _))<|aae 5 (aaf [] [] [0] (QI mb M (k+1) T S n a b _ hM hS) ?_);rintro _ UP ⟨Wj,rfl⟩;refine ag [] [6,7,8,9] []<|aae 10 (aag [] (aab 4) λ _=>?_);refine ag [] [11] []<|aad<|ae 1 [] λ _=>aap (aab 4) [] [0] (v:=.tuple #[vI 0,.agg #[vI 0,vI 0,vI 0,vI 0],.bool false]) (H':=(ap [] [UP])) ?_;refine⟨UP,rfl,?_⟩;exact⟨Wj.weak (by omega),rfl⟩
               ·refine aak [5,10] []<|ag [] [0,2,3,4] (ow 2 16++[.own 1,.own 1,.own 1])<|aac [] 1 (λ X_=>(MS _))<|aae 5 (aaf [] [] [0] (Pb mb M (k+1) T S n a b _ hM hS) ?_);rintro _ Vp ⟨Wi,rfl⟩;refine ag [] [6,7,8,9] []<|aae 10 (aag [] (aab 4) λ _=>?_);refine ag [] [11] []<|aad<|ae 1 [] λ _=>aap (aab 4) [] [0] (v:=.tuple #[vI 0,.agg #[vI 0,vI 0,vI 0,vI 0],.bool false]) (H':=(ap [] [Vp])) ?_;refine⟨Vp,rfl,?_⟩;exact⟨Wi.weak (by omega),rfl⟩
               ·refine aak [5,10] []<|ag [] [0,2,3,4] (ow 2 16++[.own 1,.own 1,.own 1])<|aac [] 1 (λ X_=>(MT _))<|aae 5 (aaf [] [] [0] (Pc mb M (k+1) T S n a b _ hM hS) ?_);rintro _ Ya ⟨Wh,rfl⟩;refine ag [] [6,7,8,9] []<|aae 10 (aag [] (aab 4) λ _=>?_);refine ag [] [11] []<|aad<|ae 1 [] λ _=>aap (aab 4) [] [0] (v:=.tuple #[vI 0,.agg #[vI 0,vI 0,vI 0,vI 0],.bool false]) (H':=(ap [] [Ya])) ?_;refine⟨Ya,rfl,?_⟩;exact⟨Wh.weak (by omega),rfl⟩
               ·refine aak [5,10] []<|ag [] [0,2,3,4] (ow 2 16++[.own 1,.own 1,.own 1])<|aac [] 1 (λ X_=>(MU _))<|aae 5 (aaf [] [] [0] (Pd mb M k T S n a b _ hM hS) ?_);rintro _ T26 ⟨afJ,rfl⟩;refine ag [] [6,7,8,9] []<|aae 10 (aag [] (aab 4) λ _=>?_);refine ag [] [11] []<|aad<|ae 1 [] λ _=>aap (aab 4) [] [0] (v:=.tuple #[vI 0,.agg (aaa (cM a b M).e).toArray,.bool ((cM a b M).em)]) (H':=(ap [] [T26])) ?_;refine⟨T26,rfl,?_⟩;exact⟨afJ.weak (by omega),rfl⟩
               ·refine aak [5,10] []<|ag [] [0,2,3,4] (ow 2 16++[.own 1,.own 1,.own 1])<|aac [] 1 (λ X_=>(MW _))<|aae 5 (aaf [] [] [0] (Pe mb M (k+2) T S n a b _ hM hS) ?_);rintro _ T28 ⟨Zm,rfl⟩;refine ag [] [6,7,8,9] []<|aae 10 (aag [] (aab 4) λ _=>?_);refine ag [] [11] []<|aad<|ae 1 [] λ _=>aap (aab 4) [] [0] (v:=.tuple #[vI 0,.agg #[vI 0,vI 0,vI 0,vI 0],.bool false]) (H':=(ap [] [T28])) ?_;refine⟨T28,rfl,?_⟩;exact⟨Zm.weak (by omega),rfl⟩
end Go.Proofs.YtdppjkjbghbnjaaGreatDoor
